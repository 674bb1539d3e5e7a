/- Part of the proofs of: what one side did, as pieces, done to base, is that side; merged with nothing done by the other it is that, too (any two texts) -/
import Derived.Test.YtcenmlklkpgmnaaGreatDoorPD
set_option linter.unusedVariables false
set_option linter.unusedSimpArgs false
set_option linter.unusedSectionVars false
section
set_option linter.unusedVariables false
namespace Go.Proofs.YtcenmlklkpgmnaaGreatDoor
set_option maxHeartbeats 4000000
set_option maxRecDepth 100000
set_option synthInstance.maxSize 2000
set_option synthInstance.maxHeartbeats 1000000
open Go.RowKit Go.V
open Go.S hiding aV
theorem XZ (WQ:Sv UInt8) {r:bM×gR} (hS:Sh.IX WQ.l=some r) :
 Ct Tryz.prog 93 [WQ.val] WQ.ok (Ow.emp) (X:=cC×Er) (fun x => .tuple #[.agg (bO.enc x.1).toArray,x.2.val]) (fun x=>r=(x.1.pl,x.2.pl)) (fun x=>(x.1.m.and x.2.ok)) (fun x=>Ow.emp):=by
 refine Zo Tryz.func93 Tryz.ntmps93 fun c => ?_
 unfold Sh.IX at hS
 refine Zq (Zr ?_)
 refine VL.alloc (cs:=[.slice none 0 0,.slice none 0 0,.slice none 0 0,str [],i64 0,str [],i64 0,str [],.slice none 0 0,.slice none 0 0,i64 0,str [],str [],i64 0,.slice none 0 0,.slice none 0 0,.slice none 0 0,.slice none 0 0,.slice none 0 0,.slice none 0 0,i64 0]) (by kernel_rfl) (by decide) fun eP => ?_
 refine Zy ?_
 refine Zq (Zr ?_)
 refine Zm ?_
 obtain ⟨lQ,zK,hS⟩:=aU hS
 refine VL.cA (aC0 WQ zK) rfl (by decide) ?_
 rintro ⟨BL,aS7⟩ rfl
 try dsimp only
 refine Zu (fH (vs:=[(0,ptr BL 0)]) (cs := #[ptr BL 0,.bool false]) rfl (by kernel_rfl)) ?_
 refine VL.box (cs:=[ptr BL 0,.bool false]) rfl rfl (by decide) fun FT => ?_
 refine Zy ?_
 refine Zq (Zr ?_)
 refine Zm ?_
 obtain ⟨PN,aC2,hS⟩:=aU hS
 refine VL.cA (ME FT (⟨false⟩:aY) BL aS7 aC2) rfl (by decide) ?_
 rintro ⟨r9,aOZ,aO0⟩ rfl
 try dsimp only
 refine VL.alloc (cs:=[.slice none 0 0,.slice none 0 0,.slice none 0 0,str [],i64 0,str [],i64 0,str [],.slice none 0 0,.slice none 0 0,i64 0,str [],str [],i64 0,.slice none 0 0,.slice none 0 0,.slice none 0 0,.slice none 0 0,.slice none 0 0,.slice none 0 0,i64 0]) (by kernel_rfl) (by decide) fun aLQ => ?_
 refine Zv (vc:=(aE r9)) (cs':=(aE r9)) rfl fR ?_
 refine Zl ?_
 refine VC.keep (ρ':=[(2,ptr eP 0),(4,ptr FT 0),(5,ptr aLQ 0)]) [2,4,5] rfl ?_
 refine Zq (Zq (Zr ?_))
 refine Zm ?_
 obtain ⟨aPO,aQD,hS⟩:=aU hS
 refine VL.cA (OT FT aO0 BL aOZ aQD) rfl (by decide) ?_
 rintro aVg rfl
 try dsimp only
 refine Zy ?_
 refine Zq (Zr ?_)
 refine Zm ?_
 refine Zu (nD Tryz.underlying27 rfl) ?_
 refine Zl ?_
 refine rI hS (fun h16 hS => ?_) (fun h16 hS => ?_)
 ·
  refine Zq ?_
  cases hS
 refine Zk ?_
 refine Zq (Zr ?_)
 refine Zu (cL cE rfl rfl) ?_
 refine Zv (vc:=(aE r9)) (cs':=(aE r9)) rfl fR ?_
 refine Zy ?_
 cases hS
 exact VC.ret (jV (vs:=[.agg (aE r9).toArray,.nilIface]) (.inr rfl) rfl (eW.cell cE rfl rfl Rd.blk (eW.tmp rfl (eW.nil))) (r9,.nil) rfl rfl (by (try dsimp only); exact cO.out) (fun _ _=>trivial))
theorem OK (aB:cC) {r:bM} (hS:Sh.HZ aB.pl=some r) :
 Ct Tryz.prog 58 [.agg (aE aB).toArray] (aB.bD.ok.and (aB.aX.ok.and (aB.bK.ok.and (aB.aM.ok.and (aB.aR.ok.and (aB.aO.ok.and (aB.aS.ok.and (aB.aZ.ok.and (aB.bB.ok.and (aB.bL.ok.and aB.bE.ok)))))))))) (Ow.emp) (X:=cC) (fun x => .agg (bO.enc x).toArray) (fun x=>r=x.pl) (fun x=>x.m) (fun x=>Ow.emp):=by
 refine Zo Tryz.func58 Tryz.ntmps58 fun c => ?_
 unfold Sh.HZ at hS
 refine Zq (Zr ?_)
 refine VL.box (cs:=(aE aB)) rfl rfl (by decide) fun iE => ?_
 refine VL.alloc (cs:=[.slice none 0 0,.slice none 0 0,.slice none 0 0,str [],i64 0,str [],i64 0,str [],.slice none 0 0,.slice none 0 0,i64 0,str [],str [],i64 0,.slice none 0 0,.slice none 0 0,.slice none 0 0,.slice none 0 0,.slice none 0 0,.slice none 0 0,i64 0]) (by kernel_rfl) (by decide) fun HH => ?_
 refine Zl ?_
 refine Zq (Zr ?_)
 refine Zu (cL cE rfl rfl) ?_
 obtain ⟨aUD,aUM,hS⟩:=aU hS
 refine VL.cR (X0 aB aUM) rfl (by decide) ?_
 rintro aS5 rfl
 try dsimp only
 obtain ⟨CH,F3,hS⟩:=aU hS
 refine VL.cR (XZ aS5 F3) rfl (by decide) ?_
 rintro ⟨s5,aS8⟩ rfl
 try dsimp only
 refine Zm ?_
 refine Zu (bG rfl rfl) ?_
 refine Zu (bG rfl rfl) ?_
 refine VL.alloc (cs:=[.slice none 0 0,.slice none 0 0,.slice none 0 0,str [],i64 0,str [],i64 0,str [],.slice none 0 0,.slice none 0 0,i64 0,str [],str [],i64 0,.slice none 0 0,.slice none 0 0,.slice none 0 0,.slice none 0 0,.slice none 0 0,.slice none 0 0,i64 0]) (by kernel_rfl) (by decide) fun aV2 => ?_
 refine Zv (vc:=(aE s5)) (cs':=(aE s5)) rfl fR ?_
 refine Zy ?_
 refine VC.keep (ρ':=[(1,ptr iE 0),(2,ptr HH 0),(3,ptr aV2 0),(4,aS8.val)]) [1,2,3,4] rfl ?_
 refine Zq (Zq (Zr ?_))
 refine Zm ?_
 refine Zu (nD Tryz.underlying27 rfl) ?_
 refine Zl ?_
 refine rI hS (fun h12 hS => ?_) (fun h12 hS => ?_)
 ·
  refine Zq ?_
  cases hS
 refine Zk ?_
 refine Zq (Zr ?_)
 refine Zu (cL cE rfl rfl) ?_
 refine Zv (vc:=(aE s5)) (cs':=(aE s5)) rfl fR ?_
 refine Zl ?_
 cases hS
 exact VC.ret (jV (vs:=[.agg (aE s5).toArray]) (.inr rfl) rfl (eW.cell cE rfl rfl Rd.blk (eW.nil)) s5 rfl rfl (by (try dsimp only); exact cO.out) (fun _ _=>trivial))
theorem aDD (s v:Sv aD) (i:Int) (hi:0≤i∧i≤(s.l.length:Int)) (hv:v.l≠[]) (hb:s.l.length+v.l.length≤4294967296):Ct Tryz.prog 125 [s.val,i64 i,v.val] Mo.tt (Ow.star (s.own 42) (v.own 42)) (X:=Sv aD) (fun q=>q.val) (fun q=>q.l=s.l.take i.toNat++v.l++s.l.drop i.toNat) (fun _=>Mo.tt) (fun q=>q.own 42):=by
 refine Zo Tryz.func125 Tryz.ntmps125 fun c => ?_
 have hvp:0 < v.l.length:=List.length_pos_iff.2 hv
 have hK:bO.sz aD=3:=rfl
 refine Zq (Zr ?_)
 refine Zy ?_
 refine Zq (Zr ?_)
 refine Zy ?_
 refine VL.fits (s:=s) (e:=42) Fo.out fun hf => ?_
 refine Zu (HX (s:=s) Tryz.underlying35 fP rfl rfl hi.1 hi.2 hf) ?_
 refine Zl ?_
 refine Zq (Zr ?_)
 refine Zm ?_
 refine Zu (dO (s:=v) Tryz.underlying34 rfl) ?_
 refine Zy ?_
 refine Zq (Zq (Zr ?_))
 refine Zm ?_
 refine Zu (hU rfl rfl) ?_
 refine Zl ?_
 refine VC.vE rfl (fun h16=>absurd h16 (by omega)) (fun h16 => ?_)
 refine Zk ?_
 refine Zq (Zr ?_)
 refine Zm ?_
 refine Zu (dO (s:=s) Tryz.underlying35 rfl) ?_
 refine Zy ?_
 refine Zq (Zq (Zr ?_))
 refine Zy ?_
 refine Zu (hU rfl rfl) ?_
 refine Zl ?_
 refine VC.vE rfl (fun h22 => ?_) (fun h22 => ?_)
 ·
  refine Zq (Zr ?_)
  refine Zy ?_
  refine VL.shut v 42 (fun _ _ _ _=>trivial) ?_
  refine VL.aLM (s:=s) (r:=v) Tryz.underlying35 Tryz.underlying34 P3 (by decide) rfl Fo.out (uW hb) (uX hb (by decide)) (by decide) (fun q hq => ?_)
  refine Zy ?_
  have e1:i.toNat=s.l.length:=by omega
  exact VC.ret (fA (.inr rfl) rfl rfl q rfl (by rw [hq,e1,List.take_length,List.drop_length,List.append_nil]) (fun _ _=>trivial) eT.out)
 have hin:i < (s.l.length:Int):=by omega
 have hne:s.l≠[]:=fun h=>by rw [h] at hin; simp at hin; omega
 have hkq:(s.l.length:Int)+(v.l.length:Int) - i=((s.l.length+v.l.length - i.toNat:Nat):Int):=by omega
 have hLn:(s.l.take i.toNat++v.l++s.l.drop i.toNat).length=s.l.length+v.l.length:=by simp only [List.length_append,List.length_take,List.length_drop]; omega
 have hfl:(s.l.take i.toNat++v.l++s.l.drop i.toNat).flatMap bO.enc=(s.l.take i.toNat).flatMap bO.enc++v.l.flatMap bO.enc++(s.l.drop i.toNat).flatMap bO.enc:=by rw [List.flatMap_append,List.flatMap_append]
 have lA:((s.l.take i.toNat).flatMap bO.enc).length=i.toNat*3:=by rw [gU,List.length_take,hK,Nat.min_eq_left (by omega)]
 have lV:(v.l.flatMap bO.enc).length=v.l.length*3:=by rw [gU,hK]
 have lS:((s.l.drop i.toNat).flatMap bO.enc).length=(s.l.length - i.toNat)*3:=by rw [gU,List.length_drop,hK]
 refine Zk ?_
 refine Zq (Zq (Zr ?_))
 refine Zy ?_
 refine Zu (cK rfl rfl ⟨by omega,by omega⟩) ?_
 refine Zm ?_
 refine Zu (aDU (a0:=s.a) (L:=s.l.length) (C:=s.c) Tryz.underlying35 rfl) ?_
 refine Zu (jF rfl rfl) ?_
 refine Zl ?_
 refine VC.vE rfl (fun h31 => ?_) (fun h31 => ?_)
 ·
  refine VC.shut s 42 (fun _ _ _ _=>trivial) ?_
  refine VC.shut v 42 (fun _ _ _ _=>trivial) ?_
  refine Zq (Zr ?_)
  refine VL.A4 (φ:=s.a=some ⟨s.b,s.o,none⟩) (fun h m=>(cO.out (X:=s.ok) h m).2.2.1 hne) fun hsa => ?_
  refine VL.A4 (φ:=v.a=some ⟨v.b,v.o,none⟩) (fun h m=>(cO.out (X:=v.ok) h m).2.2.1 hv) fun hva => ?_
  refine Zy ?_
  refine Zu (XU (a0:=s.a) (L:=s.l.length) (C:=s.c) (K:=3) Tryz.underlying35 fP rfl rfl hi.1 (by omega)) ?_
  refine Zy ?_
  refine Zu (cK rfl rfl ⟨by omega,by omega⟩) ?_
  refine Zm ?_
  refine Zu (o7 rfl rfl ⟨by omega,by omega⟩) ?_
  refine VL.M6 39 rfl (congrArg (Value.int .i64) hkq) ?_
  refine VL.aGJ (s:=s) (L:=i.toNat) (kq:=s.l.length+v.l.length - i.toNat) Tryz.underlying35 Tryz.underlying3 P3 (by decide) rfl hne (by omega) (by omega) (by omega) (by omega) (by decide) (by decide) fun g cs cp hcl hcp hcm hct => ?_
  rw [hK] at hcl hct
  rw [show i.toNat+(s.l.length+v.l.length - i.toNat)=s.l.length+v.l.length by omega] at hcp ⊢
  have hfit:((s.l.take i.toNat).flatMap bO.enc).length+(v.l.flatMap bO.enc).length+((s.l.drop i.toNat).flatMap bO.enc).length≤cs.length:=by
    rw [lA,lV,lS,hcl,← Nat.add_mul,← Nat.add_mul]; exact Nat.mul_le_mul_right _ (by omega)
  have hic:=NU (V:=v.l.flatMap bO.enc) (S:=(s.l.drop i.toNat).flatMap bO.enc) (by rw [lA]; exact hct) hfit
  rw [← hfl,lA,lV,lS] at hic
  refine Zy ?_
  refine Zq (Zr ?_)
  refine Zy ?_
  refine Zu (mL (b:=g) (o:=0) (L:=s.l.length+v.l.length) (C:=cp) (K:=3) Tryz.underlying35 fP rfl rfl hi.1 (by omega) hcp (by omega) rfl) ?_
  refine Zm ?_
  refine VL.M6 44 rfl (show v.val = .slice (some ⟨v.b,v.o+0*bO.sz aD,none⟩) v.l.length v.c by unfold Sv.val; rw [hva,Nat.zero_mul]; rfl) ?_
  refine VL.D8 (src:=v.l.flatMap bO.enc) Tryz.underlying35 fP rG.out rfl (by rw [lV]; congr 1; exact (Nat.min_eq_left (by omega)).symm) (JU (r:=v) (by decide) hv) (rP v.l) (by rw [lV,Nat.zero_add,hcl,← Nat.add_mul]; exact Nat.mul_le_mul_right _ (by omega)) (by decide) ?_
  rw [Nat.zero_add,lV]
  refine Zl ?_
  refine Zq ?_
  refine VC.draw [(0,true),(1,true),(2,true),(3,true),(4,true),(5,true),(6,true),(7,true),(8,false)] mixed (by kernel_rfl) (by kernel_rfl) (by kernel_rfl) ?_
  refine Zw rfl (bT rfl) ?_
  refine Zw rfl (bT rfl) ?_
  refine Zw rfl (bT rfl) ?_
  refine Zw rfl (cK rfl rfl ⟨by omega,by omega⟩) ?_
  refine Zw rfl (mL (b:=g) (o:=0) (L:=s.l.length+v.l.length) (C:=cp) (K:=3) Tryz.underlying35 fP rfl rfl (by omega) (by omega) hcp (by omega) rfl) ?_
  refine Zw rfl (bT rfl) ?_
  refine Zw rfl (bT rfl) ?_
  refine Zw rfl (mL (b:=s.b) (o:=s.o) (L:=s.l.length) (C:=s.c) (K:=3) Tryz.underlying35 fP (show some s.val=_ by unfold Sv.val; rw [hsa]) rfl hi.1 (by omega) hf (by omega) rfl) ?_
  refine VD.one rfl ?_
  rw [show (i+(v.l.length:Int)).toNat=i.toNat+v.l.length by omega]
  refine VL.D8 (src:=(s.l.drop i.toNat).flatMap bO.enc) Tryz.underlying35 fP rG.out rfl (by rw [lS]; congr 1; exact (Nat.min_eq_left (by omega)).symm) (VA (r:=s) (by decide) hne i.toNat) (rP _) (by rw [lS,Nat.zero_add,hic.1,hcl,← Nat.add_mul]; exact Nat.mul_le_mul_right _ (by omega)) (by decide) ?_
  rw [Nat.zero_add,lS,Nat.add_mul]
  refine VL.back (D':=[]) (by kernel_rfl) aN.nil ?_
  refine VD.to (fun _ _ h=>h) ?_
  refine Zq (Zr ?_)
  refine Zy ?_
  have ho:=fun F=>JW (F:=F) (e:=42) (b:=g) (l':=s.l.take i.toNat++v.l++s.l.drop i.toNat) (hic.2.1.trans hcl) (by rw [gU] at hic; exact hic.2.2) hLn hcp hcm
  exact VC.ret (fA (.inr rfl) rfl rfl ⟨some ⟨g,0,none⟩,cp,_⟩ (ho Ow.emp).1 rfl (fun _ _=>trivial) (ho _).2)
 refine Zk ?_
 refine Zq (Zr ?_)
 refine VL.open (s:=s) (e:=42) Fo.out (by omega) fun b cs hsa hcl hct _ hcm => ?_
 rw [hK] at hcl hct
 have hctA:cs.take ((s.l.take i.toNat).flatMap bO.enc).length=(s.l.take i.toNat).flatMap bO.enc:=by
   rw [lA]
   have:cs.take (i.toNat*3)=(cs.take (s.l.length*3)).take (i.toNat*3):=by rw [List.take_take,Nat.min_eq_left (Nat.mul_le_mul_right _ (by omega))]
   rw [this,hct]
   exact vG s.l i.toNat
 have hfit:((s.l.take i.toNat).flatMap bO.enc).length+(v.l.flatMap bO.enc).length+((s.l.drop i.toNat).flatMap bO.enc).length≤cs.length:=by
   rw [lA,lV,lS,hcl,← Nat.add_mul,← Nat.add_mul]; exact Nat.mul_le_mul_right _ (by omega)
 have hic:=NV (V:=v.l.flatMap bO.enc) (S:=(s.l.drop i.toNat).flatMap bO.enc) hctA hfit
 rw [← hfl,lA,lV,lS] at hic
 refine Zy ?_
 refine Zu (cK rfl rfl ⟨by omega,by omega⟩) ?_
 refine Zu (XU (a0:=s.a) (L:=s.l.length) (C:=s.c) (K:=3) Tryz.underlying35 fP rfl rfl (by omega) (by omega)) ?_
 rw [show ((s.l.length:Int)+(v.l.length:Int)).toNat=s.l.length+v.l.length by omega,hsa]
 refine Zy ?_
 refine Zq (Zq (Zr ?_))
 refine Zy ?_
 refine Zu (cK rfl rfl ⟨by omega,by omega⟩) ?_
 refine Zu (mL (b:=b) (o:=0) (L:=s.l.length+v.l.length) (C:=s.c) (K:=3) Tryz.underlying35 fP rfl rfl (by omega) (by omega) (by omega) (by omega) rfl) ?_
 refine Zu (OH (tS:=34) (tR:=4) (s:=v) (b:=b) Tryz.func207 rfl rfl (by kernel_rfl) (by kernel_rfl) Tryz.underlying34 fP rfl rG.out (fun h=>by rw [h] at hcl; simp at hcl; omega) hv) ?_
 refine Zu (lN rfl) ?_
 refine Zl ?_
 refine VC.EV rfl ?_
 refine VC.shut v 42 (fun _ _ _ _=>trivial) ?_
 refine Zq ?_
 refine VC.draw [(0,true),(1,true),(2,true),(3,true),(4,true),(5,true),(6,true),(7,true),(8,false)] mixed (by kernel_rfl) (by kernel_rfl) (by kernel_rfl) ?_
 refine Zw rfl (bT rfl) ?_
 refine Zw rfl (bT rfl) ?_
 refine Zw rfl (bT rfl) ?_
 refine Zw rfl (cK rfl rfl ⟨by omega,by omega⟩) ?_
 refine Zw rfl (mL (b:=b) (o:=0) (L:=s.l.length+v.l.length) (C:=s.c) (K:=3) Tryz.underlying35 fP rfl rfl (by omega) (by omega) (by omega) (by omega) rfl) ?_
 refine Zw rfl (bT rfl) ?_
 refine Zw rfl (bT rfl) ?_
 refine Zw rfl (mL (b:=b) (o:=0) (L:=s.l.length+v.l.length) (C:=s.c) (K:=3) Tryz.underlying35 fP rfl rfl hi.1 (by omega) (by omega) (by omega) rfl) ?_
 refine VD.one rfl ?_
 rw [show (i+(v.l.length:Int)).toNat=i.toNat+v.l.length by omega,Nat.zero_add,Nat.zero_add]
 refine VL.D8 (src:=(s.l.drop i.toNat).flatMap bO.enc) Tryz.underlying35 fP rG.out rfl (by rw [lS]; congr 1; simp only [Nat.min_def]; split <;> omega) (ZV (n:=s.l.length) hct rfl) (rP _) (by rw [lS,hcl,← Nat.add_mul]; exact Nat.mul_le_mul_right _ (by omega)) (by decide) ?_
 rw [lS,Nat.add_mul]
 refine VL.back (D':=[]) (by kernel_rfl) aN.nil ?_
 refine VD.to (fun _ _ h=>h) ?_
 refine Zq (Zr ?_)
 refine Zy ?_
 refine Zu (mL (b:=b) (o:=0) (L:=s.l.length+v.l.length) (C:=s.c) (K:=3) Tryz.underlying35 fP rfl rfl hi.1 (by omega) (by omega) (by omega) rfl) ?_
 refine Zm ?_
 refine VL.A4 (φ:=v.a=some ⟨v.b,v.o,none⟩) (fun h m=>(cO.out (X:=v.ok) h m).2.2.1 hv) fun hva => ?_
 refine VL.M6 81 rfl (show v.val = .slice (some ⟨v.b,v.o+0*bO.sz aD,none⟩) v.l.length v.c by unfold Sv.val; rw [hva,Nat.zero_mul]; rfl) ?_
 rw [Nat.zero_add]
 refine VL.D8 (src:=v.l.flatMap bO.enc) Tryz.underlying35 fP rG.out rfl (by rw [lV]; congr 1; exact (Nat.min_eq_left (by omega)).symm) (JU (r:=v) (by decide) hv) (rP v.l) (by rw [lV,hic.1,hcl,← Nat.add_mul]; exact Nat.mul_le_mul_right _ (by omega)) (by decide) ?_
 rw [lV]
 refine Zl ?_
 refine Zq (Zr ?_)
 refine Zy ?_
 have ho:=fun F=>JW (F:=F) (e:=42) (b:=b) (l':=s.l.take i.toNat++v.l++s.l.drop i.toNat) (hic.2.1.trans hcl) (by rw [gU] at hic; exact hic.2.2) hLn (by omega) hcm
 exact VC.ret (fA (.inr rfl) rfl rfl ⟨some ⟨b,0,none⟩,s.c,_⟩ (ho Ow.emp).1 rfl (fun _ _=>trivial) (ho _).2)
theorem HO (dB:Sv aD) (B7:aD) {r:List aD} (hS:Sh.A5 dB.l B7=some r) :
 Ct Tryz.prog 83 [dB.val,.agg #[str B7.path,i64 B7.mode,str B7.data]] dB.ok (Ow.emp) (X:=Sv aD) (fun x=>x.val) (fun x=>r=x.l) (fun x=>x.ok) (fun x=>Ow.emp):=by
 refine Zo Tryz.func83 Tryz.ntmps83 fun c => ?_
 unfold Sh.A5 at hS
 refine Zq (Zr ?_)
 refine VL.box (cs:=[str B7.path,i64 B7.mode,str B7.data]) rfl rfl (by decide) fun iM => ?_
 refine Zy ?_
 refine Zq (Zr ?_)
 refine Zm ?_
 obtain ⟨EU,aAA,hS⟩:=aU hS
 refine VL.cA (gV dB aAA) rfl (by decide) ?_
 rintro QF rfl
 try dsimp only
 refine Zy ?_
 refine Zq (Zr ?_)
 refine Zm ?_
 refine Zu (aC oZ rfl) ?_
 refine Zu (aT dK rfl rfl) ?_
 obtain ⟨G8,aQA,hS⟩:=aU hS
 refine Zu (cN (F5 dB B7.path aQA) rfl (fun _ _=>rfl)) ?_
 refine Zm ?_
 refine Zu (bG rfl rfl) ?_
 refine Zu (bG rfl rfl) ?_
 refine Zy ?_
 refine VC.keep (ρ':=[(3,ptr iM 0),(5,QF.val),(6,i64 G8.1),(7,.bool G8.2)]) [3,5,6,7] rfl ?_
 refine Zq (Zq (Zr ?_))
 refine Zy ?_
 refine iT hS (fun h17 hS => ?_) (fun h17 hS => ?_)
 ·
  refine Zq (Zr ?_)
  refine Zy ?_
  refine Zu (cL i7 rfl rfl) ?_
  obtain ⟨aBW,U7,UQ,hS⟩:=e8 hS
  refine Zu (l5 (s:=QF) Tryz.underlying35 fP rfl rfl U7 (bQ U7 UQ)) ?_
  refine VL.sJ (s:=QF) (T:=42) (j:=0) (vc:=[str B7.path,i64 B7.mode,str B7.data]) (⟨B7.path,B7.mode,B7.data⟩:aD) (by decide) rfl rfl UQ rfl fP rfl rfl (Nat.le_of_ble_eq_true rfl) rfl (fun w5 hw5 haw5 hcw5 hvw5 hbw5 how5 => ?_)
  rw [← hvw5]
  replace hS:=b5 hw5 hS
  refine Zl ?_
  refine Zq (Zr ?_)
  refine Zm ?_
  refine VL.shut w5 42 (fun _ _ _ _=>trivial) ?_
  obtain ⟨aBQ,aCb,hS⟩:=aU hS
  refine VL.cR (eN w5 aCb) rfl (by decide) ?_
  rintro aFe rfl
  try dsimp only
  refine Zy ?_
  refine VC.keep (ρ':=[(4,aFe.val)]) [4] rfl ?_
  cases hS
  exact VC.ret (fA (.inr rfl) rfl rfl aFe rfl rfl (by (try dsimp only); exact cO.out) (fun _ _=>trivial))
 refine Zk ?_
 refine Zq (Zr ?_)
 refine Zy ?_
 refine Zu (cL i7 rfl rfl) ?_
 refine VL.aIG (α:=aD) (xs:=[.tmp 26]) (vs:=[.agg #[str B7.path,i64 B7.mode,str B7.data]]) [⟨B7.path,B7.mode,B7.data⟩] Tryz.underlying34 HP (by decide) rfl rfl rfl rfl (by decide) (by decide) (fun aVB aRt => ?_) (by decide)
 replace hS:=b5 aRt hS
 obtain ⟨b28,hS⟩:=bS hS
 refine VL.cA (aDD QF aVB G8.1 b28.1 b28.2.1 b28.2.2) rfl (by decide) ?_
 intro Y7 aAP
 replace hS:=b5 aAP hS
 refine VL.shut Y7 42 (fun _ _ _ _=>trivial) ?_
 obtain ⟨aJJ,aLc,hS⟩:=aU hS
 refine VL.cR (eN Y7 aLc) rfl (by decide) ?_
 rintro aCA rfl
 try dsimp only
 refine Zy ?_
 refine VC.keep (ρ':=[(4,aCA.val)]) [4] rfl ?_
 cases hS
 exact VC.ret (fA (.inr rfl) rfl rfl aCA rfl rfl (by (try dsimp only); exact cO.out) (fun _ _=>trivial))
theorem aAq (aB:cC) (p_1:aV) (wA:Int) (vZ:aV) {r:bM×gR} (hS:Sh.OJ aB.pl p_1 wA vZ=some r) :
 Ct Tryz.prog 51 [.agg (aE aB).toArray,str p_1,i64 wA,str vZ] (aB.bD.ok.and (aB.aX.ok.and (aB.bK.ok.and (aB.aM.ok.and (aB.aR.ok.and (aB.aO.ok.and (aB.aS.ok.and (aB.aZ.ok.and (aB.bB.ok.and (aB.bL.ok.and aB.bE.ok)))))))))) (Ow.emp) (X:=cC×Er) (fun x => .tuple #[.agg (bO.enc x.1).toArray,x.2.val]) (fun x=>r=(x.1.pl,x.2.pl)) (fun x=>(x.1.m.and x.2.ok)) (fun x=>Ow.emp):=by
 refine Zo Tryz.func51 Tryz.ntmps51 fun c => ?_
 unfold Sh.OJ at hS
 refine Zq (Zr ?_)
 refine VL.box (cs:=(aE aB)) rfl rfl (by decide) fun uY => ?_
 refine VL.alloc (cs:=[.slice none 0 0,.slice none 0 0,.slice none 0 0,str [],i64 0,str [],i64 0,str [],.slice none 0 0,.slice none 0 0,i64 0,str [],str [],i64 0,.slice none 0 0,.slice none 0 0,.slice none 0 0,.slice none 0 0,.slice none 0 0,.slice none 0 0,i64 0]) (by kernel_rfl) (by decide) fun DG => ?_
 refine Zy ?_
 refine Zq (Zr ?_)
 refine Zy ?_
 refine Zu (fH (vs:=[(0,str p_1),(1,i64 wA),(2,str vZ)]) (cs := #[str p_1,i64 wA,str vZ]) rfl (by kernel_rfl)) ?_
 refine VL.alloc (cs:=[str [],i64 0,str []]) (by kernel_rfl) (by decide) fun FT => ?_
 refine Zv (vc:=[str p_1,i64 wA,str vZ]) (cs':=[str p_1,i64 wA,str vZ]) rfl fP ?_
 refine Zl ?_
 refine VC.keep (ρ':=[(1,str p_1),(4,ptr uY 0),(8,ptr DG 0),(10,ptr FT 0)]) [1,4,8,10] rfl ?_
 refine Zq (Zr ?_)
 refine Zu (aC dS rfl) ?_
 refine Zu (aC qS rfl) ?_
 refine Zu (aT iN rfl rfl) ?_
 refine Zm ?_
 obtain ⟨yT,aQ4,hS⟩:=aU hS
 refine Zu (cN (pK aB.bD p_1 aQ4) rfl (fun _ _=>rfl)) ?_
 refine Zm ?_
 refine Zu (bG rfl rfl) ?_
 refine Zu (bG rfl rfl) ?_
 refine VL.alloc (cs:=[str [],i64 0,str []]) (by kernel_rfl) (by decide) fun aLN => ?_
 refine Zv (vc:=[str yT.1.path,i64 yT.1.mode,str yT.1.data]) (cs':=[str yT.1.path,i64 yT.1.mode,str yT.1.data]) rfl fP ?_
 refine Zy ?_
 refine VC.keep (ρ':=[(1,str p_1),(4,ptr uY 0),(8,ptr DG 0),(10,ptr FT 0),(12,.bool yT.2)]) [1,4,8,10,12] rfl ?_
 refine Zq (Zr ?_)
 refine Zu (cL i7 rfl rfl) ?_
 refine VL.lit (α:=aD) (xs:=[.tmp 27]) (vs:=[.agg #[str p_1,i64 wA,str vZ]]) [⟨p_1,wA,vZ⟩] Tryz.underlying35 HP (by decide) rfl rfl rfl rfl (by decide) (fun _ _ _ _=>trivial) (by decide) (fun aVC aRu => ?_) (by decide)
 replace hS:=b5 aRu hS
 obtain ⟨aP1,aQf,hS⟩:=aU hS
 refine VL.cR (yH aVC aQf) rfl (by decide) ?_
 rintro aOc rfl
 try dsimp only
 obtain ⟨sV,xX,hS⟩:=aU hS
 refine VL.cR (aBe aOc xX) rfl (by decide) ?_
 rintro qW rfl
 try dsimp only
 refine Zy ?_
 refine VC.gD (S:=Unit) (fun (_:Unit)=>()) (fun (_:Unit)=>[(4,ptr uY 0),(8,ptr DG 0),(10,ptr FT 0),(13,qW.val)]) (fun (_:Unit)=>Mo.tt) (fun (_:Unit)=>Ow.star (bP aLN [str yT.1.path,i64 yT.1.mode,str yT.1.data] 42) (Ow.star (bP FT [str p_1,i64 wA,str vZ] 42) (Ow.star (bP DG [.slice none 0 0,.slice none 0 0,.slice none 0 0,str [],i64 0,str [],i64 0,str [],.slice none 0 0,.slice none 0 0,i64 0,str [],str [],i64 0,.slice none 0 0,.slice none 0 0,.slice none 0 0,.slice none 0 0,.slice none 0 0,.slice none 0 0,i64 0] 59) (Ow.star (bP uY (aE aB) 59) (Ow.emp))))) hS ?_ ?_
 ·
  clear hS
  intro k10 hS
  refine Zb (Zq (Zr ?_))
  refine Zm ?_
  refine Zu (nD Tryz.underlying27 rfl) ?_
  refine Zy ?_
  refine rI hS (fun h31 hS => ?_) (fun h31 hS => ?_)
  ·
   refine VC.fZ () [4,8,10,13] (fun _ _ h=>h) hS rfl
  refine Zq ?_
  refine VC.draw [(0,true),(1,true),(2,true),(3,true),(6,true),(7,true),(8,true),(9,true),(4,false),(5,true),(10,true),(11,true)] mixed (by kernel_rfl) (by kernel_rfl) (by kernel_rfl) ?_
  refine Zw rfl (aC dS rfl) ?_
  refine Zw rfl (aC qS rfl) ?_
  refine Zw rfl (aT iN rfl rfl) ?_
  refine Zw rfl (bT rfl) ?_
  refine Zw rfl (aC dS rfl) ?_
  refine Zw rfl (aC qS rfl) ?_
  refine Zw rfl (aT iN rfl rfl) ?_
  refine Zw rfl (dO (s:=aB.bD) Tryz.underlying35 rfl) ?_
  refine VD.one rfl ?_
  obtain ⟨V7,Z3,hS⟩:=aU hS
  refine VL.cR (QY aB.bD p_1 Z3) rfl (by decide) ?_
  rintro x6 rfl
  try dsimp only
  refine VL.back (D':=[(9,i64 (aB.bD.l.length:Int)),(8,aB.bD.val),(7,ptr uY 0),(6,ptr uY 0)]) (by kernel_rfl) (aN.cons rfl (dO (s:=aB.bD) Tryz.underlying35 rfl) (aN.cons rfl (aT iN rfl rfl) (aN.cons rfl (aC qS rfl) (aN.cons rfl (aC dS rfl) (aN.nil))))) ?_
  refine Zw rfl (dO (s:=x6) Tryz.underlying35 rfl) ?_
  refine Zw rfl (dL rfl rfl) ?_
  refine Zw rfl (fT rfl) ?_
  refine VD.to (fun _ _ h=>h) ?_
  refine VC.keep (ρ':=[(4,ptr uY 0),(8,ptr DG 0),(10,ptr FT 0),(12,.bool yT.2),(13,qW.val),(34,.bool (decide ((x6.l.length:Int) < (aB.bD.l.length:Int))))]) [4,8,10,12,13,34] rfl ?_
  refine Zc hS (fun h34 hS => ?_) (fun h34 hS => ?_)
  ·
   cases hS
  refine VC.gD (S:=Bool) (fun (IB:Bool)=>IB) (fun (IB:Bool)=>[(4,ptr uY 0),(8,ptr DG 0),(10,ptr FT 0),(13,qW.val),(47,.bool IB)]) (fun (IB:Bool)=>Mo.tt) (fun (IB:Bool)=>Ow.star (bP aLN [str yT.1.path,i64 yT.1.mode,str yT.1.data] 42) (Ow.star (bP FT [str p_1,i64 wA,str vZ] 42) (Ow.star (bP DG [.slice none 0 0,.slice none 0 0,.slice none 0 0,str [],i64 0,str [],i64 0,str [],.slice none 0 0,.slice none 0 0,i64 0,str [],str [],i64 0,.slice none 0 0,.slice none 0 0,.slice none 0 0,.slice none 0 0,.slice none 0 0,.slice none 0 0,i64 0] 59) (Ow.star (bP uY (aE aB) 59) (Ow.emp))))) hS ?_ ?_
  ·
   clear hS
   intro k13 hS
   refine Zr ?_
   refine Zm ?_
   refine Zu (lN rfl) ?_
   refine Zm ?_
   refine uV 50 hS (fun h50 hS => ?_) (fun h50 hS => ?_)
   ·
    refine Zh (aC dS rfl) ?_
    refine Zh (aC qS rfl) ?_
    refine Zh (aT iN rfl rfl) ?_
    refine Zh (dO (s:=aB.bD) Tryz.underlying35 rfl) ?_
    refine Zh (qF rfl rfl) ?_
    refine Zy ?_
    refine VL.mt (decide (64≤(aB.bD.l.length:Int))) [4,8,10,13,47] (fun _ _ h=>h) hS rfl
   refine VL.runs 7 [(47,some false)] (by kernel_rfl) ?_
   refine VL.mt false [4,8,10,13,47] (fun _ _ h=>h) hS rfl
  clear hS
  rintro IB hS
  refine iT hS (fun h47 hS => ?_) (fun h47 hS => ?_)
  ·
   cases hS
  refine VC.fZ () [4,8,10,13] (fun _ _ h=>h) hS rfl
 clear hS
 rintro _ hS
 refine Zq (Zq (Zr ?_))
 refine Zm ?_
 refine Zu (nD Tryz.underlying27 rfl) ?_
 refine Zl ?_
 refine rI hS (fun h59 hS => ?_) (fun h59 hS => ?_)
 ·
  refine Zq ?_
  cases hS
 refine Zk ?_
 refine Zq (Zr ?_)
 refine Zu (cL cE rfl rfl) ?_
 obtain ⟨oL,aM8,hS⟩:=aU hS
 refine VL.cR (OK aB aM8) rfl (by decide) ?_
 rintro bX rfl
 try dsimp only
 refine VL.alloc (cs:=[.slice none 0 0,.slice none 0 0,.slice none 0 0,str [],i64 0,str [],i64 0,str [],.slice none 0 0,.slice none 0 0,i64 0,str [],str [],i64 0,.slice none 0 0,.slice none 0 0,.slice none 0 0,.slice none 0 0,.slice none 0 0,.slice none 0 0,i64 0]) (by kernel_rfl) (by decide) fun aPt => ?_
 refine Zv (vc:=(aE bX)) (cs':=(aE bX)) rfl fR ?_
 refine Zl ?_
 refine Zq (Zr ?_)
 refine Zu (aC dS rfl) ?_
 refine Zu (aC qS rfl) ?_
 refine Zu (aT iN rfl rfl) ?_
 refine Zu (cL i7 rfl rfl) ?_
 obtain ⟨aJo,aMg,hS⟩:=aU hS
 refine VL.cR (HO bX.bD (⟨p_1,wA,vZ⟩:aD) aMg) rfl (by decide) ?_
 rintro FK rfl
 try dsimp only
 refine Zu (aC dS rfl) ?_
 refine Zu (aC qS rfl) ?_
 refine Zv (vc:=[FK.val]) (cs':=[FK.val,bX.aX.val,bX.bK.val,str bX.aP,i64 bX.aF,str bX.bC,i64 bX.bA,str bX.bJ,bX.aM.val,bX.aR.val,i64 bX.bI,str bX.aW,str bX.aI,i64 bX.aJ,bX.aO.val,bX.aS.val,bX.aZ.val,bX.bB.val,bX.bL.val,bX.bE.val,i64 bX.time]) rfl W4 ?_
 refine Zl ?_
 refine VC.keep (ρ':=[(8,ptr DG 0),(14,ptr aPt 0)]) [8,14] rfl ?_
 refine Zq (Zr ?_)
 refine Zu (cL cE rfl rfl) ?_
 refine Zv (vc:=[FK.val,bX.aX.val,bX.bK.val,str bX.aP,i64 bX.aF,str bX.bC,i64 bX.bA,str bX.bJ,bX.aM.val,bX.aR.val,i64 bX.bI,str bX.aW,str bX.aI,i64 bX.aJ,bX.aO.val,bX.aS.val,bX.aZ.val,bX.bB.val,bX.bL.val,bX.bE.val,i64 bX.time]) (cs':=[FK.val,bX.aX.val,bX.bK.val,str bX.aP,i64 bX.aF,str bX.bC,i64 bX.bA,str bX.bJ,bX.aM.val,bX.aR.val,i64 bX.bI,str bX.aW,str bX.aI,i64 bX.aJ,bX.aO.val,bX.aS.val,bX.aZ.val,bX.bB.val,bX.bL.val,bX.bE.val,i64 bX.time]) rfl fR ?_
 refine Zy ?_
 cases hS
 exact VC.ret (jV (vs:=[.agg #[FK.val,bX.aX.val,bX.bK.val,str bX.aP,i64 bX.aF,str bX.bC,i64 bX.bA,str bX.bJ,bX.aM.val,bX.aR.val,i64 bX.bI,str bX.aW,str bX.aI,i64 bX.aJ,bX.aO.val,bX.aS.val,bX.aZ.val,bX.bB.val,bX.bL.val,bX.bE.val,i64 bX.time],.nilIface]) (.inr rfl) rfl (eW.cell cE rfl rfl Rd.blk (eW.tmp rfl (eW.nil))) (⟨FK,bX.aX,bX.bK,bX.aP,bX.aF,bX.bC,bX.bA,bX.bJ,bX.aM,bX.aR,bX.bI,bX.aW,bX.aI,bX.aJ,bX.aO,bX.aS,bX.aZ,bX.bB,bX.bL,bX.bE,bX.time⟩,.nil) rfl rfl (by (try dsimp only); exact cO.out) (fun _ _=>trivial))
theorem S0 (aB:cC) (p_1:aV) (data_2:aV) {r:bM} (hS:Sh.EE aB.pl p_1 data_2=some r) :
 Ct Tryz.prog 32 [.agg (aE aB).toArray,str p_1,str data_2] (aB.bD.ok.and (aB.aX.ok.and (aB.bK.ok.and (aB.aM.ok.and (aB.aR.ok.and (aB.aO.ok.and (aB.aS.ok.and (aB.aZ.ok.and (aB.bB.ok.and (aB.bL.ok.and aB.bE.ok)))))))))) (Ow.emp) (X:=cC) (fun x => .agg (bO.enc x).toArray) (fun x=>r=x.pl) (fun x=>x.m) (fun x=>Ow.emp):=by
 refine Zo Tryz.func32 Tryz.ntmps32 fun c => ?_
 unfold Sh.EE at hS
 refine Zq (Zr ?_)
 refine VL.box (cs:=(aE aB)) rfl rfl (by decide) fun iM => ?_
 refine VL.alloc (cs:=[.slice none 0 0,.slice none 0 0,.slice none 0 0,str [],i64 0,str [],i64 0,str [],.slice none 0 0,.slice none 0 0,i64 0,str [],str [],i64 0,.slice none 0 0,.slice none 0 0,.slice none 0 0,.slice none 0 0,.slice none 0 0,.slice none 0 0,i64 0]) (by kernel_rfl) (by decide) fun AD => ?_
 refine Zl ?_
 refine Zq (Zr ?_)
 refine Zu (cL cE rfl rfl) ?_
 refine Zy ?_
 obtain ⟨zZ,K6,hS⟩:=aU hS
 refine VL.cR (aAq aB p_1 1 data_2 K6) rfl (by decide) ?_
 rintro ⟨BI,aVf⟩ rfl
 try dsimp only
 refine Zm ?_
 refine Zu (bG rfl rfl) ?_
 refine Zu (bG rfl rfl) ?_
 refine VL.alloc (cs:=[.slice none 0 0,.slice none 0 0,.slice none 0 0,str [],i64 0,str [],i64 0,str [],.slice none 0 0,.slice none 0 0,i64 0,str [],str [],i64 0,.slice none 0 0,.slice none 0 0,.slice none 0 0,.slice none 0 0,.slice none 0 0,.slice none 0 0,i64 0]) (by kernel_rfl) (by decide) fun ZS => ?_
 refine Zv (vc:=(aE BI)) (cs':=(aE BI)) rfl fR ?_
 refine Zy ?_
 refine VC.keep (ρ':=[(6,ptr AD 0),(7,ptr ZS 0)]) [6,7] rfl ?_
 refine Zq (Zr ?_)
 refine Zu (cL cE rfl rfl) ?_
 refine Zv (vc:=(aE BI)) (cs':=(aE BI)) rfl fR ?_
 refine Zl ?_
 cases hS
 exact VC.ret (jV (vs:=[.agg (aE BI).toArray]) (.inr rfl) rfl (eW.cell cE rfl rfl Rd.blk (eW.nil)) BI rfl rfl (by (try dsimp only); exact cO.out) (fun _ _=>trivial))
theorem EB (aB:aV) (jS:aV) {r:aV×aV×Bool} (hS:Sh.rK aB jS=some r) :
 Ct Tryz.prog 84 [str aB,str jS] Mo.tt (Ow.emp) (X:=Unit) (fun _ => .tuple #[str r.1,str r.2.1,.bool r.2.2]) (fun _=>True) (fun _=>Mo.tt) (fun _=>Ow.emp):=by
 refine Zo Tryz.func84 Tryz.ntmps84 fun c => ?_
 unfold Sh.rK at hS
 refine Zq (Zr ?_)
 refine Zy ?_
 refine Zq (Zq (Zr ?_))
 refine Zy ?_
 obtain ⟨dG,lU,hS⟩:=aU hS
 refine Zu (cN (tI aB jS lU) rfl (fun _ _=>rfl)) ?_
 refine Zy ?_
 refine Zq (Zr ?_)
 refine Zm ?_
 refine Zu (qF rfl rfl) ?_
 refine Zl ?_
 refine VC.keep (ρ':=[(0,str aB),(1,str jS),(7,i64 dG),(12,.bool (decide (0≤dG)))]) [0,1,7,12] rfl ?_
 refine Zc hS (fun h12 hS => ?_) (fun h12 hS => ?_)
 ·
  refine Zq ?_
  refine VC.draw ((List.range 12).map fun k=>(k,true)) mixed (by kernel_rfl) (by kernel_rfl) (by kernel_rfl) ?_
  refine Zw rfl (bT rfl) ?_
  refine Zw rfl (bT rfl) ?_
  obtain ⟨b15,hS⟩:=bS hS
  obtain ⟨aBI,aQE,hS⟩:=AF hS
  refine Zw rfl (VV Tryz.underlying9 rfl rfl b15.1 b15.2 aQE) ?_
  refine Zw rfl (bT rfl) ?_
  refine Zw rfl (bT rfl) ?_
  refine Zw rfl (bT rfl) ?_
  refine Zw rfl (nT Tryz.underlying9 rfl) ?_
  obtain ⟨b20,hS⟩:=bS hS
  refine Zw rfl (cK rfl rfl b20) ?_
  obtain ⟨b21,hS⟩:=bS hS
  obtain ⟨aGq,aQT,hS⟩:=AF hS
  refine Zw rfl (J9 Tryz.underlying9 rfl rfl b21.1 b21.2 aQT) ?_
  refine Zw rfl (fT rfl) ?_
  refine Zw rfl (fT rfl) ?_
  refine Zw rfl (fT rfl) ?_
  refine VD.to (fun _ _ h=>h) ?_
  refine VC.keep (ρ':=[(4,str aBI),(5,str aGq),(6,.bool true)]) [4,5,6] rfl ?_
  cases hS
  exact VC.ret (aBq (.inr rfl) rfl rfl rfl rfl () rfl trivial (fun _ _=>trivial) (fun _ _=>trivial))
 refine Zk ?_
 refine Zq (Zr ?_)
 refine Zy ?_
 cases hS
 exact VC.ret (aBq (.inr rfl) rfl rfl rfl rfl () rfl trivial (fun _ _=>trivial) (fun _ _=>trivial))
theorem M8 (aB:aV) (jS:aV) {r:aV×aV×Bool} (hS:Sh.FC aB jS=some r) :
 Ct Tryz.prog 52 [str aB,str jS] Mo.tt (Ow.emp) (X:=Unit) (fun _ => .tuple #[str r.1,str r.2.1,.bool r.2.2]) (fun _=>True) (fun _=>Mo.tt) (fun _=>Ow.emp):=by
 refine Zo Tryz.func52 Tryz.ntmps52 fun c => ?_
 unfold Sh.FC at hS
 refine Zq (Zr ?_)
 refine Zy ?_
 refine Zq (Zr ?_)
 refine Zy ?_
 obtain ⟨PT,aGW,hS⟩:=aU hS
 refine Zu (cN (EB aB jS aGW) rfl (fun _ _=>rfl)) ?_
 refine Zu (bG rfl rfl) ?_
 refine Zu (bG rfl rfl) ?_
 refine Zu (bG rfl rfl) ?_
 refine Zy ?_
 refine VC.keep (ρ':=[(4,str PT.1),(5,str PT.2.1),(6,.bool PT.2.2)]) [4,5,6] rfl ?_
 cases hS
 exact VC.ret (aBq (.inr rfl) rfl rfl rfl rfl () rfl trivial (fun _ _=>trivial) (fun _ _=>trivial))
theorem IM (w_0:Sv aV) {r:aV} (hS:Sh.FX w_0.l=some r) :
 Ct Tryz.prog 127 [w_0.val] w_0.ok (Ow.emp) (X:=Unit) (fun _=>str r) (fun _=>True) (fun _=>Mo.tt) (fun _=>Ow.emp):=by
 refine Zo Tryz.func127 Tryz.ntmps127 fun c => ?_
 unfold Sh.FX at hS
 refine Zq (Zr ?_)
 refine Zy ?_
 refine Zq (Zq (Zr ?_))
 refine Zm ?_
 refine Zu (dO (s:=w_0) Tryz.underlying23 rfl) ?_
 refine Zu (hU rfl rfl) ?_
 refine Zl ?_
 refine Zc hS (fun h5 hS => ?_) (fun h5 hS => ?_)
 ·
  refine Zq ?_
  cases hS
 refine Zk ?_
 refine Zq (Zr ?_)
 refine Zm ?_
 obtain ⟨aGG,aDN,aDB,hS⟩:=e8 hS
 refine Zu (fM (s:=w_0) Tryz.underlying23 o4 rfl rfl aDN (bQ aDN aDB)) ?_
 refine Zu (rH (s:=w_0) dK rfl aDB rfl) ?_
 refine Zy ?_
 cases hS
 exact Ze
theorem aB0 (aB:aV) {r:Bool} (hS:Sh.R5 aB=some r) :
 Ct Tryz.prog 128 [str aB] Mo.tt (Ow.emp) (X:=Unit) (fun _ => .bool r) (fun _=>True) (fun _=>Mo.tt) (fun _=>Ow.emp):=by
 refine Zo Tryz.func128 Tryz.ntmps128 fun c => ?_
 unfold Sh.R5 at hS
 refine Zq (Zr ?_)
 refine Zy ?_
 refine Zq (Zr ?_)
 refine Zm ?_
 refine Zu (rL rfl rfl) ?_
 refine Zm ?_
 refine NH 5 hS (fun h5 hS => ?_) (fun h5 hS => ?_)
 ·
  refine Zg ?_
  obtain ⟨aGG,aDN,aDB,hS⟩:=e8 hS
  refine Zh (LY Tryz.underlying9 rfl rfl aDN aDB) ?_
  refine Zh (qF rfl rfl) ?_
  refine Zy ?_
  refine mF 10 hS (fun h10 hS => ?_) (fun h10 hS => ?_)
  ·
   refine Zg ?_
   obtain ⟨aHH,aSU,aSJ,hS⟩:=e8 hS
   refine Zh (LY Tryz.underlying9 rfl rfl aSU aSJ) ?_
   refine Zh (SX rfl rfl) ?_
   refine Zy ?_
   refine VC.keep (ρ':=[(2,.bool (decide ((aHH.toNat:Int)≤57)))]) [2] rfl ?_
   cases hS
   exact Ze
  refine VL.runs 5 [(2,some false)] (by kernel_rfl) ?_
  refine Zl ?_
  cases hS
  exact Ze
 refine VL.runs 10 [(2,some false)] (by kernel_rfl) ?_
 refine Zl ?_
 cases hS
 exact Ze
theorem aB1 (pZ:Nat) (cB:pI) (w_1:Sv aV) {r:Bool×oM} (hS:Sh.R6 cB.pl w_1.l=some r) :
 Ct Tryz.prog 86 [ptr pZ 0,w_1.val] (cB.todo.ok.and w_1.ok) (bP pZ [str cB.verb,str cB.name,i64 cB.n,str cB.text,.bool cB.force,cB.todo.val] 101) (X:=Bool×pI) (fun x => .bool x.1) (fun x=>r=(x.1,x.2.pl)) (fun x=>x.2.todo.ok) (fun x=>bP pZ [str x.2.verb,str x.2.name,i64 x.2.n,str x.2.text,.bool x.2.force,x.2.todo.val] 101):=by
 refine Zo Tryz.func86 Tryz.ntmps86 fun c => ?_
 unfold Sh.R6 at hS
 refine Zq (Zr ?_)
 refine Zy ?_
 refine Zq (Zr ?_)
 refine Zy ?_
 refine VC.gD (S:=Unit) (fun (_:Unit)=>()) (fun (_:Unit)=>[(0,ptr pZ 0),(1,w_1.val),(5,i64 0),(6,.bool true)]) (fun (_:Unit)=>Mo.tt) (fun (_:Unit)=>Ow.star (bP pZ [str cB.verb,str cB.name,i64 cB.n,str cB.text,.bool cB.force,cB.todo.val] 101) (Ow.emp)) hS ?_ ?_
 ·
  clear hS
  intro k1 hS
  refine Zq (Zr ?_)
  refine Zm ?_
  refine Zu (aG rfl) ?_
  refine Zu (aC pN rfl) ?_
  refine Zu (aT dK rfl rfl) ?_
  refine Zl ?_
  refine Zb ?_
  refine VC.gD (S:=Bool) (fun (nH:Bool)=>nH) (fun (nH:Bool)=>[(0,ptr pZ 0),(1,w_1.val),(5,i64 0),(6,.bool true),(11,.bool nH)]) (fun (nH:Bool)=>Mo.tt) (fun (nH:Bool)=>Ow.star (bP pZ [str cB.verb,str cB.name,i64 cB.n,str cB.text,.bool cB.force,cB.todo.val] 101) (Ow.emp)) hS ?_ ?_
  ·
   clear hS
   intro k3 hS
   refine Zq (Zr ?_)
   refine Zy ?_
   refine Zc hS (fun h11 hS => ?_) (fun h11 hS => ?_)
   ·
    refine VC.fZ (decide (cB.verb=[114,109])) [0,1,5,6,11] (fun _ _ h=>h) hS rfl
   refine Zr ?_
   refine Zy ?_
   refine VL.mt (decide (cB.verb=[115,119,105,116,99,104])) [0,1,5,6,11] (fun _ _ h=>h) hS rfl
  clear hS
  rintro nH hS
  refine iT hS (fun h11 hS => ?_) (fun h11 hS => ?_)
  ·
   refine VC.gD (S:=Bool) (fun (PD:Bool)=>PD) (fun (PD:Bool)=>[(0,ptr pZ 0),(1,w_1.val),(5,i64 0),(6,.bool true),(25,.bool PD)]) (fun (PD:Bool)=>Mo.tt) (fun (PD:Bool)=>Ow.star (bP pZ [str cB.verb,str cB.name,i64 cB.n,str cB.text,.bool cB.force,cB.todo.val] 101) (Ow.emp)) hS ?_ ?_
   ·
    clear hS
    intro k5 hS
    refine Zr ?_
    refine Zm ?_
    refine Zu (dO (s:=w_1) Tryz.underlying23 rfl) ?_
    refine Zu (jF rfl rfl) ?_
    refine Zm ?_
    refine mF 17 hS (fun h17 hS => ?_) (fun h17 hS => ?_)
    ·
     refine Zy ?_
     refine Zh (dO (s:=w_1) Tryz.underlying23 rfl) ?_
     obtain ⟨b21,hS⟩:=bS hS
     refine Zh (o7 rfl rfl b21) ?_
     obtain ⟨aHM,aI0,aHo,hS⟩:=e8 hS
     refine Zh (fM (s:=w_1) Tryz.underlying23 o4 rfl rfl aI0 (bQ aI0 aHo)) ?_
     refine Zh (rH (s:=w_1) dK rfl aHo rfl) ?_
     refine Zh (yK rfl rfl) ?_
     refine Zt ?_
     refine VL.mt (decide (aHM=[45,102])) [0,1,5,6,25] (fun _ _ h=>h) hS rfl
    refine VL.runs 8 [(25,some false)] (by kernel_rfl) ?_
    refine VL.mt false [0,1,5,6,25] (fun _ _ h=>h) hS rfl
   clear hS
   rintro PD hS
   refine iT hS (fun h25 hS => ?_) (fun h25 hS => ?_)
   ·
    cases hS
   refine VC.fZ () [0,1,5,6] (fun _ _ h=>h) hS rfl
  refine VC.fZ () [0,1,5,6] (fun _ _ h=>h) hS rfl
 clear hS
 rintro _ hS
 refine VC.gD (S:=Int×Bool×aV) (fun sg=>(sg.1,sg.2.1,sg.2.2)) (fun sg=>[(1,w_1.val),(5,i64 sg.1),(6,.bool sg.2.1)]) (fun sg=>Mo.tt) (fun sg=>Ow.star (bP pZ [str cB.verb,str sg.2.2,i64 cB.n,str cB.text,.bool cB.force,cB.todo.val] 101) (Ow.emp)) hS ?_ ?_
 ·
  clear hS
  intro k10 hS
  refine Zq (Zr ?_)
  refine Zm ?_
  refine Zu (aG rfl) ?_
  refine Zu (aC pN rfl) ?_
  refine Zu (aT dK rfl rfl) ?_
  refine Zl ?_
  refine Zb ?_
  refine VC.gD (S:=Unit) (fun (_:Unit)=>()) (fun (_:Unit)=>[(0,ptr pZ 0),(1,w_1.val)]) (fun (_:Unit)=>Mo.tt) (fun (_:Unit)=>Ow.star (bP pZ [str cB.verb,str cB.name,i64 cB.n,str cB.text,.bool cB.force,cB.todo.val] 101) (Ow.emp)) hS ?_ ?_
  ·
   clear hS
   intro k11 hS
   refine Zb ?_
   refine VC.gD (S:=Unit) (fun (_:Unit)=>()) (fun (_:Unit)=>[(0,ptr pZ 0),(1,w_1.val)]) (fun (_:Unit)=>Mo.tt) (fun (_:Unit)=>Ow.star (bP pZ [str cB.verb,str cB.name,i64 cB.n,str cB.text,.bool cB.force,cB.todo.val] 101) (Ow.emp)) hS ?_ ?_
   ·
    clear hS
    intro k12 hS
    refine Zb ?_
    refine VC.gD (S:=Unit) (fun (_:Unit)=>()) (fun (_:Unit)=>[(0,ptr pZ 0),(1,w_1.val)]) (fun (_:Unit)=>Mo.tt) (fun (_:Unit)=>Ow.star (bP pZ [str cB.verb,str cB.name,i64 cB.n,str cB.text,.bool cB.force,cB.todo.val] 101) (Ow.emp)) hS ?_ ?_
    ·
     clear hS
     intro k13 hS
     refine Zb ?_
     refine VC.gD (S:=Unit) (fun (_:Unit)=>()) (fun (_:Unit)=>[(0,ptr pZ 0),(1,w_1.val)]) (fun (_:Unit)=>Mo.tt) (fun (_:Unit)=>Ow.star (bP pZ [str cB.verb,str cB.name,i64 cB.n,str cB.text,.bool cB.force,cB.todo.val] 101) (Ow.emp)) hS ?_ ?_
     ·
      clear hS
      intro k14 hS
      refine Zb (Zq (Zb (Zq (Zq (Zq (Zr ?_))))))
      refine Zy ?_
      refine Zc hS (fun h38 hS => ?_) (fun h38 hS => ?_)
      ·
       refine Zx ?_
       refine Zq (Zr ?_)
       refine Zm ?_
       refine Zu (dO (s:=w_1) Tryz.underlying23 rfl) ?_
       refine Zu (hU rfl rfl) ?_
       refine Zl ?_
       refine VC.keep (ρ':=[(0,ptr pZ 0),(1,w_1.val),(5,i64 0),(6,.bool true),(58,.bool (decide ((w_1.l.length:Int)=0)))]) [0,1,5,6,58] rfl ?_
       refine Zc hS (fun h58 hS => ?_) (fun h58 hS => ?_)
       ·
        refine VC.eM (0,true,cB.name) [1,5,6] (fun _ _ h=>h) hS rfl
       refine VC.fZ () [0,1] (fun _ _ h=>h) hS rfl
      refine Zk ?_
      refine VC.gD (S:=Unit) (fun (_:Unit)=>()) (fun (_:Unit)=>[(0,ptr pZ 0),(1,w_1.val),(5,i64 0),(6,.bool true),(37,str cB.verb)]) (fun (_:Unit)=>Mo.tt) (fun (_:Unit)=>Ow.star (bP pZ [str cB.verb,str cB.name,i64 cB.n,str cB.text,.bool cB.force,cB.todo.val] 101) (Ow.emp)) hS ?_ ?_
      ·
       clear hS
       intro k15 hS
       refine Zq (Zq (Zr ?_))
       refine Zy ?_
       refine Zc hS (fun h40 hS => ?_) (fun h40 hS => ?_)
       ·
        refine Zk ?_
        refine Zc hS (fun h40 hS => ?_) (fun h40 hS => ?_)
        ·
         refine VC.eM () [0,1] (fun _ _ h=>h) hS rfl
        refine VC.fZ () [0,1,5,6,37] (fun _ _ h=>h) hS rfl
       refine Zq (Zr ?_)
       refine Zy ?_
       refine VC.keep (ρ':=[(0,ptr pZ 0),(1,w_1.val),(5,i64 0),(6,.bool true),(37,str cB.verb),(40,.bool (decide (cB.verb=[98,114,97,110,99,104])))]) [0,1,5,6,37,40] rfl ?_
       refine Zc hS (fun h40 hS => ?_) (fun h40 hS => ?_)
       ·
        refine Zk ?_
        refine Zc hS (fun h40 hS => ?_) (fun h40 hS => ?_)
        ·
         refine VC.eM () [0,1] (fun _ _ h=>h) hS rfl
        refine VC.fZ () [0,1,5,6,37] (fun _ _ h=>h) hS rfl
       refine Zq (Zr ?_)
       refine Zy ?_
       refine Zc hS (fun h40 hS => ?_) (fun h40 hS => ?_)
       ·
        refine Zk ?_
        refine Zc hS (fun h40 hS => ?_) (fun h40 hS => ?_)
        ·
         refine VC.eM () [0,1] (fun _ _ h=>h) hS rfl
        refine VC.fZ () [0,1,5,6,37] (fun _ _ h=>h) hS rfl
       refine Zr ?_
       refine Zy ?_
       refine Zc hS (fun h40 hS => ?_) (fun h40 hS => ?_)
       ·
        refine VC.eM () [0,1] (fun _ _ h=>h) hS rfl
       refine VC.fZ () [0,1,5,6,37] (fun _ _ h=>h) hS rfl
      clear hS
      rintro _ hS
      refine Zq (Zq (Zr ?_))
      refine Zy ?_
      refine Zc hS (fun h45 hS => ?_) (fun h45 hS => ?_)
      ·
       refine VC.eM () [0,1] (fun _ _ h=>h) hS rfl
      refine Zk ?_
      refine Zq (Zq (Zr ?_))
      refine Zy ?_
      refine Zc hS (fun h47 hS => ?_) (fun h47 hS => ?_)
      ·
       refine VC.eM () [0,1] (fun _ _ h=>h) hS rfl
      refine Zk ?_
      refine Zq (Zq (Zr ?_))
      refine Zy ?_
      refine Zc hS (fun h49 hS => ?_) (fun h49 hS => ?_)
      ·
       refine Zk ?_
       refine Zc hS (fun h49 hS => ?_) (fun h49 hS => ?_)
       ·
        refine VC.eM () [0,1] (fun _ _ h=>h) hS rfl
       refine Zk ?_
       refine VC.keep (ρ':=[(1,w_1.val),(5,i64 0),(6,.bool true)]) [1,5,6] rfl ?_
       refine VC.eM (0,true,cB.name) [1,5,6] (fun _ _ h=>h) hS rfl
      refine Zq (Zr ?_)
      refine Zy ?_
      refine Zc hS (fun h49 hS => ?_) (fun h49 hS => ?_)
      ·
       refine Zk ?_
       refine VC.keep (ρ':=[(0,ptr pZ 0),(1,w_1.val),(5,i64 0),(6,.bool true),(49,.bool (decide (cB.verb=[114,101,118,101,114,116])))]) [0,1,5,6,49] rfl ?_
       refine Zc hS (fun h49 hS => ?_) (fun h49 hS => ?_)
       ·
        refine VC.eM () [0,1] (fun _ _ h=>h) hS rfl
       refine Zk ?_
       refine VC.eM (0,true,cB.name) [1,5,6] (fun _ _ h=>h) hS rfl
      refine Zq (Zr ?_)
      refine Zy ?_
      refine VC.keep (ρ':=[(0,ptr pZ 0),(1,w_1.val),(5,i64 0),(6,.bool true),(37,str cB.verb),(49,.bool (decide (cB.verb=[112,111,112])))]) [0,1,5,6,37,49] rfl ?_
      refine Zc hS (fun h49 hS => ?_) (fun h49 hS => ?_)
      ·
       refine Zk ?_
       refine Zc hS (fun h49 hS => ?_) (fun h49 hS => ?_)
       ·
        refine VC.eM () [0,1] (fun _ _ h=>h) hS rfl
       refine Zk ?_
       refine VC.eM (0,true,cB.name) [1,5,6] (fun _ _ h=>h) hS rfl
      refine Zq (Zr ?_)
      refine Zy ?_
      refine Zc hS (fun h49 hS => ?_) (fun h49 hS => ?_)
      ·
       refine Zk ?_
       refine Zc hS (fun h49 hS => ?_) (fun h49 hS => ?_)
       ·
        refine VC.eM () [0,1] (fun _ _ h=>h) hS rfl
       refine Zk ?_
       refine VC.eM (0,true,cB.name) [1,5,6] (fun _ _ h=>h) hS rfl
      refine Zq (Zr ?_)
      refine Zy ?_
      refine Zc hS (fun h49 hS => ?_) (fun h49 hS => ?_)
      ·
       refine Zk ?_
       refine Zc hS (fun h49 hS => ?_) (fun h49 hS => ?_)
       ·
        refine VC.eM () [0,1] (fun _ _ h=>h) hS rfl
       refine Zk ?_
       refine VC.eM (0,true,cB.name) [1,5,6] (fun _ _ h=>h) hS rfl
      refine Zr ?_
      refine Zy ?_
      refine Zc hS (fun h49 hS => ?_) (fun h49 hS => ?_)
      ·
       refine VC.eM () [0,1] (fun _ _ h=>h) hS rfl
      refine Zk ?_
      refine VC.eM (0,true,cB.name) [1,5,6] (fun _ _ h=>h) hS rfl
     clear hS
     rintro _ hS
     refine Zq (Zq (Zr ?_))
     refine Zy ?_
     refine Zq (Zr ?_)
     refine Zy ?_
     obtain ⟨IG,aM1,hS⟩:=aU hS
     refine Zu (cN (IM w_1 aM1) rfl (fun _ _=>rfl)) ?_
     refine Zu (aG rfl) ?_
     refine Zu (aC oE rfl) ?_
     refine Zv (vc:=[str IG]) (cs':=[str cB.verb,str IG,i64 cB.n,str cB.text,.bool cB.force,cB.todo.val]) rfl o4 ?_
     refine Zl ?_
     refine Zr ?_
     refine Zm ?_
     refine Zu (aG rfl) ?_
     refine Zu (aC oE rfl) ?_
     refine Zu (aT dK rfl rfl) ?_
     refine Zu (rL rfl rfl) ?_
     refine Zy ?_
     refine VC.keep (ρ':=[(1,w_1.val),(5,i64 1),(6,.bool (!decide (IG=[])))]) [1,5,6] rfl ?_
     refine VC.eM (1,(!decide (IG=[])),IG) [1,5,6] (fun _ _ h=>h) hS rfl
    clear hS
    rintro _ hS
    refine Zq (Zq (Zr ?_))
    refine Zy ?_
    refine Zq (Zr ?_)
    refine Zm ?_
    obtain ⟨aDq,aMd,hS⟩:=aU hS
    refine Zu (cN (IM w_1 aMd) rfl (fun _ _=>rfl)) ?_
    obtain ⟨aJn,aMf,hS⟩:=aU hS
    refine Zu (cN (aB0 aDq aMf) rfl (fun _ _=>rfl)) ?_
    refine Zl ?_
    refine iT hS (fun h71 hS => ?_) (fun h71 hS => ?_)
    ·
     cases hS
    refine Zq (Zr ?_)
    refine Zy ?_
    obtain ⟨MO,aMp,hS⟩:=aU hS
    refine Zu (cN (IM w_1 aMp) rfl (fun _ _=>rfl)) ?_
    refine Zu (aG rfl) ?_
    refine Zu (aC oE rfl) ?_
    refine Zv (vc:=[str MO]) (cs':=[str cB.verb,str MO,i64 cB.n,str cB.text,.bool cB.force,cB.todo.val]) rfl o4 ?_
    refine Zl ?_
    refine VC.keep (ρ':=[(0,ptr pZ 0),(1,w_1.val),(5,i64 1)]) [0,1,5] rfl ?_
    refine Zr ?_
    refine Zm ?_
    refine Zu (aG rfl) ?_
    refine Zu (aC oE rfl) ?_
    refine Zu (aT dK rfl rfl) ?_
    refine Zu (rL rfl rfl) ?_
    refine Zy ?_
    refine VC.eM (1,(!decide (MO=[])),MO) [1,5,6] (fun _ _ h=>h) hS rfl
   clear hS
   rintro _ hS
   refine Zq (Zq ?_)
   cases hS
  clear hS
  rintro _ hS
  refine Zq (Zq ?_)
  cases hS
 clear hS
 rintro ⟨V3,aOT,JJ⟩ hS
 refine Zq (Zr ?_)
 refine Zy ?_
 refine uV 127 hS (fun h127 hS => ?_) (fun h127 hS => ?_)
 ·
  refine Zg ?_
  refine Zh (dO (s:=w_1) Tryz.underlying23 rfl) ?_
  refine Zg ?_
  refine Zh (hU rfl rfl) ?_
  refine Zy ?_
  refine VC.keep (ρ':=[(4,.bool (decide ((w_1.l.length:Int)=V3)))]) [4] rfl ?_
  cases hS
  exact VC.ret (fA (.inr rfl) rfl rfl ((decide ((w_1.l.length:Int)=V3)),⟨cB.verb,JJ,cB.n,cB.text,cB.force,cB.todo⟩) rfl rfl (by (try dsimp only); exact cO.out) (by (try dsimp only); exact eT.out))
 refine VL.runs 6 [(4,some false)] (by kernel_rfl) ?_
 refine Zl ?_
 cases hS
 exact VC.ret (fA (.inr rfl) rfl rfl (false,⟨cB.verb,JJ,cB.n,cB.text,cB.force,cB.todo⟩) rfl rfl (by (try dsimp only); exact cO.out) (by (try dsimp only); exact eT.out))
theorem aCY (UY:aV) {r:oM×Bool} (hS:Sh.WT UY=some r) :
 Ct Tryz.prog 53 [str UY] Mo.tt (Ow.emp) (X:=pI×Bool) (fun x => .tuple #[.agg (bO.enc x.1).toArray,.bool x.2]) (fun x=>r=(x.1.pl,x.2)) (fun x=>x.1.m) (fun x=>Ow.emp):=by
 refine Zo Tryz.func53 Tryz.ntmps53 fun c => ?_
 unfold Sh.WT at hS
 refine Zq (Zr ?_)
 refine VL.alloc (cs:=[str [],str [],i64 0,str [],.bool false,.slice none 0 0]) (by kernel_rfl) (by decide) fun eP => ?_
 refine Zy ?_
 refine Zq (Zr ?_)
 refine Zm ?_
 obtain ⟨fJ,E0,hS⟩:=aU hS
 refine Zu (cN (M8 UY [32] E0) rfl (fun _ _=>rfl)) ?_
 refine Zm ?_
 refine Zu (bG rfl rfl) ?_
 refine Zu (bG rfl rfl) ?_
 refine Zu (bG rfl rfl) ?_
 refine Zy ?_
 refine VC.keep (ρ':=[(2,ptr eP 0),(4,str fJ.1),(5,str fJ.2.1),(6,.bool fJ.2.2)]) [2,4,5,6] rfl ?_
 refine Zq (Zr ?_)
 refine Zm ?_
 refine Zu (fH (vs:=[(0,str fJ.1)]) (cs := #[str fJ.1,str [],i64 0,str [],.bool false,.slice none 0 0]) rfl (by kernel_rfl)) ?_
 refine VL.alloc (cs:=[str [],str [],i64 0,str [],.bool false,.slice none 0 0]) (by kernel_rfl) (by decide) fun aBp => ?_
 refine Zv (vc:=[str fJ.1,str [],i64 0,str [],.bool false,.slice none 0 0]) (cs':=[str fJ.1,str [],i64 0,str [],.bool false,.slice none 0 0]) rfl LJ ?_
 refine Zl ?_
 refine Zq ?_
 refine VC.gD (S:=Bool) (fun (PC:Bool)=>PC) (fun (PC:Bool)=>[(2,ptr eP 0),(5,str fJ.2.1),(6,.bool fJ.2.2),(7,ptr aBp 0),(23,.bool PC)]) (fun (PC:Bool)=>Mo.tt) (fun (PC:Bool)=>Ow.star (bP aBp [str fJ.1,str [],i64 0,str [],.bool false,.slice none 0 0] 101) (Ow.star (bP eP [str [],str [],i64 0,str [],.bool false,.slice none 0 0] 101) (Ow.emp))) hS ?_ ?_
 ·
  clear hS
  intro k5 hS
  refine Zr ?_
  refine Zy ?_
  refine mF 20 hS (fun h20 hS => ?_) (fun h20 hS => ?_)
  ·
   refine VL.runs 3 [(23,some true)] (by kernel_rfl) ?_
   refine VL.mt true [2,5,6,7,23] (fun _ _ h=>h) hS rfl
  refine Zg ?_
  refine Zh (yK rfl rfl) ?_
  refine Zf ?_
  refine VL.mt (decide (fJ.1=[115,116,97,115,104])) [2,5,6,7,23] (fun _ _ h=>h) hS rfl
 clear hS
 rintro PC hS
 refine iT hS (fun h23 hS => ?_) (fun h23 hS => ?_)
 ·
  refine Zq (Zr ?_)
  refine Zm ?_
  refine Zu (aC WY rfl) ?_
  refine Zv (vc:=[str fJ.2.1]) (cs':=[str fJ.1,str [],i64 0,str fJ.2.1,.bool false,.slice none 0 0]) rfl o4 ?_
  refine Zl ?_
  refine Zq (Zr ?_)
  refine Zu (cL oY rfl rfl) ?_
  refine Zm ?_
  refine Zu (lN rfl) ?_
  refine Zm ?_
  refine uV 29 hS (fun h29 hS => ?_) (fun h29 hS => ?_)
  ·
   refine VL.runs 3 [(32,some true)] (by kernel_rfl) ?_
   refine Zv (vc:=[str fJ.1,str [],i64 0,str fJ.2.1,.bool false,.slice none 0 0]) (cs':=[str fJ.1,str [],i64 0,str fJ.2.1,.bool false,.slice none 0 0]) rfl LJ ?_
   refine Zy ?_
   refine VC.keep (ρ':=[(2,ptr eP 0),(3,.bool true)]) [2,3] rfl ?_
   cases hS
   exact VC.ret (jV (vs:=[.agg #[str fJ.1,str [],i64 0,str fJ.2.1,.bool false,.slice none 0 0],.bool true]) (.inr rfl) rfl (eW.cell oY rfl rfl Rd.blk (eW.tmp rfl (eW.nil))) (⟨fJ.1,[],0,fJ.2.1,false,⟨none,0,[]⟩⟩,true) rfl rfl (by (try dsimp only); exact cO.out) (fun _ _=>trivial))
  refine Zg ?_
  refine Zh (rL rfl rfl) ?_
  refine Zf ?_
  refine Zv (vc:=[str fJ.1,str [],i64 0,str fJ.2.1,.bool false,.slice none 0 0]) (cs':=[str fJ.1,str [],i64 0,str fJ.2.1,.bool false,.slice none 0 0]) rfl LJ ?_
  refine Zy ?_
  refine VC.keep (ρ':=[(2,ptr eP 0),(3,.bool (!decide (fJ.2.1=[])))]) [2,3] rfl ?_
  cases hS
  exact VC.ret (jV (vs:=[.agg #[str fJ.1,str [],i64 0,str fJ.2.1,.bool false,.slice none 0 0],.bool (!decide (fJ.2.1=[]))]) (.inr rfl) rfl (eW.cell oY rfl rfl Rd.blk (eW.tmp rfl (eW.nil))) (⟨fJ.1,[],0,fJ.2.1,false,⟨none,0,[]⟩⟩,(!decide (fJ.2.1=[]))) rfl rfl (by (try dsimp only); exact cO.out) (fun _ _=>trivial))
 refine Zk ?_
 refine Zq (Zr ?_)
 refine Zy ?_
 refine VC.gD (S:=Sv aV) (fun (RI:Sv aV)=>RI.l) (fun (RI:Sv aV)=>[(2,ptr eP 0),(7,ptr aBp 0),(8,RI.val)]) (fun (RI:Sv aV)=>RI.ok) (fun (RI:Sv aV)=>Ow.star (bP aBp [str fJ.1,str [],i64 0,str [],.bool false,.slice none 0 0] 101) (Ow.star (bP eP [str [],str [],i64 0,str [],.bool false,.slice none 0 0] 101) (Ow.emp))) hS ?_ ?_
 ·
  clear hS
  intro k7 hS
  refine Zq (Zr ?_)
  refine Zy ?_
  refine iT hS (fun h33 hS => ?_) (fun h33 hS => ?_)
  ·
   refine Zr ?_
   refine Zm ?_
   obtain ⟨aP5,aQs,hS⟩:=aU hS
   refine VL.cR (H6 fJ.2.1 [32] aQs) rfl (by decide) ?_
   rintro aOi rfl
   try dsimp only
   refine Za ?_
   refine VL.mt aOi [2,7,8] (fun _ _ h=>h) hS rfl
  refine VC.fZ ⟨none,0,[]⟩ [2,7,8] (fun _ _ h=>h) hS rfl
 clear hS
 rintro RI hS
 refine Zq (Zr ?_)
 refine Zm ?_
 refine VL.SY aBp (cs':=[str fJ.1,str [],i64 0,str [],.bool false,(⟨none,0,[]⟩:Sv cT).val]) rfl ?_
 obtain ⟨JD,aQv,hS⟩:=aU hS
 refine VL.cA (aB1 aBp (⟨fJ.1,[],0,[],false,(⟨none,0,[]⟩:Sv cT)⟩:pI) RI aQv) rfl (by decide) ?_
 rintro ⟨aFi,kV⟩ rfl
 try dsimp only
 refine Zy ?_
 refine Zq (Zr ?_)
 refine Zu (cL oY rfl rfl) ?_
 refine Zm ?_
 refine Zv (vc:=[str kV.verb,str kV.name,i64 kV.n,str kV.text,.bool kV.force,kV.todo.val]) (cs':=[str kV.verb,str kV.name,i64 kV.n,str kV.text,.bool kV.force,kV.todo.val]) rfl LJ ?_
 refine Zy ?_
 cases hS
 exact VC.ret (jV (vs:=[.agg #[str kV.verb,str kV.name,i64 kV.n,str kV.text,.bool kV.force,kV.todo.val],.bool aFi]) (.inr rfl) rfl (eW.cell oY rfl rfl Rd.blk (eW.tmp rfl (eW.nil))) (⟨kV.verb,kV.name,kV.n,kV.text,kV.force,kV.todo⟩,aFi) rfl rfl (by (try dsimp only); exact cO.out) (fun _ _=>trivial))
theorem aBZ  {r:List aV} (hS:Sh.R4=some r) :
 Ct Tryz.prog 61 [] Mo.tt (Ow.emp) (X:=Sv aV) (fun x=>x.val) (fun x=>r=x.l) (fun x=>x.ok) (fun x=>Ow.emp):=by
 refine Zo Tryz.func61 Tryz.ntmps61 fun c => ?_
 unfold Sh.R4 at hS
 refine Zq (Zr ?_)
 refine Zy ?_
 refine Zq (Zr ?_)
 refine VL.lit (α:=aV) (xs:=[.const (str [97,100,100]),.const (str [114,109]),.const (str [99,111,109,109,105,116]),.const (str [98,114,97,110,99,104]),.const (str [100,101,108,101,116,101]),.const (str [115,119,105,116,99,104]),.const (str [114,101,115,101,116]),.const (str [109,101,114,103,101]),.const (str [112,105,99,107]),.const (str [114,101,118,101,114,116]),.const (str [115,116,97,115,104]),.const (str [112,111,112]),.const (str [97,112,112,108,121]),.const (str [115,104,101,108,118,101]),.const (str [114,101,98,97,115,101]),.const (str [99,111,110,116,105,110,117,101]),.const (str [115,107,105,112]),.const (str [97,98,111,114,116]),.const (str [117,110,100,111]),.const (str [114,101,100,111])]) (vs:=[str [97,100,100],str [114,109],str [99,111,109,109,105,116],str [98,114,97,110,99,104],str [100,101,108,101,116,101],str [115,119,105,116,99,104],str [114,101,115,101,116],str [109,101,114,103,101],str [112,105,99,107],str [114,101,118,101,114,116],str [115,116,97,115,104],str [112,111,112],str [97,112,112,108,121],str [115,104,101,108,118,101],str [114,101,98,97,115,101],str [99,111,110,116,105,110,117,101],str [115,107,105,112],str [97,98,111,114,116],str [117,110,100,111],str [114,101,100,111]]) [[97,100,100],[114,109],[99,111,109,109,105,116],[98,114,97,110,99,104],[100,101,108,101,116,101],[115,119,105,116,99,104],[114,101,115,101,116],[109,101,114,103,101],[112,105,99,107],[114,101,118,101,114,116],[115,116,97,115,104],[112,111,112],[97,112,112,108,121],[115,104,101,108,118,101],[114,101,98,97,115,101],[99,111,110,116,105,110,117,101],[115,107,105,112],[97,98,111,114,116],[117,110,100,111],[114,101,100,111]] Tryz.underlying23 wL (by decide) rfl rfl rfl rfl (by decide) (fun _ _ _ _=>trivial) (by decide) (fun aVm aU0 => ?_) (by decide)
 replace hS:=b5 aU0 hS
 refine Zy ?_
 cases hS
 exact VC.ret (fA (.inr rfl) rfl rfl aVm rfl rfl (by (try dsimp only); exact cO.out) (fun _ _=>trivial))
theorem tX (aB:Sv aV) (v_1:aV) {r:Int} (hS:Sh.nE aB.l v_1=some r) :
 Ct Tryz.prog 60 [aB.val,str v_1] aB.ok (Ow.emp) (X:=Unit) (fun _=>i64 r) (fun _=>True) (fun _=>Mo.tt) (fun _=>Ow.emp):=by
 refine Zo Tryz.func60 Tryz.ntmps60 fun c => ?_
 unfold Sh.nE at hS
 refine Zq (Zr ?_)
 refine Zy ?_
 refine Zq (Zq (Zr ?_))
 refine Zm ?_
 refine Zu (dO (s:=aB) Tryz.underlying23 rfl) ?_
 refine Zy ?_
 refine Zb ?_
 refine VC.iter (S:=Int) (fun (cS:Int)=>cS) (fun (cS:Int)=>[(0,aB.val),(1,str v_1),(7,i64 (aB.l.length:Int)),(8,i64 cS)]) (fun (cS:Int)=>Mo.tt) (fun (cS:Int)=>Ow.emp) 0 [0,1,7,8] hS rfl ?_
 clear hS
 rintro cS m1 y1 hS hK1
 refine Zq (Zr ?_)
 refine Zu (dL rfl rfl) ?_
 refine Zl ?_
 refine Zq ?_
 refine Zc hS (fun h9 hS => ?_) (fun h9 hS => ?_)
 ·
  refine Zk ?_
  refine Zq (Zb (Zq (Zr ?_)))
  refine Zy ?_
  refine Zq (Zr ?_)
  refine Zy ?_
  obtain ⟨gF,mD,mC,hS⟩:=e8 hS
  refine Zu (fM (s:=aB) Tryz.underlying23 o4 rfl rfl mD (bQ mD mC)) ?_
  refine Zu (rH (s:=aB) dK rfl mC rfl) ?_
  refine Zy ?_
  refine VC.keep (ρ':=[(0,aB.val),(1,str v_1),(7,i64 (aB.l.length:Int)),(8,i64 cS),(5,i64 cS),(16,.bool (decide (v_1=gF)))]) [0,1,7,8,5,16] rfl ?_
  refine Zc hS (fun h16 hS => ?_) (fun h16 hS => ?_)
  ·
   refine Zq (Zr ?_)
   refine Zy ?_
   replace hS:=gQ hS hK1
   cases hS
   exact Ze
  refine Zk ?_
  refine Zr ?_
  obtain ⟨b18,hS⟩:=bS hS
  refine Zu (cK rfl rfl b18) ?_
  refine Zm ?_
  refine VL.jC (cS+1) [0,1,7,8] (fun _ _ h=>h) (go2 hS hK1) rfl
 replace hS:=gQ hS hK1
 refine Zx ?_
 refine Zq (Zr ?_)
 refine Zy ?_
 cases hS
 exact Ze
theorem Q9 (V2:aV) {r:Int} (hS:Sh.K4 V2=some r) :
 Ct Tryz.prog 54 [str V2] Mo.tt (Ow.emp) (X:=Unit) (fun _=>i64 r) (fun _=>True) (fun _=>Mo.tt) (fun _=>Ow.emp):=by
 refine Zo Tryz.func54 Tryz.ntmps54 fun c => ?_
 unfold Sh.K4 at hS
 refine Zq (Zr ?_)
 refine Zy ?_
 refine Zq (Zr ?_)
 obtain ⟨aUC,aUI,hS⟩:=aU hS
 refine VL.cR (aBZ aUI) rfl (by decide) ?_
 rintro aSZ rfl
 try dsimp only
 refine Zm ?_
 obtain ⟨uI,aUK,hS⟩:=aU hS
 refine Zu (cN (tX aSZ V2 aUK) rfl (fun _ _=>rfl)) ?_
 refine Zy ?_
 cases hS
 exact Ze
theorem NX (C9:aV) {r:Bool} (hS:Sh.HU C9=some r) :
 Ct Tryz.prog 138 [str C9] Mo.tt (Ow.emp) (X:=Unit) (fun _ => .bool r) (fun _=>True) (fun _=>Mo.tt) (fun _=>Ow.emp):=by
 refine Zo Tryz.func138 Tryz.ntmps138 fun c => ?_
 unfold Sh.HU at hS
 refine Zq (Zr ?_)
 refine Zy ?_
 refine Zq (Zq (Zr ?_))
 refine Zm ?_
 obtain ⟨b6,hS⟩:=bS hS
 refine VL.s2b Tryz.underlying9 Tryz.underlying124 Tryz.underlying5 rfl b6 (by decide) fun aBB aU1 => ?_
 replace hS:=b5 aU1 hS
 refine Zu (dO (s:=aBB) Tryz.underlying124 rfl) ?_
 refine Zy ?_
 refine Zb ?_
 refine VC.iter (S:=Int) (fun (G6:Int)=>G6) (fun (G6:Int)=>[(0,str C9),(6,aBB.val),(7,i64 (aBB.l.length:Int)),(8,i64 G6)]) (fun (G6:Int)=>Mo.tt) (fun (G6:Int)=>Ow.emp) 0 [0,6,7,8] hS rfl ?_
 clear hS
 rintro G6 m1 y1 hS hK1
 refine Zq (Zr ?_)
 refine Zu (dL rfl rfl) ?_
 refine Zl ?_
 refine Zq ?_
 refine Zc hS (fun h9 hS => ?_) (fun h9 hS => ?_)
 ·
  refine Zk ?_
  refine Zq (Zb (Zq (Zr ?_)))
  refine Zm ?_
  obtain ⟨l7,HV,E6,hS⟩:=e8 hS
  refine Zu (fM (s:=aBB) Tryz.underlying124 aE5 rfl rfl HV (bQ HV E6)) ?_
  refine Zu (rH (s:=aBB) aGZ rfl E6 rfl) ?_
  refine Zy ?_
  refine VC.gD (S:=Bool) (fun (PK:Bool)=>PK) (fun (PK:Bool)=>[(0,str C9),(6,aBB.val),(7,i64 (aBB.l.length:Int)),(8,i64 G6),(34,.bool PK)]) (fun (PK:Bool)=>Mo.tt) (fun (PK:Bool)=>Ow.emp) hS ?_ ?_
  ·
   clear hS
   intro k6 hS
   refine Zr ?_
   refine Zm ?_
   refine Zu (dL rfl rfl) ?_
   refine Zm ?_
   refine mF 15 hS (fun h15 hS => ?_) (fun h15 hS => ?_)
   ·
    refine VL.runs 4 [(19,some true)] (by kernel_rfl) ?_
    refine Zg ?_
    refine Zh (hU rfl rfl) ?_
    refine Zg ?_
    refine mF 22 hS (fun h22 hS => ?_) (fun h22 hS => ?_)
    ·
     refine VL.runs 10 [(32,none)] (by kernel_rfl) ?_
     refine Zh (jR rfl rfl) ?_
     refine Zt ?_
     refine VL.mt true [0,6,7,8,34] (fun _ _ h=>h) hS rfl
    refine Zg ?_
    refine Zh (vJ rfl rfl) ?_
    refine Zg ?_
    refine NH 25 hS (fun h25 hS => ?_) (fun h25 hS => ?_)
    ·
     refine Zg ?_
     refine Zh (dL rfl rfl) ?_
     refine Zg ?_
     refine mF 28 hS (fun h28 hS => ?_) (fun h28 hS => ?_)
     ·
      refine Zy ?_
      refine Zh (jR rfl rfl) ?_
      refine Zh (jR rfl rfl) ?_
      refine Zh (iG rfl rfl) ?_
      refine Zt ?_
      refine VL.mt true [0,6,7,8,34] (fun _ _ h=>h) hS rfl
     refine Zg ?_
     refine Zh (jF rfl rfl) ?_
     refine Zh (iG rfl rfl) ?_
     refine Zh (jR rfl rfl) ?_
     refine Zh (iG rfl rfl) ?_
     refine Zt ?_
     refine VL.mt (decide (57 < (l7.toNat:Int))) [0,6,7,8,34] (fun _ _ h=>h) hS rfl
    refine VL.runs 6 [(31,none)] (by kernel_rfl) ?_
    refine Zh (iG rfl rfl) ?_
    refine Zh (iG rfl rfl) ?_
    refine Zt ?_
    refine VL.mt false [0,6,7,8,34] (fun _ _ h=>h) hS rfl
   refine Zg ?_
   refine Zh (jF rfl rfl) ?_
   refine Zy ?_
   refine mF 19 hS (fun h19 hS => ?_) (fun h19 hS => ?_)
   ·
    refine Zg ?_
    refine Zh (hU rfl rfl) ?_
    refine Zg ?_
    refine mF 22 hS (fun h22 hS => ?_) (fun h22 hS => ?_)
    ·
     refine VL.runs 10 [(32,none)] (by kernel_rfl) ?_
     refine Zh (jR rfl rfl) ?_
     refine Zt ?_
     refine VL.mt true [0,6,7,8,34] (fun _ _ h=>h) hS rfl
    refine Zg ?_
    refine Zh (vJ rfl rfl) ?_
    refine Zg ?_
    refine NH 25 hS (fun h25 hS => ?_) (fun h25 hS => ?_)
    ·
     refine Zg ?_
     refine Zh (dL rfl rfl) ?_
     refine Zg ?_
     refine mF 28 hS (fun h28 hS => ?_) (fun h28 hS => ?_)
     ·
      refine Zy ?_
      refine Zh (jR rfl rfl) ?_
      refine Zh (jR rfl rfl) ?_
      refine Zh (iG rfl rfl) ?_
      refine Zt ?_
      refine VL.mt true [0,6,7,8,34] (fun _ _ h=>h) hS rfl
     refine Zg ?_
     refine Zh (jF rfl rfl) ?_
     refine Zh (iG rfl rfl) ?_
     refine Zh (jR rfl rfl) ?_
     refine Zh (iG rfl rfl) ?_
     refine Zt ?_
     refine VL.mt (decide (57 < (l7.toNat:Int))) [0,6,7,8,34] (fun _ _ h=>h) hS rfl
    refine VL.runs 6 [(31,none)] (by kernel_rfl) ?_
    refine Zh (iG rfl rfl) ?_
    refine Zh (iG rfl rfl) ?_
    refine Zt ?_
    refine VL.mt false [0,6,7,8,34] (fun _ _ h=>h) hS rfl
   refine VL.runs 15 [(34,some false)] (by kernel_rfl) ?_
   refine VL.mt false [0,6,7,8,34] (fun _ _ h=>h) hS rfl
  clear hS
  rintro PK hS
  refine iT hS (fun h34 hS => ?_) (fun h34 hS => ?_)
  ·
   refine Zq ?_
   cases hS
  refine Zk ?_
  refine Zr ?_
  obtain ⟨b35,hS⟩:=bS hS
  refine Zu (cK rfl rfl b35) ?_
  refine Zm ?_
  refine VL.jC (G6+1) [0,6,7,8] (fun _ _ h=>h) (go2 hS hK1) rfl
 replace hS:=gQ hS hK1
 refine Zx ?_
 refine Zq (Zr ?_)
 refine Zm ?_
 refine Zu (nT Tryz.underlying9 rfl) ?_
 refine Zu (qF rfl rfl) ?_
 refine Zm ?_
 refine mF 39 hS (fun h39 hS => ?_) (fun h39 hS => ?_)
 ·
  refine Zg ?_
  refine Zh (nT Tryz.underlying9 rfl) ?_
  refine Zh (SX rfl rfl) ?_
  refine Zy ?_
  refine VC.keep (ρ':=[(2,.bool (decide ((C9.length:Int)≤32)))]) [2] rfl ?_
  cases hS
  exact Ze
 refine VL.runs 5 [(2,some false)] (by kernel_rfl) ?_
 refine Zl ?_
 cases hS
 exact Ze
theorem aCX (cB:pI) {r:Int} (hS:Sh.WS cB.pl=some r) :
 Ct Tryz.prog 90 [.agg #[str cB.verb,str cB.name,i64 cB.n,str cB.text,.bool cB.force,cB.todo.val]] cB.todo.ok (Ow.emp) (X:=Unit) (fun _=>i64 r) (fun _=>True) (fun _=>Mo.tt) (fun _=>Ow.emp):=by
 refine Zo Tryz.func90 Tryz.ntmps90 fun c => ?_
 unfold Sh.WS at hS
 refine Zq (Zr ?_)
 refine VL.box (cs:=[str cB.verb,str cB.name,i64 cB.n,str cB.text,.bool cB.force,cB.todo.val]) rfl rfl (by decide) fun iE => ?_
 refine Zy ?_
 refine Zq (Zr ?_)
 refine Zy ?_
 refine VC.gD (S:=Bool) (fun (N0:Bool)=>N0) (fun (N0:Bool)=>[(3,.bool N0)]) (fun (N0:Bool)=>Mo.tt) (fun (N0:Bool)=>Ow.star (bP iE [str cB.verb,str cB.name,i64 cB.n,str cB.text,.bool cB.force,cB.todo.val] 101) (Ow.emp)) hS ?_ ?_
 ·
  clear hS
  intro k3 hS
  refine Zq (Zr ?_)
  refine Zu (aC pN rfl) ?_
  refine Zu (aT dK rfl rfl) ?_
  refine Zl ?_
  refine Zb ?_
  refine VC.gD (S:=Unit) (fun (_:Unit)=>()) (fun (_:Unit)=>[(1,ptr iE 0)]) (fun (_:Unit)=>Mo.tt) (fun (_:Unit)=>Ow.star (bP iE [str cB.verb,str cB.name,i64 cB.n,str cB.text,.bool cB.force,cB.todo.val] 101) (Ow.emp)) hS ?_ ?_
  ·
   clear hS
   intro k4 hS
   refine Zb ?_
   refine VC.gD (S:=Unit) (fun (_:Unit)=>()) (fun (_:Unit)=>[(1,ptr iE 0)]) (fun (_:Unit)=>Mo.tt) (fun (_:Unit)=>Ow.star (bP iE [str cB.verb,str cB.name,i64 cB.n,str cB.text,.bool cB.force,cB.todo.val] 101) (Ow.emp)) hS ?_ ?_
   ·
    clear hS
    intro k5 hS
    refine Zb ?_
    refine VC.gD (S:=Unit) (fun (_:Unit)=>()) (fun (_:Unit)=>[(1,ptr iE 0)]) (fun (_:Unit)=>Mo.tt) (fun (_:Unit)=>Ow.star (bP iE [str cB.verb,str cB.name,i64 cB.n,str cB.text,.bool cB.force,cB.todo.val] 101) (Ow.emp)) hS ?_ ?_
    ·
     clear hS
     intro k6 hS
     refine Zb ?_
     refine VC.gD (S:=Unit) (fun (_:Unit)=>()) (fun (_:Unit)=>[(1,ptr iE 0)]) (fun (_:Unit)=>Mo.tt) (fun (_:Unit)=>Ow.star (bP iE [str cB.verb,str cB.name,i64 cB.n,str cB.text,.bool cB.force,cB.todo.val] 101) (Ow.emp)) hS ?_ ?_
     ·
      clear hS
      intro k7 hS
      refine Zb (Zq (Zb (Zq (Zq (Zq (Zr ?_))))))
      refine Zy ?_
      refine Zc hS (fun h6 hS => ?_) (fun h6 hS => ?_)
      ·
       refine Zx ?_
       refine Zq (Zr ?_)
       refine Zu (aC oE rfl) ?_
       refine Zu (aT dK rfl rfl) ?_
       refine Zy ?_
       refine VC.keep (ρ':=[(1,ptr iE 0),(20,.bool (decide (cB.name=[])))]) [1,20] rfl ?_
       refine Zc hS (fun h20 hS => ?_) (fun h20 hS => ?_)
       ·
        refine Zq ?_
        cases hS
       refine VC.fZ () [1] (fun _ _ h=>h) hS rfl
      refine Zk ?_
      refine Zq (Zq (Zr ?_))
      refine Zy ?_
      refine Zc hS (fun h8 hS => ?_) (fun h8 hS => ?_)
      ·
       refine VC.eM () [1] (fun _ _ h=>h) hS rfl
      refine Zk ?_
      refine VC.gD (S:=Unit) (fun (_:Unit)=>()) (fun (_:Unit)=>[(1,ptr iE 0),(3,.bool true),(5,str cB.verb)]) (fun (_:Unit)=>Mo.tt) (fun (_:Unit)=>Ow.star (bP iE [str cB.verb,str cB.name,i64 cB.n,str cB.text,.bool cB.force,cB.todo.val] 101) (Ow.emp)) hS ?_ ?_
      ·
       clear hS
       intro k8 hS
       refine Zq (Zq (Zr ?_))
       refine Zy ?_
       refine VC.keep (ρ':=[(1,ptr iE 0),(3,.bool true),(5,str cB.verb),(10,.bool (decide (cB.verb=[98,114,97,110,99,104])))]) [1,3,5,10] rfl ?_
       refine Zc hS (fun h10 hS => ?_) (fun h10 hS => ?_)
       ·
        refine Zk ?_
        refine Zc hS (fun h10 hS => ?_) (fun h10 hS => ?_)
        ·
         refine VC.eM () [1] (fun _ _ h=>h) hS rfl
        refine VC.fZ () [1,3,5] (fun _ _ h=>h) hS rfl
       refine Zq (Zr ?_)
       refine Zy ?_
       refine Zc hS (fun h10 hS => ?_) (fun h10 hS => ?_)
       ·
        refine Zk ?_
        refine Zc hS (fun h10 hS => ?_) (fun h10 hS => ?_)
        ·
         refine VC.eM () [1] (fun _ _ h=>h) hS rfl
        refine VC.fZ () [1,3,5] (fun _ _ h=>h) hS rfl
       refine Zr ?_
       refine Zy ?_
       refine Zc hS (fun h10 hS => ?_) (fun h10 hS => ?_)
       ·
        refine VC.eM () [1] (fun _ _ h=>h) hS rfl
       refine VC.fZ () [1,3,5] (fun _ _ h=>h) hS rfl
      clear hS
      rintro _ hS
      refine Zq (Zq (Zr ?_))
      refine Zy ?_
      refine Zc hS (fun h14 hS => ?_) (fun h14 hS => ?_)
      ·
       refine VC.eM () [1] (fun _ _ h=>h) hS rfl
      refine Zk ?_
      refine Zq (Zr ?_)
      refine Zy ?_
      refine Zc hS (fun h16 hS => ?_) (fun h16 hS => ?_)
      ·
       refine VC.eM () [1] (fun _ _ h=>h) hS rfl
      refine Zk ?_
      refine VC.eM true [3] (fun _ _ h=>h) hS rfl
     clear hS
     rintro _ hS
     refine Zq (Zq (Zr ?_))
     refine Zu (aC oE rfl) ?_
     refine Zu (aT dK rfl rfl) ?_
     obtain ⟨ML,LF,hS⟩:=aU hS
     refine Zu (cN (N4 cB.name LF) rfl (fun _ _=>rfl)) ?_
     refine Zy ?_
     cases hS
     exact Ze
    clear hS
    rintro _ hS
    refine Zq (Zr ?_)
    refine Zu (aC oE rfl) ?_
    refine Zu (aT dK rfl rfl) ?_
    obtain ⟨IE,F0,hS⟩:=aU hS
    refine Zu (cN (NX cB.name F0) rfl (fun _ _=>rfl)) ?_
    refine Zy ?_
    refine VC.eM IE [3] (fun _ _ h=>h) hS rfl
   clear hS
   rintro _ hS
   refine Zq (Zr ?_)
   refine Zu (aC oE rfl) ?_
   refine Zu (aT dK rfl rfl) ?_
   refine Zy ?_
   refine mF 30 hS (fun h30 hS => ?_) (fun h30 hS => ?_)
   ·
    refine VL.runs 5 [(3,some true)] (by kernel_rfl) ?_
    refine Zl ?_
    refine VC.eM true [3] (fun _ _ h=>h) hS rfl
   refine Zh (aC oE rfl) ?_
   refine Zh (aT dK rfl rfl) ?_
   obtain ⟨aDg,aLk,hS⟩:=aU hS
   refine Zh (cN (NX cB.name aLk) rfl (fun _ _=>rfl)) ?_
   refine Zy ?_
   refine VC.eM aDg [3] (fun _ _ h=>h) hS rfl
  clear hS
  rintro _ hS
  refine Zq ?_
  cases hS
 clear hS
 rintro N0 hS
 refine Zq (Zq (Zr ?_))
 refine Zm ?_
 refine Zu (lN rfl) ?_
 refine Zl ?_
 refine iT hS (fun h49 hS => ?_) (fun h49 hS => ?_)
 ·
  refine Zq ?_
  cases hS
 refine Zk ?_
 refine Zq (Zr ?_)
 refine Zy ?_
 cases hS
 exact Ze
theorem ZY (cB:pI) {r:Int} (hS:Sh.NJ cB.pl=some r) :
 Ct Tryz.prog 91 [.agg #[str cB.verb,str cB.name,i64 cB.n,str cB.text,.bool cB.force,cB.todo.val]] cB.todo.ok (Ow.emp) (X:=Unit) (fun _=>i64 r) (fun _=>True) (fun _=>Mo.tt) (fun _=>Ow.emp):=by
 refine Zo Tryz.func91 Tryz.ntmps91 fun c => ?_
 unfold Sh.NJ at hS
 refine Zq (Zr ?_)
 refine VL.box (cs:=[str cB.verb,str cB.name,i64 cB.n,str cB.text,.bool cB.force,cB.todo.val]) rfl rfl (by decide) fun iE => ?_
 refine Zy ?_
 refine Zq (Zr ?_)
 refine Zu (aC aBr rfl) ?_
 refine Zu (aT fG rfl rfl) ?_
 refine Zy ?_
 refine VC.gD (S:=Unit) (fun (_:Unit)=>()) (fun (_:Unit)=>[(1,ptr iE 0),(3,i64 cB.n)]) (fun (_:Unit)=>Mo.tt) (fun (_:Unit)=>Ow.star (bP iE [str cB.verb,str cB.name,i64 cB.n,str cB.text,.bool cB.force,cB.todo.val] 101) (Ow.emp)) hS ?_ ?_
 ·
  clear hS
  intro k2 hS
  refine Zq (Zr ?_)
  refine Zu (aC pN rfl) ?_
  refine Zu (aT dK rfl rfl) ?_
  refine Zl ?_
  refine Zb (Zq (Zb (Zq (Zb (Zq (Zb (Zq ?_)))))))
  refine VC.gD (S:=Unit) (fun (_:Unit)=>()) (fun (_:Unit)=>[(1,ptr iE 0),(3,i64 cB.n),(7,str cB.verb)]) (fun (_:Unit)=>Mo.tt) (fun (_:Unit)=>Ow.star (bP iE [str cB.verb,str cB.name,i64 cB.n,str cB.text,.bool cB.force,cB.todo.val] 101) (Ow.emp)) hS ?_ ?_
  ·
   clear hS
   intro k3 hS
   refine Zq (Zq (Zr ?_))
   refine Zy ?_
   refine Zc hS (fun h8 hS => ?_) (fun h8 hS => ?_)
   ·
    refine Zk ?_
    refine Zc hS (fun h8 hS => ?_) (fun h8 hS => ?_)
    ·
     refine Zx ?_
     refine Zq ?_
     cases hS
    refine VC.fZ () [1,3,7] (fun _ _ h=>h) hS rfl
   refine Zq (Zr ?_)
   refine Zy ?_
   refine VC.keep (ρ':=[(1,ptr iE 0),(3,i64 cB.n),(7,str cB.verb),(8,.bool (decide (cB.verb=[97,112,112,108,121])))]) [1,3,7,8] rfl ?_
   refine Zc hS (fun h8 hS => ?_) (fun h8 hS => ?_)
   ·
    refine Zk ?_
    refine Zc hS (fun h8 hS => ?_) (fun h8 hS => ?_)
    ·
     refine Zx ?_
     refine Zq ?_
     cases hS
    refine VC.fZ () [1,3,7] (fun _ _ h=>h) hS rfl
   refine Zr ?_
   refine Zy ?_
   refine Zc hS (fun h8 hS => ?_) (fun h8 hS => ?_)
   ·
    refine Zx ?_
    refine Zq ?_
    cases hS
   refine VC.fZ () [1,3,7] (fun _ _ h=>h) hS rfl
  clear hS
  rintro _ hS
  refine Zq (Zq (Zr ?_))
  refine Zy ?_
  refine Zc hS (fun h12 hS => ?_) (fun h12 hS => ?_)
  ·
   refine Zx ?_
   refine Zq (Zr ?_)
   refine Zu (aC oE rfl) ?_
   refine Zu (aT dK rfl rfl) ?_
   refine Zu (rL rfl rfl) ?_
   refine Zl ?_
   refine rI hS (fun h21 hS => ?_) (fun h21 hS => ?_)
   ·
    refine VC.eM () [1,3] (fun _ _ h=>h) hS rfl
   refine Zk ?_
   refine Zq ?_
   cases hS
  refine Zk ?_
  refine Zq (Zq (Zr ?_))
  refine Zy ?_
  refine Zc hS (fun h14 hS => ?_) (fun h14 hS => ?_)
  ·
   refine Zk ?_
   refine Zc hS (fun h14 hS => ?_) (fun h14 hS => ?_)
   ·
    refine Zx ?_
    refine Zq ?_
    cases hS
   refine Zk ?_
   refine VC.eM () [1,3] (fun _ _ h=>h) hS rfl
  refine Zq (Zr ?_)
  refine Zy ?_
  refine Zc hS (fun h14 hS => ?_) (fun h14 hS => ?_)
  ·
   refine Zk ?_
   refine Zc hS (fun h14 hS => ?_) (fun h14 hS => ?_)
   ·
    refine Zx ?_
    refine Zq ?_
    cases hS
   refine Zk ?_
   refine VC.eM () [1,3] (fun _ _ h=>h) hS rfl
  refine Zq (Zr ?_)
  refine Zy ?_
  refine Zc hS (fun h14 hS => ?_) (fun h14 hS => ?_)
  ·
   refine Zk ?_
   refine Zc hS (fun h14 hS => ?_) (fun h14 hS => ?_)
   ·
    refine Zx ?_
    refine Zq ?_
    cases hS
   refine Zk ?_
   refine VC.eM () [1,3] (fun _ _ h=>h) hS rfl
  refine Zr ?_
  refine Zy ?_
  refine Zc hS (fun h14 hS => ?_) (fun h14 hS => ?_)
  ·
   refine Zx ?_
   refine Zq ?_
   cases hS
  refine Zk ?_
  refine VC.eM () [1,3] (fun _ _ h=>h) hS rfl
 clear hS
 rintro _ hS
 refine Zq (Zq (Zr ?_))
 refine Zu (aC aBr rfl) ?_
 refine Zu (aT fG rfl rfl) ?_
 refine Zm ?_
 refine Zu (dL rfl rfl) ?_
 refine Zl ?_
 refine Zc hS (fun h25 hS => ?_) (fun h25 hS => ?_)
 ·
  refine Zq ?_
  cases hS
 refine Zk ?_
 refine Zq (Zr ?_)
 refine Zy ?_
 cases hS
 exact Ze
theorem OW (aB:aV) (fI:aV) {r:Bool} (hS:Sh.B0 aB fI=some r) :
 Ct Tryz.prog 217 [str aB,str fI] Mo.tt (Ow.emp) (X:=Unit) (fun _ => .bool r) (fun _=>True) (fun _=>Mo.tt) (fun _=>Ow.emp):=by
 refine Zo Tryz.func217 Tryz.ntmps217 fun c => ?_
 unfold Sh.B0 at hS
 refine Zq (Zr ?_)
 refine Zy ?_
 refine Zq (Zr ?_)
 refine Zy ?_
 obtain ⟨iR,lI,hS⟩:=aU hS
 refine Zu (cN (wF aB fI lI) rfl (fun _ _=>rfl)) ?_
 refine Zu (qF rfl rfl) ?_
 refine Zy ?_
 cases hS
 exact Ze
theorem aCZ (aB:aV) (Y4:Bool) {r:Int} (hS:Sh.WU aB Y4=some r) :
 Ct Tryz.prog 139 [str aB,.bool Y4] Mo.tt (Ow.emp) (X:=Unit) (fun _=>i64 r) (fun _=>True) (fun _=>Mo.tt) (fun _=>Ow.emp):=by
 refine Zo Tryz.func139 Tryz.ntmps139 fun c => ?_
 unfold Sh.WU at hS
 refine Zq (Zr ?_)
 refine Zy ?_
 refine Zq (Zb (Zq (Zr ?_)))
 refine Zm ?_
 refine Zu (nT Tryz.underlying9 rfl) ?_
 refine Zu (jF rfl rfl) ?_
 refine Zy ?_
 refine Zc hS (fun h5 hS => ?_) (fun h5 hS => ?_)
 ·
  refine Zq ?_
  cases hS
 refine VC.gD (S:=Bool) (fun (CG:Bool)=>CG) (fun (CG:Bool)=>[(0,str aB),(9,.bool CG)]) (fun (CG:Bool)=>Mo.tt) (fun (CG:Bool)=>Ow.emp) hS ?_ ?_
 ·
  clear hS
  intro k2 hS
  refine Zr ?_
  refine Zy ?_
  refine uV 11 hS (fun h11 hS => ?_) (fun h11 hS => ?_)
  ·
   refine Zg ?_
   refine Zh (yK rfl rfl) ?_
   refine Zy ?_
   refine VL.mt (decide (aB=[])) [0,9] (fun _ _ h=>h) hS rfl
  refine VL.runs 4 [(9,some false)] (by kernel_rfl) ?_
  refine VL.mt false [0,9] (fun _ _ h=>h) hS rfl
 clear hS
 rintro CG hS
 refine iT hS (fun h9 hS => ?_) (fun h9 hS => ?_)
 ·
  refine Zq ?_
  cases hS
 refine Zq (Zr ?_)
 refine Zm ?_
 obtain ⟨vW,K9,hS⟩:=aU hS
 refine Zu (cN (OW aB [10] K9) rfl (fun _ _=>rfl)) ?_
 refine Zy ?_
 refine iT hS (fun h15 hS => ?_) (fun h15 hS => ?_)
 ·
  refine Zq ?_
  cases hS
 refine Zk ?_
 refine Zq (Zr ?_)
 refine Zy ?_
 cases hS
 exact Ze
theorem aCW (cB:pI) {r:Int} (hS:Sh.WR cB.pl=some r) :
 Ct Tryz.prog 92 [.agg #[str cB.verb,str cB.name,i64 cB.n,str cB.text,.bool cB.force,cB.todo.val]] cB.todo.ok (Ow.emp) (X:=Unit) (fun _=>i64 r) (fun _=>True) (fun _=>Mo.tt) (fun _=>Ow.emp):=by
 refine Zo Tryz.func92 Tryz.ntmps92 fun c => ?_
 unfold Sh.WR at hS
 refine Zq (Zr ?_)
 refine VL.box (cs:=[str cB.verb,str cB.name,i64 cB.n,str cB.text,.bool cB.force,cB.todo.val]) rfl rfl (by decide) fun iE => ?_
 refine Zy ?_
 refine Zq (Zq (Zr ?_))
 refine Zu (aC pN rfl) ?_
 refine Zu (aT dK rfl rfl) ?_
 refine Zl ?_
 refine Zb ?_
 refine VC.gD (S:=Bool) (fun (YF:Bool)=>YF) (fun (YF:Bool)=>[(1,ptr iE 0),(4,str cB.verb),(5,.bool YF)]) (fun (YF:Bool)=>Mo.tt) (fun (YF:Bool)=>Ow.star (bP iE [str cB.verb,str cB.name,i64 cB.n,str cB.text,.bool cB.force,cB.todo.val] 101) (Ow.emp)) hS ?_ ?_
 ·
  clear hS
  intro k3 hS
  refine Zq (Zr ?_)
  refine Zy ?_
  refine Zc hS (fun h5 hS => ?_) (fun h5 hS => ?_)
  ·
   refine VC.fZ (decide (cB.verb=[99,111,109,109,105,116])) [1,4,5] (fun _ _ h=>h) hS rfl
  refine Zr ?_
  refine Zy ?_
  refine VL.mt (decide (cB.verb=[115,116,97,115,104])) [1,4,5] (fun _ _ h=>h) hS rfl
 clear hS
 rintro YF hS
 refine iT hS (fun h5 hS => ?_) (fun h5 hS => ?_)
 ·
  refine Zq (Zr ?_)
  refine Zu (aC WY rfl) ?_
  refine Zu (aT dK rfl rfl) ?_
  refine Zu (aC pN rfl) ?_
  refine Zu (aT dK rfl rfl) ?_
  refine Zs ?_
  obtain ⟨G7,aC3,hS⟩:=aU hS
  refine Zu (cN (aCZ cB.text (decide (cB.verb=[99,111,109,109,105,116])) aC3) rfl (fun _ _=>rfl)) ?_
  refine Zy ?_
  cases hS
  exact Ze
 refine Zq (Zr ?_)
 refine Zy ?_
 refine Zc hS (fun h14 hS => ?_) (fun h14 hS => ?_)
 ·
  refine Zq ?_
  cases hS
 refine Zk ?_
 refine Zq (Zr ?_)
 refine Zy ?_
 cases hS
 exact Ze
theorem Q8 (cB:pI) {r:gR} (hS:Sh.K1 cB.pl=some r) :
 Ct Tryz.prog 57 [.agg #[str cB.verb,str cB.name,i64 cB.n,str cB.text,.bool cB.force,cB.todo.val]] cB.todo.ok (Ow.emp) (X:=Er) (fun x=>x.val) (fun x=>r=x.pl) (fun x=>x.ok) (fun x=>Ow.emp):=by
 refine Zo Tryz.func57 Tryz.ntmps57 fun c => ?_
 unfold Sh.K1 at hS
 refine Zq (Zr ?_)
 refine VL.box (cs:=[str cB.verb,str cB.name,i64 cB.n,str cB.text,.bool cB.force,cB.todo.val]) rfl rfl (by decide) fun iE => ?_
 refine Zy ?_
 refine Zq (Zq (Zr ?_))
 refine Zu (aC pN rfl) ?_
 refine Zu (aT dK rfl rfl) ?_
 obtain ⟨uF,zJ,hS⟩:=aU hS
 refine Zu (cN (Q9 cB.verb zJ) rfl (fun _ _=>rfl)) ?_
 refine Zu (dL rfl rfl) ?_
 refine Zl ?_
 refine Zc hS (fun h8 hS => ?_) (fun h8 hS => ?_)
 ·
  refine Zq ?_
  cases hS
 refine Zk ?_
 refine Zq (Zq ?_)
 refine VC.draw [(0,true),(1,true),(2,true),(3,true),(4,true),(5,true),(8,true),(6,false),(7,true)] mixed (by kernel_rfl) (by kernel_rfl) (by kernel_rfl) ?_
 refine Zw rfl (cL oY rfl rfl) ?_
 obtain ⟨zZ,K6,hS⟩:=aU hS
 refine Zw rfl (cN (aCX cB K6) rfl (fun _ _=>rfl)) ?_
 refine Zw rfl (cL oY rfl rfl) ?_
 obtain ⟨C3,T6,hS⟩:=aU hS
 refine Zw rfl (cN (ZY cB T6) rfl (fun _ _=>rfl)) ?_
 refine Zw rfl (cL oY rfl rfl) ?_
 obtain ⟨C4,LB,hS⟩:=aU hS
 refine Zw rfl (cN (aCW cB LB) rfl (fun _ _=>rfl)) ?_
 refine Zw rfl (bT rfl) ?_
 refine VD.one rfl ?_
 refine VL.lit (α:=Int) (xs:=[.tmp 13,.tmp 15,.tmp 17]) (vs:=[i64 zZ,i64 C3,i64 C4]) [zZ,C3,C4] Tryz.underlying174 aR0 (by decide) rfl rfl rfl rfl (by decide) (fun _ _ _ _=>trivial) (by decide) (fun S7 aRf => ?_) (by decide)
 replace hS:=b5 aRf hS
 refine VL.back (D':=[]) (by kernel_rfl) (aN.nil) ?_
 refine Zw rfl (dO (s:=S7) Tryz.underlying174 rfl) ?_
 refine VD.to (fun _ _ h=>h) ?_
 refine VC.keep (ρ':=[(1,ptr iE 0),(20,i64 0),(18,S7.val),(19,i64 (S7.l.length:Int))]) [1,20,18,19] rfl ?_
 refine Zb ?_
 refine VC.iter (S:=Int) (fun (EL:Int)=>EL) (fun (EL:Int)=>[(1,ptr iE 0),(18,S7.val),(19,i64 (S7.l.length:Int)),(20,i64 EL)]) (fun (EL:Int)=>Mo.tt) (fun (EL:Int)=>Ow.star (bP iE [str cB.verb,str cB.name,i64 cB.n,str cB.text,.bool cB.force,cB.todo.val] 101) (Ow.emp)) 0 [1,18,19,20] hS rfl ?_
 clear hS
 rintro EL m1 y1 hS hK1
 refine Zq (Zr ?_)
 refine Zu (dL rfl rfl) ?_
 refine Zl ?_
 refine Zq ?_
 refine Zc hS (fun h21 hS => ?_) (fun h21 hS => ?_)
 ·
  refine Zk ?_
  refine Zq (Zb (Zq (Zr ?_)))
  obtain ⟨aPq,aI1,aHp,hS⟩:=e8 hS
  refine Zu (fM (s:=S7) Tryz.underlying174 aUY rfl rfl aI1 (bQ aI1 aHp)) ?_
  refine Zu (rH (s:=S7) aR1 rfl aHp rfl) ?_
  refine Zy ?_
  refine Zq (Zr ?_)
  refine Zm ?_
  refine Zu (vJ rfl rfl) ?_
  refine Zl ?_
  refine rI hS (fun h25 hS => ?_) (fun h25 hS => ?_)
  ·
   refine Zq ?_
   cases hS
  refine Zk ?_
  refine Zr ?_
  obtain ⟨b30,hS⟩:=bS hS
  refine Zu (cK rfl rfl b30) ?_
  refine Zm ?_
  refine VL.jC (EL+1) [1,18,19,20] (fun _ _ h=>h) (go2 hS hK1) rfl
 replace hS:=gQ hS hK1
 refine Zx ?_
 refine Zq (Zr ?_)
 refine Zy ?_
 cases hS
 exact VC.ret (fA (.inr rfl) rfl rfl .nil rfl rfl (by (try dsimp only); exact cO.out) (fun _ _=>trivial))
theorem aBY (aB:aV) {r:oM×gR} (hS:Sh.R3 aB=some r) :
 Ct Tryz.prog 33 [str aB] Mo.tt (Ow.emp) (X:=pI×Er) (fun x => .tuple #[.agg (bO.enc x.1).toArray,x.2.val]) (fun x=>r=(x.1.pl,x.2.pl)) (fun x=>(x.1.m.and x.2.ok)) (fun x=>Ow.emp):=by
 refine Zo Tryz.func33 Tryz.ntmps33 fun c => ?_
 unfold Sh.R3 at hS
 refine Zq (Zr ?_)
 refine VL.alloc (cs:=[str [],str [],i64 0,str [],.bool false,.slice none 0 0]) (by kernel_rfl) (by decide) fun eP => ?_
 refine Zy ?_
 refine Zq (Zr ?_)
 refine Zm ?_
 obtain ⟨B4,aC4,hS⟩:=aU hS
 refine Zu (cN (M8 aB [10] aC4) rfl (fun _ _=>rfl)) ?_
 refine Zm ?_
 refine Zu (bG rfl rfl) ?_
 refine Zu (bG rfl rfl) ?_
 refine Zu (bG rfl rfl) ?_
 refine Zy ?_
 refine VC.keep (ρ':=[(2,ptr eP 0),(4,str B4.1),(5,str B4.2.1),(6,.bool B4.2.2)]) [2,4,5,6] rfl ?_
 refine Zq (Zr ?_)
 refine Zm ?_
 obtain ⟨z6,aC9,hS⟩:=aU hS
 refine VL.cR (aCY B4.1 aC9) rfl (by decide) ?_
 rintro ⟨e5,aO5⟩ rfl
 try dsimp only
 refine Zm ?_
 refine Zu (bG rfl rfl) ?_
 refine Zu (bG rfl rfl) ?_
 refine VL.alloc (cs:=[str [],str [],i64 0,str [],.bool false,.slice none 0 0]) (by kernel_rfl) (by decide) fun ZS => ?_
 refine Zv (vc:=[str e5.verb,str e5.name,i64 e5.n,str e5.text,.bool e5.force,e5.todo.val]) (cs':=[str e5.verb,str e5.name,i64 e5.n,str e5.text,.bool e5.force,e5.todo.val]) rfl LJ ?_
 refine Zy ?_
 refine Zq (Zb (Zq (Zr ?_)))
 refine Zu (aC pN rfl) ?_
 refine Zu (aT dK rfl rfl) ?_
 obtain ⟨aGt,aQ7,hS⟩:=aU hS
 refine Zu (cN (Q9 e5.verb aQ7) rfl (fun _ _=>rfl)) ?_
 refine Zu (dL rfl rfl) ?_
 refine Zy ?_
 refine VC.keep (ρ':=[(2,ptr eP 0),(5,str B4.2.1),(6,.bool B4.2.2),(7,ptr ZS 0),(8,.bool aO5),(23,.bool (decide (aGt < 0)))]) [2,5,6,7,8,23] rfl ?_
 refine Zc hS (fun h23 hS => ?_) (fun h23 hS => ?_)
 ·
  refine Zq ?_
  cases hS
 refine VC.gD (S:=Bool) (fun (PI:Bool)=>PI) (fun (PI:Bool)=>[(2,ptr eP 0),(5,str B4.2.1),(7,ptr ZS 0),(32,.bool PI)]) (fun (PI:Bool)=>Mo.tt) (fun (PI:Bool)=>Ow.star (bP ZS [str e5.verb,str e5.name,i64 e5.n,str e5.text,.bool e5.force,e5.todo.val] 101) (Ow.star (bP eP [str [],str [],i64 0,str [],.bool false,.slice none 0 0] 101) (Ow.emp))) hS ?_ ?_
 ·
  clear hS
  intro k7 hS
  refine Zr ?_
  refine Zm ?_
  refine Zu (lN rfl) ?_
  refine Zm ?_
  refine uV 35 hS (fun h35 hS => ?_) (fun h35 hS => ?_)
  ·
   refine VL.runs 8 [(32,some true)] (by kernel_rfl) ?_
   refine VL.mt true [2,5,7,32] (fun _ _ h=>h) hS rfl
  refine Zy ?_
  refine uV 37 hS (fun h37 hS => ?_) (fun h37 hS => ?_)
  ·
   refine Zh (aC pN rfl) ?_
   refine Zh (aT dK rfl rfl) ?_
   refine Zh (rL rfl rfl) ?_
   refine Zh (jR rfl rfl) ?_
   refine Zy ?_
   refine VL.mt (!decide (e5.verb=[114,101,98,97,115,101])) [2,5,7,32] (fun _ _ h=>h) hS rfl
  refine VL.runs 3 [(40,none)] (by kernel_rfl) ?_
  refine Zh (iG rfl rfl) ?_
  refine Zy ?_
  refine VL.mt false [2,5,7,32] (fun _ _ h=>h) hS rfl
 clear hS
 rintro PI hS
 refine iT hS (fun h32 hS => ?_) (fun h32 hS => ?_)
 ·
  refine Zq ?_
  cases hS
 refine Zq (Zr ?_)
 refine Zu (aC pN rfl) ?_
 refine Zu (aT dK rfl rfl) ?_
 refine Zy ?_
 refine Zc hS (fun h47 hS => ?_) (fun h47 hS => ?_)
 ·
  refine Zq ?_
  cases hS
 refine Zk ?_
 refine Zq (Zq (Zr ?_))
 refine Zu (cL oY rfl rfl) ?_
 obtain ⟨aPk,aRN,hS⟩:=aU hS
 refine VL.cR (Q8 e5 aRN) rfl (by decide) ?_
 rintro aOm rfl
 try dsimp only
 refine Zy ?_
 refine VC.keep (ρ':=[(2,ptr eP 0),(7,ptr ZS 0),(11,aOm.val)]) [2,7,11] rfl ?_
 refine Zq (Zr ?_)
 refine Zm ?_
 refine Zu (nD Tryz.underlying27 rfl) ?_
 refine Zl ?_
 refine rI hS (fun h67 hS => ?_) (fun h67 hS => ?_)
 ·
  refine Zq ?_
  cases hS
 refine Zk ?_
 refine Zq (Zr ?_)
 refine Zu (cL oY rfl rfl) ?_
 refine Zv (vc:=[str e5.verb,str e5.name,i64 e5.n,str e5.text,.bool e5.force,e5.todo.val]) (cs':=[str e5.verb,str e5.name,i64 e5.n,str e5.text,.bool e5.force,e5.todo.val]) rfl LJ ?_
 refine Zy ?_
 cases hS
 exact VC.ret (jV (vs:=[.agg #[str e5.verb,str e5.name,i64 e5.n,str e5.text,.bool e5.force,e5.todo.val],.nilIface]) (.inr rfl) rfl (eW.cell oY rfl rfl Rd.blk (eW.tmp rfl (eW.nil))) (⟨e5.verb,e5.name,e5.n,e5.text,e5.force,e5.todo⟩,.nil) rfl rfl (by (try dsimp only); exact cO.out) (fun _ _=>trivial))
theorem aAs (dZ:Sv aK) (p_1:aV) {r:Bool} (hS:Sh.OM dZ.l p_1=some r) :
 Ct Tryz.prog 146 [dZ.val,str p_1] dZ.ok (Ow.emp) (X:=Unit) (fun _ => .bool r) (fun _=>True) (fun _=>Mo.tt) (fun _=>Ow.emp):=by
 refine Zo Tryz.func146 Tryz.ntmps146 fun c => ?_
 unfold Sh.OM at hS
 refine Zq (Zr ?_)
 refine VL.box (cs:=[str p_1]) rfl rfl (by decide) fun iM => ?_
 refine Zy ?_
 refine Zq ?_
 cases hS
theorem kP (aB:Sv aK) {r:List aK} (hS:Sh.gW aB.l=some r) :
 Ct Tryz.prog 237 [aB.val] aB.ok (Ow.emp) (X:=Sv aK) (fun x=>x.val) (fun x=>r=x.l) (fun x=>Mo.tt) (fun x=>Sv.own x 97):=by
 refine Zo Tryz.func237 Tryz.ntmps237 fun c => ?_
 unfold Sh.gW at hS
 refine Zq (Zr ?_)
 refine Zy ?_
 refine Zq (Zq (Zr ?_))
 refine Zm ?_
 refine Zu (DZ (s:=aB) Tryz.underlying36 rfl) ?_
 refine Zl ?_
 refine VC.slnil (s:=aB) rfl (fun h4 => ?_) ?_
 ·
  have hS:(some [])=some r:=by
    simp [lt,gd,h4] at hS ⊢
    try exact hS
  refine Zq (Zr ?_)
  refine Zy ?_
  refine VC.lR (⟨none,0,[]⟩:Sv aK) 97 ⟨rfl,rfl⟩ ?_
  cases hS
  exact VC.ret (fA (.inr rfl) rfl rfl ⟨none,0,[]⟩ rfl rfl (by (try dsimp only); exact cO.out) (by (try dsimp only); exact eT.out))
 refine Zk ?_
 refine Zq (Zr ?_)
 refine VL.YE (α:=aK) Tryz.underlying36 aRX (by decide) (fun wY qD uM => ?_)
 refine VL.lR wY 97 ⟨uM,qD⟩ ?_
 replace hS:=b5 qD hS
 refine Zm ?_
 obtain ⟨b7,hS⟩:=bS hS
 refine VL.app (s:=wY) (r:=aB) Tryz.underlying36 UE (by decide) rfl Fo.out (uW b7) (uX b7 (by decide)) (by decide) (fun GY yI => ?_)
 replace hS:=b5 yI hS
 refine Zy ?_
 cases hS
 exact VC.ret (fA (.inr rfl) rfl rfl GY rfl rfl (by (try dsimp only); exact cO.out) (by (try dsimp only); exact eT.out))
theorem YH (fL:aK) (e_1:aK) {r:Bool} (hS:Sh.LO fL e_1=some r) :
 Ct Tryz.prog 310 [.agg #[str fL.path,i64 fL.fS,i64 fL.mode,str fL.data,i64 fL.time,i64 fL.size],.agg #[str e_1.path,i64 e_1.fS,i64 e_1.mode,str e_1.data,i64 e_1.time,i64 e_1.size]] Mo.tt (Ow.emp) (X:=Unit) (fun _ => .bool r) (fun _=>True) (fun _=>Mo.tt) (fun _=>Ow.emp):=by
 refine Zo Tryz.func310 Tryz.ntmps310 fun c => ?_
 unfold Sh.LO at hS
 refine Zq (Zr ?_)
 refine VL.box (cs:=[str fL.path,i64 fL.fS,i64 fL.mode,str fL.data,i64 fL.time,i64 fL.size]) rfl rfl (by decide) fun eP => ?_
 refine VL.box (cs:=[str e_1.path,i64 e_1.fS,i64 e_1.mode,str e_1.data,i64 e_1.time,i64 e_1.size]) rfl rfl (by decide) fun jX => ?_
 refine Zy ?_
 refine Zq (Zb (Zq (Zr ?_)))
 refine Zu (aC wK rfl) ?_
 refine Zu (aT dK rfl rfl) ?_
 refine Zu (aC wK rfl) ?_
 refine Zu (aT dK rfl rfl) ?_
 obtain ⟨qJ,EY,hS⟩:=aU hS
 refine Zu (cN (wR fL.path e_1.path EY) rfl (fun _ _=>rfl)) ?_
 refine Zy ?_
 refine VC.keep (ρ':=[(2,ptr eP 0),(3,ptr jX 0),(5,.bool qJ)]) [2,3,5] rfl ?_
 refine iT hS (fun h5 hS => ?_) (fun h5 hS => ?_)
 ·
  refine Zq ?_
  cases hS
 refine Zq (Zr ?_)
 refine Zu (aC wK rfl) ?_
 refine Zu (aT dK rfl rfl) ?_
 refine Zu (aC wK rfl) ?_
 refine Zu (aT dK rfl rfl) ?_
 refine Zu (rL rfl rfl) ?_
 refine Zy ?_
 refine rI hS (fun h11 hS => ?_) (fun h11 hS => ?_)
 ·
  refine Zq (Zr ?_)
  refine Zy ?_
  cases hS
  exact Ze
 refine Zk ?_
 refine Zq (Zq ?_)
 cases hS
theorem MX (fL:aK) (gS:Nat) (a_1:aK) {r:Bool} (hS:Sh.E7 fL a_1=some r) :
 Ct Tryz.prog 309 [.agg #[str fL.path,i64 fL.fS,i64 fL.mode,str fL.data,i64 fL.time,i64 fL.size],ptr gS 0] (Cells gS 0 [str a_1.path,i64 a_1.fS,i64 a_1.mode,str a_1.data,i64 a_1.time,i64 a_1.size]) (Ow.emp) (X:=Unit) (fun _ => .bool r) (fun _=>True) (fun _=>Mo.tt) (fun _=>Ow.emp):=by
 refine Zo Tryz.func309 Tryz.ntmps309 fun c => ?_
 unfold Sh.E7 at hS
 refine Zq (Zr ?_)
 refine VL.box (cs:=[str fL.path,i64 fL.fS,i64 fL.mode,str fL.data,i64 fL.time,i64 fL.size]) rfl rfl (by decide) fun eP => ?_
 refine Zy ?_
 refine Zq (Zr ?_)
 refine Zu (cL pM rfl rfl) ?_
 refine Zu (aUd pM rfl rfl) ?_
 obtain ⟨II,SA,hS⟩:=aU hS
 refine Zu (cN (YH fL a_1 SA) rfl (fun _ _=>rfl)) ?_
 refine Zy ?_
 cases hS
 exact Ze
theorem tW (aB:Sv aK) (eC:Nat) (eU:aK) {r:Int} (hS:Sh.kG aB.l eU=some r) :
 Ct Tryz.prog 308 [aB.val,.func (.func 309) #[] #[ptr eC 0]] (aB.ok.and (Cells eC 0 [str eU.path,i64 eU.fS,i64 eU.mode,str eU.data,i64 eU.time,i64 eU.size])) (Ow.emp) (X:=Unit) (fun _=>i64 r) (fun _=>True) (fun _=>Mo.tt) (fun _=>Ow.emp):=by
 refine Zo Tryz.func308 Tryz.ntmps308 fun c => ?_
 unfold Sh.kG at hS
 refine Zq (Zr ?_)
 refine Zy ?_
 refine Zq (Zq (Zr ?_))
 refine Zm ?_
 refine Zu (dO (s:=aB) Tryz.underlying36 rfl) ?_
 refine Zy ?_
 refine Zb ?_
 refine VC.iter (S:=Int) (fun (cS:Int)=>cS) (fun (cS:Int)=>[(0,aB.val),(1,.func (.func 309) #[] #[ptr eC 0]),(7,i64 (aB.l.length:Int)),(8,i64 cS)]) (fun (cS:Int)=>Mo.tt) (fun (cS:Int)=>Ow.emp) 0 [0,1,7,8] hS rfl ?_
 clear hS
 rintro cS m1 y1 hS hK1
 refine Zq (Zr ?_)
 refine Zu (dL rfl rfl) ?_
 refine Zl ?_
 refine Zq ?_
 refine Zc hS (fun h9 hS => ?_) (fun h9 hS => ?_)
 ·
  refine Zk ?_
  refine Zq (Zb (Zq (Zr ?_)))
  refine Zy ?_
  refine Zq (Zr ?_)
  refine Zy ?_
  obtain ⟨gF,mD,mC,hS⟩:=e8 hS
  refine Zu (fM (s:=aB) Tryz.underlying36 jM rfl rfl mD (bQ mD mC)) ?_
  refine Zu (lZ (s:=aB) pM rfl rfl mC) ?_
  obtain ⟨kQ,rV,hS⟩:=aU hS
  refine Zu (tN (vs:=[.agg #[str gF.path,i64 gF.fS,i64 gF.mode,str gF.data,i64 gF.time,i64 gF.size]]) (caps:=[ptr eC 0]) (MX gF eC eU rV) rfl rfl (fun _ _=>rfl)) ?_
  refine Zl ?_
  refine VC.keep (ρ':=[(0,aB.val),(1,.func (.func 309) #[] #[ptr eC 0]),(7,i64 (aB.l.length:Int)),(8,i64 cS),(5,i64 cS),(16,.bool kQ)]) [0,1,7,8,5,16] rfl ?_
  refine iT hS (fun h16 hS => ?_) (fun h16 hS => ?_)
  ·
   refine Zq (Zr ?_)
   refine Zy ?_
   replace hS:=gQ hS hK1
   cases hS
   exact Ze
  refine Zk ?_
  refine Zr ?_
  obtain ⟨b18,hS⟩:=bS hS
  refine Zu (cK rfl rfl b18) ?_
  refine Zm ?_
  refine VL.jC (cS+1) [0,1,7,8] (fun _ _ h=>h) (go2 hS hK1) rfl
 replace hS:=gQ hS hK1
 refine Zx ?_
 refine Zq (Zr ?_)
 refine Zy ?_
 cases hS
 exact Ze
theorem sY (aB:Sv aK) (dJ:Nat) (dX:aK) {r:List aK} (hS:Sh.kC aB.l dX=some r) :
 Ct Tryz.prog 236 [aB.val,.func (.func 309) #[] #[ptr dJ 0]] Mo.tt (Ow.star (Sv.own aB 97) (bP dJ [str dX.path,i64 dX.fS,i64 dX.mode,str dX.data,i64 dX.time,i64 dX.size] 97)) (X:=Sv aK) (fun x=>x.val) (fun x=>r=x.l) (fun x=>Mo.tt) (fun x=>Ow.star (Sv.own x 97) (bP dJ [str dX.path,i64 dX.fS,i64 dX.mode,str dX.data,i64 dX.time,i64 dX.size] 97)):=by
 refine Zo Tryz.func236 Tryz.ntmps236 fun c => ?_
 unfold Sh.kC at hS
 refine Zq (Zr ?_)
 refine Zy ?_
 refine Zq (Zr ?_)
 refine Zy ?_
 obtain ⟨dG,lU,hS⟩:=aU hS
 refine Zu (oO (tW aB dJ dX lU) rfl (fun _ _=>rfl)) ?_
 refine Zy ?_
 refine Zq (Zq (Zr ?_))
 refine Zm ?_
 refine Zu (hU rfl rfl) ?_
 refine Zl ?_
 refine Zc hS (fun h12 hS => ?_) (fun h12 hS => ?_)
 ·
  refine Zq (Zr ?_)
  refine Zy ?_
  cases hS
  exact VC.ret (fA (.inr rfl) rfl rfl aB rfl rfl (by (try dsimp only); exact cO.out) (by (try dsimp only); exact eT.out))
 refine Zk ?_
 refine Zq (Zq (Zr ?_))
 refine Zm ?_
 obtain ⟨b15,hS⟩:=bS hS
 refine Zu (cK rfl rfl b15) ?_
 refine Zy ?_
 refine VC.keep (ρ':=[(0,aB.val),(1,.func (.func 309) #[] #[ptr dJ 0]),(5,i64 dG),(6,i64 (dG+1))]) [0,1,5,6] rfl ?_
 refine Zb ?_
 refine VC.iter (S:=Sv aK×Int×Int) (fun sg=>(sg.1.l,sg.2.1,sg.2.2)) (fun sg=>[(0,sg.1.val),(1,.func (.func 309) #[] #[ptr dJ 0]),(5,i64 sg.2.1),(6,i64 sg.2.2)]) (fun sg=>Mo.tt) (fun sg=>Ow.star (bP dJ [str dX.path,i64 dX.fS,i64 dX.mode,str dX.data,i64 dX.time,i64 dX.size] 97) (Ow.star (Sv.own sg.1 97) (Ow.emp))) (aB,dG,(dG+1)) [0,1,5,6] hS rfl ?_
 clear hS
 rintro ⟨e6,gH,kU⟩ m1 y1 hS hK1
 refine Zq (Zq (Zr ?_))
 refine Zy ?_
 refine Zu (dO (s:=e6) Tryz.underlying36 rfl) ?_
 refine Zu (dL rfl rfl) ?_
 refine Zl ?_
 refine Zc hS (fun h19 hS => ?_) (fun h19 hS => ?_)
 ·
  refine Zk ?_
  refine VC.gD (S:=Sv aK×Int) (fun sg=>(sg.1.l,sg.2)) (fun sg=>[(0,sg.1.val),(1,.func (.func 309) #[] #[ptr dJ 0]),(5,i64 sg.2),(6,i64 kU)]) (fun sg=>Mo.tt) (fun sg=>Ow.star (bP dJ [str dX.path,i64 dX.fS,i64 dX.mode,str dX.data,i64 dX.time,i64 dX.size] 97) (Ow.star (Sv.own sg.1 97) (Ow.emp))) hS ?_ ?_
  ·
   clear hS
   intro k7 hS
   refine Zb (Zq (Zr ?_))
   refine Zy ?_
   obtain ⟨cY,wB,v7,hS⟩:=e8 hS
   refine Zu (l5 (s:=e6) Tryz.underlying36 jM rfl rfl wB (bQ wB v7)) ?_
   refine Zu (VT (s:=e6) pM rfl rfl v7) ?_
   refine VL.alloc (cs:=[str [],i64 0,i64 0,str [],i64 0,i64 0]) (by kernel_rfl) (by decide) fun ZT => ?_
   refine Zv (vc:=[str cY.path,i64 cY.fS,i64 cY.mode,str cY.data,i64 cY.time,i64 cY.size]) (cs':=[str cY.path,i64 cY.fS,i64 cY.mode,str cY.data,i64 cY.time,i64 cY.size]) rfl jM ?_
   refine Zl ?_
   refine VC.keep (ρ':=[(0,e6.val),(1,.func (.func 309) #[] #[ptr dJ 0]),(5,i64 gH),(6,i64 kU),(7,ptr ZT 0)]) [0,1,5,6,7] rfl ?_
   refine Zq (Zr ?_)
   refine Zm ?_
   refine Zu (cL pM rfl rfl) ?_
   obtain ⟨wH,AY,hS⟩:=aU hS
   refine Zu (tN (vs:=[.agg #[str cY.path,i64 cY.fS,i64 cY.mode,str cY.data,i64 cY.time,i64 cY.size]]) (caps:=[ptr dJ 0]) (MX cY dJ dX AY) rfl rfl (fun _ _=>rfl)) ?_
   refine Zu (lN rfl) ?_
   refine Zl ?_
   refine iT hS (fun h29 hS => ?_) (fun h29 hS => ?_)
   ·
    refine Zq (Zr ?_)
    refine Zy ?_
    refine Zu (cL pM rfl rfl) ?_
    obtain ⟨MT,wO,wM,hS⟩:=e8 hS
    refine Zu (l5 (s:=e6) Tryz.underlying36 jM rfl rfl wO (bQ wO wM)) ?_
    refine VL.sJ (s:=e6) (T:=97) (j:=0) (vc:=[str cY.path,i64 cY.fS,i64 cY.mode,str cY.data,i64 cY.time,i64 cY.size]) (⟨cY.path,cY.fS,cY.mode,cY.data,cY.time,cY.size⟩:aK) (by decide) rfl rfl wM rfl jM rfl rfl (Nat.le_of_ble_eq_true rfl) rfl (fun w12 hw12 haw12 hcw12 hvw12 hbw12 how12 => ?_)
    rw [← hvw12]
    replace hS:=b5 hw12 hS
    refine Zl ?_
    refine VC.keep (ρ':=[(0,w12.val),(1,.func (.func 309) #[] #[ptr dJ 0]),(5,i64 gH),(6,i64 kU)]) [0,1,5,6] rfl ?_
    refine Zr ?_
    refine Zm ?_
    obtain ⟨b35,hS⟩:=bS hS
    refine Zu (cK rfl rfl b35) ?_
    refine Za ?_
    refine VL.mt (w12,(gH+1)) [0,1,5,6] (fun _ _ h=>h) hS rfl
   refine VC.fZ (e6,gH) [0,1,5,6] (fun _ _ h=>h) hS rfl
  clear hS
  rintro ⟨BO,BC⟩ hS
  refine Zr ?_
  refine Zm ?_
  obtain ⟨b21,hS⟩:=bS hS
  refine Zu (cK rfl rfl b21) ?_
  refine Za ?_
  refine VL.jC (BO,BC,(kU+1)) [0,1,5,6] (fun _ _ h=>h) (go2 hS hK1) rfl
 replace hS:=gQ hS hK1
 refine Zx ?_
 refine Zq (Zr ?_)
 refine Zy ?_
 obtain ⟨b38,hS⟩:=bS hS
 refine VL.fits (s:=e6) (e:=97) Fo.out fun A3 => ?_
 refine Zu (HX (s:=e6) Tryz.underlying36 jM rfl rfl b38.1 b38.2 A3) ?_
 refine VL.aEK (s:=e6) (i:=gH.toNat) (.agg #[str [],i64 0,i64 0,str [],i64 0,i64 0]) Tryz.underlying36 aNY rfl rfl rfl (by have:=b38; dsimp only at this ⊢; omega) Fo.out fun BQ GF G3 => ?_
 replace hS:=b5 GF hS
 refine Zl ?_
 refine VC.keep (ρ':=[(0,e6.val),(5,i64 gH)]) [0,5] rfl ?_
 refine Zq (Zr ?_)
 refine Zy ?_
 refine Zu (VS (s:=e6) (q:=BQ) Tryz.underlying36 jM rfl rfl b38.1 b38.2 A3 G3) ?_
 refine Zy ?_
 cases hS
 exact VC.ret (fA (.inr rfl) rfl rfl BQ rfl rfl (by (try dsimp only); exact cO.out) (by (try dsimp only); exact eT.out))
theorem HL (fL:Int) {r:Bool} (hS:Sh.cmp_isNaN_int fL=some r) :
 Ct Tryz.prog 368 [i64 fL] Mo.tt (Ow.emp) (X:=Unit) (fun _ => .bool r) (fun _=>True) (fun _=>Mo.tt) (fun _=>Ow.emp):=by
 refine Zo Tryz.func368 Tryz.ntmps368 fun c => ?_
 unfold Sh.cmp_isNaN_int at hS
 refine Zq (Zr ?_)
 refine Zy ?_
 refine Zq (Zr ?_)
 refine Zy ?_
 refine Zu (vJ rfl rfl) ?_
 refine Zy ?_
 cases hS
 exact Ze
theorem QW (fL:Int) (vC:Int) {r:Int} (hS:Sh.CN fL vC=some r) :
 Ct Tryz.prog 351 [i64 fL,i64 vC] Mo.tt (Ow.emp) (X:=Unit) (fun _=>i64 r) (fun _=>True) (fun _=>Mo.tt) (fun _=>Ow.emp):=by
 refine Zo Tryz.func351 Tryz.ntmps351 fun c => ?_
 unfold Sh.CN at hS
 refine Zq (Zr ?_)
 refine Zy ?_
 refine Zq (Zr ?_)
 refine Zm ?_
 obtain ⟨B6,F1,hS⟩:=aU hS
 refine Zu (cN (HL fL F1) rfl (fun _ _=>rfl)) ?_
 refine Zy ?_
 refine Zq (Zr ?_)
 refine Zm ?_
 obtain ⟨eS,EX,hS⟩:=aU hS
 refine Zu (cN (HL vC EX) rfl (fun _ _=>rfl)) ?_
 refine Zy ?_
 refine Zq (Zq (Zr ?_))
 refine Zy ?_
 refine iT hS (fun h11 hS => ?_) (fun h11 hS => ?_)
 ·
  refine Zq (Zq (Zr ?_))
  refine Zy ?_
  refine VC.keep (ρ':=[(12,.bool eS)]) [12] rfl ?_
  refine iT hS (fun h12 hS => ?_) (fun h12 hS => ?_)
  ·
   refine Zq (Zr ?_)
   refine Zy ?_
   cases hS
   exact Ze
  refine Zk ?_
  refine Zq (Zr ?_)
  refine Zy ?_
  cases hS
  exact Ze
 refine Zk ?_
 refine Zq (Zq (Zr ?_))
 refine Zy ?_
 refine VC.keep (ρ':=[(0,i64 fL),(1,i64 vC),(13,.bool eS)]) [0,1,13] rfl ?_
 refine iT hS (fun h13 hS => ?_) (fun h13 hS => ?_)
 ·
  refine Zq (Zr ?_)
  refine Zy ?_
  cases hS
  exact Ze
 refine Zk ?_
 refine Zq (Zq (Zr ?_))
 refine Zy ?_
 refine Zu (dL rfl rfl) ?_
 refine Zl ?_
 refine Zc hS (fun h16 hS => ?_) (fun h16 hS => ?_)
 ·
  refine Zq (Zr ?_)
  refine Zy ?_
  cases hS
  exact Ze
 refine Zk ?_
 refine Zq (Zq (Zr ?_))
 refine Zy ?_
 refine Zu (jF rfl rfl) ?_
 refine Zl ?_
 refine Zc hS (fun h19 hS => ?_) (fun h19 hS => ?_)
 ·
  refine Zq (Zr ?_)
  refine Zy ?_
  cases hS
  exact Ze
 refine Zk ?_
 refine Zq (Zr ?_)
 refine Zy ?_
 cases hS
 exact Ze
theorem ZZ (yC:Sv Int) {r:Int} (hS:Sh.NK yC.l=some r) :
 Ct Tryz.prog 350 [yC.val] yC.ok (Ow.emp) (X:=Unit) (fun _=>i64 r) (fun _=>True) (fun _=>Mo.tt) (fun _=>Ow.emp):=by
 refine Zo Tryz.func350 Tryz.ntmps350 fun c => ?_
 unfold Sh.NK at hS
 refine Zq (Zr ?_)
 refine Zy ?_
 refine Zq (Zr ?_)
 refine Zy ?_
 refine Zq (Zq (Zr ?_))
 refine Zm ?_
 refine Zu (dO (s:=yC) Tryz.underlying65 rfl) ?_
 refine Zy ?_
 refine Zb ?_
 refine VC.iter (S:=Int) (fun (cS:Int)=>cS) (fun (cS:Int)=>[(3,i64 0),(6,yC.val),(7,i64 (yC.l.length:Int)),(8,i64 cS)]) (fun (cS:Int)=>Mo.tt) (fun (cS:Int)=>Ow.emp) 0 [3,6,7,8] hS rfl ?_
 clear hS
 rintro cS m1 y1 hS hK1
 refine Zq (Zr ?_)
 refine Zu (dL rfl rfl) ?_
 refine Zl ?_
 refine Zq ?_
 refine Zc hS (fun h9 hS => ?_) (fun h9 hS => ?_)
 ·
  refine Zk ?_
  refine Zq (Zb (Zq (Zr ?_)))
  obtain ⟨uU,U2,UM,hS⟩:=e8 hS
  refine Zu (fM (s:=yC) Tryz.underlying65 AE rfl rfl U2 (bQ U2 UM)) ?_
  refine Zu (rH (s:=yC) fG rfl UM rfl) ?_
  refine Zy ?_
  refine Zq (Zr ?_)
  refine Zy ?_
  refine Zu (vJ rfl rfl) ?_
  refine Zl ?_
  refine rI hS (fun h14 hS => ?_) (fun h14 hS => ?_)
  ·
   refine Zq (Zr ?_)
   refine Zy ?_
   refine VC.keep (ρ':=[(2,i64 uU)]) [2] rfl ?_
   replace hS:=gQ hS hK1
   cases hS
   exact Ze
  refine Zk ?_
  refine VC.keep (ρ':=[(3,i64 0),(6,yC.val),(7,i64 (yC.l.length:Int)),(8,i64 cS)]) [3,6,7,8] rfl ?_
  refine Zr ?_
  obtain ⟨b16,hS⟩:=bS hS
  refine Zu (cK rfl rfl b16) ?_
  refine Zm ?_
  refine VL.jC (cS+1) [3,6,7,8] (fun _ _ h=>h) (go2 hS hK1) rfl
 replace hS:=gQ hS hK1
 refine Zx ?_
 refine Zq (Zr ?_)
 refine Zy ?_
 cases hS
 exact Ze
theorem UT (bU:aK) (b_1:aK) {r:Int} (hS:Sh.GH bU b_1=some r) :
 Ct Tryz.prog 311 [.agg #[str bU.path,i64 bU.fS,i64 bU.mode,str bU.data,i64 bU.time,i64 bU.size],.agg #[str b_1.path,i64 b_1.fS,i64 b_1.mode,str b_1.data,i64 b_1.time,i64 b_1.size]] Mo.tt (Ow.emp) (X:=Unit) (fun _=>i64 r) (fun _=>True) (fun _=>Mo.tt) (fun _=>Ow.emp):=by
 refine Zo Tryz.func311 Tryz.ntmps311 fun c => ?_
 unfold Sh.GH at hS
 refine Zq (Zr ?_)
 refine VL.box (cs:=[str bU.path,i64 bU.fS,i64 bU.mode,str bU.data,i64 bU.time,i64 bU.size]) rfl rfl (by decide) fun eP => ?_
 refine VL.box (cs:=[str b_1.path,i64 b_1.fS,i64 b_1.mode,str b_1.data,i64 b_1.time,i64 b_1.size]) rfl rfl (by decide) fun jX => ?_
 refine Zy ?_
 refine Zq ?_
 refine VC.draw [(0,true),(1,true),(2,true),(3,true),(4,true),(5,true),(6,true),(7,true),(8,true),(9,true),(10,false),(11,true),(12,true)] mixed (by kernel_rfl) (by kernel_rfl) (by kernel_rfl) ?_
 refine Zw rfl (aC wK rfl) ?_
 refine Zw rfl (aT dK rfl rfl) ?_
 refine Zw rfl (aC wK rfl) ?_
 refine Zw rfl (aT dK rfl rfl) ?_
 obtain ⟨PU,aUN,hS⟩:=aU hS
 refine Zw rfl (cN (CV bU.path b_1.path aUN) rfl (fun _ _=>rfl)) ?_
 refine Zw rfl (aC F9 rfl) ?_
 refine Zw rfl (aT fG rfl rfl) ?_
 refine Zw rfl (aC F9 rfl) ?_
 refine Zw rfl (aT fG rfl rfl) ?_
 obtain ⟨aD8,aQB,hS⟩:=aU hS
 refine Zw rfl (cN (QW bU.fS b_1.fS aQB) rfl (fun _ _=>rfl)) ?_
 refine VD.one rfl ?_
 refine VL.lit (α:=Int) (xs:=[.tmp 9,.tmp 14]) (vs:=[i64 PU,i64 aD8]) [PU,aD8] Tryz.underlying65 oI (by decide) rfl rfl rfl rfl (by decide) (fun _ _ _ _=>trivial) (by decide) (fun aUm aR9 => ?_) (by decide)
 replace hS:=b5 aR9 hS
 refine VL.back (D':=[]) (by kernel_rfl) (aN.nil) ?_
 obtain ⟨aBJ,aQI,hS⟩:=aU hS
 refine Zw rfl (cN (ZZ aUm aQI) rfl (fun _ _=>rfl)) ?_
 refine Zw rfl (fT rfl) ?_
 refine VD.to (fun _ _ h=>h) ?_
 refine VC.keep (ρ':=[(4,i64 aBJ)]) [4] rfl ?_
 cases hS
 exact Ze
theorem aDE (s v:Sv aK) (i:Int) (hi:0≤i∧i≤(s.l.length:Int)) (hv:v.l≠[]) (hb:s.l.length+v.l.length≤4294967296):Ct Tryz.prog 312 [s.val,i64 i,v.val] Mo.tt (Ow.star (s.own 97) (v.own 97)) (X:=Sv aK) (fun q=>q.val) (fun q=>q.l=s.l.take i.toNat++v.l++s.l.drop i.toNat) (fun _=>Mo.tt) (fun q=>q.own 97):=by
 refine Zo Tryz.func312 Tryz.ntmps312 fun c => ?_
 have hvp:0 < v.l.length:=List.length_pos_iff.2 hv
 have hK:bO.sz aK=6:=rfl
 refine Zq (Zr ?_)
 refine Zy ?_
 refine Zq (Zr ?_)
 refine Zy ?_
 refine VL.fits (s:=s) (e:=97) Fo.out fun hf => ?_
 refine Zu (HX (s:=s) Tryz.underlying36 jM rfl rfl hi.1 hi.2 hf) ?_
 refine Zl ?_
 refine Zq (Zr ?_)
 refine Zm ?_
 refine Zu (dO (s:=v) Tryz.underlying36 rfl) ?_
 refine Zy ?_
 refine Zq (Zq (Zr ?_))
 refine Zm ?_
 refine Zu (hU rfl rfl) ?_
 refine Zl ?_
 refine VC.vE rfl (fun h16=>absurd h16 (by omega)) (fun h16 => ?_)
 refine Zk ?_
 refine Zq (Zr ?_)
 refine Zm ?_
 refine Zu (dO (s:=s) Tryz.underlying36 rfl) ?_
 refine Zy ?_
 refine Zq (Zq (Zr ?_))
 refine Zy ?_
 refine Zu (hU rfl rfl) ?_
 refine Zl ?_
 refine VC.vE rfl (fun h22 => ?_) (fun h22 => ?_)
 ·
  refine Zq (Zr ?_)
  refine Zy ?_
  refine VL.shut v 97 (fun _ _ _ _=>trivial) ?_
  refine VL.aLM (s:=s) (r:=v) Tryz.underlying36 Tryz.underlying36 UE (by decide) rfl Fo.out (uW hb) (uX hb (by decide)) (by decide) (fun q hq => ?_)
  refine Zy ?_
  have e1:i.toNat=s.l.length:=by omega
  exact VC.ret (fA (.inr rfl) rfl rfl q rfl (by rw [hq,e1,List.take_length,List.drop_length,List.append_nil]) (fun _ _=>trivial) eT.out)
 have hin:i < (s.l.length:Int):=by omega
 have hne:s.l≠[]:=fun h=>by rw [h] at hin; simp at hin; omega
 have hkq:(s.l.length:Int)+(v.l.length:Int) - i=((s.l.length+v.l.length - i.toNat:Nat):Int):=by omega
 have hLn:(s.l.take i.toNat++v.l++s.l.drop i.toNat).length=s.l.length+v.l.length:=by simp only [List.length_append,List.length_take,List.length_drop]; omega
 have hfl:(s.l.take i.toNat++v.l++s.l.drop i.toNat).flatMap bO.enc=(s.l.take i.toNat).flatMap bO.enc++v.l.flatMap bO.enc++(s.l.drop i.toNat).flatMap bO.enc:=by rw [List.flatMap_append,List.flatMap_append]
 have lA:((s.l.take i.toNat).flatMap bO.enc).length=i.toNat*6:=by rw [gU,List.length_take,hK,Nat.min_eq_left (by omega)]
 have lV:(v.l.flatMap bO.enc).length=v.l.length*6:=by rw [gU,hK]
 have lS:((s.l.drop i.toNat).flatMap bO.enc).length=(s.l.length - i.toNat)*6:=by rw [gU,List.length_drop,hK]
 refine Zk ?_
 refine Zq (Zq (Zr ?_))
 refine Zy ?_
 refine Zu (cK rfl rfl ⟨by omega,by omega⟩) ?_
 refine Zm ?_
 refine Zu (aDU (a0:=s.a) (L:=s.l.length) (C:=s.c) Tryz.underlying36 rfl) ?_
 refine Zu (jF rfl rfl) ?_
 refine Zl ?_
 refine VC.vE rfl (fun h31 => ?_) (fun h31 => ?_)
 ·
  refine VC.shut s 97 (fun _ _ _ _=>trivial) ?_
  refine VC.shut v 97 (fun _ _ _ _=>trivial) ?_
  refine Zq (Zr ?_)
  refine VL.A4 (φ:=s.a=some ⟨s.b,s.o,none⟩) (fun h m=>(cO.out (X:=s.ok) h m).2.2.1 hne) fun hsa => ?_
  refine VL.A4 (φ:=v.a=some ⟨v.b,v.o,none⟩) (fun h m=>(cO.out (X:=v.ok) h m).2.2.1 hv) fun hva => ?_
  refine Zy ?_
  refine Zu (XU (a0:=s.a) (L:=s.l.length) (C:=s.c) (K:=6) Tryz.underlying36 jM rfl rfl hi.1 (by omega)) ?_
  refine Zy ?_
  refine Zu (cK rfl rfl ⟨by omega,by omega⟩) ?_
  refine Zm ?_
  refine Zu (o7 rfl rfl ⟨by omega,by omega⟩) ?_
  refine VL.M6 39 rfl (congrArg (Value.int .i64) hkq) ?_
  refine VL.aGJ (s:=s) (L:=i.toNat) (kq:=s.l.length+v.l.length - i.toNat) Tryz.underlying36 Tryz.underlying3 UE (by decide) rfl hne (by omega) (by omega) (by omega) (by omega) (by decide) (by decide) fun g cs cp hcl hcp hcm hct => ?_
  rw [hK] at hcl hct
  rw [show i.toNat+(s.l.length+v.l.length - i.toNat)=s.l.length+v.l.length by omega] at hcp ⊢
  have hfit:((s.l.take i.toNat).flatMap bO.enc).length+(v.l.flatMap bO.enc).length+((s.l.drop i.toNat).flatMap bO.enc).length≤cs.length:=by
    rw [lA,lV,lS,hcl,← Nat.add_mul,← Nat.add_mul]; exact Nat.mul_le_mul_right _ (by omega)
  have hic:=NU (V:=v.l.flatMap bO.enc) (S:=(s.l.drop i.toNat).flatMap bO.enc) (by rw [lA]; exact hct) hfit
  rw [← hfl,lA,lV,lS] at hic
  refine Zy ?_
  refine Zq (Zr ?_)
  refine Zy ?_
  refine Zu (mL (b:=g) (o:=0) (L:=s.l.length+v.l.length) (C:=cp) (K:=6) Tryz.underlying36 jM rfl rfl hi.1 (by omega) hcp (by omega) rfl) ?_
  refine Zm ?_
  refine VL.M6 44 rfl (show v.val = .slice (some ⟨v.b,v.o+0*bO.sz aK,none⟩) v.l.length v.c by unfold Sv.val; rw [hva,Nat.zero_mul]; rfl) ?_
  refine VL.D8 (src:=v.l.flatMap bO.enc) Tryz.underlying36 jM rG.out rfl (by rw [lV]; congr 1; exact (Nat.min_eq_left (by omega)).symm) (JU (r:=v) (by decide) hv) (rP v.l) (by rw [lV,Nat.zero_add,hcl,← Nat.add_mul]; exact Nat.mul_le_mul_right _ (by omega)) (by decide) ?_
  rw [Nat.zero_add,lV]
  refine Zl ?_
  refine Zq ?_
  refine VC.draw [(0,true),(1,true),(2,true),(3,true),(4,true),(5,true),(6,true),(7,true),(8,false)] mixed (by kernel_rfl) (by kernel_rfl) (by kernel_rfl) ?_
  refine Zw rfl (bT rfl) ?_
  refine Zw rfl (bT rfl) ?_
  refine Zw rfl (bT rfl) ?_
  refine Zw rfl (cK rfl rfl ⟨by omega,by omega⟩) ?_
  refine Zw rfl (mL (b:=g) (o:=0) (L:=s.l.length+v.l.length) (C:=cp) (K:=6) Tryz.underlying36 jM rfl rfl (by omega) (by omega) hcp (by omega) rfl) ?_
  refine Zw rfl (bT rfl) ?_
  refine Zw rfl (bT rfl) ?_
  refine Zw rfl (mL (b:=s.b) (o:=s.o) (L:=s.l.length) (C:=s.c) (K:=6) Tryz.underlying36 jM (show some s.val=_ by unfold Sv.val; rw [hsa]) rfl hi.1 (by omega) hf (by omega) rfl) ?_
  refine VD.one rfl ?_
  rw [show (i+(v.l.length:Int)).toNat=i.toNat+v.l.length by omega]
  refine VL.D8 (src:=(s.l.drop i.toNat).flatMap bO.enc) Tryz.underlying36 jM rG.out rfl (by rw [lS]; congr 1; exact (Nat.min_eq_left (by omega)).symm) (VA (r:=s) (by decide) hne i.toNat) (rP _) (by rw [lS,Nat.zero_add,hic.1,hcl,← Nat.add_mul]; exact Nat.mul_le_mul_right _ (by omega)) (by decide) ?_
  rw [Nat.zero_add,lS,Nat.add_mul]
  refine VL.back (D':=[]) (by kernel_rfl) aN.nil ?_
  refine VD.to (fun _ _ h=>h) ?_
  refine Zq (Zr ?_)
  refine Zy ?_
  have ho:=fun F=>JW (F:=F) (e:=97) (b:=g) (l':=s.l.take i.toNat++v.l++s.l.drop i.toNat) (hic.2.1.trans hcl) (by rw [gU] at hic; exact hic.2.2) hLn hcp hcm
  exact VC.ret (fA (.inr rfl) rfl rfl ⟨some ⟨g,0,none⟩,cp,_⟩ (ho Ow.emp).1 rfl (fun _ _=>trivial) (ho _).2)
 refine Zk ?_
 refine Zq (Zr ?_)
 refine VL.open (s:=s) (e:=97) Fo.out (by omega) fun b cs hsa hcl hct _ hcm => ?_
 rw [hK] at hcl hct
 have hctA:cs.take ((s.l.take i.toNat).flatMap bO.enc).length=(s.l.take i.toNat).flatMap bO.enc:=by
   rw [lA]
   have:cs.take (i.toNat*6)=(cs.take (s.l.length*6)).take (i.toNat*6):=by rw [List.take_take,Nat.min_eq_left (Nat.mul_le_mul_right _ (by omega))]
   rw [this,hct]
   exact vG s.l i.toNat
 have hfit:((s.l.take i.toNat).flatMap bO.enc).length+(v.l.flatMap bO.enc).length+((s.l.drop i.toNat).flatMap bO.enc).length≤cs.length:=by
   rw [lA,lV,lS,hcl,← Nat.add_mul,← Nat.add_mul]; exact Nat.mul_le_mul_right _ (by omega)
 have hic:=NV (V:=v.l.flatMap bO.enc) (S:=(s.l.drop i.toNat).flatMap bO.enc) hctA hfit
 rw [← hfl,lA,lV,lS] at hic
 refine Zy ?_
 refine Zu (cK rfl rfl ⟨by omega,by omega⟩) ?_
 refine Zu (XU (a0:=s.a) (L:=s.l.length) (C:=s.c) (K:=6) Tryz.underlying36 jM rfl rfl (by omega) (by omega)) ?_
 rw [show ((s.l.length:Int)+(v.l.length:Int)).toNat=s.l.length+v.l.length by omega,hsa]
 refine Zy ?_
 refine Zq (Zq (Zr ?_))
 refine Zy ?_
 refine Zu (cK rfl rfl ⟨by omega,by omega⟩) ?_
 refine Zu (mL (b:=b) (o:=0) (L:=s.l.length+v.l.length) (C:=s.c) (K:=6) Tryz.underlying36 jM rfl rfl (by omega) (by omega) (by omega) (by omega) rfl) ?_
 refine Zu (OH (tS:=36) (tR:=4) (s:=v) (b:=b) Tryz.func352 rfl rfl (by kernel_rfl) (by kernel_rfl) Tryz.underlying36 jM rfl rG.out (fun h=>by rw [h] at hcl; simp at hcl; omega) hv) ?_
 refine Zu (lN rfl) ?_
 refine Zl ?_
 refine VC.EV rfl ?_
 refine VC.shut v 97 (fun _ _ _ _=>trivial) ?_
 refine Zq ?_
 refine VC.draw [(0,true),(1,true),(2,true),(3,true),(4,true),(5,true),(6,true),(7,true),(8,false)] mixed (by kernel_rfl) (by kernel_rfl) (by kernel_rfl) ?_
 refine Zw rfl (bT rfl) ?_
 refine Zw rfl (bT rfl) ?_
 refine Zw rfl (bT rfl) ?_
 refine Zw rfl (cK rfl rfl ⟨by omega,by omega⟩) ?_
 refine Zw rfl (mL (b:=b) (o:=0) (L:=s.l.length+v.l.length) (C:=s.c) (K:=6) Tryz.underlying36 jM rfl rfl (by omega) (by omega) (by omega) (by omega) rfl) ?_
 refine Zw rfl (bT rfl) ?_
 refine Zw rfl (bT rfl) ?_
 refine Zw rfl (mL (b:=b) (o:=0) (L:=s.l.length+v.l.length) (C:=s.c) (K:=6) Tryz.underlying36 jM rfl rfl hi.1 (by omega) (by omega) (by omega) rfl) ?_
 refine VD.one rfl ?_
 rw [show (i+(v.l.length:Int)).toNat=i.toNat+v.l.length by omega,Nat.zero_add,Nat.zero_add]
 refine VL.D8 (src:=(s.l.drop i.toNat).flatMap bO.enc) Tryz.underlying36 jM rG.out rfl (by rw [lS]; congr 1; simp only [Nat.min_def]; split <;> omega) (ZV (n:=s.l.length) hct rfl) (rP _) (by rw [lS,hcl,← Nat.add_mul]; exact Nat.mul_le_mul_right _ (by omega)) (by decide) ?_
 rw [lS,Nat.add_mul]
 refine VL.back (D':=[]) (by kernel_rfl) aN.nil ?_
 refine VD.to (fun _ _ h=>h) ?_
 refine Zq (Zr ?_)
 refine Zy ?_
 refine Zu (mL (b:=b) (o:=0) (L:=s.l.length+v.l.length) (C:=s.c) (K:=6) Tryz.underlying36 jM rfl rfl hi.1 (by omega) (by omega) (by omega) rfl) ?_
 refine Zm ?_
 refine VL.A4 (φ:=v.a=some ⟨v.b,v.o,none⟩) (fun h m=>(cO.out (X:=v.ok) h m).2.2.1 hv) fun hva => ?_
 refine VL.M6 81 rfl (show v.val = .slice (some ⟨v.b,v.o+0*bO.sz aK,none⟩) v.l.length v.c by unfold Sv.val; rw [hva,Nat.zero_mul]; rfl) ?_
 rw [Nat.zero_add]
 refine VL.D8 (src:=v.l.flatMap bO.enc) Tryz.underlying36 jM rG.out rfl (by rw [lV]; congr 1; exact (Nat.min_eq_left (by omega)).symm) (JU (r:=v) (by decide) hv) (rP v.l) (by rw [lV,hic.1,hcl,← Nat.add_mul]; exact Nat.mul_le_mul_right _ (by omega)) (by decide) ?_
 rw [lV]
 refine Zl ?_
 refine Zq (Zr ?_)
 refine Zy ?_
 have ho:=fun F=>JW (F:=F) (e:=97) (b:=b) (l':=s.l.take i.toNat++v.l++s.l.drop i.toNat) (hic.2.1.trans hcl) (by rw [gU] at hic; exact hic.2.2) hLn (by omega) hcm
 exact VC.ret (fA (.inr rfl) rfl rfl ⟨some ⟨b,0,none⟩,s.c,_⟩ (ho Ow.emp).1 rfl (fun _ _=>trivial) (ho _).2)
theorem RC (dZ:Sv aK) (e_1:aK) {r:List aK} (hS:Sh.LN dZ.l e_1=some r) :
 Ct Tryz.prog 232 [dZ.val,.agg #[str e_1.path,i64 e_1.fS,i64 e_1.mode,str e_1.data,i64 e_1.time,i64 e_1.size]] dZ.ok (Ow.emp) (X:=Sv aK) (fun x=>x.val) (fun x=>r=x.l) (fun x=>x.ok) (fun x=>Ow.emp):=by
 refine Zo Tryz.func232 Tryz.ntmps232 fun c => ?_
 unfold Sh.LN at hS
 refine Zq (Zr ?_)
 refine VL.box (cs:=[str e_1.path,i64 e_1.fS,i64 e_1.mode,str e_1.data,i64 e_1.time,i64 e_1.size]) rfl rfl (by decide) fun iM => ?_
 refine Zy ?_
 refine Zq (Zr ?_)
 refine Zm ?_
 obtain ⟨lQ,zK,hS⟩:=aU hS
 refine VL.cA (kP dZ zK) rfl (by decide) ?_
 rintro BL rfl
 try dsimp only
 refine Zu (qH rfl) ?_
 obtain ⟨qJ,EY,hS⟩:=aU hS
 refine VL.cA (sY BL iM e_1 EY) rfl (by decide) ?_
 rintro iF rfl
 try dsimp only
 refine Zy ?_
 refine Zq (Zr ?_)
 refine Zy ?_
 refine VC.gD (S:=Int) (fun (MW:Int)=>MW) (fun (MW:Int)=>[(3,ptr iM 0),(5,iF.val),(6,i64 MW)]) (fun (MW:Int)=>Mo.tt) (fun (MW:Int)=>Ow.star (bP iM [str e_1.path,i64 e_1.fS,i64 e_1.mode,str e_1.data,i64 e_1.time,i64 e_1.size] 97) (Ow.star (Sv.own iF 97) (Ow.emp))) hS ?_ ?_
 ·
  clear hS
  intro k5 hS
  refine Zb ?_
  refine VC.iter (S:=Int) (fun (CB:Int)=>CB) (fun (CB:Int)=>[(3,ptr iM 0),(5,iF.val),(6,i64 CB)]) (fun (CB:Int)=>Mo.tt) (fun (CB:Int)=>Ow.star (bP iM [str e_1.path,i64 e_1.fS,i64 e_1.mode,str e_1.data,i64 e_1.time,i64 e_1.size] 97) (Ow.star (Sv.own iF 97) (Ow.emp))) 0 [3,5,6] hS rfl ?_
  clear hS
  rintro CB m1 y1 hS hK1
  refine Zq (Zq ?_)
  refine VC.draw ((List.range 13).map fun k=>(k,true)) mixed (by kernel_rfl) (by kernel_rfl) (by kernel_rfl) ?_
  refine Zw rfl (bT rfl) ?_
  refine Zw rfl (bT rfl) ?_
  refine Zw rfl (dO (s:=iF) Tryz.underlying36 rfl) ?_
  refine Zw rfl (dL rfl rfl) ?_
  refine Zw rfl (bT rfl) ?_
  refine VD.uP 15 rfl (fun h15 => ?_) (fun h15 => ?_)
  ·
   replace hS:=MZ h15 hS
   refine Zi rfl (bT rfl) ?_
   refine Zi rfl (bT rfl) ?_
   obtain ⟨aHJ,aIP,aHd,hS⟩:=e8 hS
   refine Zi rfl (l5 (s:=iF) Tryz.underlying36 jM rfl rfl aIP (bQ aIP aHd)) ?_
   refine Zi rfl (VT (s:=iF) pM rfl rfl aHd) ?_
   refine Zi rfl (cL pM rfl rfl) ?_
   obtain ⟨aBP,aQW,hS⟩:=aU hS
   refine Zi rfl (cN (UT aHJ e_1 aQW) rfl (fun _ _=>rfl)) ?_
   refine Zi rfl (dL rfl rfl) ?_
   refine Zw rfl (jR rfl rfl) ?_
   refine VD.to (fun _ _ h=>h) ?_
   refine VC.keep (ρ':=[(3,ptr iM 0),(5,iF.val),(6,i64 CB),(23,.bool (decide (aBP < 0)))]) [3,5,6,23] rfl ?_
   refine Zc hS (fun h23 hS => ?_) (fun h23 hS => ?_)
   ·
    refine Zk ?_
    refine Zb (Zr ?_)
    refine Zm ?_
    obtain ⟨b25,hS⟩:=bS hS
    refine Zu (cK rfl rfl b25) ?_
    refine Za ?_
    refine VL.jC (CB+1) [3,5,6] (fun _ _ h=>h) (go2 hS hK1) rfl
   replace hS:=gQ hS hK1
   refine VC.eM CB [3,5,6] (fun _ _ h=>h) hS rfl
  replace hS:=RD h15 hS
  refine Zd ?_
  refine Zd ?_
  refine Zd ?_
  refine Zd ?_
  refine Zd ?_
  refine Zd ?_
  refine Zd ?_
  refine Zw rfl (iG rfl rfl) ?_
  refine VD.to (fun _ _ h=>h) ?_
  refine VC.keep (ρ':=[(3,ptr iM 0),(5,iF.val),(6,i64 CB),(23,.bool false)]) [3,5,6,23] rfl ?_
  refine VC.vY rfl ?_
  replace hS:=gQ hS hK1
  refine VC.eM CB [3,5,6] (fun _ _ h=>h) hS rfl
 clear hS
 rintro MW hS
 refine Zq (Zr ?_)
 refine Zy ?_
 refine Zu (cL pM rfl rfl) ?_
 refine VL.aIG (α:=aK) (xs:=[.tmp 28]) (vs:=[.agg #[str e_1.path,i64 e_1.fS,i64 e_1.mode,str e_1.data,i64 e_1.time,i64 e_1.size]]) [⟨e_1.path,e_1.fS,e_1.mode,e_1.data,e_1.time,e_1.size⟩] Tryz.underlying36 aCm (by decide) rfl rfl rfl rfl (by decide) (by decide) (fun aVD aRv => ?_) (by decide)
 replace hS:=b5 aRv hS
 obtain ⟨b30,hS⟩:=bS hS
 refine VL.cA (aDE iF aVD MW b30.1 b30.2.1 b30.2.2) rfl (by decide) ?_
 intro aIs aN2
 replace hS:=b5 aN2 hS
 refine VL.shut aIs 97 (fun _ _ _ _=>trivial) ?_
 obtain ⟨aJM,aLh,hS⟩:=aU hS
 refine VL.cR (fU aIs aLh) rfl (by decide) ?_
 rintro aK9 rfl
 try dsimp only
 refine Zy ?_
 cases hS
 exact VC.ret (fA (.inr rfl) rfl rfl aK9 rfl rfl (by (try dsimp only); exact cO.out) (fun _ _=>trivial))
theorem aBf (dZ:Sv aK) (QJ:Sv aD) (p_2:aV) {r:List aK} (hS:Sh.S4 dZ.l QJ.l p_2=some r) :
 Ct Tryz.prog 147 [dZ.val,QJ.val,str p_2] (dZ.ok.and QJ.ok) (Ow.emp) (X:=Sv aK) (fun x=>x.val) (fun x=>r=x.l) (fun x=>x.ok) (fun x=>Ow.emp):=by
 refine Zo Tryz.func147 Tryz.ntmps147 fun c => ?_
 unfold Sh.S4 at hS
 refine Zq (Zr ?_)
 refine Zy ?_
 refine Zq (Zr ?_)
 refine Zy ?_
 obtain ⟨xE,aPy,hS⟩:=aU hS
 refine Zu (cN (pK QJ p_2 aPy) rfl (fun _ _=>rfl)) ?_
 refine Zm ?_
 refine Zu (bG rfl rfl) ?_
 refine Zu (bG rfl rfl) ?_
 refine VL.alloc (cs:=[str [],i64 0,str []]) (by kernel_rfl) (by decide) fun aV4 => ?_
 refine Zv (vc:=[str xE.1.path,i64 xE.1.mode,str xE.1.data]) (cs':=[str xE.1.path,i64 xE.1.mode,str xE.1.data]) rfl fP ?_
 refine Zy ?_
 refine VC.keep (ρ':=[(0,dZ.val),(2,str p_2),(7,ptr aV4 0),(8,.bool xE.2)]) [0,2,7,8] rfl ?_
 refine Zq (Zq (Zr ?_))
 refine Zm ?_
 refine Zu (lN rfl) ?_
 refine Zl ?_
 refine iT hS (fun h16 hS => ?_) (fun h16 hS => ?_)
 ·
  refine Zq ?_
  cases hS
 refine Zk ?_
 refine Zq (Zr ?_)
 refine Zy ?_
 refine Zu (aC JQ rfl) ?_
 refine Zu (aT fG rfl rfl) ?_
 refine Zu (aC F8 rfl) ?_
 refine Zu (aT dK rfl rfl) ?_
 refine Zu (fH (vs:=[(0,str p_2),(2,i64 xE.1.mode),(3,str xE.1.data)]) (cs := #[str p_2,i64 0,i64 xE.1.mode,str xE.1.data,i64 0,i64 0]) rfl (by kernel_rfl)) ?_
 obtain ⟨aPX,aQa,hS⟩:=aU hS
 refine VL.cR (RC dZ (⟨p_2,0,xE.1.mode,xE.1.data,0,0⟩:aK) aQa) rfl (by decide) ?_
 rintro aFg rfl
 try dsimp only
 refine Zy ?_
 refine VC.keep (ρ':=[(6,aFg.val)]) [6] rfl ?_
 cases hS
 exact VC.ret (fA (.inr rfl) rfl rfl aFg rfl rfl (by (try dsimp only); exact cO.out) (fun _ _=>trivial))
theorem W8 (fL:aK) (vC:aK) {r:Bool} (hS:Sh.IP fL vC=some r) :
 Ct Tryz.prog 234 [.agg #[str fL.path,i64 fL.fS,i64 fL.mode,str fL.data,i64 fL.time,i64 fL.size],.agg #[str vC.path,i64 vC.fS,i64 vC.mode,str vC.data,i64 vC.time,i64 vC.size]] Mo.tt (Ow.emp) (X:=Unit) (fun _ => .bool r) (fun _=>True) (fun _=>Mo.tt) (fun _=>Ow.emp):=by
 refine Zo Tryz.func234 Tryz.ntmps234 fun c => ?_
 unfold Sh.IP at hS
 refine Zq (Zr ?_)
 refine VL.box (cs:=[str fL.path,i64 fL.fS,i64 fL.mode,str fL.data,i64 fL.time,i64 fL.size]) rfl rfl (by decide) fun eP => ?_
 refine VL.box (cs:=[str vC.path,i64 vC.fS,i64 vC.mode,str vC.data,i64 vC.time,i64 vC.size]) rfl rfl (by decide) fun jX => ?_
 refine Zy ?_
 refine Zq (Zr ?_)
 refine Zu (aC wK rfl) ?_
 refine Zu (aT dK rfl rfl) ?_
 refine Zu (aC wK rfl) ?_
 refine Zu (aT dK rfl rfl) ?_
 refine Zy ?_
 refine mF 10 hS (fun h10 hS => ?_) (fun h10 hS => ?_)
 ·
  refine Zh (aC F9 rfl) ?_
  refine Zh (aT fG rfl rfl) ?_
  refine Zh (aC F9 rfl) ?_
  refine Zh (aT fG rfl rfl) ?_
  refine Zh (hU rfl rfl) ?_
  refine Zy ?_
  refine mF 17 hS (fun h17 hS => ?_) (fun h17 hS => ?_)
  ·
   refine Zh (aC UI rfl) ?_
   refine Zh (aT fG rfl rfl) ?_
   refine Zh (aC UI rfl) ?_
   refine Zh (aT fG rfl rfl) ?_
   refine Zh (hU rfl rfl) ?_
   refine Zy ?_
   refine mF 24 hS (fun h24 hS => ?_) (fun h24 hS => ?_)
   ·
    refine Zh (aC UJ rfl) ?_
    refine Zh (aT dK rfl rfl) ?_
    refine Zh (aC UJ rfl) ?_
    refine Zh (aT dK rfl rfl) ?_
    refine Zh (yK rfl rfl) ?_
    refine Zy ?_
    refine VC.keep (ρ':=[(4,.bool (decide (fL.data=vC.data)))]) [4] rfl ?_
    cases hS
    exact Ze
   refine VL.runs 7 [(4,some false)] (by kernel_rfl) ?_
   refine Zl ?_
   refine VC.keep (ρ':=[(4,.bool false)]) [4] rfl ?_
   cases hS
   exact Ze
  refine VL.runs 14 [(4,some false)] (by kernel_rfl) ?_
  refine Zl ?_
  refine VC.keep (ρ':=[(4,.bool false)]) [4] rfl ?_
  cases hS
  exact Ze
 refine VL.runs 21 [(4,some false)] (by kernel_rfl) ?_
 refine Zl ?_
 refine VC.keep (ρ':=[(4,.bool false)]) [4] rfl ?_
 cases hS
 exact Ze
theorem mO (oP:Sv aK) (uH:Sv aK) {r:Bool} (hS:Sh.gB oP.l uH.l=some r) :
 Ct Tryz.prog 233 [oP.val,uH.val,.func (.func 234) #[] #[]] (oP.ok.and uH.ok) (Ow.emp) (X:=Unit) (fun _ => .bool r) (fun _=>True) (fun _=>Mo.tt) (fun _=>Ow.emp):=by
 refine Zo Tryz.func233 Tryz.ntmps233 fun c => ?_
 unfold Sh.gB at hS
 refine Zq (Zr ?_)
 refine Zy ?_
 refine Zq (Zq (Zr ?_))
 refine Zm ?_
 refine Zu (dO (s:=oP) Tryz.underlying36 rfl) ?_
 refine Zm ?_
 refine Zu (dO (s:=uH) Tryz.underlying36 rfl) ?_
 refine Zu (vJ rfl rfl) ?_
 refine Zl ?_
 refine rI hS (fun h14 hS => ?_) (fun h14 hS => ?_)
 ·
  refine Zq (Zr ?_)
  refine Zy ?_
  cases hS
  exact Ze
 refine Zk ?_
 refine Zq (Zq (Zr ?_))
 refine Zm ?_
 refine Zu (dO (s:=oP) Tryz.underlying36 rfl) ?_
 refine Zy ?_
 refine VC.keep (ρ':=[(1,uH.val),(2,.func (.func 234) #[] #[]),(15,oP.val),(16,i64 (oP.l.length:Int)),(17,i64 0)]) [1,2,15,16,17] rfl ?_
 refine Zb ?_
 refine VC.iter (S:=Int) (fun (zX:Int)=>zX) (fun (zX:Int)=>[(1,uH.val),(2,.func (.func 234) #[] #[]),(15,oP.val),(16,i64 (oP.l.length:Int)),(17,i64 zX)]) (fun (zX:Int)=>Mo.tt) (fun (zX:Int)=>Ow.emp) 0 [1,2,15,16,17] hS rfl ?_
 clear hS
 rintro zX m1 y1 hS hK1
 refine Zq (Zr ?_)
 refine Zu (dL rfl rfl) ?_
 refine Zl ?_
 refine Zq ?_
 refine Zc hS (fun h18 hS => ?_) (fun h18 hS => ?_)
 ·
  refine Zk ?_
  refine Zq (Zb (Zq (Zr ?_)))
  refine Zm ?_
  obtain ⟨z8,aIT,aHh,hS⟩:=e8 hS
  refine Zu (fM (s:=oP) Tryz.underlying36 jM rfl rfl aIT (bQ aIT aHh)) ?_
  refine Zu (lZ (s:=oP) pM rfl rfl aHh) ?_
  refine VL.alloc (cs:=[str [],i64 0,i64 0,str [],i64 0,i64 0]) (by kernel_rfl) (by decide) fun aV5 => ?_
  refine Za ?_
  refine Zv (vc:=[str z8.path,i64 z8.fS,i64 z8.mode,str z8.data,i64 z8.time,i64 z8.size]) (cs':=[str z8.path,i64 z8.fS,i64 z8.mode,str z8.data,i64 z8.time,i64 z8.size]) rfl jM ?_
  refine Zl ?_
  refine Zq (Zr ?_)
  refine Zy ?_
  obtain ⟨AA,aI3,aHq,hS⟩:=e8 hS
  refine Zu (fM (s:=uH) Tryz.underlying36 jM rfl rfl aI3 (bQ aI3 aHq)) ?_
  refine Zu (lZ (s:=uH) pM rfl rfl aHq) ?_
  refine VL.alloc (cs:=[str [],i64 0,i64 0,str [],i64 0,i64 0]) (by kernel_rfl) (by decide) fun Q5 => ?_
  refine Zv (vc:=[str AA.path,i64 AA.fS,i64 AA.mode,str AA.data,i64 AA.time,i64 AA.size]) (cs':=[str AA.path,i64 AA.fS,i64 AA.mode,str AA.data,i64 AA.time,i64 AA.size]) rfl jM ?_
  refine Zl ?_
  refine VC.keep (ρ':=[(1,uH.val),(2,.func (.func 234) #[] #[]),(15,oP.val),(16,i64 (oP.l.length:Int)),(17,i64 zX),(8,ptr aV5 0),(9,ptr Q5 0)]) [1,2,15,16,17,8,9] rfl ?_
  refine Zq (Zr ?_)
  refine Zm ?_
  refine Zu (cL pM rfl rfl) ?_
  refine Zu (cL pM rfl rfl) ?_
  obtain ⟨aP0,aQe,hS⟩:=aU hS
  refine Zu (GV (W8 z8 AA aQe) rfl rfl (fun _ _=>rfl)) ?_
  refine Zu (lN rfl) ?_
  refine Zl ?_
  refine iT hS (fun h30 hS => ?_) (fun h30 hS => ?_)
  ·
   refine Zq (Zr ?_)
   refine Zy ?_
   refine VC.keep (ρ':=[(6,.bool false)]) [6] rfl ?_
   replace hS:=gQ hS hK1
   cases hS
   exact Ze
  refine Zk ?_
  refine VC.keep (ρ':=[(1,uH.val),(2,.func (.func 234) #[] #[]),(15,oP.val),(16,i64 (oP.l.length:Int)),(17,i64 zX)]) [1,2,15,16,17] rfl ?_
  refine Zr ?_
  obtain ⟨b31,hS⟩:=bS hS
  refine Zu (cK rfl rfl b31) ?_
  refine Zm ?_
  refine VL.jC (zX+1) [1,2,15,16,17] (fun _ _ h=>h) (go2 hS hK1) rfl
 replace hS:=gQ hS hK1
 refine Zx ?_
 refine Zq (Zr ?_)
 refine Zy ?_
 cases hS
 exact Ze
theorem NT (bU:Sv aK) (b_1:Sv aK) {r:Bool} (hS:Sh.HR bU.l b_1.l=some r) :
 Ct Tryz.prog 148 [bU.val,b_1.val] (bU.ok.and b_1.ok) (Ow.emp) (X:=Unit) (fun _ => .bool r) (fun _=>True) (fun _=>Mo.tt) (fun _=>Ow.emp):=by
 refine Zo Tryz.func148 Tryz.ntmps148 fun c => ?_
 unfold Sh.HR at hS
 refine Zq (Zr ?_)
 refine Zy ?_
 refine Zq (Zr ?_)
 refine Zy ?_
 obtain ⟨iR,lI,hS⟩:=aU hS
 refine Zu (cN (mO bU b_1 lI) rfl (fun _ _=>rfl)) ?_
 refine Zy ?_
 cases hS
 exact Ze
end Go.Proofs.YtcenmlklkpgmnaaGreatDoor
end

section
set_option linter.unusedVariables false
namespace Go.Proofs.YtcenmlklkpgmnaaGreatDoor
set_option maxHeartbeats 4000000
set_option maxRecDepth 100000
set_option synthInstance.maxSize 2000
set_option synthInstance.maxHeartbeats 1000000
open Go.RowKit Go.V
open Go.S hiding aV
theorem aDY (aB:cC) (e7:aV) {r:bM×gR} (hS:Sh.XV aB.pl e7=some r) :
 Ct Tryz.prog 95 [.agg (aE aB).toArray,str e7] (aB.bD.ok.and (aB.aX.ok.and (aB.bK.ok.and (aB.aM.ok.and (aB.aR.ok.and (aB.aO.ok.and (aB.aS.ok.and (aB.aZ.ok.and (aB.bB.ok.and (aB.bL.ok.and aB.bE.ok)))))))))) (Ow.emp) (X:=cC×Er) (fun x => .tuple #[.agg (bO.enc x.1).toArray,x.2.val]) (fun x=>r=(x.1.pl,x.2.pl)) (fun x=>(x.1.m.and x.2.ok)) (fun x=>Ow.emp):=by
 refine Zo Tryz.func95 Tryz.ntmps95 fun c => ?_
 unfold Sh.XV at hS
 refine Zq (Zr ?_)
 refine VL.box (cs:=(aE aB)) rfl rfl (by decide) fun eP => ?_
 refine VL.alloc (cs:=[.slice none 0 0,.slice none 0 0,.slice none 0 0,str [],i64 0,str [],i64 0,str [],.slice none 0 0,.slice none 0 0,i64 0,str [],str [],i64 0,.slice none 0 0,.slice none 0 0,.slice none 0 0,.slice none 0 0,.slice none 0 0,.slice none 0 0,i64 0]) (by kernel_rfl) (by decide) fun nA => ?_
 refine Zy ?_
 refine Zq (Zr ?_)
 refine Zm ?_
 refine VL.lit (α:=aV) (xs:=[.tmp 12]) (vs:=[str e7]) [e7] Tryz.underlying23 wL (by decide) rfl rfl rfl rfl (by decide) (fun _ _ _ _=>trivial) (by decide) (fun L8 aR5 => ?_) (by decide)
 replace hS:=b5 aR5 hS
 refine Zy ?_
 refine Zq (Zr ?_)
 refine Zu (aC dS rfl) ?_
 refine Zu (aC qS rfl) ?_
 refine Zu (aT iN rfl rfl) ?_
 refine Zm ?_
 obtain ⟨kD,LC,hS⟩:=aU hS
 refine Zu (cN (pK aB.bD e7 LC) rfl (fun _ _=>rfl)) ?_
 refine Zm ?_
 refine Zu (bG rfl rfl) ?_
 refine Zu (bG rfl rfl) ?_
 refine VL.alloc (cs:=[str [],i64 0,str []]) (by kernel_rfl) (by decide) fun YA => ?_
 refine Zv (vc:=[str kD.1.path,i64 kD.1.mode,str kD.1.data]) (cs':=[str kD.1.path,i64 kD.1.mode,str kD.1.data]) rfl fP ?_
 refine Zy ?_
 refine VC.keep (ρ':=[(1,str e7),(2,ptr eP 0),(4,ptr nA 0),(6,L8.val),(8,.bool kD.2)]) [1,2,4,6,8] rfl ?_
 refine Zq (Zb (Zq (Zr ?_)))
 refine Zy ?_
 refine Zc hS (fun h22 hS => ?_) (fun h22 hS => ?_)
 ·
  cases hS
 refine VC.gD (S:=Bool) (fun (PJ:Bool)=>PJ) (fun (PJ:Bool)=>[(2,ptr eP 0),(4,ptr nA 0),(6,L8.val),(32,.bool PJ)]) (fun (PJ:Bool)=>Mo.tt) (fun (PJ:Bool)=>Ow.star (bP YA [str kD.1.path,i64 kD.1.mode,str kD.1.data] 42) (Ow.star (bP nA [.slice none 0 0,.slice none 0 0,.slice none 0 0,str [],i64 0,str [],i64 0,str [],.slice none 0 0,.slice none 0 0,i64 0,str [],str [],i64 0,.slice none 0 0,.slice none 0 0,.slice none 0 0,.slice none 0 0,.slice none 0 0,.slice none 0 0,i64 0] 59) (Ow.star (bP eP (aE aB) 59) (Ow.emp)))) hS ?_ ?_
 ·
  clear hS
  intro k8 hS
  refine Zr ?_
  refine Zm ?_
  refine Zu (lN rfl) ?_
  refine Zm ?_
  refine uV 35 hS (fun h35 hS => ?_) (fun h35 hS => ?_)
  ·
   refine Zh (aC dS rfl) ?_
   refine Zh (aC o3 rfl) ?_
   refine Zh (aT lW rfl rfl) ?_
   refine Zg ?_
   obtain ⟨aHC,aQz,hS⟩:=aU hS
   refine Zh (cN (aAs aB.aX e7 aQz) rfl (fun _ _=>rfl)) ?_
   refine Zh (lN rfl) ?_
   refine Zy ?_
   refine VL.mt (!aHC) [2,4,6,32] (fun _ _ h=>h) hS rfl
  refine VL.runs 8 [(32,some false)] (by kernel_rfl) ?_
  refine VL.mt false [2,4,6,32] (fun _ _ h=>h) hS rfl
 clear hS
 rintro PJ hS
 refine iT hS (fun h32 hS => ?_) (fun h32 hS => ?_)
 ·
  refine Zq ?_
  cases hS
 refine Zk ?_
 refine Zq (Zr ?_)
 refine Zu (cL cE rfl rfl) ?_
 refine VL.alloc (cs:=[.slice none 0 0,.slice none 0 0,.slice none 0 0,str [],i64 0,str [],i64 0,str [],.slice none 0 0,.slice none 0 0,i64 0,str [],str [],i64 0,.slice none 0 0,.slice none 0 0,.slice none 0 0,.slice none 0 0,.slice none 0 0,.slice none 0 0,i64 0]) (by kernel_rfl) (by decide) fun aCU => ?_
 refine Zv (vc:=(aE aB)) (cs':=(aE aB)) rfl fR ?_
 refine Zl ?_
 refine Zq (Zq (Zr ?_))
 refine Zm ?_
 refine Zu (dO (s:=L8) Tryz.underlying23 rfl) ?_
 refine Zy ?_
 refine Zb ?_
 refine VC.iter (S:=Int×Sv aK) (fun sg=>(sg.1,sg.2.l)) (fun sg=>[(2,ptr eP 0),(4,ptr nA 0),(9,ptr aCU 0),(46,L8.val),(47,i64 (L8.l.length:Int)),(48,i64 sg.1)]) (fun sg=>sg.2.ok) (fun sg=>Ow.star (bP aCU [aB.bD.val,sg.2.val,aB.bK.val,str aB.aP,i64 aB.aF,str aB.bC,i64 aB.bA,str aB.bJ,aB.aM.val,aB.aR.val,i64 aB.bI,str aB.aW,str aB.aI,i64 aB.aJ,aB.aO.val,aB.aS.val,aB.aZ.val,aB.bB.val,aB.bL.val,aB.bE.val,i64 aB.time] 59) (Ow.star (bP YA [str kD.1.path,i64 kD.1.mode,str kD.1.data] 42) (Ow.star (bP nA [.slice none 0 0,.slice none 0 0,.slice none 0 0,str [],i64 0,str [],i64 0,str [],.slice none 0 0,.slice none 0 0,i64 0,str [],str [],i64 0,.slice none 0 0,.slice none 0 0,.slice none 0 0,.slice none 0 0,.slice none 0 0,.slice none 0 0,i64 0] 59) (Ow.star (bP eP (aE aB) 59) (Ow.emp))))) (0,aB.aX) [2,4,9,46,47,48] hS rfl ?_
 clear hS
 rintro ⟨MH,D4⟩ m1 y1 hS hK1
 refine Zq (Zr ?_)
 refine Zu (dL rfl rfl) ?_
 refine Zl ?_
 refine Zq ?_
 refine Zc hS (fun h49 hS => ?_) (fun h49 hS => ?_)
 ·
  refine Zk ?_
  refine Zq (Zb (Zq (Zr ?_)))
  obtain ⟨aDu,aFT,aEm,hS⟩:=e8 hS
  refine Zu (fM (s:=L8) Tryz.underlying23 o4 rfl rfl aFT (bQ aFT aEm)) ?_
  refine Zu (rH (s:=L8) dK rfl aEm rfl) ?_
  refine Zy ?_
  refine Zr ?_
  refine Zu (aC dS rfl) ?_
  refine Zu (aC o3 rfl) ?_
  refine Zu (aT lW rfl rfl) ?_
  refine Zu (aC dS rfl) ?_
  refine Zu (aC qS rfl) ?_
  refine Zu (aT iN rfl rfl) ?_
  refine Zm ?_
  obtain ⟨aJc,aMZ,hS⟩:=aU hS
  refine VL.cR (aBf D4 aB.bD aDu aMZ) rfl (by decide) ?_
  rintro XP rfl
  try dsimp only
  refine Zu (aC dS rfl) ?_
  refine Zu (aC o3 rfl) ?_
  refine Zv (vc:=[XP.val]) (cs':=[aB.bD.val,XP.val,aB.bK.val,str aB.aP,i64 aB.aF,str aB.bC,i64 aB.bA,str aB.bJ,aB.aM.val,aB.aR.val,i64 aB.bI,str aB.aW,str aB.aI,i64 aB.aJ,aB.aO.val,aB.aS.val,aB.aZ.val,aB.bB.val,aB.bL.val,aB.bE.val,i64 aB.time]) rfl aG0 ?_
  refine Zl ?_
  refine VC.keep (ρ':=[(2,ptr eP 0),(4,ptr nA 0),(9,ptr aCU 0),(46,L8.val),(47,i64 (L8.l.length:Int)),(48,i64 MH)]) [2,4,9,46,47,48] rfl ?_
  refine Zr ?_
  obtain ⟨b62,hS⟩:=bS hS
  refine Zu (cK rfl rfl b62) ?_
  refine Zm ?_
  refine VL.jC ((MH+1),XP) [2,4,9,46,47,48] (fun _ _ h=>h) (go2 hS hK1) rfl
 replace hS:=gQ hS hK1
 refine Zx ?_
 refine Zq (Zb (Zq (Zr ?_)))
 refine Zu (aC dS rfl) ?_
 refine Zu (aC o3 rfl) ?_
 refine Zu (aT lW rfl rfl) ?_
 refine Zu (aC dS rfl) ?_
 refine Zu (aC o3 rfl) ?_
 refine Zu (aT lW rfl rfl) ?_
 obtain ⟨aDp,aMc,hS⟩:=aU hS
 refine Zu (cN (NT D4 aB.aX aMc) rfl (fun _ _=>rfl)) ?_
 refine Zy ?_
 refine VC.keep (ρ':=[(2,ptr eP 0),(4,ptr nA 0),(9,ptr aCU 0),(63,.bool aDp)]) [2,4,9,63] rfl ?_
 refine iT hS (fun h63 hS => ?_) (fun h63 hS => ?_)
 ·
  refine Zq ?_
  cases hS
 refine Zq (Zr ?_)
 refine Zu (aC dS rfl) ?_
 refine Zu (aC o3 rfl) ?_
 refine Zu (aT lW rfl rfl) ?_
 refine Zu (dO (s:=D4) Tryz.underlying36 rfl) ?_
 refine Zu (jF rfl rfl) ?_
 refine Zy ?_
 refine Zc hS (fun h73 hS => ?_) (fun h73 hS => ?_)
 ·
  refine Zq ?_
  cases hS
 refine Zk ?_
 refine Zq (Zr ?_)
 refine Zu (cL cE rfl rfl) ?_
 refine Zv (vc:=[aB.bD.val,D4.val,aB.bK.val,str aB.aP,i64 aB.aF,str aB.bC,i64 aB.bA,str aB.bJ,aB.aM.val,aB.aR.val,i64 aB.bI,str aB.aW,str aB.aI,i64 aB.aJ,aB.aO.val,aB.aS.val,aB.aZ.val,aB.bB.val,aB.bL.val,aB.bE.val,i64 aB.time]) (cs':=[aB.bD.val,D4.val,aB.bK.val,str aB.aP,i64 aB.aF,str aB.bC,i64 aB.bA,str aB.bJ,aB.aM.val,aB.aR.val,i64 aB.bI,str aB.aW,str aB.aI,i64 aB.aJ,aB.aO.val,aB.aS.val,aB.aZ.val,aB.bB.val,aB.bL.val,aB.bE.val,i64 aB.time]) rfl fR ?_
 refine Zy ?_
 refine VC.keep (ρ':=[(4,ptr nA 0),(5,.nilIface)]) [4,5] rfl ?_
 cases hS
 exact VC.ret (jV (vs:=[.agg #[aB.bD.val,D4.val,aB.bK.val,str aB.aP,i64 aB.aF,str aB.bC,i64 aB.bA,str aB.bJ,aB.aM.val,aB.aR.val,i64 aB.bI,str aB.aW,str aB.aI,i64 aB.aJ,aB.aO.val,aB.aS.val,aB.aZ.val,aB.bB.val,aB.bL.val,aB.bE.val,i64 aB.time],.nilIface]) (.inr rfl) rfl (eW.cell cE rfl rfl Rd.blk (eW.tmp rfl (eW.nil))) (⟨aB.bD,D4,aB.bK,aB.aP,aB.aF,aB.bC,aB.bA,aB.bJ,aB.aM,aB.aR,aB.bI,aB.aW,aB.aI,aB.aJ,aB.aO,aB.aS,aB.aZ,aB.bB,aB.bL,aB.bE,aB.time⟩,.nil) rfl rfl (by (try dsimp only); exact cO.out) (fun _ _=>trivial))
theorem MY (dZ:Sv aK) (n_1:Int) {r:List aD} (hS:Sh.E8 dZ.l n_1=some r) :
 Ct Tryz.prog 149 [dZ.val,i64 n_1] dZ.ok (Ow.emp) (X:=Sv aD) (fun x=>x.val) (fun x=>r=x.l) (fun x=>x.ok) (fun x=>Ow.emp):=by
 refine Zo Tryz.func149 Tryz.ntmps149 fun c => ?_
 unfold Sh.E8 at hS
 refine Zq (Zr ?_)
 refine Zy ?_
 refine Zq (Zr ?_)
 refine Zy ?_
 refine Zq (Zq (Zr ?_))
 refine Zm ?_
 refine Zu (dO (s:=dZ) Tryz.underlying36 rfl) ?_
 refine Zy ?_
 refine Zb ?_
 refine VC.lR (⟨none,0,[]⟩:Sv aD) 42 ⟨rfl,rfl⟩ ?_
 refine VC.iter (S:=Sv aD×Int) (fun sg=>(sg.1.l,sg.2)) (fun sg=>[(1,i64 n_1),(5,sg.1.val),(8,dZ.val),(9,i64 (dZ.l.length:Int)),(10,i64 sg.2)]) (fun sg=>Mo.tt) (fun sg=>Ow.star (Sv.own sg.1 42) (Ow.emp)) (⟨none,0,[]⟩,0) [1,5,8,9,10] hS rfl ?_
 clear hS
 rintro ⟨jJ,G4⟩ m1 y1 hS hK1
 refine Zq (Zr ?_)
 refine Zu (dL rfl rfl) ?_
 refine Zl ?_
 refine Zq ?_
 refine Zc hS (fun h11 hS => ?_) (fun h11 hS => ?_)
 ·
  refine Zk ?_
  refine Zq (Zb (Zq (Zr ?_)))
  obtain ⟨oB,aIJ,aH9,hS⟩:=e8 hS
  refine Zu (fM (s:=dZ) Tryz.underlying36 jM rfl rfl aIJ (bQ aIJ aH9)) ?_
  refine Zu (lZ (s:=dZ) pM rfl rfl aH9) ?_
  refine VL.alloc (cs:=[str [],i64 0,i64 0,str [],i64 0,i64 0]) (by kernel_rfl) (by decide) fun ZS => ?_
  refine Zv (vc:=[str oB.path,i64 oB.fS,i64 oB.mode,str oB.data,i64 oB.time,i64 oB.size]) (cs':=[str oB.path,i64 oB.fS,i64 oB.mode,str oB.data,i64 oB.time,i64 oB.size]) rfl jM ?_
  refine Zl ?_
  refine Zq (Zr ?_)
  refine Zu (aC F9 rfl) ?_
  refine Zu (aT fG rfl rfl) ?_
  refine Zm ?_
  refine Zu (hU rfl rfl) ?_
  refine Zl ?_
  refine Zc hS (fun h17 hS => ?_) (fun h17 hS => ?_)
  ·
   refine Zr ?_
   refine Zm ?_
   refine Zu (aC wK rfl) ?_
   refine Zu (aT dK rfl rfl) ?_
   refine Zu (aC UI rfl) ?_
   refine Zu (aT fG rfl rfl) ?_
   refine Zu (aC UJ rfl) ?_
   refine Zu (aT dK rfl rfl) ?_
   refine Zu (fH (vs:=[(0,str oB.path),(1,i64 oB.mode),(2,str oB.data)]) (cs := #[str oB.path,i64 oB.mode,str oB.data]) rfl (by kernel_rfl)) ?_
   refine VL.lit (α:=aD) (xs:=[.tmp 25]) (vs:=[.agg #[str oB.path,i64 oB.mode,str oB.data]]) [⟨oB.path,oB.mode,oB.data⟩] Tryz.underlying35 HP (by decide) rfl rfl rfl rfl (by decide) (fun _ _ _ _=>trivial) (by decide) (fun aVA aRs => ?_) (by decide)
   replace hS:=b5 aRs hS
   obtain ⟨b27,hS⟩:=bS hS
   refine VL.app (s:=jJ) (r:=aVA) Tryz.underlying35 P3 (by decide) rfl Fo.out (uW b27) (uX b27 (by decide)) (by decide) (fun IW aCw => ?_)
   replace hS:=b5 aCw hS
   refine Zy ?_
   refine VC.keep (ρ':=[(1,i64 n_1),(5,IW.val),(8,dZ.val),(9,i64 (dZ.l.length:Int)),(10,i64 G4)]) [1,5,8,9,10] rfl ?_
   refine Zr ?_
   obtain ⟨b28,hS⟩:=bS hS
   refine Zu (cK rfl rfl b28) ?_
   refine Zm ?_
   refine VL.jC (IW,(G4+1)) [1,5,8,9,10] (fun _ _ h=>h) (go2 hS hK1) rfl
  refine Zk ?_
  refine VC.keep (ρ':=[(1,i64 n_1),(5,jJ.val),(8,dZ.val),(9,i64 (dZ.l.length:Int)),(10,i64 G4)]) [1,5,8,9,10] rfl ?_
  refine Zr ?_
  obtain ⟨b28,hS⟩:=bS hS
  refine Zu (cK rfl rfl b28) ?_
  refine Zm ?_
  refine VL.jC (jJ,(G4+1)) [1,5,8,9,10] (fun _ _ h=>h) (go2 hS hK1) rfl
 replace hS:=gQ hS hK1
 refine Zx ?_
 refine Zq (Zr ?_)
 refine Zm ?_
 refine VL.shut jJ 42 (fun _ _ _ _=>trivial) ?_
 obtain ⟨sV,xX,hS⟩:=aU hS
 refine VL.cR (eN jJ xX) rfl (by decide) ?_
 rintro qW rfl
 try dsimp only
 refine Zy ?_
 cases hS
 exact VC.ret (fA (.inr rfl) rfl rfl qW rfl rfl (by (try dsimp only); exact cO.out) (fun _ _=>trivial))
theorem TA (s:Sv aV) (hb:s.l.length≤4294967296):Ct Tryz.prog 73 [s.val] Mo.tt (s.own 9) (X:=Sv aV) (fun _ => .tuple #[]) (fun q=>q.l=Go.S.qY s.l∧q.val=s.val) (fun _=>Mo.tt) (fun q=>q.own 9) :=
  Ct.sort (FF Tryz.func73 rfl (by kernel_rfl)) (fun blk off cap ss w hH hb hs=>Tryz.slices_Sort_string blk off cap ss w hH hb hs) (fun p cap w=>Tryz.slices_Sort_string_none p cap w) s 9 hb
theorem FY (s:Sv aV) (hb:s.l.length≤4294967296):Ct Tryz.prog 240 [s.val] Mo.tt (s.own 9) (X:=Sv aV) (fun q=>q.val) (fun q=>q.l=Go.S.oR s.l) (fun _=>Mo.tt) (fun q=>q.own 9) :=
  Ct.compact (FF Tryz.func240 rfl (by kernel_rfl)) (fun blk off cap ss w hH hb hs=>Tryz.slices_Compact_string blk off cap ss w hH hb hs) (fun p cap w=>Tryz.slices_Compact_string_empty p cap w) s 9 hb
theorem yJ (dZ:Sv aK) {r:List aV} (hS:Sh.tH dZ.l=some r) :
 Ct Tryz.prog 154 [dZ.val] dZ.ok (Ow.emp) (X:=Sv aV) (fun x=>x.val) (fun x=>r=x.l) (fun x=>x.ok) (fun x=>Ow.emp):=by
 refine Zo Tryz.func154 Tryz.ntmps154 fun c => ?_
 unfold Sh.tH at hS
 refine Zq (Zr ?_)
 refine Zy ?_
 refine Zq (Zr ?_)
 refine Zy ?_
 refine Zq (Zq (Zr ?_))
 refine Zm ?_
 refine Zu (dO (s:=dZ) Tryz.underlying36 rfl) ?_
 refine Zy ?_
 refine Zb ?_
 refine VC.iter (S:=Int) (fun (cS:Int)=>cS) (fun (cS:Int)=>[(3,.slice none 0 0),(6,dZ.val),(7,i64 (dZ.l.length:Int)),(8,i64 cS)]) (fun (cS:Int)=>Mo.tt) (fun (cS:Int)=>Ow.emp) 0 [3,6,7,8] hS rfl ?_
 clear hS
 rintro cS m1 y1 hS hK1
 refine Zq (Zr ?_)
 refine Zu (dL rfl rfl) ?_
 refine Zl ?_
 refine Zq ?_
 refine Zc hS (fun h9 hS => ?_) (fun h9 hS => ?_)
 ·
  refine Zk ?_
  refine Zq (Zb (Zq (Zr ?_)))
  obtain ⟨uU,U2,UM,hS⟩:=e8 hS
  refine Zu (fM (s:=dZ) Tryz.underlying36 jM rfl rfl U2 (bQ U2 UM)) ?_
  refine Zu (lZ (s:=dZ) pM rfl rfl UM) ?_
  refine VL.alloc (cs:=[str [],i64 0,i64 0,str [],i64 0,i64 0]) (by kernel_rfl) (by decide) fun aBn => ?_
  refine Zv (vc:=[str uU.path,i64 uU.fS,i64 uU.mode,str uU.data,i64 uU.time,i64 uU.size]) (cs':=[str uU.path,i64 uU.fS,i64 uU.mode,str uU.data,i64 uU.time,i64 uU.size]) rfl jM ?_
  refine Zl ?_
  refine Zq (Zr ?_)
  refine Zu (aC F9 rfl) ?_
  refine Zu (aT fG rfl rfl) ?_
  refine Zu (vJ rfl rfl) ?_
  refine Zl ?_
  refine rI hS (fun h14 hS => ?_) (fun h14 hS => ?_)
  ·
   cases hS
  refine Zk ?_
  refine VC.keep (ρ':=[(3,.slice none 0 0),(6,dZ.val),(7,i64 (dZ.l.length:Int)),(8,i64 cS)]) [3,6,7,8] rfl ?_
  refine Zr ?_
  obtain ⟨b20,hS⟩:=bS hS
  refine Zu (cK rfl rfl b20) ?_
  refine Zm ?_
  refine VL.jC (cS+1) [3,6,7,8] (fun _ _ h=>h) (go2 hS hK1) rfl
 replace hS:=gQ hS hK1
 refine Zx ?_
 refine Zq (Zr ?_)
 refine Zm ?_
 refine VL.lR (⟨none,0,[]⟩:Sv aV) 9 ⟨rfl,rfl⟩ ?_
 obtain ⟨b22,hS⟩:=bS hS
 refine VL.cA (TA (⟨none,0,[]⟩:Sv aV) b22) rfl (by decide) ?_
 rintro aWB ⟨aSH,aVv⟩
 try dsimp only
 replace hS:=b5 aSH hS
 refine Zl ?_
 refine Zq (Zr ?_)
 refine Zm ?_
 refine VL.lR (⟨none,0,[]⟩:Sv aV) 9 ⟨rfl,rfl⟩ ?_
 obtain ⟨b24,hS⟩:=bS hS
 refine VL.cA (FY (⟨none,0,[]⟩:Sv aV) b24) rfl (by decide) ?_
 rintro aPI aSI
 try dsimp only
 replace hS:=b5 aSI hS
 refine VL.shut aPI 9 (fun _ _ _ _=>trivial) ?_
 obtain ⟨aPW,aQ6,hS⟩:=aU hS
 refine VL.cR (gG aPI aQ6) rfl (by decide) ?_
 rintro aFf rfl
 try dsimp only
 refine Zy ?_
 refine VC.keep (ρ':=[(2,aFf.val)]) [2] rfl ?_
 cases hS
 exact VC.ret (fA (.inr rfl) rfl rfl aFf rfl rfl (by (try dsimp only); exact cO.out) (fun _ _=>trivial))
theorem aBh (aB:cC) (aBx:Int) {r:Bool} (hS:Sh.TC aB.pl aBx=some r) :
 Ct Tryz.prog 313 [.agg (aE aB).toArray,i64 aBx] (aB.bD.ok.and (aB.aX.ok.and (aB.bK.ok.and (aB.aM.ok.and (aB.aR.ok.and (aB.aO.ok.and (aB.aS.ok.and (aB.aZ.ok.and (aB.bB.ok.and (aB.bL.ok.and aB.bE.ok)))))))))) (Ow.emp) (X:=Unit) (fun _ => .bool r) (fun _=>True) (fun _=>Mo.tt) (fun _=>Ow.emp):=by
 refine Zo Tryz.func313 Tryz.ntmps313 fun c => ?_
 unfold Sh.TC at hS
 refine Zq (Zr ?_)
 refine VL.box (cs:=(aE aB)) rfl rfl (by decide) fun eP => ?_
 refine Zy ?_
 refine Zq (Zr ?_)
 refine Zm ?_
 refine Zu (qF rfl rfl) ?_
 refine Zm ?_
 refine mF 7 hS (fun h7 hS => ?_) (fun h7 hS => ?_)
 ·
  refine Zg ?_
  refine Zh (aC lJ rfl) ?_
  refine Zh (aT qC rfl rfl) ?_
  refine Zh (qG cD.pl (s:=aB.bB) Tryz.underlying55 rfl) ?_
  refine Zh (SX rfl rfl) ?_
  refine Zy ?_
  refine VC.keep (ρ':=[(4,.bool (decide (aBx≤((aB.bB.l.map cD.pl).length:Int))))]) [4] rfl ?_
  cases hS
  exact Ze
 refine VL.runs 7 [(4,some false)] (by kernel_rfl) ?_
 refine Zl ?_
 cases hS
 exact Ze
theorem w9 (aB:cC) (jL:Int) {r:List aD} (hS:Sh.AL aB.pl jL=some r) :
 Ct Tryz.prog 235 [.agg (aE aB).toArray,i64 jL] (aB.bD.ok.and (aB.aX.ok.and (aB.bK.ok.and (aB.aM.ok.and (aB.aR.ok.and (aB.aO.ok.and (aB.aS.ok.and (aB.aZ.ok.and (aB.bB.ok.and (aB.bL.ok.and aB.bE.ok)))))))))) (Ow.emp) (X:=Sv aD) (fun x=>x.val) (fun x=>r=x.l) (fun x=>x.ok) (fun x=>Ow.emp):=by
 refine Zo Tryz.func235 Tryz.ntmps235 fun c => ?_
 unfold Sh.AL at hS
 refine Zq (Zr ?_)
 refine VL.box (cs:=(aE aB)) rfl rfl (by decide) fun eP => ?_
 refine Zy ?_
 refine Zq (Zq (Zr ?_))
 refine Zu (cL cE rfl rfl) ?_
 refine Zm ?_
 obtain ⟨uF,zJ,hS⟩:=aU hS
 refine Zu (cN (aBh aB jL zJ) rfl (fun _ _=>rfl)) ?_
 refine Zu (lN rfl) ?_
 refine Zl ?_
 refine iT hS (fun h8 hS => ?_) (fun h8 hS => ?_)
 ·
  refine Zq (Zr ?_)
  refine Zy ?_
  cases hS
  exact VC.ret (fA (.inr rfl) rfl rfl ⟨none,0,[]⟩ rfl rfl (by (try dsimp only); exact cO.out) (fun _ _=>trivial))
 refine Zk ?_
 refine Zq (Zr ?_)
 refine Zu (aC lJ rfl) ?_
 refine Zu (aT qC rfl rfl) ?_
 refine Zm ?_
 obtain ⟨b12,hS⟩:=bS hS
 refine Zu (o7 rfl rfl b12) ?_
 obtain ⟨PW,U5,P7,hS⟩:=IK hS
 refine VL.deep PW.m P7 (fun _ q=>q) ?_
 refine Zu (fM (s:=aB.bB) Tryz.underlying55 SI rfl rfl U5 (bQ U5 P7)) ?_
 refine Zu (aC aE0 rfl) ?_
 refine Zu (XT (s:=aB.bB) iN rfl P7 rfl) ?_
 obtain ⟨qK,K8,hS⟩:=aU hS
 refine VL.cA (gV PW.tree K8) rfl (by decide) ?_
 rintro aF9 rfl
 try dsimp only
 refine VL.shut aF9 42 (fun _ _ _ _=>trivial) ?_
 obtain ⟨C4,LB,hS⟩:=aU hS
 refine VL.cR (eN aF9 LB) rfl (by decide) ?_
 rintro DV rfl
 try dsimp only
 refine Zy ?_
 refine VC.keep (ρ':=[(4,DV.val)]) [4] rfl ?_
 cases hS
 exact VC.ret (fA (.inr rfl) rfl rfl DV rfl rfl (by (try dsimp only); exact cO.out) (fun _ _=>trivial))
theorem DC (aB:cC) {r:List aD} (hS:Sh.CX aB.pl=some r) :
 Ct Tryz.prog 151 [.agg (aE aB).toArray] (aB.bD.ok.and (aB.aX.ok.and (aB.bK.ok.and (aB.aM.ok.and (aB.aR.ok.and (aB.aO.ok.and (aB.aS.ok.and (aB.aZ.ok.and (aB.bB.ok.and (aB.bL.ok.and aB.bE.ok)))))))))) (Ow.emp) (X:=Sv aD) (fun x=>x.val) (fun x=>r=x.l) (fun x=>x.ok) (fun x=>Ow.emp):=by
 refine Zo Tryz.func151 Tryz.ntmps151 fun c => ?_
 unfold Sh.CX at hS
 refine Zq (Zr ?_)
 refine VL.box (cs:=(aE aB)) rfl rfl (by decide) fun iE => ?_
 refine Zy ?_
 refine Zq (Zr ?_)
 refine Zu (cL cE rfl rfl) ?_
 refine Zu (aC dS rfl) ?_
 refine Zu (aC nM rfl) ?_
 refine Zu (aC BA rfl) ?_
 refine Zu (aT fG rfl rfl) ?_
 obtain ⟨lQ,zK,hS⟩:=aU hS
 refine VL.cR (w9 aB aB.aF zK) rfl (by decide) ?_
 rintro BL rfl
 try dsimp only
 refine Zy ?_
 cases hS
 exact VC.ret (fA (.inr rfl) rfl rfl BL rfl rfl (by (try dsimp only); exact cO.out) (fun _ _=>trivial))
theorem yB (oP:Sv aD) (uH:Sv aD) {r:Bool} (hS:Sh.mW oP.l uH.l=some r) :
 Ct Tryz.prog 241 [oP.val,uH.val] (oP.ok.and uH.ok) (Ow.emp) (X:=Unit) (fun _ => .bool r) (fun _=>True) (fun _=>Mo.tt) (fun _=>Ow.emp):=by
 refine Zo Tryz.func241 Tryz.ntmps241 fun c => ?_
 unfold Sh.mW at hS
 refine Zq (Zr ?_)
 refine Zy ?_
 refine Zq (Zq (Zr ?_))
 refine Zm ?_
 refine Zu (dO (s:=oP) Tryz.underlying35 rfl) ?_
 refine Zm ?_
 refine Zu (dO (s:=uH) Tryz.underlying35 rfl) ?_
 refine Zu (vJ rfl rfl) ?_
 refine Zl ?_
 refine rI hS (fun h10 hS => ?_) (fun h10 hS => ?_)
 ·
  refine Zq (Zr ?_)
  refine Zy ?_
  cases hS
  exact Ze
 refine Zk ?_
 refine Zq (Zq (Zr ?_))
 refine Zm ?_
 refine Zu (dO (s:=oP) Tryz.underlying35 rfl) ?_
 refine Zy ?_
 refine VC.keep (ρ':=[(0,oP.val),(1,uH.val),(12,i64 (oP.l.length:Int)),(13,i64 0)]) [0,1,12,13] rfl ?_
 refine Zb ?_
 refine VC.iter (S:=Int) (fun (B1:Int)=>B1) (fun (B1:Int)=>[(0,oP.val),(1,uH.val),(12,i64 (oP.l.length:Int)),(13,i64 B1)]) (fun (B1:Int)=>Mo.tt) (fun (B1:Int)=>Ow.emp) 0 [0,1,12,13] hS rfl ?_
 clear hS
 rintro B1 m1 y1 hS hK1
 refine Zq (Zr ?_)
 refine Zu (dL rfl rfl) ?_
 refine Zl ?_
 refine Zq ?_
 refine Zc hS (fun h14 hS => ?_) (fun h14 hS => ?_)
 ·
  refine Zk ?_
  refine Zq (Zb (Zq (Zr ?_)))
  refine Zy ?_
  refine Zq ?_
  refine VC.draw ((List.range 9).map fun k=>(k,true)) mixed (by kernel_rfl) (by kernel_rfl) (by kernel_rfl) ?_
  refine Zw rfl (bT rfl) ?_
  refine Zw rfl (bT rfl) ?_
  obtain ⟨z7,Y5,Y3,hS⟩:=e8 hS
  refine Zw rfl (fM (s:=oP) Tryz.underlying35 fP rfl rfl Y5 (bQ Y5 Y3)) ?_
  refine Zw rfl (lZ (s:=oP) i7 rfl rfl Y3) ?_
  refine Zw rfl (bT rfl) ?_
  refine Zw rfl (bT rfl) ?_
  obtain ⟨JF,aIY,aHm,hS⟩:=e8 hS
  refine Zw rfl (fM (s:=uH) Tryz.underlying35 fP rfl rfl aIY (bQ aIY aHm)) ?_
  refine Zw rfl (lZ (s:=uH) i7 rfl rfl aHm) ?_
  refine Zw rfl (aFq aRS (aRT z7.path z7.mode z7.data JF.path JF.mode JF.data) rfl rfl) ?_
  refine VD.to (fun _ _ h=>h) ?_
  refine VC.keep (ρ':=[(0,oP.val),(1,uH.val),(12,i64 (oP.l.length:Int)),(13,i64 B1),(24,.bool (!decide (z7.path=JF.path∧z7.mode=JF.mode∧z7.data=JF.data)))]) [0,1,12,13,24] rfl ?_
  refine rI hS (fun h24 hS => ?_) (fun h24 hS => ?_)
  ·
   refine Zq (Zr ?_)
   refine Zy ?_
   replace hS:=gQ hS hK1
   cases hS
   exact Ze
  refine Zk ?_
  refine Zr ?_
  obtain ⟨b25,hS⟩:=bS hS
  refine Zu (cK rfl rfl b25) ?_
  refine Zm ?_
  refine VL.jC (B1+1) [0,1,12,13] (fun _ _ h=>h) (go2 hS hK1) rfl
 replace hS:=gQ hS hK1
 refine Zx ?_
 refine Zq (Zr ?_)
 refine Zy ?_
 cases hS
 exact Ze
theorem SD (dB:Sv aD) (q_1:Sv aD) {r:Bool} (hS:Sh.D9 dB.l q_1.l=some r) :
 Ct Tryz.prog 155 [dB.val,q_1.val] (dB.ok.and q_1.ok) (Ow.emp) (X:=Unit) (fun _ => .bool r) (fun _=>True) (fun _=>Mo.tt) (fun _=>Ow.emp):=by
 refine Zo Tryz.func155 Tryz.ntmps155 fun c => ?_
 unfold Sh.D9 at hS
 refine Zq (Zr ?_)
 refine Zy ?_
 refine Zq (Zr ?_)
 refine Zy ?_
 obtain ⟨iR,lI,hS⟩:=aU hS
 refine Zu (cN (yB dB q_1 lI) rfl (fun _ _=>rfl)) ?_
 refine Zy ?_
 cases hS
 exact Ze
theorem M4 (dB:eG) (n_1:aV) {r:Int} (hS:Sh.FB dB n_1=some r) :
 Ct Tryz.prog 322 [.agg #[str dB.name,i64 dB.c8],str n_1] Mo.tt (Ow.emp) (X:=Unit) (fun _=>i64 r) (fun _=>True) (fun _=>Mo.tt) (fun _=>Ow.emp):=by
 refine Zo Tryz.func322 Tryz.ntmps322 fun c => ?_
 unfold Sh.FB at hS
 refine Zq (Zr ?_)
 refine VL.box (cs:=[str dB.name,i64 dB.c8]) rfl rfl (by decide) fun eP => ?_
 refine Zy ?_
 refine Zq (Zr ?_)
 refine Zu (aC aBu rfl) ?_
 refine Zu (aT dK rfl rfl) ?_
 refine Zm ?_
 obtain ⟨lQ,zK,hS⟩:=aU hS
 refine Zu (cN (AV dB.name n_1 zK) rfl (fun _ _=>rfl)) ?_
 refine Zy ?_
 cases hS
 exact Ze
theorem p5 (fL:Sv eG) (kL:aV) {r:Int×Bool} (hS:Sh.iH fL.l kL=some r) :
 Ct Tryz.prog 321 [fL.val,str kL,.func (.func 322) #[] #[]] fL.ok (Ow.emp) (X:=Unit) (fun _ => .tuple #[i64 r.1,.bool r.2]) (fun _=>True) (fun _=>Mo.tt) (fun _=>Ow.emp):=by
 refine Zo Tryz.func321 Tryz.ntmps321 fun c => ?_
 unfold Sh.iH at hS
 refine Zq (Zr ?_)
 refine Zy ?_
 refine Zq (Zr ?_)
 refine Zm ?_
 refine Zu (dO (s:=fL) Tryz.underlying45 rfl) ?_
 refine Zy ?_
 refine Zq (Zr ?_)
 refine Zy ?_
 refine Zq (Zb ?_)
 refine VC.iter (S:=Int×Int) (fun sg=>(sg.1,sg.2)) (fun sg=>[(0,fL.val),(1,str kL),(2,.func (.func 322) #[] #[]),(8,i64 (fL.l.length:Int)),(9,i64 sg.1),(10,i64 sg.2)]) (fun sg=>Mo.tt) (fun sg=>Ow.emp) (0,(fL.l.length:Int)) [0,1,2,8,9,10] hS rfl ?_
 clear hS
 rintro ⟨mH,mU⟩ m1 y1 hS hK1
 refine Zq (Zq (Zr ?_))
 refine Zy ?_
 refine Zu (dL rfl rfl) ?_
 refine Zl ?_
 refine Zc hS (fun h17 hS => ?_) (fun h17 hS => ?_)
 ·
  refine Zk ?_
  refine Zb (Zq (Zr ?_))
  refine Zy ?_
  obtain ⟨b20,hS⟩:=bS hS
  refine Zu (cK rfl rfl b20) ?_
  refine Zu (y4 Tryz.underlying3 Tryz.underlying152 rfl) ?_
  refine Zu (aDX rfl rfl (by decide)) ?_
  refine Zu (y4 Tryz.underlying152 Tryz.underlying3 rfl) ?_
  refine Zy ?_
  refine VC.keep (ρ':=[(0,fL.val),(1,str kL),(2,.func (.func 322) #[] #[]),(8,i64 (fL.l.length:Int)),(9,i64 mH),(10,i64 mU),(11,i64 (IntKind.wrap .i64 (BP .u64 (IntKind.wrap .u64 (mH+mU)) 1)))]) [0,1,2,8,9,10,11] rfl ?_
  refine Zq (Zr ?_)
  refine Zy ?_
  obtain ⟨TS,U8,UR,hS⟩:=e8 hS
  refine Zu (fM (s:=fL) Tryz.underlying45 nO rfl rfl U8 (bQ U8 UR)) ?_
  refine Zu (lZ (s:=fL) aAC rfl rfl UR) ?_
  refine Zm ?_
  obtain ⟨HA,T9,hS⟩:=aU hS
  refine Zu (GV (M4 TS kL T9) rfl rfl (fun _ _=>rfl)) ?_
  refine Zu (dL rfl rfl) ?_
  refine Zl ?_
  refine VC.keep (ρ':=[(0,fL.val),(1,str kL),(2,.func (.func 322) #[] #[]),(8,i64 (fL.l.length:Int)),(9,i64 mH),(10,i64 mU),(11,i64 (IntKind.wrap .i64 (BP .u64 (IntKind.wrap .u64 (mH+mU)) 1))),(31,.bool (decide (HA < 0)))]) [0,1,2,8,9,10,11,31] rfl ?_
  refine Zc hS (fun h31 hS => ?_) (fun h31 hS => ?_)
  ·
   refine Zr ?_
   refine Zm ?_
   obtain ⟨b33,hS⟩:=bS hS
   refine Zu (cK rfl rfl b33) ?_
   refine Za ?_
   refine VL.jC (((IntKind.wrap .i64 (BP .u64 (IntKind.wrap .u64 (mH+mU)) 1))+1),mU) [0,1,2,8,9,10] (fun _ _ h=>h) (go2 hS hK1) rfl
  refine Zr ?_
  refine Zy ?_
  refine VL.jC (mH,(IntKind.wrap .i64 (BP .u64 (IntKind.wrap .u64 (mH+mU)) 1))) [0,1,2,8,9,10] (fun _ _ h=>h) (go2 hS hK1) rfl
 replace hS:=gQ hS hK1
 refine Zx ?_
 refine Zq (Zr ?_)
 refine Zy ?_
 refine Zu (dL rfl rfl) ?_
 refine Zm ?_
 refine mF 39 hS (fun h39 hS => ?_) (fun h39 hS => ?_)
 ·
  refine Zy ?_
  obtain ⟨TT,U9,US,hS⟩:=e8 hS
  refine Zh (fM (s:=fL) Tryz.underlying45 nO rfl rfl U9 (bQ U9 US)) ?_
  refine Zh (lZ (s:=fL) aAC rfl rfl US) ?_
  refine Zg ?_
  obtain ⟨TP,aCj,hS⟩:=aU hS
  refine Zh (GV (M4 TT kL aCj) rfl rfl (fun _ _=>rfl)) ?_
  refine Zh (hU rfl rfl) ?_
  refine Zy ?_
  refine VC.keep (ρ':=[(6,i64 mH),(7,.bool (decide (TP=0)))]) [6,7] rfl ?_
  cases hS
  exact VC.ret (CA (.inr rfl) rfl rfl rfl () rfl trivial (fun _ _=>trivial) (fun _ _=>trivial))
 refine VL.runs 9 [(48,some false)] (by kernel_rfl) ?_
 refine Zy ?_
 refine VC.keep (ρ':=[(6,i64 mH),(7,.bool false)]) [6,7] rfl ?_
 cases hS
 exact VC.ret (CA (.inr rfl) rfl rfl rfl () rfl trivial (fun _ _=>trivial) (fun _ _=>trivial))
theorem y5 (aB:cC) (e7:aV) {r:Int×Bool} (hS:Sh.zS aB.pl e7=some r) :
 Ct Tryz.prog 253 [.agg (aE aB).toArray,str e7] (aB.bD.ok.and (aB.aX.ok.and (aB.bK.ok.and (aB.aM.ok.and (aB.aR.ok.and (aB.aO.ok.and (aB.aS.ok.and (aB.aZ.ok.and (aB.bB.ok.and (aB.bL.ok.and aB.bE.ok)))))))))) (Ow.emp) (X:=Unit) (fun _ => .tuple #[i64 r.1,.bool r.2]) (fun _=>True) (fun _=>Mo.tt) (fun _=>Ow.emp):=by
 refine Zo Tryz.func253 Tryz.ntmps253 fun c => ?_
 unfold Sh.zS at hS
 refine Zq (Zr ?_)
 refine VL.box (cs:=(aE aB)) rfl rfl (by decide) fun eP => ?_
 refine Zy ?_
 refine Zq (Zr ?_)
 refine Zu (aC dS rfl) ?_
 refine Zu (aC j4 rfl) ?_
 refine Zu (aT rW rfl rfl) ?_
 refine Zm ?_
 obtain ⟨eS,EX,hS⟩:=aU hS
 refine Zu (cN (p5 aB.bK e7 EX) rfl (fun _ _=>rfl)) ?_
 refine Zu (bG rfl rfl) ?_
 refine Zu (bG rfl rfl) ?_
 refine Zy ?_
 refine VC.keep (ρ':=[(4,i64 eS.1),(5,.bool eS.2)]) [4,5] rfl ?_
 cases hS
 exact VC.ret (CA (.inr rfl) rfl rfl rfl () rfl trivial (fun _ _=>trivial) (fun _ _=>trivial))
theorem VW (aB:cC) {r:Bool} (hS:Sh.GW aB.pl=some r) :
 Ct Tryz.prog 259 [.agg (aE aB).toArray] (aB.bD.ok.and (aB.aX.ok.and (aB.bK.ok.and (aB.aM.ok.and (aB.aR.ok.and (aB.aO.ok.and (aB.aS.ok.and (aB.aZ.ok.and (aB.bB.ok.and (aB.bL.ok.and aB.bE.ok)))))))))) (Ow.emp) (X:=Unit) (fun _ => .bool r) (fun _=>True) (fun _=>Mo.tt) (fun _=>Ow.emp):=by
 refine Zo Tryz.func259 Tryz.ntmps259 fun c => ?_
 unfold Sh.GW at hS
 refine Zq (Zr ?_)
 refine VL.box (cs:=(aE aB)) rfl rfl (by decide) fun iE => ?_
 refine Zy ?_
 refine Zq (Zr ?_)
 refine Zu (cL cE rfl rfl) ?_
 refine Zu (aC dS rfl) ?_
 refine Zu (aC nM rfl) ?_
 refine Zu (aC NQ rfl) ?_
 refine Zu (aT dK rfl rfl) ?_
 obtain ⟨uE,T1,hS⟩:=aU hS
 refine Zu (cN (y5 aB aB.aP T1) rfl (fun _ _=>rfl)) ?_
 refine Zm ?_
 refine Zu (bG rfl rfl) ?_
 refine Zu (bG rfl rfl) ?_
 refine Zy ?_
 refine VC.keep (ρ':=[(1,ptr iE 0),(4,.bool uE.2)]) [1,4] rfl ?_
 refine Zq (Zr ?_)
 refine Zy ?_
 refine uV 15 hS (fun h15 hS => ?_) (fun h15 hS => ?_)
 ·
  refine VL.runs 14 [(2,some true)] (by kernel_rfl) ?_
  refine Zl ?_
  cases hS
  exact Ze
 refine Zh (aC dS rfl) ?_
 refine Zh (aC nM rfl) ?_
 refine Zh (aC NQ rfl) ?_
 refine Zh (aT dK rfl rfl) ?_
 refine Zh (yK rfl rfl) ?_
 refine Zy ?_
 refine mF 22 hS (fun h22 hS => ?_) (fun h22 hS => ?_)
 ·
  refine VL.runs 7 [(2,some true)] (by kernel_rfl) ?_
  refine Zl ?_
  refine VC.keep (ρ':=[(2,.bool true)]) [2] rfl ?_
  cases hS
  exact Ze
 refine Zh (aC dS rfl) ?_
 refine Zh (aC j4 rfl) ?_
 refine Zh (aT rW rfl rfl) ?_
 refine Zh (dO (s:=aB.bK) Tryz.underlying45 rfl) ?_
 refine Zh (dL rfl rfl) ?_
 refine Zy ?_
 refine VC.keep (ρ':=[(2,.bool (decide ((aB.bK.l.length:Int) < 64)))]) [2] rfl ?_
 cases hS
 exact Ze
theorem DD (aB:cC) {r:Bool} (hS:Sh.L7 aB.pl=some r) :
 Ct Tryz.prog 242 [.agg (aE aB).toArray] (aB.bD.ok.and (aB.aX.ok.and (aB.bK.ok.and (aB.aM.ok.and (aB.aR.ok.and (aB.aO.ok.and (aB.aS.ok.and (aB.aZ.ok.and (aB.bB.ok.and (aB.bL.ok.and aB.bE.ok)))))))))) (Ow.emp) (X:=Unit) (fun _ => .bool r) (fun _=>True) (fun _=>Mo.tt) (fun _=>Ow.emp):=by
 refine Zo Tryz.func242 Tryz.ntmps242 fun c => ?_
 unfold Sh.L7 at hS
 refine Zq (Zr ?_)
 refine VL.box (cs:=(aE aB)) rfl rfl (by decide) fun iE => ?_
 refine Zy ?_
 refine Zq (Zr ?_)
 refine Zu (aC lJ rfl) ?_
 refine Zu (aT qC rfl rfl) ?_
 refine Zu (qG cD.pl (s:=aB.bB) Tryz.underlying55 rfl) ?_
 refine Zu (dL rfl rfl) ?_
 refine Zm ?_
 refine mF 7 hS (fun h7 hS => ?_) (fun h7 hS => ?_)
 ·
  refine Zh (cL cE rfl rfl) ?_
  obtain ⟨EU,aAA,hS⟩:=aU hS
  refine Zh (cN (VW aB aAA) rfl (fun _ _=>rfl)) ?_
  refine Zy ?_
  refine VC.keep (ρ':=[(2,.bool EU)]) [2] rfl ?_
  cases hS
  exact Ze
 refine VL.runs 4 [(2,some false)] (by kernel_rfl) ?_
 refine Zl ?_
 cases hS
 exact Ze
theorem GX (LR:Int) {r:Bool} (hS:Sh.zG LR=some r) :
 Ct Tryz.prog 316 [i64 LR] Mo.tt (Ow.emp) (X:=Unit) (fun _ => .bool r) (fun _=>True) (fun _=>Mo.tt) (fun _=>Ow.emp):=by
 refine Zo Tryz.func316 Tryz.ntmps316 fun c => ?_
 unfold Sh.zG at hS
 refine Zq (Zr ?_)
 refine Zy ?_
 refine Zq (Zr ?_)
 refine Zm ?_
 refine Zu (dL rfl rfl) ?_
 refine Zy ?_
 cases hS
 exact Ze
theorem EG (aB:Sv Int) {r:Int} (hS:Sh.rN aB.l=some r) :
 Ct Tryz.prog 354 [aB.val,.func (.func 316) #[] #[]] aB.ok (Ow.emp) (X:=Unit) (fun _=>i64 r) (fun _=>True) (fun _=>Mo.tt) (fun _=>Ow.emp):=by
 refine Zo Tryz.func354 Tryz.ntmps354 fun c => ?_
 unfold Sh.rN at hS
 refine Zq (Zr ?_)
 refine Zy ?_
 refine Zq (Zq (Zr ?_))
 refine Zm ?_
 refine Zu (dO (s:=aB) Tryz.underlying65 rfl) ?_
 refine Zy ?_
 refine Zb ?_
 refine VC.iter (S:=Int) (fun (cS:Int)=>cS) (fun (cS:Int)=>[(0,aB.val),(1,.func (.func 316) #[] #[]),(7,i64 (aB.l.length:Int)),(8,i64 cS)]) (fun (cS:Int)=>Mo.tt) (fun (cS:Int)=>Ow.emp) 0 [0,1,7,8] hS rfl ?_
 clear hS
 rintro cS m1 y1 hS hK1
 refine Zq (Zr ?_)
 refine Zu (dL rfl rfl) ?_
 refine Zl ?_
 refine Zq ?_
 refine Zc hS (fun h9 hS => ?_) (fun h9 hS => ?_)
 ·
  refine Zk ?_
  refine Zq (Zb (Zq (Zr ?_)))
  refine Zy ?_
  refine Zq (Zr ?_)
  refine Zy ?_
  obtain ⟨gF,mD,mC,hS⟩:=e8 hS
  refine Zu (fM (s:=aB) Tryz.underlying65 AE rfl rfl mD (bQ mD mC)) ?_
  refine Zu (rH (s:=aB) fG rfl mC rfl) ?_
  obtain ⟨kQ,rV,hS⟩:=aU hS
  refine Zu (GV (GX gF rV) rfl rfl (fun _ _=>rfl)) ?_
  refine Zl ?_
  refine VC.keep (ρ':=[(0,aB.val),(1,.func (.func 316) #[] #[]),(7,i64 (aB.l.length:Int)),(8,i64 cS),(5,i64 cS),(16,.bool kQ)]) [0,1,7,8,5,16] rfl ?_
  refine iT hS (fun h16 hS => ?_) (fun h16 hS => ?_)
  ·
   refine Zq (Zr ?_)
   refine Zy ?_
   replace hS:=gQ hS hK1
   cases hS
   exact Ze
  refine Zk ?_
  refine Zr ?_
  obtain ⟨b18,hS⟩:=bS hS
  refine Zu (cK rfl rfl b18) ?_
  refine Zm ?_
  refine VL.jC (cS+1) [0,1,7,8] (fun _ _ h=>h) (go2 hS hK1) rfl
 replace hS:=gQ hS hK1
 refine Zx ?_
 refine Zq (Zr ?_)
 refine Zy ?_
 cases hS
 exact Ze
theorem D1 (aB:Sv Int) {r:List Int} (hS:Sh.qX aB.l=some r) :
 Ct Tryz.prog 315 [aB.val,.func (.func 316) #[] #[]] Mo.tt (Sv.own aB 3) (X:=Sv Int) (fun x=>x.val) (fun x=>r=x.l) (fun x=>Mo.tt) (fun x=>Sv.own x 3):=by
 refine Zo Tryz.func315 Tryz.ntmps315 fun c => ?_
 unfold Sh.qX at hS
 refine Zq (Zr ?_)
 refine Zy ?_
 refine Zq (Zr ?_)
 refine Zy ?_
 obtain ⟨dG,lU,hS⟩:=aU hS
 refine Zu (oO (EG aB lU) rfl (fun _ _=>rfl)) ?_
 refine Zy ?_
 refine Zq (Zq (Zr ?_))
 refine Zm ?_
 refine Zu (hU rfl rfl) ?_
 refine Zl ?_
 refine Zc hS (fun h12 hS => ?_) (fun h12 hS => ?_)
 ·
  refine Zq (Zr ?_)
  refine Zy ?_
  cases hS
  exact VC.ret (fA (.inr rfl) rfl rfl aB rfl rfl (by (try dsimp only); exact cO.out) (by (try dsimp only); exact eT.out))
 refine Zk ?_
 refine Zq (Zq (Zr ?_))
 refine Zm ?_
 obtain ⟨b15,hS⟩:=bS hS
 refine Zu (cK rfl rfl b15) ?_
 refine Zy ?_
 refine VC.keep (ρ':=[(0,aB.val),(1,.func (.func 316) #[] #[]),(5,i64 dG),(6,i64 (dG+1))]) [0,1,5,6] rfl ?_
 refine Zb ?_
 refine VC.iter (S:=Sv Int×Int×Int) (fun sg=>(sg.1.l,sg.2.1,sg.2.2)) (fun sg=>[(0,sg.1.val),(1,.func (.func 316) #[] #[]),(5,i64 sg.2.1),(6,i64 sg.2.2)]) (fun sg=>Mo.tt) (fun sg=>Ow.star (Sv.own sg.1 3) (Ow.emp)) (aB,dG,(dG+1)) [0,1,5,6] hS rfl ?_
 clear hS
 rintro ⟨e6,gH,kU⟩ m1 y1 hS hK1
 refine Zq (Zq (Zr ?_))
 refine Zy ?_
 refine Zu (dO (s:=e6) Tryz.underlying65 rfl) ?_
 refine Zu (dL rfl rfl) ?_
 refine Zl ?_
 refine Zc hS (fun h19 hS => ?_) (fun h19 hS => ?_)
 ·
  refine Zk ?_
  refine VC.gD (S:=Sv Int×Int) (fun sg=>(sg.1.l,sg.2)) (fun sg=>[(0,sg.1.val),(1,.func (.func 316) #[] #[]),(5,i64 sg.2),(6,i64 kU)]) (fun sg=>Mo.tt) (fun sg=>Ow.star (Sv.own sg.1 3) (Ow.emp)) hS ?_ ?_
  ·
   clear hS
   intro k7 hS
   refine Zb (Zq (Zr ?_))
   refine Zy ?_
   obtain ⟨cY,wB,v7,hS⟩:=e8 hS
   refine Zu (l5 (s:=e6) Tryz.underlying65 AE rfl rfl wB (bQ wB v7)) ?_
   refine Zu (ED (s:=e6) 3 fG rfl v7 rfl) ?_
   refine Zy ?_
   refine VC.keep (ρ':=[(0,e6.val),(1,.func (.func 316) #[] #[]),(5,i64 gH),(6,i64 kU),(7,i64 cY)]) [0,1,5,6,7] rfl ?_
   refine Zq (Zr ?_)
   refine Zy ?_
   obtain ⟨aPZ,aQd,hS⟩:=aU hS
   refine Zu (GV (GX cY aQd) rfl rfl (fun _ _=>rfl)) ?_
   refine Zu (lN rfl) ?_
   refine Zl ?_
   refine iT hS (fun h29 hS => ?_) (fun h29 hS => ?_)
   ·
    refine Zq (Zr ?_)
    refine Zy ?_
    obtain ⟨aTn,aFG,aEb,hS⟩:=e8 hS
    refine Zu (l5 (s:=e6) Tryz.underlying65 AE rfl rfl aFG (bQ aFG aEb)) ?_
    refine VL.sJ (s:=e6) (T:=3) (j:=0) (vc:=[i64 cY]) (cY:Int) (by decide) rfl rfl aEb rfl AE rfl rfl (Nat.le_of_ble_eq_true rfl) rfl (fun w11 hw11 haw11 hcw11 hvw11 hbw11 how11 => ?_)
    rw [← hvw11]
    replace hS:=b5 hw11 hS
    refine Zl ?_
    refine VC.keep (ρ':=[(0,w11.val),(1,.func (.func 316) #[] #[]),(5,i64 gH),(6,i64 kU)]) [0,1,5,6] rfl ?_
    refine Zr ?_
    refine Zm ?_
    obtain ⟨b35,hS⟩:=bS hS
    refine Zu (cK rfl rfl b35) ?_
    refine Za ?_
    refine VL.mt (w11,(gH+1)) [0,1,5,6] (fun _ _ h=>h) hS rfl
   refine VC.fZ (e6,gH) [0,1,5,6] (fun _ _ h=>h) hS rfl
  clear hS
  rintro ⟨BO,BC⟩ hS
  refine Zr ?_
  refine Zm ?_
  obtain ⟨b21,hS⟩:=bS hS
  refine Zu (cK rfl rfl b21) ?_
  refine Za ?_
  refine VL.jC (BO,BC,(kU+1)) [0,1,5,6] (fun _ _ h=>h) (go2 hS hK1) rfl
 replace hS:=gQ hS hK1
 refine Zx ?_
 refine Zq (Zr ?_)
 refine Zy ?_
 obtain ⟨b38,hS⟩:=bS hS
 refine VL.fits (s:=e6) (e:=3) Fo.out fun aH0 => ?_
 refine Zu (HX (s:=e6) Tryz.underlying65 AE rfl rfl b38.1 b38.2 aH0) ?_
 refine VL.aEK (s:=e6) (i:=gH.toNat) (i64 0) Tryz.underlying65 aVb rfl rfl rfl (by have:=b38; dsimp only at this ⊢; omega) Fo.out fun aJE aNz aPG => ?_
 replace hS:=b5 aNz hS
 refine Zl ?_
 refine VC.keep (ρ':=[(0,e6.val),(5,i64 gH)]) [0,5] rfl ?_
 refine Zq (Zr ?_)
 refine Zy ?_
 refine Zu (VS (s:=e6) (q:=aJE) Tryz.underlying65 AE rfl rfl b38.1 b38.2 aH0 aPG) ?_
 refine Zy ?_
 cases hS
 exact VC.ret (fA (.inr rfl) rfl rfl aJE rfl rfl (by (try dsimp only); exact cO.out) (by (try dsimp only); exact eT.out))
theorem KB (aB:cC) (JV:Int) {r:List Int} (hS:Sh.IV aB.pl JV=some r) :
 Ct Tryz.prog 244 [.agg (aE aB).toArray,i64 JV] (aB.bD.ok.and (aB.aX.ok.and (aB.bK.ok.and (aB.aM.ok.and (aB.aR.ok.and (aB.aO.ok.and (aB.aS.ok.and (aB.aZ.ok.and (aB.bB.ok.and (aB.bL.ok.and aB.bE.ok)))))))))) (Ow.emp) (X:=Sv Int) (fun x=>x.val) (fun x=>r=x.l) (fun x=>Mo.tt) (fun x=>Sv.own x 3):=by
 refine Zo Tryz.func244 Tryz.ntmps244 fun c => ?_
 unfold Sh.IV at hS
 refine Zq (Zr ?_)
 refine VL.box (cs:=(aE aB)) rfl rfl (by decide) fun eP => ?_
 refine Zy ?_
 refine Zq (Zr ?_)
 refine Zu (aC dS rfl) ?_
 refine Zu (aC nM rfl) ?_
 refine Zu (aC BA rfl) ?_
 refine Zu (aT fG rfl rfl) ?_
 refine Zm ?_
 refine VL.aIG (α:=Int) (xs:=[.tmp 8,.tmp 9]) (vs:=[i64 aB.aF,i64 JV]) [aB.aF,JV] Tryz.underlying65 oI (by decide) rfl rfl rfl rfl (by decide) (by decide) (fun aUh aR2 => ?_) (by decide)
 replace hS:=b5 aR2 hS
 obtain ⟨EM,HN,hS⟩:=aU hS
 refine VL.cA (D1 aUh HN) rfl (by decide) ?_
 rintro N7 rfl
 try dsimp only
 refine Zy ?_
 refine VC.keep (ρ':=[(4,N7.val)]) [4] rfl ?_
 cases hS
 exact VC.ret (fA (.inr rfl) rfl rfl N7 rfl rfl (by (try dsimp only); exact cO.out) (by (try dsimp only); exact eT.out))
theorem nW (aB:Sv cD) {r:List kI} (hS:Sh.lB (aB.l.map cD.pl)=some r) :
 Ct Tryz.prog 314 [aB.val] aB.ok (Ow.emp) (X:=Sv cD) (fun x=>x.val) (fun x=>r=(x.l.map cD.pl)) (fun x=>(zI x.l)) (fun x=>Sv.own x 67):=by
 refine Zo Tryz.func314 Tryz.ntmps314 fun c => ?_
 unfold Sh.lB at hS
 refine Zq (Zr ?_)
 refine Zy ?_
 refine Zq (Zq (Zr ?_))
 refine Zm ?_
 refine Zu (DZ (s:=aB) Tryz.underlying55 rfl) ?_
 refine Zl ?_
 refine VC.slnil (s:=aB) rfl (fun h4 => ?_) ?_
 ·
  have hS:(some [])=some r:=by
    simp [lt,gd,h4] at hS ⊢
    try exact hS
  refine Zq (Zr ?_)
  refine Zy ?_
  refine VC.lR (⟨none,0,[]⟩:Sv cD) 67 ⟨rfl,rfl⟩ ?_
  refine VC.LQ (s:=(⟨none,0,[]⟩:Sv cD)) rfl ?_
  cases hS
  exact VC.ret (fA (.inr rfl) rfl rfl ⟨none,0,[]⟩ rfl rfl (by (try dsimp only); exact cO.out) (by (try dsimp only); exact eT.out))
 refine Zk ?_
 refine Zq (Zr ?_)
 refine VL.YE (α:=cD) Tryz.underlying55 aRV (by decide) (fun wY qD uM => ?_)
 refine VL.lR wY 67 ⟨uM,qD⟩ ?_
 refine VL.LQ qD ?_
 replace hS:=b5 (congrArg (List.map cD.pl) qD) hS
 refine Zm ?_
 obtain ⟨b7,hS⟩:=bS hS
 refine VL.app (s:=wY) (r:=aB) Tryz.underlying55 YY (by decide) rfl Fo.out (uW (TV b7)) (uX (TV b7) (by decide)) (by decide) (fun GY yI => ?_)
 replace hS:=b5 ((congrArg (List.map cD.pl) yI).trans List.map_append) hS
 refine VL.SS yI ?_
 refine Zy ?_
 cases hS
 exact VC.ret (fA (.inr rfl) rfl rfl GY rfl rfl (by (try dsimp only); exact cO.out) (by (try dsimp only); exact eT.out))
theorem yM (aB:Sv eG) {r:List eG} (hS:Sh.nF aB.l=some r) :
 Ct Tryz.prog 252 [aB.val] aB.ok (Ow.emp) (X:=Sv eG) (fun x=>x.val) (fun x=>r=x.l) (fun x=>Mo.tt) (fun x=>Sv.own x 253):=by
 refine Zo Tryz.func252 Tryz.ntmps252 fun c => ?_
 unfold Sh.nF at hS
 refine Zq (Zr ?_)
 refine Zy ?_
 refine Zq (Zq (Zr ?_))
 refine Zm ?_
 refine Zu (DZ (s:=aB) Tryz.underlying45 rfl) ?_
 refine Zl ?_
 refine VC.slnil (s:=aB) rfl (fun h4 => ?_) ?_
 ·
  have hS:(some [])=some r:=by
    simp [lt,gd,h4] at hS ⊢
    try exact hS
  refine Zq (Zr ?_)
  refine Zy ?_
  refine VC.lR (⟨none,0,[]⟩:Sv eG) 253 ⟨rfl,rfl⟩ ?_
  cases hS
  exact VC.ret (fA (.inr rfl) rfl rfl ⟨none,0,[]⟩ rfl rfl (by (try dsimp only); exact cO.out) (by (try dsimp only); exact eT.out))
 refine Zk ?_
 refine Zq (Zr ?_)
 refine VL.YE (α:=eG) Tryz.underlying45 aNS (by decide) (fun wY qD uM => ?_)
 refine VL.lR wY 253 ⟨uM,qD⟩ ?_
 replace hS:=b5 qD hS
 refine Zm ?_
 obtain ⟨b7,hS⟩:=bS hS
 refine VL.app (s:=wY) (r:=aB) Tryz.underlying45 UD (by decide) rfl Fo.out (uW b7) (uX b7 (by decide)) (by decide) (fun GY yI => ?_)
 replace hS:=b5 yI hS
 refine Zy ?_
 cases hS
 exact VC.ret (fA (.inr rfl) rfl rfl GY rfl rfl (by (try dsimp only); exact cO.out) (by (try dsimp only); exact eT.out))
theorem aB5 (s v:Sv eG) (i:Int) (hi:0≤i∧i≤(s.l.length:Int)) (hv:v.l≠[]) (hb:s.l.length+v.l.length≤4294967296):Ct Tryz.prog 255 [s.val,i64 i,v.val] Mo.tt (Ow.star (s.own 253) (v.own 253)) (X:=Sv eG) (fun q=>q.val) (fun q=>q.l=s.l.take i.toNat++v.l++s.l.drop i.toNat) (fun _=>Mo.tt) (fun q=>q.own 253):=by
 refine Zo Tryz.func255 Tryz.ntmps255 fun c => ?_
 have hvp:0 < v.l.length:=List.length_pos_iff.2 hv
 have hK:bO.sz eG=2:=rfl
 refine Zq (Zr ?_)
 refine Zy ?_
 refine Zq (Zr ?_)
 refine Zy ?_
 refine VL.fits (s:=s) (e:=253) Fo.out fun hf => ?_
 refine Zu (HX (s:=s) Tryz.underlying45 nO rfl rfl hi.1 hi.2 hf) ?_
 refine Zl ?_
 refine Zq (Zr ?_)
 refine Zm ?_
 refine Zu (dO (s:=v) Tryz.underlying45 rfl) ?_
 refine Zy ?_
 refine Zq (Zq (Zr ?_))
 refine Zm ?_
 refine Zu (hU rfl rfl) ?_
 refine Zl ?_
 refine VC.vE rfl (fun h16=>absurd h16 (by omega)) (fun h16 => ?_)
 refine Zk ?_
 refine Zq (Zr ?_)
 refine Zm ?_
 refine Zu (dO (s:=s) Tryz.underlying45 rfl) ?_
 refine Zy ?_
 refine Zq (Zq (Zr ?_))
 refine Zy ?_
 refine Zu (hU rfl rfl) ?_
 refine Zl ?_
 refine VC.vE rfl (fun h22 => ?_) (fun h22 => ?_)
 ·
  refine Zq (Zr ?_)
  refine Zy ?_
  refine VL.shut v 253 (fun _ _ _ _=>trivial) ?_
  refine VL.aLM (s:=s) (r:=v) Tryz.underlying45 Tryz.underlying45 UD (by decide) rfl Fo.out (uW hb) (uX hb (by decide)) (by decide) (fun q hq => ?_)
  refine Zy ?_
  have e1:i.toNat=s.l.length:=by omega
  exact VC.ret (fA (.inr rfl) rfl rfl q rfl (by rw [hq,e1,List.take_length,List.drop_length,List.append_nil]) (fun _ _=>trivial) eT.out)
 have hin:i < (s.l.length:Int):=by omega
 have hne:s.l≠[]:=fun h=>by rw [h] at hin; simp at hin; omega
 have hkq:(s.l.length:Int)+(v.l.length:Int) - i=((s.l.length+v.l.length - i.toNat:Nat):Int):=by omega
 have hLn:(s.l.take i.toNat++v.l++s.l.drop i.toNat).length=s.l.length+v.l.length:=by simp only [List.length_append,List.length_take,List.length_drop]; omega
 have hfl:(s.l.take i.toNat++v.l++s.l.drop i.toNat).flatMap bO.enc=(s.l.take i.toNat).flatMap bO.enc++v.l.flatMap bO.enc++(s.l.drop i.toNat).flatMap bO.enc:=by rw [List.flatMap_append,List.flatMap_append]
 have lA:((s.l.take i.toNat).flatMap bO.enc).length=i.toNat*2:=by rw [gU,List.length_take,hK,Nat.min_eq_left (by omega)]
 have lV:(v.l.flatMap bO.enc).length=v.l.length*2:=by rw [gU,hK]
 have lS:((s.l.drop i.toNat).flatMap bO.enc).length=(s.l.length - i.toNat)*2:=by rw [gU,List.length_drop,hK]
 refine Zk ?_
 refine Zq (Zq (Zr ?_))
 refine Zy ?_
 refine Zu (cK rfl rfl ⟨by omega,by omega⟩) ?_
 refine Zm ?_
 refine Zu (aDU (a0:=s.a) (L:=s.l.length) (C:=s.c) Tryz.underlying45 rfl) ?_
 refine Zu (jF rfl rfl) ?_
 refine Zl ?_
 refine VC.vE rfl (fun h31 => ?_) (fun h31 => ?_)
 ·
  refine VC.shut s 253 (fun _ _ _ _=>trivial) ?_
  refine VC.shut v 253 (fun _ _ _ _=>trivial) ?_
  refine Zq (Zr ?_)
  refine VL.A4 (φ:=s.a=some ⟨s.b,s.o,none⟩) (fun h m=>(cO.out (X:=s.ok) h m).2.2.1 hne) fun hsa => ?_
  refine VL.A4 (φ:=v.a=some ⟨v.b,v.o,none⟩) (fun h m=>(cO.out (X:=v.ok) h m).2.2.1 hv) fun hva => ?_
  refine Zy ?_
  refine Zu (XU (a0:=s.a) (L:=s.l.length) (C:=s.c) (K:=2) Tryz.underlying45 nO rfl rfl hi.1 (by omega)) ?_
  refine Zy ?_
  refine Zu (cK rfl rfl ⟨by omega,by omega⟩) ?_
  refine Zm ?_
  refine Zu (o7 rfl rfl ⟨by omega,by omega⟩) ?_
  refine VL.M6 39 rfl (congrArg (Value.int .i64) hkq) ?_
  refine VL.aGJ (s:=s) (L:=i.toNat) (kq:=s.l.length+v.l.length - i.toNat) Tryz.underlying45 Tryz.underlying3 UD (by decide) rfl hne (by omega) (by omega) (by omega) (by omega) (by decide) (by decide) fun g cs cp hcl hcp hcm hct => ?_
  rw [hK] at hcl hct
  rw [show i.toNat+(s.l.length+v.l.length - i.toNat)=s.l.length+v.l.length by omega] at hcp ⊢
  have hfit:((s.l.take i.toNat).flatMap bO.enc).length+(v.l.flatMap bO.enc).length+((s.l.drop i.toNat).flatMap bO.enc).length≤cs.length:=by
    rw [lA,lV,lS,hcl,← Nat.add_mul,← Nat.add_mul]; exact Nat.mul_le_mul_right _ (by omega)
  have hic:=NU (V:=v.l.flatMap bO.enc) (S:=(s.l.drop i.toNat).flatMap bO.enc) (by rw [lA]; exact hct) hfit
  rw [← hfl,lA,lV,lS] at hic
  refine Zy ?_
  refine Zq (Zr ?_)
  refine Zy ?_
  refine Zu (mL (b:=g) (o:=0) (L:=s.l.length+v.l.length) (C:=cp) (K:=2) Tryz.underlying45 nO rfl rfl hi.1 (by omega) hcp (by omega) rfl) ?_
  refine Zm ?_
  refine VL.M6 44 rfl (show v.val = .slice (some ⟨v.b,v.o+0*bO.sz eG,none⟩) v.l.length v.c by unfold Sv.val; rw [hva,Nat.zero_mul]; rfl) ?_
  refine VL.D8 (src:=v.l.flatMap bO.enc) Tryz.underlying45 nO rG.out rfl (by rw [lV]; congr 1; exact (Nat.min_eq_left (by omega)).symm) (JU (r:=v) (by decide) hv) (rP v.l) (by rw [lV,Nat.zero_add,hcl,← Nat.add_mul]; exact Nat.mul_le_mul_right _ (by omega)) (by decide) ?_
  rw [Nat.zero_add,lV]
  refine Zl ?_
  refine Zq ?_
  refine VC.draw [(0,true),(1,true),(2,true),(3,true),(4,true),(5,true),(6,true),(7,true),(8,false)] mixed (by kernel_rfl) (by kernel_rfl) (by kernel_rfl) ?_
  refine Zw rfl (bT rfl) ?_
  refine Zw rfl (bT rfl) ?_
  refine Zw rfl (bT rfl) ?_
  refine Zw rfl (cK rfl rfl ⟨by omega,by omega⟩) ?_
  refine Zw rfl (mL (b:=g) (o:=0) (L:=s.l.length+v.l.length) (C:=cp) (K:=2) Tryz.underlying45 nO rfl rfl (by omega) (by omega) hcp (by omega) rfl) ?_
  refine Zw rfl (bT rfl) ?_
  refine Zw rfl (bT rfl) ?_
  refine Zw rfl (mL (b:=s.b) (o:=s.o) (L:=s.l.length) (C:=s.c) (K:=2) Tryz.underlying45 nO (show some s.val=_ by unfold Sv.val; rw [hsa]) rfl hi.1 (by omega) hf (by omega) rfl) ?_
  refine VD.one rfl ?_
  rw [show (i+(v.l.length:Int)).toNat=i.toNat+v.l.length by omega]
  refine VL.D8 (src:=(s.l.drop i.toNat).flatMap bO.enc) Tryz.underlying45 nO rG.out rfl (by rw [lS]; congr 1; exact (Nat.min_eq_left (by omega)).symm) (VA (r:=s) (by decide) hne i.toNat) (rP _) (by rw [lS,Nat.zero_add,hic.1,hcl,← Nat.add_mul]; exact Nat.mul_le_mul_right _ (by omega)) (by decide) ?_
  rw [Nat.zero_add,lS,Nat.add_mul]
  refine VL.back (D':=[]) (by kernel_rfl) aN.nil ?_
  refine VD.to (fun _ _ h=>h) ?_
  refine Zq (Zr ?_)
  refine Zy ?_
  have ho:=fun F=>JW (F:=F) (e:=253) (b:=g) (l':=s.l.take i.toNat++v.l++s.l.drop i.toNat) (hic.2.1.trans hcl) (by rw [gU] at hic; exact hic.2.2) hLn hcp hcm
  exact VC.ret (fA (.inr rfl) rfl rfl ⟨some ⟨g,0,none⟩,cp,_⟩ (ho Ow.emp).1 rfl (fun _ _=>trivial) (ho _).2)
 refine Zk ?_
 refine Zq (Zr ?_)
 refine VL.open (s:=s) (e:=253) Fo.out (by omega) fun b cs hsa hcl hct _ hcm => ?_
 rw [hK] at hcl hct
 have hctA:cs.take ((s.l.take i.toNat).flatMap bO.enc).length=(s.l.take i.toNat).flatMap bO.enc:=by
   rw [lA]
   have:cs.take (i.toNat*2)=(cs.take (s.l.length*2)).take (i.toNat*2):=by rw [List.take_take,Nat.min_eq_left (Nat.mul_le_mul_right _ (by omega))]
   rw [this,hct]
   exact vG s.l i.toNat
 have hfit:((s.l.take i.toNat).flatMap bO.enc).length+(v.l.flatMap bO.enc).length+((s.l.drop i.toNat).flatMap bO.enc).length≤cs.length:=by
   rw [lA,lV,lS,hcl,← Nat.add_mul,← Nat.add_mul]; exact Nat.mul_le_mul_right _ (by omega)
 have hic:=NV (V:=v.l.flatMap bO.enc) (S:=(s.l.drop i.toNat).flatMap bO.enc) hctA hfit
 rw [← hfl,lA,lV,lS] at hic
 refine Zy ?_
 refine Zu (cK rfl rfl ⟨by omega,by omega⟩) ?_
 refine Zu (XU (a0:=s.a) (L:=s.l.length) (C:=s.c) (K:=2) Tryz.underlying45 nO rfl rfl (by omega) (by omega)) ?_
 rw [show ((s.l.length:Int)+(v.l.length:Int)).toNat=s.l.length+v.l.length by omega,hsa]
 refine Zy ?_
 refine Zq (Zq (Zr ?_))
 refine Zy ?_
 refine Zu (cK rfl rfl ⟨by omega,by omega⟩) ?_
 refine Zu (mL (b:=b) (o:=0) (L:=s.l.length+v.l.length) (C:=s.c) (K:=2) Tryz.underlying45 nO rfl rfl (by omega) (by omega) (by omega) (by omega) rfl) ?_
 refine Zu (OH (tS:=45) (tR:=4) (s:=v) (b:=b) Tryz.func323 rfl rfl (by kernel_rfl) (by kernel_rfl) Tryz.underlying45 nO rfl rG.out (fun h=>by rw [h] at hcl; simp at hcl; omega) hv) ?_
 refine Zu (lN rfl) ?_
 refine Zl ?_
 refine VC.EV rfl ?_
 refine VC.shut v 253 (fun _ _ _ _=>trivial) ?_
 refine Zq ?_
 refine VC.draw [(0,true),(1,true),(2,true),(3,true),(4,true),(5,true),(6,true),(7,true),(8,false)] mixed (by kernel_rfl) (by kernel_rfl) (by kernel_rfl) ?_
 refine Zw rfl (bT rfl) ?_
 refine Zw rfl (bT rfl) ?_
 refine Zw rfl (bT rfl) ?_
 refine Zw rfl (cK rfl rfl ⟨by omega,by omega⟩) ?_
 refine Zw rfl (mL (b:=b) (o:=0) (L:=s.l.length+v.l.length) (C:=s.c) (K:=2) Tryz.underlying45 nO rfl rfl (by omega) (by omega) (by omega) (by omega) rfl) ?_
 refine Zw rfl (bT rfl) ?_
 refine Zw rfl (bT rfl) ?_
 refine Zw rfl (mL (b:=b) (o:=0) (L:=s.l.length+v.l.length) (C:=s.c) (K:=2) Tryz.underlying45 nO rfl rfl hi.1 (by omega) (by omega) (by omega) rfl) ?_
 refine VD.one rfl ?_
 rw [show (i+(v.l.length:Int)).toNat=i.toNat+v.l.length by omega,Nat.zero_add,Nat.zero_add]
 refine VL.D8 (src:=(s.l.drop i.toNat).flatMap bO.enc) Tryz.underlying45 nO rG.out rfl (by rw [lS]; congr 1; simp only [Nat.min_def]; split <;> omega) (ZV (n:=s.l.length) hct rfl) (rP _) (by rw [lS,hcl,← Nat.add_mul]; exact Nat.mul_le_mul_right _ (by omega)) (by decide) ?_
 rw [lS,Nat.add_mul]
 refine VL.back (D':=[]) (by kernel_rfl) aN.nil ?_
 refine VD.to (fun _ _ h=>h) ?_
 refine Zq (Zr ?_)
 refine Zy ?_
 refine Zu (mL (b:=b) (o:=0) (L:=s.l.length+v.l.length) (C:=s.c) (K:=2) Tryz.underlying45 nO rfl rfl hi.1 (by omega) (by omega) (by omega) rfl) ?_
 refine Zm ?_
 refine VL.A4 (φ:=v.a=some ⟨v.b,v.o,none⟩) (fun h m=>(cO.out (X:=v.ok) h m).2.2.1 hv) fun hva => ?_
 refine VL.M6 81 rfl (show v.val = .slice (some ⟨v.b,v.o+0*bO.sz eG,none⟩) v.l.length v.c by unfold Sv.val; rw [hva,Nat.zero_mul]; rfl) ?_
 rw [Nat.zero_add]
 refine VL.D8 (src:=v.l.flatMap bO.enc) Tryz.underlying45 nO rG.out rfl (by rw [lV]; congr 1; exact (Nat.min_eq_left (by omega)).symm) (JU (r:=v) (by decide) hv) (rP v.l) (by rw [lV,hic.1,hcl,← Nat.add_mul]; exact Nat.mul_le_mul_right _ (by omega)) (by decide) ?_
 rw [lV]
 refine Zl ?_
 refine Zq (Zr ?_)
 refine Zy ?_
 have ho:=fun F=>JW (F:=F) (e:=253) (b:=b) (l':=s.l.take i.toNat++v.l++s.l.drop i.toNat) (hic.2.1.trans hcl) (by rw [gU] at hic; exact hic.2.2) hLn (by omega) hcm
 exact VC.ret (fA (.inr rfl) rfl rfl ⟨some ⟨b,0,none⟩,s.c,_⟩ (ho Ow.emp).1 rfl (fun _ _=>trivial) (ho _).2)
theorem VX (aB:cC) (e7:aV) (oD:Int) {r:bM} (hS:Sh.QH aB.pl e7 oD=some r) :
 Ct Tryz.prog 161 [.agg (aE aB).toArray,str e7,i64 oD] (aB.bD.ok.and (aB.aX.ok.and (aB.bK.ok.and (aB.aM.ok.and (aB.aR.ok.and (aB.aO.ok.and (aB.aS.ok.and (aB.aZ.ok.and (aB.bB.ok.and (aB.bL.ok.and aB.bE.ok)))))))))) (Ow.emp) (X:=cC) (fun x => .agg (bO.enc x).toArray) (fun x=>r=x.pl) (fun x=>x.m) (fun x=>Ow.emp):=by
 refine Zo Tryz.func161 Tryz.ntmps161 fun c => ?_
 unfold Sh.QH at hS
 refine Zq (Zr ?_)
 refine VL.box (cs:=(aE aB)) rfl rfl (by decide) fun iM => ?_
 refine VL.alloc (cs:=[.slice none 0 0,.slice none 0 0,.slice none 0 0,str [],i64 0,str [],i64 0,str [],.slice none 0 0,.slice none 0 0,i64 0,str [],str [],i64 0,.slice none 0 0,.slice none 0 0,.slice none 0 0,.slice none 0 0,.slice none 0 0,.slice none 0 0,i64 0]) (by kernel_rfl) (by decide) fun AD => ?_
 refine Zl ?_
 refine Zq (Zr ?_)
 refine Zu (aC dS rfl) ?_
 refine Zu (aC j4 rfl) ?_
 refine Zu (aT rW rfl rfl) ?_
 obtain ⟨kH,rU,hS⟩:=aU hS
 refine VL.cA (yM aB.bK rU) rfl (by decide) ?_
 rintro fN rfl
 try dsimp only
 refine Zu (aC dS rfl) ?_
 refine Zu (aC j4 rfl) ?_
 refine Zv (vc:=[fN.val]) (cs':=[aB.bD.val,aB.aX.val,fN.val,str aB.aP,i64 aB.aF,str aB.bC,i64 aB.bA,str aB.bJ,aB.aM.val,aB.aR.val,i64 aB.bI,str aB.aW,str aB.aI,i64 aB.aJ,aB.aO.val,aB.aS.val,aB.aZ.val,aB.bB.val,aB.bL.val,aB.bE.val,i64 aB.time]) rfl W5 ?_
 refine Zl ?_
 refine VC.keep (ρ':=[(1,str e7),(2,i64 oD),(3,ptr iM 0),(6,ptr AD 0)]) [1,2,3,6] rfl ?_
 refine Zq (Zr ?_)
 refine Zu (cL cE rfl rfl) ?_
 refine Zm ?_
 obtain ⟨EO,aQN,hS⟩:=aU hS
 refine Zu (oO (y5 (⟨aB.bD,aB.aX,fN,aB.aP,aB.aF,aB.bC,aB.bA,aB.bJ,aB.aM,aB.aR,aB.bI,aB.aW,aB.aI,aB.aJ,aB.aO,aB.aS,aB.aZ,aB.bB,aB.bL,aB.bE,aB.time⟩:cC) e7 aQN) rfl (fun _ _=>rfl)) ?_
 refine Zm ?_
 refine Zu (bG rfl rfl) ?_
 refine Zu (bG rfl rfl) ?_
 refine Zy ?_
 refine Zq (Zb ?_)
 refine VC.gD (S:=Bool) (fun (O9:Bool)=>O9) (fun (O9:Bool)=>[(1,str e7),(2,i64 oD),(3,ptr iM 0),(6,ptr AD 0),(7,i64 EO.1),(8,.bool EO.2),(21,.bool O9)]) (fun (O9:Bool)=>Mo.tt) (fun (O9:Bool)=>Ow.star (bP iM [aB.bD.val,aB.aX.val,fN.val,str aB.aP,i64 aB.aF,str aB.bC,i64 aB.bA,str aB.bJ,aB.aM.val,aB.aR.val,i64 aB.bI,str aB.aW,str aB.aI,i64 aB.aJ,aB.aO.val,aB.aS.val,aB.aZ.val,aB.bB.val,aB.bL.val,aB.bE.val,i64 aB.time] 59) (Ow.star (bP AD [.slice none 0 0,.slice none 0 0,.slice none 0 0,str [],i64 0,str [],i64 0,str [],.slice none 0 0,.slice none 0 0,i64 0,str [],str [],i64 0,.slice none 0 0,.slice none 0 0,.slice none 0 0,.slice none 0 0,.slice none 0 0,.slice none 0 0,i64 0] 59) (Ow.star (Sv.own fN 253) (Ow.emp)))) hS ?_ ?_
 ·
  clear hS
  intro k6 hS
  refine Zr ?_
  refine Zy ?_
  refine uV 23 hS (fun h23 hS => ?_) (fun h23 hS => ?_)
  ·
   refine Zg ?_
   refine Zh (hU rfl rfl) ?_
   refine Zy ?_
   refine VL.mt (decide (oD=0)) [1,2,3,6,7,8,21] (fun _ _ h=>h) hS rfl
  refine VL.runs 4 [(21,some false)] (by kernel_rfl) ?_
  refine VL.mt false [1,2,3,6,7,8,21] (fun _ _ h=>h) hS rfl
 clear hS
 rintro O9 hS
 refine iT hS (fun h21 hS => ?_) (fun h21 hS => ?_)
 ·
  cases hS
 refine Zq (Zr ?_)
 refine Zy ?_
 refine iT hS (fun h36 hS => ?_) (fun h36 hS => ?_)
 ·
  refine Zr ?_
  refine Zu (aC dS rfl) ?_
  refine Zu (aC j4 rfl) ?_
  refine Zu (aT rW rfl rfl) ?_
  refine Zy ?_
  obtain ⟨aHT,aIe,aIA,hS⟩:=e8 hS
  refine Zu (l5 (s:=fN) Tryz.underlying45 nO rfl rfl aIe (bQ aIe aIA)) ?_
  refine Zu (aC P5 rfl) ?_
  refine VL.sJ (s:=fN) (T:=253) (j:=1) (vc:=[i64 oD]) (⟨aHT.name,oD⟩:eG) (by decide) rfl rfl aIA rfl AE rfl rfl (Nat.le_of_ble_eq_true rfl) rfl (fun w8 hw8 haw8 hcw8 hvw8 hbw8 how8 => ?_)
  rw [← hvw8]
  replace hS:=b5 hw8 hS
  refine Zl ?_
  refine VC.keep (ρ':=[(3,ptr iM 0),(6,ptr AD 0)]) [3,6] rfl ?_
  refine Zq (Zr ?_)
  refine Zu (cL cE rfl rfl) ?_
  refine Zv (vc:=[aB.bD.val,aB.aX.val,w8.val,str aB.aP,i64 aB.aF,str aB.bC,i64 aB.bA,str aB.bJ,aB.aM.val,aB.aR.val,i64 aB.bI,str aB.aW,str aB.aI,i64 aB.aJ,aB.aO.val,aB.aS.val,aB.aZ.val,aB.bB.val,aB.bL.val,aB.bE.val,i64 aB.time]) (cs':=[aB.bD.val,aB.aX.val,w8.val,str aB.aP,i64 aB.aF,str aB.bC,i64 aB.bA,str aB.bJ,aB.aM.val,aB.aR.val,i64 aB.bI,str aB.aW,str aB.aI,i64 aB.aJ,aB.aO.val,aB.aS.val,aB.aZ.val,aB.bB.val,aB.bL.val,aB.bE.val,i64 aB.time]) rfl fR ?_
  refine Zl ?_
  refine VC.shut w8 253 (fun _ _ _ _=>trivial) ?_
  cases hS
  exact VC.ret (jV (vs:=[.agg #[aB.bD.val,aB.aX.val,w8.val,str aB.aP,i64 aB.aF,str aB.bC,i64 aB.bA,str aB.bJ,aB.aM.val,aB.aR.val,i64 aB.bI,str aB.aW,str aB.aI,i64 aB.aJ,aB.aO.val,aB.aS.val,aB.aZ.val,aB.bB.val,aB.bL.val,aB.bE.val,i64 aB.time]]) (.inr rfl) rfl (eW.cell cE rfl rfl Rd.blk (eW.nil)) ⟨aB.bD,aB.aX,w8,aB.aP,aB.aF,aB.bC,aB.bA,aB.bJ,aB.aM,aB.aR,aB.bI,aB.aW,aB.aI,aB.aJ,aB.aO,aB.aS,aB.aZ,aB.bB,aB.bL,aB.bE,aB.time⟩ rfl rfl (by (try dsimp only); exact cO.out) (fun _ _=>trivial))
 refine Zq (Zr ?_)
 refine Zm ?_
 refine Zu (jF rfl rfl) ?_
 refine Zy ?_
 refine Zc hS (fun h45 hS => ?_) (fun h45 hS => ?_)
 ·
  refine Zr ?_
  refine Zu (aC dS rfl) ?_
  refine Zu (aC j4 rfl) ?_
  refine Zu (aT rW rfl rfl) ?_
  refine Zy ?_
  refine Zu (fH (vs:=[(0,str e7),(1,i64 oD)]) (cs := #[str e7,i64 oD]) rfl (by kernel_rfl)) ?_
  refine VL.aIG (α:=eG) (xs:=[.tmp 54]) (vs:=[.agg #[str e7,i64 oD]]) [⟨e7,oD⟩] Tryz.underlying45 aE3 (by decide) rfl rfl rfl rfl (by decide) (by decide) (fun aSw aNm => ?_) (by decide)
  replace hS:=b5 aNm hS
  obtain ⟨b56,hS⟩:=bS hS
  refine VL.cA (aB5 fN aSw EO.1 b56.1 b56.2.1 b56.2.2) rfl (by decide) ?_
  intro L9 aNo
  replace hS:=b5 aNo hS
  refine Zu (aC dS rfl) ?_
  refine Zu (aC j4 rfl) ?_
  refine Zv (vc:=[L9.val]) (cs':=[aB.bD.val,aB.aX.val,L9.val,str aB.aP,i64 aB.aF,str aB.bC,i64 aB.bA,str aB.bJ,aB.aM.val,aB.aR.val,i64 aB.bI,str aB.aW,str aB.aI,i64 aB.aJ,aB.aO.val,aB.aS.val,aB.aZ.val,aB.bB.val,aB.bL.val,aB.bE.val,i64 aB.time]) rfl W5 ?_
  refine Zl ?_
  refine VC.keep (ρ':=[(3,ptr iM 0),(6,ptr AD 0)]) [3,6] rfl ?_
  refine Zq (Zr ?_)
  refine Zu (cL cE rfl rfl) ?_
  refine Zv (vc:=[aB.bD.val,aB.aX.val,L9.val,str aB.aP,i64 aB.aF,str aB.bC,i64 aB.bA,str aB.bJ,aB.aM.val,aB.aR.val,i64 aB.bI,str aB.aW,str aB.aI,i64 aB.aJ,aB.aO.val,aB.aS.val,aB.aZ.val,aB.bB.val,aB.bL.val,aB.bE.val,i64 aB.time]) (cs':=[aB.bD.val,aB.aX.val,L9.val,str aB.aP,i64 aB.aF,str aB.bC,i64 aB.bA,str aB.bJ,aB.aM.val,aB.aR.val,i64 aB.bI,str aB.aW,str aB.aI,i64 aB.aJ,aB.aO.val,aB.aS.val,aB.aZ.val,aB.bB.val,aB.bL.val,aB.bE.val,i64 aB.time]) rfl fR ?_
  refine Zl ?_
  refine VC.shut L9 253 (fun _ _ _ _=>trivial) ?_
  cases hS
  exact VC.ret (jV (vs:=[.agg #[aB.bD.val,aB.aX.val,L9.val,str aB.aP,i64 aB.aF,str aB.bC,i64 aB.bA,str aB.bJ,aB.aM.val,aB.aR.val,i64 aB.bI,str aB.aW,str aB.aI,i64 aB.aJ,aB.aO.val,aB.aS.val,aB.aZ.val,aB.bB.val,aB.bL.val,aB.bE.val,i64 aB.time]]) (.inr rfl) rfl (eW.cell cE rfl rfl Rd.blk (eW.nil)) ⟨aB.bD,aB.aX,L9,aB.aP,aB.aF,aB.bC,aB.bA,aB.bJ,aB.aM,aB.aR,aB.bI,aB.aW,aB.aI,aB.aJ,aB.aO,aB.aS,aB.aZ,aB.bB,aB.bL,aB.bE,aB.time⟩ rfl rfl (by (try dsimp only); exact cO.out) (fun _ _=>trivial))
 refine Zk ?_
 refine VC.keep (ρ':=[(3,ptr iM 0),(6,ptr AD 0)]) [3,6] rfl ?_
 refine Zq (Zr ?_)
 refine Zu (cL cE rfl rfl) ?_
 refine Zv (vc:=[aB.bD.val,aB.aX.val,fN.val,str aB.aP,i64 aB.aF,str aB.bC,i64 aB.bA,str aB.bJ,aB.aM.val,aB.aR.val,i64 aB.bI,str aB.aW,str aB.aI,i64 aB.aJ,aB.aO.val,aB.aS.val,aB.aZ.val,aB.bB.val,aB.bL.val,aB.bE.val,i64 aB.time]) (cs':=[aB.bD.val,aB.aX.val,fN.val,str aB.aP,i64 aB.aF,str aB.bC,i64 aB.bA,str aB.bJ,aB.aM.val,aB.aR.val,i64 aB.bI,str aB.aW,str aB.aI,i64 aB.aJ,aB.aO.val,aB.aS.val,aB.aZ.val,aB.bB.val,aB.bL.val,aB.bE.val,i64 aB.time]) rfl fR ?_
 refine Zl ?_
 refine VC.shut fN 253 (fun _ _ _ _=>trivial) ?_
 cases hS
 exact VC.ret (jV (vs:=[.agg #[aB.bD.val,aB.aX.val,fN.val,str aB.aP,i64 aB.aF,str aB.bC,i64 aB.bA,str aB.bJ,aB.aM.val,aB.aR.val,i64 aB.bI,str aB.aW,str aB.aI,i64 aB.aJ,aB.aO.val,aB.aS.val,aB.aZ.val,aB.bB.val,aB.bL.val,aB.bE.val,i64 aB.time]]) (.inr rfl) rfl (eW.cell cE rfl rfl Rd.blk (eW.nil)) ⟨aB.bD,aB.aX,fN,aB.aP,aB.aF,aB.bC,aB.bA,aB.bJ,aB.aM,aB.aR,aB.bI,aB.aW,aB.aI,aB.aJ,aB.aO,aB.aS,aB.aZ,aB.bB,aB.bL,aB.bE,aB.time⟩ rfl rfl (by (try dsimp only); exact cO.out) (fun _ _=>trivial))
theorem RG (aB:cC) (jL:Int) {r:bM} (hS:Sh.S3 aB.pl jL=some r) :
 Ct Tryz.prog 261 [.agg (aE aB).toArray,i64 jL] (aB.bD.ok.and (aB.aX.ok.and (aB.bK.ok.and (aB.aM.ok.and (aB.aR.ok.and (aB.aO.ok.and (aB.aS.ok.and (aB.aZ.ok.and (aB.bB.ok.and (aB.bL.ok.and aB.bE.ok)))))))))) (Ow.emp) (X:=cC) (fun x => .agg (bO.enc x).toArray) (fun x=>r=x.pl) (fun x=>x.m) (fun x=>Ow.emp):=by
 refine Zo Tryz.func261 Tryz.ntmps261 fun c => ?_
 unfold Sh.S3 at hS
 refine Zq (Zr ?_)
 refine VL.box (cs:=(aE aB)) rfl rfl (by decide) fun eP => ?_
 refine VL.alloc (cs:=[.slice none 0 0,.slice none 0 0,.slice none 0 0,str [],i64 0,str [],i64 0,str [],.slice none 0 0,.slice none 0 0,i64 0,str [],str [],i64 0,.slice none 0 0,.slice none 0 0,.slice none 0 0,.slice none 0 0,.slice none 0 0,.slice none 0 0,i64 0]) (by kernel_rfl) (by decide) fun nA => ?_
 refine Zl ?_
 refine Zq (Zr ?_)
 refine Zm ?_
 refine Zu (aC dS rfl) ?_
 refine Zu (aC nM rfl) ?_
 refine Zu (aC BA rfl) ?_
 refine Zv (vc:=[i64 jL]) (cs':=[aB.bD.val,aB.aX.val,aB.bK.val,str aB.aP,i64 jL,str aB.bC,i64 aB.bA,str aB.bJ,aB.aM.val,aB.aR.val,i64 aB.bI,str aB.aW,str aB.aI,i64 aB.aJ,aB.aO.val,aB.aS.val,aB.aZ.val,aB.bB.val,aB.bL.val,aB.bE.val,i64 aB.time]) rfl AE ?_
 refine Zl ?_
 refine Zq (Zq (Zr ?_))
 refine Zu (aC dS rfl) ?_
 refine Zu (aC nM rfl) ?_
 refine Zu (aC NQ rfl) ?_
 refine Zu (aT dK rfl rfl) ?_
 refine Zu (rL rfl rfl) ?_
 refine Zl ?_
 refine VC.keep (ρ':=[(1,i64 jL),(2,ptr eP 0),(4,ptr nA 0),(13,.bool (!decide (aB.aP=[])))]) [1,2,4,13] rfl ?_
 refine rI hS (fun h13 hS => ?_) (fun h13 hS => ?_)
 ·
  refine Zr ?_
  refine Zu (cL cE rfl rfl) ?_
  refine Zu (aC dS rfl) ?_
  refine Zu (aC nM rfl) ?_
  refine Zu (aC NQ rfl) ?_
  refine Zu (aT dK rfl rfl) ?_
  refine Zm ?_
  obtain ⟨z6,aC9,hS⟩:=aU hS
  refine VL.cR (VX (⟨aB.bD,aB.aX,aB.bK,aB.aP,jL,aB.bC,aB.bA,aB.bJ,aB.aM,aB.aR,aB.bI,aB.aW,aB.aI,aB.aJ,aB.aO,aB.aS,aB.aZ,aB.bB,aB.bL,aB.bE,aB.time⟩:cC) aB.aP jL aC9) rfl (by decide) ?_
  rintro e5 rfl
  try dsimp only
  refine Zv (vc:=(aE e5)) (cs':=(aE e5)) rfl fR ?_
  refine Zl ?_
  refine VC.keep (ρ':=[(2,ptr eP 0),(4,ptr nA 0)]) [2,4] rfl ?_
  refine Zq (Zr ?_)
  refine Zu (cL cE rfl rfl) ?_
  refine Zv (vc:=(aE e5)) (cs':=(aE e5)) rfl fR ?_
  refine Zl ?_
  cases hS
  exact VC.ret (jV (vs:=[.agg (aE e5).toArray]) (.inr rfl) rfl (eW.cell cE rfl rfl Rd.blk (eW.nil)) e5 rfl rfl (by (try dsimp only); exact cO.out) (fun _ _=>trivial))
 refine Zk ?_
 refine Zq (Zr ?_)
 refine Zu (cL cE rfl rfl) ?_
 refine Zv (vc:=[aB.bD.val,aB.aX.val,aB.bK.val,str aB.aP,i64 jL,str aB.bC,i64 aB.bA,str aB.bJ,aB.aM.val,aB.aR.val,i64 aB.bI,str aB.aW,str aB.aI,i64 aB.aJ,aB.aO.val,aB.aS.val,aB.aZ.val,aB.bB.val,aB.bL.val,aB.bE.val,i64 aB.time]) (cs':=[aB.bD.val,aB.aX.val,aB.bK.val,str aB.aP,i64 jL,str aB.bC,i64 aB.bA,str aB.bJ,aB.aM.val,aB.aR.val,i64 aB.bI,str aB.aW,str aB.aI,i64 aB.aJ,aB.aO.val,aB.aS.val,aB.aZ.val,aB.bB.val,aB.bL.val,aB.bE.val,i64 aB.time]) rfl fR ?_
 refine Zl ?_
 cases hS
 exact VC.ret (jV (vs:=[.agg #[aB.bD.val,aB.aX.val,aB.bK.val,str aB.aP,i64 jL,str aB.bC,i64 aB.bA,str aB.bJ,aB.aM.val,aB.aR.val,i64 aB.bI,str aB.aW,str aB.aI,i64 aB.aJ,aB.aO.val,aB.aS.val,aB.aZ.val,aB.bB.val,aB.bL.val,aB.bE.val,i64 aB.time]]) (.inr rfl) rfl (eW.cell cE rfl rfl Rd.blk (eW.nil)) ⟨aB.bD,aB.aX,aB.bK,aB.aP,jL,aB.bC,aB.bA,aB.bJ,aB.aM,aB.aR,aB.bI,aB.aW,aB.aI,aB.aJ,aB.aO,aB.aS,aB.aZ,aB.bB,aB.bL,aB.bE,aB.time⟩ rfl rfl (by (try dsimp only); exact cO.out) (fun _ _=>trivial))
theorem vI (aB:cC) (kW:Sv aD) (l9:Sv Int) (pU:aV) {r:bM} (hS:Sh.L4 aB.pl kW.l l9.l pU=some r) :
 Ct Tryz.prog 243 [.agg (aE aB).toArray,kW.val,l9.val,str pU] (aB.bD.ok.and (aB.aX.ok.and (aB.bK.ok.and (aB.aM.ok.and (aB.aR.ok.and (aB.aO.ok.and (aB.aS.ok.and (aB.aZ.ok.and (aB.bB.ok.and (aB.bL.ok.and (aB.bE.ok.and (kW.ok.and l9.ok)))))))))))) (Ow.emp) (X:=cC) (fun x => .agg (bO.enc x).toArray) (fun x=>r=x.pl) (fun x=>x.m) (fun x=>Ow.emp):=by
 refine Zo Tryz.func243 Tryz.ntmps243 fun c => ?_
 unfold Sh.L4 at hS
 refine Zq (Zr ?_)
 refine VL.box (cs:=(aE aB)) rfl rfl (by decide) fun uY => ?_
 refine VL.alloc (cs:=[.slice none 0 0,.slice none 0 0,.slice none 0 0,str [],i64 0,str [],i64 0,str [],.slice none 0 0,.slice none 0 0,i64 0,str [],str [],i64 0,.slice none 0 0,.slice none 0 0,.slice none 0 0,.slice none 0 0,.slice none 0 0,.slice none 0 0,i64 0]) (by kernel_rfl) (by decide) fun DG => ?_
 refine Zl ?_
 refine Zq ?_
 refine VC.aC1 (n:=5) (listed := #[true,true,false,true,true,true,true,true,true,false,false,false,false]) [(0,true),(1,true),(3,true),(4,true),(5,true),(6,true),(7,true),(8,true)] mixed (by kernel_rfl) (by kernel_rfl) (by kernel_rfl) (by kernel_rfl) ?_
 refine VD.q rfl (aC lJ rfl) (by decide) ?_
 refine VD.q rfl (aT qC rfl rfl) (by decide) ?_
 refine VD.q rfl (bT rfl) (by decide) ?_
 refine VD.q rfl (bT rfl) (by decide) ?_
 refine VD.q rfl (aC UF rfl) (by decide) ?_
 refine VD.q rfl (aT fG rfl rfl) (by decide) ?_
 refine VD.q rfl (bT rfl) (by decide) ?_
 refine VD.q rfl (fH (vs:=[(0,kW.val),(1,l9.val),(2,i64 aB.time),(3,str pU)]) (cs := #[kW.val,l9.val,i64 aB.time,str pU]) rfl (by kernel_rfl)) (by decide) ?_
 obtain ⟨B5,YV,hS⟩:=AF hS
 obtain ⟨EM,HN,hS⟩:=aU hS
 refine VD.toG fun hcl => ?_
 refine VG.fork (l:=[2,9]) (n:=4) (by kernel_rfl) rfl fun i hi => ?_
 obtain rfl | rfl:i=2∨i=9:=by simpa using hi
 ·
  refine NG.of rfl ?_
  refine VL.cA (nW aB.bB HN) rfl (by decide) ?_
  rintro N9 rfl
  try dsimp only
  refine VL.AU (D':=[(8,.agg #[kW.val,l9.val,i64 aB.time,str pU]),(6,i64 aB.time),(5,ptr uY 20)]) (listed' := #[true,true,true,true,true,true,true,true,true,false,false,false,false]) (aN.cons rfl (fH (vs:=[(0,kW.val),(1,l9.val),(2,i64 aB.time),(3,str pU)]) (cs := #[kW.val,l9.val,i64 aB.time,str pU]) rfl (by kernel_rfl)) (aN.cons rfl (aT fG rfl rfl) (aN.cons rfl (aC UF rfl) (aN.nil)))) (by kernel_rfl) (by kernel_rfl) ?_
  refine VG.ord [(9,false),(10,false),(11,true),(12,false)] (by kernel_rfl) (qP (by kernel_rfl)) (by kernel_rfl) ?_
  refine VD.one rfl ?_
  refine VL.lit (α:=cD) (xs:=[.tmp 17]) (vs:=[.agg #[kW.val,l9.val,i64 aB.time,str pU]]) [⟨kW,l9,aB.time,pU⟩] Tryz.underlying55 aCl (by decide) rfl rfl rfl rfl (by decide) (fun h m=>List.forall_mem_cons.2 ⟨cO.out (X:=(kW.ok.and l9.ok)) h m,fun _ h=>by cases h⟩) (by decide) (fun KC SJ => ?_) (by decide)
  obtain rfl:B5=KC.l.map cD.pl:=YV.symm.trans (congrArg (List.map cD.pl) SJ).symm
  refine VL.back (D':=[]) (by kernel_rfl) (aN.nil) ?_
  refine VD.one rfl ?_
  obtain ⟨b19,hS⟩:=bS hS
  refine VL.app (s:=N9) (r:=KC) Tryz.underlying55 YY (by decide) rfl Fo.out (uW (TV b19)) (uX (TV b19) (by decide)) (by decide) (fun wX LL => ?_)
  replace hS:=b5 ((congrArg (List.map cD.pl) LL).trans List.map_append) hS
  refine VL.SS LL ?_
  refine VL.back (D':=[]) (by kernel_rfl) (aN.nil) ?_
  refine Zw rfl (aC lJ rfl) ?_
  refine VD.one rfl ?_
  refine Zv (vc:=[wX.val]) (cs':=[aB.bD.val,aB.aX.val,aB.bK.val,str aB.aP,i64 aB.aF,str aB.bC,i64 aB.bA,str aB.bJ,aB.aM.val,aB.aR.val,i64 aB.bI,str aB.aW,str aB.aI,i64 aB.aJ,aB.aO.val,aB.aS.val,aB.aZ.val,wX.val,aB.bL.val,aB.bE.val,i64 aB.time]) rfl aCq ?_
  refine VL.back (D':=[]) (by kernel_rfl) (aN.nil) ?_
  refine VD.to (fun _ _ h=>h) ?_
  refine VC.keep (ρ':=[(4,ptr uY 0),(8,ptr DG 0)]) [4,8] rfl ?_
  refine Zq (Zr ?_)
  refine Zu (cL cE rfl rfl) ?_
  refine Zu (aC lJ rfl) ?_
  refine Zu (aT qC rfl rfl) ?_
  refine Zu (qG cD.pl (s:=wX) Tryz.underlying55 rfl) ?_
  refine VL.shut wX 67 (fun h m=>cO.out (X:=zI wX.l) h m) ?_
  obtain ⟨aGs,aCd,hS⟩:=aU hS
  refine VL.cR (RG (⟨aB.bD,aB.aX,aB.bK,aB.aP,aB.aF,aB.bC,aB.bA,aB.bJ,aB.aM,aB.aR,aB.bI,aB.aW,aB.aI,aB.aJ,aB.aO,aB.aS,aB.aZ,wX,aB.bL,aB.bE,aB.time⟩:cC) ((wX.l.map cD.pl).length:Int) aCd) rfl (by decide) ?_
  rintro BK rfl
  try dsimp only
  refine Zv (vc:=(aE BK)) (cs':=(aE BK)) rfl fR ?_
  refine Zl ?_
  cases hS
  exact VC.ret (jV (vs:=[.agg (aE BK).toArray]) (.inr rfl) rfl (eW.cell cE rfl rfl Rd.blk (eW.nil)) BK rfl rfl (by (try dsimp only); exact cO.out) (fun _ _=>trivial))
 refine NG.of rfl ?_
 refine VL.lit (α:=cD) (xs:=[.tmp 17]) (vs:=[.agg #[kW.val,l9.val,i64 aB.time,str pU]]) [⟨kW,l9,aB.time,pU⟩] Tryz.underlying55 aCl (by decide) rfl rfl rfl rfl (by decide) (fun h m=>List.forall_mem_cons.2 ⟨cO.out (X:=(kW.ok.and l9.ok)) h m,fun _ h=>by cases h⟩) (by decide) (fun KC SJ => ?_) (by decide)
 obtain rfl:B5=KC.l.map cD.pl:=YV.symm.trans (congrArg (List.map cD.pl) SJ).symm
 refine VL.AU (D':=[(1,aB.bB.val),(0,ptr uY 17)]) (listed' := #[true,true,false,true,true,true,true,true,true,true,false,false,false]) (aN.cons rfl (aT qC rfl rfl) (aN.cons rfl (aC lJ rfl) (aN.nil))) (by kernel_rfl) (by kernel_rfl) ?_
 refine VG.ord [(2,false),(10,false),(11,true),(12,false)] (by kernel_rfl) (qP (by kernel_rfl)) (by kernel_rfl) ?_
 refine VD.one rfl ?_
 refine VL.cA (nW aB.bB HN) rfl (by decide) ?_
 rintro N9 rfl
 try dsimp only
 refine VL.back (D':=[]) (by kernel_rfl) (aN.nil) ?_
 refine VD.one rfl ?_
 obtain ⟨b19,hS⟩:=bS hS
 refine VL.app (s:=N9) (r:=KC) Tryz.underlying55 YY (by decide) rfl Fo.out (uW (TV b19)) (uX (TV b19) (by decide)) (by decide) (fun wX LL => ?_)
 replace hS:=b5 ((congrArg (List.map cD.pl) LL).trans List.map_append) hS
 refine VL.SS LL ?_
 refine VL.back (D':=[]) (by kernel_rfl) (aN.nil) ?_
 refine Zw rfl (aC lJ rfl) ?_
 refine VD.one rfl ?_
 refine Zv (vc:=[wX.val]) (cs':=[aB.bD.val,aB.aX.val,aB.bK.val,str aB.aP,i64 aB.aF,str aB.bC,i64 aB.bA,str aB.bJ,aB.aM.val,aB.aR.val,i64 aB.bI,str aB.aW,str aB.aI,i64 aB.aJ,aB.aO.val,aB.aS.val,aB.aZ.val,wX.val,aB.bL.val,aB.bE.val,i64 aB.time]) rfl aCq ?_
 refine VL.back (D':=[]) (by kernel_rfl) (aN.nil) ?_
 refine VD.to (fun _ _ h=>h) ?_
 refine VC.keep (ρ':=[(4,ptr uY 0),(8,ptr DG 0)]) [4,8] rfl ?_
 refine Zq (Zr ?_)
 refine Zu (cL cE rfl rfl) ?_
 refine Zu (aC lJ rfl) ?_
 refine Zu (aT qC rfl rfl) ?_
 refine Zu (qG cD.pl (s:=wX) Tryz.underlying55 rfl) ?_
 refine VL.shut wX 67 (fun h m=>cO.out (X:=zI wX.l) h m) ?_
 obtain ⟨aGs,aCd,hS⟩:=aU hS
 refine VL.cR (RG (⟨aB.bD,aB.aX,aB.bK,aB.aP,aB.aF,aB.bC,aB.bA,aB.bJ,aB.aM,aB.aR,aB.bI,aB.aW,aB.aI,aB.aJ,aB.aO,aB.aS,aB.aZ,wX,aB.bL,aB.bE,aB.time⟩:cC) ((wX.l.map cD.pl).length:Int) aCd) rfl (by decide) ?_
 rintro BK rfl
 try dsimp only
 refine Zv (vc:=(aE BK)) (cs':=(aE BK)) rfl fR ?_
 refine Zl ?_
 cases hS
 exact VC.ret (jV (vs:=[.agg (aE BK).toArray]) (.inr rfl) rfl (eW.cell cE rfl rfl Rd.blk (eW.nil)) BK rfl rfl (by (try dsimp only); exact cO.out) (fun _ _=>trivial))
theorem YP (aB:cC) (kW:Sv aD) (FD:aV) {r:bM×gR} (hS:Sh.L6 aB.pl kW.l FD=some r) :
 Ct Tryz.prog 156 [.agg (aE aB).toArray,kW.val,str FD] (aB.bD.ok.and (aB.aX.ok.and (aB.bK.ok.and (aB.aM.ok.and (aB.aR.ok.and (aB.aO.ok.and (aB.aS.ok.and (aB.aZ.ok.and (aB.bB.ok.and (aB.bL.ok.and (aB.bE.ok.and kW.ok))))))))))) (Ow.emp) (X:=cC×Er) (fun x => .tuple #[.agg (bO.enc x.1).toArray,x.2.val]) (fun x=>r=(x.1.pl,x.2.pl)) (fun x=>(x.1.m.and x.2.ok)) (fun x=>Ow.emp):=by
 refine Zo Tryz.func156 Tryz.ntmps156 fun c => ?_
 unfold Sh.L6 at hS
 refine Zq (Zr ?_)
 refine VL.box (cs:=(aE aB)) rfl rfl (by decide) fun iM => ?_
 refine VL.alloc (cs:=[.slice none 0 0,.slice none 0 0,.slice none 0 0,str [],i64 0,str [],i64 0,str [],.slice none 0 0,.slice none 0 0,i64 0,str [],str [],i64 0,.slice none 0 0,.slice none 0 0,.slice none 0 0,.slice none 0 0,.slice none 0 0,.slice none 0 0,i64 0]) (by kernel_rfl) (by decide) fun AD => ?_
 refine Zy ?_
 refine Zq (Zq (Zr ?_))
 refine Zm ?_
 obtain ⟨kH,rU,hS⟩:=aU hS
 refine VL.cR (yH kW rU) rfl (by decide) ?_
 rintro fN rfl
 try dsimp only
 refine Zy ?_
 refine Zq (Zr ?_)
 refine Zm ?_
 refine Zu (nD Tryz.underlying27 rfl) ?_
 refine Zl ?_
 refine rI hS (fun h14 hS => ?_) (fun h14 hS => ?_)
 ·
  refine Zq ?_
  cases hS
 refine Zk ?_
 refine VC.keep (ρ':=[(1,kW.val),(2,str FD),(3,ptr iM 0),(6,ptr AD 0)]) [1,2,3,6] rfl ?_
 refine Zq (Zq (Zr ?_))
 refine Zu (cL cE rfl rfl) ?_
 obtain ⟨aPS,aQQ,hS⟩:=aU hS
 refine Zu (cN (DD aB aQQ) rfl (fun _ _=>rfl)) ?_
 refine Zu (lN rfl) ?_
 refine Zl ?_
 refine iT hS (fun h20 hS => ?_) (fun h20 hS => ?_)
 ·
  refine Zq ?_
  cases hS
 refine Zk ?_
 refine Zq (Zr ?_)
 refine Zy ?_
 refine Zq (Zq (Zr ?_))
 refine Zu (aC dS rfl) ?_
 refine Zu (aC qT rfl) ?_
 refine Zu (aC DM rfl) ?_
 refine Zu (aT dK rfl rfl) ?_
 refine Zy ?_
 refine VC.keep (ρ':=[(1,kW.val),(2,str FD),(3,ptr iM 0),(6,ptr AD 0),(9,i64 0),(27,.bool (decide (aB.bC=[109,101,114,103,101])))]) [1,2,3,6,9,27] rfl ?_
 refine Zc hS (fun h27 hS => ?_) (fun h27 hS => ?_)
 ·
  cases hS
 refine Zk ?_
 refine Zq ?_
 refine VC.aC1 (n:=4) (listed := #[true,true,true,true,false,true,false,false,false]) [(0,true),(1,true),(2,true),(3,true),(5,true)] mixed (by kernel_rfl) (by kernel_rfl) (by kernel_rfl) (by kernel_rfl) ?_
 refine VD.q rfl (cL cE rfl rfl) (by decide) ?_
 refine VD.q rfl (bT rfl) (by decide) ?_
 refine VD.q rfl (cL cE rfl rfl) (by decide) ?_
 refine VD.q rfl (bT rfl) (by decide) ?_
 refine VD.q rfl (bT rfl) (by decide) ?_
 obtain ⟨aP6,aHZ,hS⟩:=aU hS
 obtain ⟨C6,aCi,hS⟩:=aU hS
 refine VD.toG fun hcl => ?_
 refine VG.fork (l:=[4,7]) (n:=3) (by kernel_rfl) rfl fun i hi => ?_
 obtain rfl | rfl:i=4∨i=7:=by simpa using hi
 ·
  refine NG.of rfl ?_
  refine VL.cA (KB aB 0 aHZ) rfl (by decide) ?_
  rintro wU rfl
  try dsimp only
  refine VL.AU (D':=[(0,.agg (aE aB).toArray)]) (listed' := #[true,true,true,true,true,true,false,false,false]) (aN.cons rfl (cL cE rfl rfl) (aN.nil)) (by kernel_rfl) (by kernel_rfl) ?_
  refine VG.fork (l:=[6,7]) (n:=2) (by kernel_rfl) rfl fun i hi => ?_
  obtain rfl | rfl:i=6∨i=7:=by simpa using hi
  ·
   refine NG.of rfl ?_
   refine VL.shut wU 3 (fun _ _ _ _=>trivial) ?_
   refine VL.cR (vI aB kW wU FD aCi) rfl (by decide) ?_
   rintro aQ rfl
   try dsimp only
   refine VL.AU (D':=[]) (listed' := #[true,true,true,true,true,true,true,false,false]) (aN.nil) (by kernel_rfl) (by kernel_rfl) ?_
   refine VG.ord [(7,false),(8,false)] (by kernel_rfl) (qP (by kernel_rfl)) (by kernel_rfl) ?_
   refine VD.one rfl ?_
   refine VL.alloc (cs:=[.slice none 0 0,.slice none 0 0,.slice none 0 0,str [],i64 0,str [],i64 0,str [],.slice none 0 0,.slice none 0 0,i64 0,str [],str [],i64 0,.slice none 0 0,.slice none 0 0,.slice none 0 0,.slice none 0 0,.slice none 0 0,.slice none 0 0,i64 0]) (by kernel_rfl) (by decide) fun JI => ?_
   refine VL.back (D':=[]) (by kernel_rfl) (aN.nil) ?_
   refine VD.one rfl ?_
   refine Zv (vc:=(aE aQ)) (cs':=(aE aQ)) rfl fR ?_
   refine VL.back (D':=[]) (by kernel_rfl) (aN.nil) ?_
   refine VD.to (fun _ _ h=>h) ?_
   refine VC.keep (ρ':=[(6,ptr AD 0),(10,ptr JI 0)]) [6,10] rfl ?_
   refine Zq (Zq (Zr ?_))
   refine Zu (aC dS rfl) ?_
   refine Zu (aC qT rfl) ?_
   refine Zu (aC DM rfl) ?_
   refine Zu (aT dK rfl rfl) ?_
   refine Zu (rL rfl rfl) ?_
   refine Zl ?_
   refine rI hS (fun h43 hS => ?_) (fun h43 hS => ?_)
   ·
    refine Zr ?_
    refine Zu (fH (vs:=[]) (cs := #[str [],i64 0,str [],.slice none 0 0,.slice none 0 0,i64 0,str [],str [],i64 0,.slice none 0 0,.slice none 0 0]) rfl (by kernel_rfl)) ?_
    refine Zu (aC dS rfl) ?_
    refine Zu (aC qT rfl) ?_
    refine Zv (vc:=[str [],i64 0,str [],.slice none 0 0,.slice none 0 0,i64 0,str [],str [],i64 0,.slice none 0 0,.slice none 0 0]) (cs':=[aQ.bD.val,aQ.aX.val,aQ.bK.val,str aQ.aP,i64 aQ.aF,str [],i64 0,str [],.slice none 0 0,.slice none 0 0,i64 0,str [],str [],i64 0,.slice none 0 0,.slice none 0 0,aQ.aZ.val,aQ.bB.val,aQ.bL.val,aQ.bE.val,i64 aQ.time]) rfl SH ?_
    refine Zl ?_
    refine Zq (Zr ?_)
    refine Zu (cL cE rfl rfl) ?_
    refine Zv (vc:=[aQ.bD.val,aQ.aX.val,aQ.bK.val,str aQ.aP,i64 aQ.aF,str [],i64 0,str [],.slice none 0 0,.slice none 0 0,i64 0,str [],str [],i64 0,.slice none 0 0,.slice none 0 0,aQ.aZ.val,aQ.bB.val,aQ.bL.val,aQ.bE.val,i64 aQ.time]) (cs':=[aQ.bD.val,aQ.aX.val,aQ.bK.val,str aQ.aP,i64 aQ.aF,str [],i64 0,str [],.slice none 0 0,.slice none 0 0,i64 0,str [],str [],i64 0,.slice none 0 0,.slice none 0 0,aQ.aZ.val,aQ.bB.val,aQ.bL.val,aQ.bE.val,i64 aQ.time]) rfl fR ?_
    refine Zy ?_
    refine VC.keep (ρ':=[(6,ptr AD 0),(7,.nilIface)]) [6,7] rfl ?_
    cases hS
    exact VC.ret (jV (vs:=[.agg #[aQ.bD.val,aQ.aX.val,aQ.bK.val,str aQ.aP,i64 aQ.aF,str [],i64 0,str [],.slice none 0 0,.slice none 0 0,i64 0,str [],str [],i64 0,.slice none 0 0,.slice none 0 0,aQ.aZ.val,aQ.bB.val,aQ.bL.val,aQ.bE.val,i64 aQ.time],.nilIface]) (.inr rfl) rfl (eW.cell cE rfl rfl Rd.blk (eW.tmp rfl (eW.nil))) (⟨aQ.bD,aQ.aX,aQ.bK,aQ.aP,aQ.aF,[],0,[],⟨none,0,[]⟩,⟨none,0,[]⟩,0,[],[],0,⟨none,0,[]⟩,⟨none,0,[]⟩,aQ.aZ,aQ.bB,aQ.bL,aQ.bE,aQ.time⟩,.nil) rfl rfl (by (try dsimp only); exact cO.out) (fun _ _=>trivial))
   refine Zk ?_
   refine Zq (Zr ?_)
   refine Zu (cL cE rfl rfl) ?_
   refine Zv (vc:=(aE aQ)) (cs':=(aE aQ)) rfl fR ?_
   refine Zy ?_
   cases hS
   exact VC.ret (jV (vs:=[.agg (aE aQ).toArray,.nilIface]) (.inr rfl) rfl (eW.cell cE rfl rfl Rd.blk (eW.tmp rfl (eW.nil))) (aQ,.nil) rfl rfl (by (try dsimp only); exact cO.out) (fun _ _=>trivial))
  refine NG.of rfl ?_
  refine VL.alloc (cs:=[.slice none 0 0,.slice none 0 0,.slice none 0 0,str [],i64 0,str [],i64 0,str [],.slice none 0 0,.slice none 0 0,i64 0,str [],str [],i64 0,.slice none 0 0,.slice none 0 0,.slice none 0 0,.slice none 0 0,.slice none 0 0,.slice none 0 0,i64 0]) (by kernel_rfl) (by decide) fun JI => ?_
  refine VL.AU (D':=[(0,.agg (aE aB).toArray)]) (listed' := #[true,true,true,true,true,true,false,true,false]) (aN.cons rfl (cL cE rfl rfl) (aN.nil)) (by kernel_rfl) (by kernel_rfl) ?_
  refine VG.ord [(6,false),(8,false)] (by kernel_rfl) (qP (by kernel_rfl)) (by kernel_rfl) ?_
  refine VD.one rfl ?_
  refine VL.shut wU 3 (fun _ _ _ _=>trivial) ?_
  refine VL.cR (vI aB kW wU FD aCi) rfl (by decide) ?_
  rintro aQ rfl
  try dsimp only
  refine VL.back (D':=[]) (by kernel_rfl) (aN.nil) ?_
  refine VD.one rfl ?_
  refine Zv (vc:=(aE aQ)) (cs':=(aE aQ)) rfl fR ?_
  refine VL.back (D':=[]) (by kernel_rfl) (aN.nil) ?_
  refine VD.to (fun _ _ h=>h) ?_
  refine VC.keep (ρ':=[(6,ptr AD 0),(10,ptr JI 0)]) [6,10] rfl ?_
  refine Zq (Zq (Zr ?_))
  refine Zu (aC dS rfl) ?_
  refine Zu (aC qT rfl) ?_
  refine Zu (aC DM rfl) ?_
  refine Zu (aT dK rfl rfl) ?_
  refine Zu (rL rfl rfl) ?_
  refine Zl ?_
  refine rI hS (fun h43 hS => ?_) (fun h43 hS => ?_)
  ·
   refine Zr ?_
   refine Zu (fH (vs:=[]) (cs := #[str [],i64 0,str [],.slice none 0 0,.slice none 0 0,i64 0,str [],str [],i64 0,.slice none 0 0,.slice none 0 0]) rfl (by kernel_rfl)) ?_
   refine Zu (aC dS rfl) ?_
   refine Zu (aC qT rfl) ?_
   refine Zv (vc:=[str [],i64 0,str [],.slice none 0 0,.slice none 0 0,i64 0,str [],str [],i64 0,.slice none 0 0,.slice none 0 0]) (cs':=[aQ.bD.val,aQ.aX.val,aQ.bK.val,str aQ.aP,i64 aQ.aF,str [],i64 0,str [],.slice none 0 0,.slice none 0 0,i64 0,str [],str [],i64 0,.slice none 0 0,.slice none 0 0,aQ.aZ.val,aQ.bB.val,aQ.bL.val,aQ.bE.val,i64 aQ.time]) rfl SH ?_
   refine Zl ?_
   refine Zq (Zr ?_)
   refine Zu (cL cE rfl rfl) ?_
   refine Zv (vc:=[aQ.bD.val,aQ.aX.val,aQ.bK.val,str aQ.aP,i64 aQ.aF,str [],i64 0,str [],.slice none 0 0,.slice none 0 0,i64 0,str [],str [],i64 0,.slice none 0 0,.slice none 0 0,aQ.aZ.val,aQ.bB.val,aQ.bL.val,aQ.bE.val,i64 aQ.time]) (cs':=[aQ.bD.val,aQ.aX.val,aQ.bK.val,str aQ.aP,i64 aQ.aF,str [],i64 0,str [],.slice none 0 0,.slice none 0 0,i64 0,str [],str [],i64 0,.slice none 0 0,.slice none 0 0,aQ.aZ.val,aQ.bB.val,aQ.bL.val,aQ.bE.val,i64 aQ.time]) rfl fR ?_
   refine Zy ?_
   refine VC.keep (ρ':=[(6,ptr AD 0),(7,.nilIface)]) [6,7] rfl ?_
   cases hS
   exact VC.ret (jV (vs:=[.agg #[aQ.bD.val,aQ.aX.val,aQ.bK.val,str aQ.aP,i64 aQ.aF,str [],i64 0,str [],.slice none 0 0,.slice none 0 0,i64 0,str [],str [],i64 0,.slice none 0 0,.slice none 0 0,aQ.aZ.val,aQ.bB.val,aQ.bL.val,aQ.bE.val,i64 aQ.time],.nilIface]) (.inr rfl) rfl (eW.cell cE rfl rfl Rd.blk (eW.tmp rfl (eW.nil))) (⟨aQ.bD,aQ.aX,aQ.bK,aQ.aP,aQ.aF,[],0,[],⟨none,0,[]⟩,⟨none,0,[]⟩,0,[],[],0,⟨none,0,[]⟩,⟨none,0,[]⟩,aQ.aZ,aQ.bB,aQ.bL,aQ.bE,aQ.time⟩,.nil) rfl rfl (by (try dsimp only); exact cO.out) (fun _ _=>trivial))
  refine Zk ?_
  refine Zq (Zr ?_)
  refine Zu (cL cE rfl rfl) ?_
  refine Zv (vc:=(aE aQ)) (cs':=(aE aQ)) rfl fR ?_
  refine Zy ?_
  cases hS
  exact VC.ret (jV (vs:=[.agg (aE aQ).toArray,.nilIface]) (.inr rfl) rfl (eW.cell cE rfl rfl Rd.blk (eW.tmp rfl (eW.nil))) (aQ,.nil) rfl rfl (by (try dsimp only); exact cO.out) (fun _ _=>trivial))
 refine NG.of rfl ?_
 refine VL.alloc (cs:=[.slice none 0 0,.slice none 0 0,.slice none 0 0,str [],i64 0,str [],i64 0,str [],.slice none 0 0,.slice none 0 0,i64 0,str [],str [],i64 0,.slice none 0 0,.slice none 0 0,.slice none 0 0,.slice none 0 0,.slice none 0 0,.slice none 0 0,i64 0]) (by kernel_rfl) (by decide) fun JI => ?_
 refine VL.AU (D':=[(2,.agg (aE aB).toArray),(0,.agg (aE aB).toArray)]) (listed' := #[true,true,true,true,false,true,false,true,false]) (aN.cons rfl (cL cE rfl rfl) (aN.cons rfl (cL cE rfl rfl) (aN.nil))) (by kernel_rfl) (by kernel_rfl) ?_
 refine VG.ord [(4,false),(6,false),(8,false)] (by kernel_rfl) (qP (by kernel_rfl)) (by kernel_rfl) ?_
 refine VD.one rfl ?_
 refine VL.cA (KB aB 0 aHZ) rfl (by decide) ?_
 rintro wU rfl
 try dsimp only
 refine VL.back (D':=[(0,.agg (aE aB).toArray)]) (by kernel_rfl) (aN.cons rfl (cL cE rfl rfl) (aN.nil)) ?_
 refine VD.one rfl ?_
 refine VL.shut wU 3 (fun _ _ _ _=>trivial) ?_
 refine VL.cR (vI aB kW wU FD aCi) rfl (by decide) ?_
 rintro aQ rfl
 try dsimp only
 refine VL.back (D':=[]) (by kernel_rfl) (aN.nil) ?_
 refine VD.one rfl ?_
 refine Zv (vc:=(aE aQ)) (cs':=(aE aQ)) rfl fR ?_
 refine VL.back (D':=[]) (by kernel_rfl) (aN.nil) ?_
 refine VD.to (fun _ _ h=>h) ?_
 refine VC.keep (ρ':=[(6,ptr AD 0),(10,ptr JI 0)]) [6,10] rfl ?_
 refine Zq (Zq (Zr ?_))
 refine Zu (aC dS rfl) ?_
 refine Zu (aC qT rfl) ?_
 refine Zu (aC DM rfl) ?_
 refine Zu (aT dK rfl rfl) ?_
 refine Zu (rL rfl rfl) ?_
 refine Zl ?_
 refine rI hS (fun h43 hS => ?_) (fun h43 hS => ?_)
 ·
  refine Zr ?_
  refine Zu (fH (vs:=[]) (cs := #[str [],i64 0,str [],.slice none 0 0,.slice none 0 0,i64 0,str [],str [],i64 0,.slice none 0 0,.slice none 0 0]) rfl (by kernel_rfl)) ?_
  refine Zu (aC dS rfl) ?_
  refine Zu (aC qT rfl) ?_
  refine Zv (vc:=[str [],i64 0,str [],.slice none 0 0,.slice none 0 0,i64 0,str [],str [],i64 0,.slice none 0 0,.slice none 0 0]) (cs':=[aQ.bD.val,aQ.aX.val,aQ.bK.val,str aQ.aP,i64 aQ.aF,str [],i64 0,str [],.slice none 0 0,.slice none 0 0,i64 0,str [],str [],i64 0,.slice none 0 0,.slice none 0 0,aQ.aZ.val,aQ.bB.val,aQ.bL.val,aQ.bE.val,i64 aQ.time]) rfl SH ?_
  refine Zl ?_
  refine Zq (Zr ?_)
  refine Zu (cL cE rfl rfl) ?_
  refine Zv (vc:=[aQ.bD.val,aQ.aX.val,aQ.bK.val,str aQ.aP,i64 aQ.aF,str [],i64 0,str [],.slice none 0 0,.slice none 0 0,i64 0,str [],str [],i64 0,.slice none 0 0,.slice none 0 0,aQ.aZ.val,aQ.bB.val,aQ.bL.val,aQ.bE.val,i64 aQ.time]) (cs':=[aQ.bD.val,aQ.aX.val,aQ.bK.val,str aQ.aP,i64 aQ.aF,str [],i64 0,str [],.slice none 0 0,.slice none 0 0,i64 0,str [],str [],i64 0,.slice none 0 0,.slice none 0 0,aQ.aZ.val,aQ.bB.val,aQ.bL.val,aQ.bE.val,i64 aQ.time]) rfl fR ?_
  refine Zy ?_
  refine VC.keep (ρ':=[(6,ptr AD 0),(7,.nilIface)]) [6,7] rfl ?_
  cases hS
  exact VC.ret (jV (vs:=[.agg #[aQ.bD.val,aQ.aX.val,aQ.bK.val,str aQ.aP,i64 aQ.aF,str [],i64 0,str [],.slice none 0 0,.slice none 0 0,i64 0,str [],str [],i64 0,.slice none 0 0,.slice none 0 0,aQ.aZ.val,aQ.bB.val,aQ.bL.val,aQ.bE.val,i64 aQ.time],.nilIface]) (.inr rfl) rfl (eW.cell cE rfl rfl Rd.blk (eW.tmp rfl (eW.nil))) (⟨aQ.bD,aQ.aX,aQ.bK,aQ.aP,aQ.aF,[],0,[],⟨none,0,[]⟩,⟨none,0,[]⟩,0,[],[],0,⟨none,0,[]⟩,⟨none,0,[]⟩,aQ.aZ,aQ.bB,aQ.bL,aQ.bE,aQ.time⟩,.nil) rfl rfl (by (try dsimp only); exact cO.out) (fun _ _=>trivial))
 refine Zk ?_
 refine Zq (Zr ?_)
 refine Zu (cL cE rfl rfl) ?_
 refine Zv (vc:=(aE aQ)) (cs':=(aE aQ)) rfl fR ?_
 refine Zy ?_
 cases hS
 exact VC.ret (jV (vs:=[.agg (aE aQ).toArray,.nilIface]) (.inr rfl) rfl (eW.cell cE rfl rfl Rd.blk (eW.tmp rfl (eW.nil))) (aQ,.nil) rfl rfl (by (try dsimp only); exact cO.out) (fun _ _=>trivial))
theorem YO (aB:cC) (H7:aV) {r:bM×gR} (hS:Sh.L1 aB.pl H7=some r) :
 Ct Tryz.prog 97 [.agg (aE aB).toArray,str H7] (aB.bD.ok.and (aB.aX.ok.and (aB.bK.ok.and (aB.aM.ok.and (aB.aR.ok.and (aB.aO.ok.and (aB.aS.ok.and (aB.aZ.ok.and (aB.bB.ok.and (aB.bL.ok.and aB.bE.ok)))))))))) (Ow.emp) (X:=cC×Er) (fun x => .tuple #[.agg (bO.enc x.1).toArray,x.2.val]) (fun x=>r=(x.1.pl,x.2.pl)) (fun x=>(x.1.m.and x.2.ok)) (fun x=>Ow.emp):=by
 refine Zo Tryz.func97 Tryz.ntmps97 fun c => ?_
 unfold Sh.L1 at hS
 refine Zq (Zr ?_)
 refine VL.box (cs:=(aE aB)) rfl rfl (by decide) fun eP => ?_
 refine VL.alloc (cs:=[.slice none 0 0,.slice none 0 0,.slice none 0 0,str [],i64 0,str [],i64 0,str [],.slice none 0 0,.slice none 0 0,i64 0,str [],str [],i64 0,.slice none 0 0,.slice none 0 0,.slice none 0 0,.slice none 0 0,.slice none 0 0,.slice none 0 0,i64 0]) (by kernel_rfl) (by decide) fun nA => ?_
 refine Zy ?_
 refine Zq (Zr ?_)
 refine Zu (aC dS rfl) ?_
 refine Zu (aC o3 rfl) ?_
 refine Zu (aT lW rfl rfl) ?_
 obtain ⟨qJ,EY,hS⟩:=aU hS
 refine VL.cR (MY aB.aX 0 EY) rfl (by decide) ?_
 rintro iF rfl
 try dsimp only
 refine Zy ?_
 refine Zq (Zb (Zq (Zr ?_)))
 refine Zu (aC dS rfl) ?_
 refine Zu (aC o3 rfl) ?_
 refine Zu (aT lW rfl rfl) ?_
 obtain ⟨C3,T6,hS⟩:=aU hS
 refine VL.cR (yJ aB.aX T6) rfl (by decide) ?_
 rintro VE rfl
 try dsimp only
 refine Zu (dO (s:=VE) Tryz.underlying23 rfl) ?_
 refine Zu (jF rfl rfl) ?_
 refine Zy ?_
 refine VC.keep (ρ':=[(1,str H7),(2,ptr eP 0),(4,ptr nA 0),(6,iF.val),(11,.bool (decide (0 < (VE.l.length:Int))))]) [1,2,4,6,11] rfl ?_
 refine Zc hS (fun h11 hS => ?_) (fun h11 hS => ?_)
 ·
  refine Zq ?_
  cases hS
 refine VC.gD (S:=Bool) (fun (O8:Bool)=>O8) (fun (O8:Bool)=>[(1,str H7),(2,ptr eP 0),(4,ptr nA 0),(6,iF.val),(20,.bool O8)]) (fun (O8:Bool)=>Mo.tt) (fun (O8:Bool)=>Ow.star (bP nA [.slice none 0 0,.slice none 0 0,.slice none 0 0,str [],i64 0,str [],i64 0,str [],.slice none 0 0,.slice none 0 0,i64 0,str [],str [],i64 0,.slice none 0 0,.slice none 0 0,.slice none 0 0,.slice none 0 0,.slice none 0 0,.slice none 0 0,i64 0] 59) (Ow.star (bP eP (aE aB) 59) (Ow.emp))) hS ?_ ?_
 ·
  clear hS
  intro k6 hS
  refine Zr ?_
  refine Zu (aC dS rfl) ?_
  refine Zu (aC qT rfl) ?_
  refine Zu (aC DM rfl) ?_
  refine Zu (aT dK rfl rfl) ?_
  refine Zy ?_
  refine mF 26 hS (fun h26 hS => ?_) (fun h26 hS => ?_)
  ·
   refine Zh (aC dS rfl) ?_
   refine Zh (aC qT rfl) ?_
   refine Zh (aC aEY rfl) ?_
   refine Zh (aT E5 rfl rfl) ?_
   refine Zh (dO (s:=aB.aM) Tryz.underlying48 rfl) ?_
   refine Zh (jF rfl rfl) ?_
   refine Zy ?_
   refine VL.mt (decide (0 < (aB.aM.l.length:Int))) [1,2,4,6,20] (fun _ _ h=>h) hS rfl
  refine VL.runs 8 [(20,some false)] (by kernel_rfl) ?_
  refine VL.mt false [1,2,4,6,20] (fun _ _ h=>h) hS rfl
 clear hS
 rintro O8 hS
 refine iT hS (fun h20 hS => ?_) (fun h20 hS => ?_)
 ·
  refine Zq ?_
  cases hS
 refine VC.gD (S:=Bool) (fun (PL:Bool)=>PL) (fun (PL:Bool)=>[(1,str H7),(2,ptr eP 0),(4,ptr nA 0),(6,iF.val),(36,.bool PL)]) (fun (PL:Bool)=>Mo.tt) (fun (PL:Bool)=>Ow.star (bP nA [.slice none 0 0,.slice none 0 0,.slice none 0 0,str [],i64 0,str [],i64 0,str [],.slice none 0 0,.slice none 0 0,i64 0,str [],str [],i64 0,.slice none 0 0,.slice none 0 0,.slice none 0 0,.slice none 0 0,.slice none 0 0,.slice none 0 0,i64 0] 59) (Ow.star (bP eP (aE aB) 59) (Ow.emp))) hS ?_ ?_
 ·
  clear hS
  intro k8 hS
  refine Zr ?_
  refine Zu (aC dS rfl) ?_
  refine Zu (aC qT rfl) ?_
  refine Zu (aC DM rfl) ?_
  refine Zu (aT dK rfl rfl) ?_
  refine Zu (rL rfl rfl) ?_
  refine Zm ?_
  refine NH 42 hS (fun h42 hS => ?_) (fun h42 hS => ?_)
  ·
   refine Zg ?_
   refine Zh (cL cE rfl rfl) ?_
   refine VL.guard rfl rfl ?_
   obtain ⟨aPc,aRE,hS⟩:=aU hS
   refine VL.cR (DC aB aRE) rfl (by decide) ?_
   rintro aOk rfl
   try dsimp only
   obtain ⟨aDj,aMF,hS⟩:=aU hS
   refine Zh (cN (SD iF aOk aMF) rfl (fun _ _=>rfl)) ?_
   refine Zy ?_
   refine VL.mt aDj [1,2,4,6,36] (fun _ _ h=>h) hS rfl
  refine VL.runs 6 [(36,some false)] (by kernel_rfl) ?_
  refine VL.mt false [1,2,4,6,36] (fun _ _ h=>h) hS rfl
 clear hS
 rintro PL hS
 refine iT hS (fun h36 hS => ?_) (fun h36 hS => ?_)
 ·
  refine Zq ?_
  cases hS
 refine Zk ?_
 refine Zq (Zr ?_)
 refine Zu (cL cE rfl rfl) ?_
 refine Zy ?_
 obtain ⟨aDl,aMN,hS⟩:=aU hS
 refine VL.cR (YP aB iF H7 aMN) rfl (by decide) ?_
 rintro ⟨QC,XO⟩ rfl
 try dsimp only
 refine Zu (bG rfl rfl) ?_
 refine Zu (bG rfl rfl) ?_
 refine Zv (vc:=(aE QC)) (cs':=(aE QC)) rfl fR ?_
 refine Zy ?_
 refine VC.keep (ρ':=[(4,ptr nA 0),(5,XO.val)]) [4,5] rfl ?_
 cases hS
 exact VC.ret (jV (vs:=[.agg (aE QC).toArray,XO.val]) (.inr rfl) rfl (eW.cell cE rfl rfl Rd.blk (eW.tmp rfl (eW.nil))) (QC,XO) rfl rfl (by (try dsimp only); exact cO.out) (fun _ _=>trivial))
theorem YM (aB:cC) (e7:aV) {r:bM×gR} (hS:Sh.LZ aB.pl e7=some r) :
 Ct Tryz.prog 165 [.agg (aE aB).toArray,str e7] (aB.bD.ok.and (aB.aX.ok.and (aB.bK.ok.and (aB.aM.ok.and (aB.aR.ok.and (aB.aO.ok.and (aB.aS.ok.and (aB.aZ.ok.and (aB.bB.ok.and (aB.bL.ok.and aB.bE.ok)))))))))) (Ow.emp) (X:=cC×Er) (fun x => .tuple #[.agg (bO.enc x.1).toArray,x.2.val]) (fun x=>r=(x.1.pl,x.2.pl)) (fun x=>(x.1.m.and x.2.ok)) (fun x=>Ow.emp):=by
 refine Zo Tryz.func165 Tryz.ntmps165 fun c => ?_
 unfold Sh.LZ at hS
 refine Zq (Zr ?_)
 refine VL.box (cs:=(aE aB)) rfl rfl (by decide) fun eP => ?_
 refine VL.alloc (cs:=[.slice none 0 0,.slice none 0 0,.slice none 0 0,str [],i64 0,str [],i64 0,str [],.slice none 0 0,.slice none 0 0,i64 0,str [],str [],i64 0,.slice none 0 0,.slice none 0 0,.slice none 0 0,.slice none 0 0,.slice none 0 0,.slice none 0 0,i64 0]) (by kernel_rfl) (by decide) fun nA => ?_
 refine Zy ?_
 refine Zq (Zr ?_)
 refine Zu (cL cE rfl rfl) ?_
 refine Zm ?_
 obtain ⟨X4,aPx,hS⟩:=aU hS
 refine Zu (cN (y5 aB e7 aPx) rfl (fun _ _=>rfl)) ?_
 refine Zm ?_
 refine Zu (bG rfl rfl) ?_
 refine Zu (bG rfl rfl) ?_
 refine Zy ?_
 refine VC.keep (ρ':=[(1,str e7),(2,ptr eP 0),(4,ptr nA 0),(7,.bool X4.2)]) [1,2,4,7] rfl ?_
 refine Zq (Zb (Zq (Zr ?_)))
 refine Zu (aC dS rfl) ?_
 refine Zu (aC nM rfl) ?_
 refine Zu (aC BA rfl) ?_
 refine Zu (aT fG rfl rfl) ?_
 refine Zu (hU rfl rfl) ?_
 refine Zy ?_
 refine Zc hS (fun h14 hS => ?_) (fun h14 hS => ?_)
 ·
  refine Zq ?_
  cases hS
 refine Zq (Zr ?_)
 refine Zy ?_
 refine VC.keep (ρ':=[(1,str e7),(2,ptr eP 0),(4,ptr nA 0),(22,.bool X4.2)]) [1,2,4,22] rfl ?_
 refine iT hS (fun h22 hS => ?_) (fun h22 hS => ?_)
 ·
  refine Zq ?_
  cases hS
 refine Zq (Zr ?_)
 refine Zu (aC dS rfl) ?_
 refine Zu (aC j4 rfl) ?_
 refine Zu (aT rW rfl rfl) ?_
 refine Zu (dO (s:=aB.bK) Tryz.underlying45 rfl) ?_
 refine Zu (qF rfl rfl) ?_
 refine Zy ?_
 refine Zc hS (fun h26 hS => ?_) (fun h26 hS => ?_)
 ·
  refine Zq ?_
  cases hS
 refine Zk ?_
 refine Zq (Zr ?_)
 refine Zu (cL cE rfl rfl) ?_
 refine Zm ?_
 refine Zu (aC dS rfl) ?_
 refine Zu (aC nM rfl) ?_
 refine Zu (aC BA rfl) ?_
 refine Zu (aT fG rfl rfl) ?_
 obtain ⟨aP8,aQy,hS⟩:=aU hS
 refine VL.cR (VX aB e7 aB.aF aQy) rfl (by decide) ?_
 rintro VJ rfl
 try dsimp only
 refine Zv (vc:=(aE VJ)) (cs':=(aE VJ)) rfl fR ?_
 refine Zy ?_
 refine VC.keep (ρ':=[(4,ptr nA 0),(5,.nilIface)]) [4,5] rfl ?_
 cases hS
 exact VC.ret (jV (vs:=[.agg (aE VJ).toArray,.nilIface]) (.inr rfl) rfl (eW.cell cE rfl rfl Rd.blk (eW.tmp rfl (eW.nil))) (VJ,.nil) rfl rfl (by (try dsimp only); exact cO.out) (fun _ _=>trivial))
theorem aFs (aB:cC) (dU:pI) {r:nI×gR} (hS:Sh.aAu aB.pl dU.pl=some r) :
 Ct Tryz.prog 257 [.agg (aE aB).toArray,.agg #[str dU.verb,str dU.name,i64 dU.n,str dU.text,.bool dU.force,dU.todo.val]] (aB.bD.ok.and (aB.aX.ok.and (aB.bK.ok.and (aB.aM.ok.and (aB.aR.ok.and (aB.aO.ok.and (aB.aS.ok.and (aB.aZ.ok.and (aB.bB.ok.and (aB.bL.ok.and (aB.bE.ok.and dU.todo.ok))))))))))) (Ow.emp) (X:=nI×Er) (fun x => .tuple #[.agg #[str x.1.branch,i64 x.1.c8],x.2.val]) (fun x=>r=(x.1,x.2.pl)) (fun x=>x.2.ok) (fun x=>Ow.emp):=by
 refine Zo Tryz.func257 Tryz.ntmps257 fun c => ?_
 unfold Sh.aAu at hS
 refine Zq (Zr ?_)
 refine VL.box (cs:=(aE aB)) rfl rfl (by decide) fun eP => ?_
 refine VL.box (cs:=[str dU.verb,str dU.name,i64 dU.n,str dU.text,.bool dU.force,dU.todo.val]) rfl rfl (by decide) fun jX => ?_
 refine VL.alloc (cs:=[str [],i64 0]) (by kernel_rfl) (by decide) fun mT => ?_
 refine Zy ?_
 refine Zq (Zq (Zr ?_))
 refine Zu (aC oE rfl) ?_
 refine Zu (aT dK rfl rfl) ?_
 refine Zy ?_
 refine Zc hS (fun h12 hS => ?_) (fun h12 hS => ?_)
 ·
  refine Zq (Zq ?_)
  cases hS
 refine Zk ?_
 refine Zq (Zr ?_)
 refine Zu (cL cE rfl rfl) ?_
 refine Zu (aC oE rfl) ?_
 refine Zu (aT dK rfl rfl) ?_
 obtain ⟨aBS,aQj,hS⟩:=aU hS
 refine Zu (cN (y5 aB dU.name aQj) rfl (fun _ _=>rfl)) ?_
 refine Zm ?_
 refine Zu (bG rfl rfl) ?_
 refine Zu (bG rfl rfl) ?_
 refine Zy ?_
 refine VC.keep (ρ':=[(2,ptr eP 0),(3,ptr jX 0),(4,ptr mT 0),(8,i64 aBS.1),(9,.bool aBS.2)]) [2,3,4,8,9] rfl ?_
 refine Zq (Zq (Zr ?_))
 refine Zm ?_
 refine Zu (lN rfl) ?_
 refine Zl ?_
 refine iT hS (fun h35 hS => ?_) (fun h35 hS => ?_)
 ·
  refine Zq ?_
  cases hS
 refine Zk ?_
 refine Zq ?_
 refine VC.draw [(0,true),(1,true),(2,true),(3,true),(4,true),(5,true),(6,true),(7,true),(8,true),(9,true),(10,false),(11,true)] mixed (by kernel_rfl) (by kernel_rfl) (by kernel_rfl) ?_
 refine Zw rfl (aC oE rfl) ?_
 refine Zw rfl (aT dK rfl rfl) ?_
 refine Zw rfl (aC dS rfl) ?_
 refine Zw rfl (aC j4 rfl) ?_
 refine Zw rfl (aT rW rfl rfl) ?_
 refine Zw rfl (bT rfl) ?_
 obtain ⟨PY,aIf,aIB,hS⟩:=e8 hS
 refine Zw rfl (fM (s:=aB.bK) Tryz.underlying45 nO rfl rfl aIf (bQ aIf aIB)) ?_
 refine Zw rfl (aC P5 rfl) ?_
 refine Zw rfl (XT (s:=aB.bK) fG rfl aIB rfl) ?_
 refine Zw rfl (fH (vs:=[(0,str dU.name),(1,i64 PY.c8)]) (cs := #[str dU.name,i64 PY.c8]) rfl (by kernel_rfl)) ?_
 refine VD.one rfl ?_
 refine Zv (vc:=[str dU.name,i64 PY.c8]) (cs':=[str dU.name,i64 PY.c8]) rfl SG ?_
 refine VL.back (D':=[]) (by kernel_rfl) (aN.nil) ?_
 refine Zw rfl (fT rfl) ?_
 refine VD.to (fun _ _ h=>h) ?_
 refine VC.keep (ρ':=[(4,ptr mT 0),(5,.nilIface)]) [4,5] rfl ?_
 cases hS
 exact VC.ret (jV (vs:=[.agg #[str dU.name,i64 PY.c8],.nilIface]) (.inr rfl) rfl (eW.cell UC rfl rfl Rd.blk (eW.tmp rfl (eW.nil))) (⟨dU.name,PY.c8⟩,.nil) rfl rfl (by (try dsimp only); exact cO.out) (fun _ _=>trivial))
theorem MV (dZ:Sv (Sv aD)) {r:List aV} (hS:Sh.xY (dZ.l.map Sv.l)=some r) :
 Ct Tryz.prog 25 [dZ.val] dZ.ok (Ow.emp) (X:=Sv aV) (fun x=>x.val) (fun x=>r=x.l) (fun x=>x.ok) (fun x=>Ow.emp):=by
 refine Zo Tryz.func25 Tryz.ntmps25 fun c => ?_
 unfold Sh.xY at hS
 refine Zq (Zr ?_)
 refine Zy ?_
 refine Zq (Zr ?_)
 refine VL.aU5 (k:=9) (e:=4) (by decide) fun TX => ?_
 refine Zy ?_
 refine Zq (Zq (Zr ?_))
 refine Zm ?_
 refine Zu (qG Sv.l (s:=dZ) Tryz.underlying87 rfl) ?_
 refine Zy ?_
 refine Zb ?_
 refine VC.iter (S:=Int×List aV) (fun sg=>(sg.1,sg.2)) (fun sg=>[(3,.map (some TX)),(9,dZ.val),(10,i64 ((dZ.l.map Sv.l).length:Int)),(11,i64 sg.1)]) (fun sg=>Mo.tt) (fun sg=>Ow.star (ZL Tryz.prog 9 4 TX sg.2) (Ow.emp)) (0,([]:List aV)) [3,9,10,11] hS rfl ?_
 clear hS
 rintro ⟨nH,WL⟩ m1 y1 hS hK1
 refine Zq (Zr ?_)
 refine Zu (dL rfl rfl) ?_
 refine Zl ?_
 refine Zq ?_
 refine Zc hS (fun h12 hS => ?_) (fun h12 hS => ?_)
 ·
  refine Zk ?_
  refine Zq (Zb (Zq (Zr ?_)))
  obtain ⟨HB,aIK,aCx,hS⟩:=IK hS
  refine VL.deep HB.ok aCx (fun _ q=>q) ?_
  refine Zu (fM (s:=dZ) Tryz.underlying87 W4 rfl rfl aIK (bQ aIK aCx)) ?_
  refine Zu (rH (s:=dZ) iN rfl aCx rfl) ?_
  refine Zy ?_
  refine Zq (Zr ?_)
  refine Zm ?_
  refine Zu (dO (s:=HB) Tryz.underlying35 rfl) ?_
  refine Zy ?_
  refine Zb ?_
  refine VC.iter (S:=Int×List aV) (fun sg=>(sg.1,sg.2)) (fun sg=>[(3,.map (some TX)),(9,dZ.val),(10,i64 ((dZ.l.map Sv.l).length:Int)),(11,i64 nH),(15,HB.val),(16,i64 (HB.l.length:Int)),(17,i64 sg.1)]) (fun sg=>Mo.tt) (fun sg=>Ow.star (ZL Tryz.prog 9 4 TX sg.2) (Ow.emp)) (0,WL) [3,9,10,11,15,16,17] hS rfl ?_
  clear hS
  rintro ⟨TH,WM⟩ m2 y2 hS hK2
  refine Zq (Zr ?_)
  refine Zu (dL rfl rfl) ?_
  refine Zl ?_
  refine Zq ?_
  refine Zc hS (fun h18 hS => ?_) (fun h18 hS => ?_)
  ·
   refine Zk ?_
   refine Zq (Zb (Zq (Zr ?_)))
   obtain ⟨JE,aIS,aHg,hS⟩:=e8 hS
   refine Zu (fM (s:=HB) Tryz.underlying35 fP rfl rfl aIS (bQ aIS aHg)) ?_
   refine Zu (lZ (s:=HB) i7 rfl rfl aHg) ?_
   refine VL.alloc (cs:=[str [],i64 0,str []]) (by kernel_rfl) (by decide) fun aWF => ?_
   refine Zv (vc:=[str JE.path,i64 JE.mode,str JE.data]) (cs':=[str JE.path,i64 JE.mode,str JE.data]) rfl fP ?_
   refine Zl ?_
   refine Zr ?_
   refine Zm ?_
   refine Zu (aC oZ rfl) ?_
   refine Zu (aT dK rfl rfl) ?_
   obtain ⟨bs3,hS⟩:=bS hS
   refine VL.aSS (b:=TX) (l:=WM) (s:=JE.path) Tryz.underlying9 Tryz.underlying4 Tryz.underlying112 Fo.out rfl rfl rfl bs3 ?_
   obtain ⟨ZO,aKM,hS⟩:=AF hS
   rw [aKM]
   refine Zl ?_
   refine VC.keep (ρ':=[(3,.map (some TX)),(9,dZ.val),(10,i64 ((dZ.l.map Sv.l).length:Int)),(11,i64 nH),(15,HB.val),(16,i64 (HB.l.length:Int)),(17,i64 TH)]) [3,9,10,11,15,16,17] rfl ?_
   refine Zr ?_
   obtain ⟨b24,hS⟩:=bS hS
   refine Zu (cK rfl rfl b24) ?_
   refine Zm ?_
   refine VL.jC ((TH+1),ZO) [3,9,10,11,15,16,17] (fun _ _ h=>h) (go2 hS hK2) rfl
  replace hS:=gQ hS hK2
  refine Zx ?_
  refine Zr ?_
  obtain ⟨b25,hS⟩:=bS hS
  refine Zu (cK rfl rfl b25) ?_
  refine Zm ?_
  refine VL.jC ((nH+1),WM) [3,9,10,11] (fun _ _ h=>h) (go2 hS hK1) rfl
 replace hS:=gQ hS hK1
 refine Zx ?_
 refine Zq (Zr ?_)
 refine Zm ?_
 refine VL.cA (Ct.mapKeys (b:=TX) (FF Tryz.func42 rfl (by kernel_rfl)) Tryz.aDL) rfl (by decide) ?_
 intro B27_10 _
 try dsimp only
 obtain ⟨b28,hS⟩:=bS hS
 refine VL.cA (Ct.aFx (it:=74) (T:=112) (b:=TX) (B:=B27_10) (e:=4) (l:=WL) (FF Tryz.func41 rfl (by kernel_rfl)) Tryz.underlying9 (fun D0 nn W h1 h2 h3 h4 h5=>Tryz.sortedKeys_41_42 B27_10 TX nn D0 _ W h1 h2 h3 h4 h5) b28) rfl (by decide) ?_
 intro aIr aN0
 try dsimp only
 replace hS:=b5 aN0 hS
 refine VL.shut aIr 9 (fun _ _ _ _=>trivial) ?_
 obtain ⟨ZB,aLd,hS⟩:=aU hS
 refine VL.cR (gG aIr aLd) rfl (by decide) ?_
 rintro aK6 rfl
 try dsimp only
 refine Zy ?_
 cases hS
 exact VC.ret (fA (.inr rfl) rfl rfl aK6 rfl rfl (by (try dsimp only); exact cO.out) (fun _ _=>trivial))
theorem rZ (dB:Sv aD) (p_1:aV) {r:TU} (hS:Sh.wS dB.l p_1=some r) :
 Ct Tryz.prog 318 [dB.val,str p_1] dB.ok (Ow.emp) (X:=Unit) (fun _ => .agg #[str r.dD,i64 r.cX,str r.cW,.bool r.is]) (fun _=>True) (fun _=>Mo.tt) (fun _=>Ow.emp):=by
 refine Zo Tryz.func318 Tryz.ntmps318 fun c => ?_
 unfold Sh.wS at hS
 refine Zq (Zr ?_)
 refine VL.alloc (cs:=[str [],i64 0,str [],.bool false]) (by kernel_rfl) (by decide) fun uY => ?_
 refine Zl ?_
 refine Zq (Zr ?_)
 refine Zy ?_
 obtain ⟨eS,EX,hS⟩:=aU hS
 refine Zu (cN (pK dB p_1 EX) rfl (fun _ _=>rfl)) ?_
 refine Zm ?_
 refine Zu (bG rfl rfl) ?_
 refine Zu (bG rfl rfl) ?_
 refine VL.alloc (cs:=[str [],i64 0,str []]) (by kernel_rfl) (by decide) fun aBn => ?_
 refine Zv (vc:=[str eS.1.path,i64 eS.1.mode,str eS.1.data]) (cs':=[str eS.1.path,i64 eS.1.mode,str eS.1.data]) rfl fP ?_
 refine Zy ?_
 refine VC.keep (ρ':=[(4,ptr uY 0),(5,ptr aBn 0),(6,.bool eS.2)]) [4,5,6] rfl ?_
 refine Zq (Zr ?_)
 refine Zu (cL i7 rfl rfl) ?_
 refine Zm ?_
 refine Zu (fH (vs:=[(0,.agg #[str eS.1.path,i64 eS.1.mode,str eS.1.data]),(1,.bool eS.2)]) (cs := #[str eS.1.path,i64 eS.1.mode,str eS.1.data,.bool eS.2]) rfl (by kernel_rfl)) ?_
 refine Zv (vc:=[str eS.1.path,i64 eS.1.mode,str eS.1.data,.bool eS.2]) (cs':=[str eS.1.path,i64 eS.1.mode,str eS.1.data,.bool eS.2]) rfl Y2 ?_
 refine Zl ?_
 cases hS
 exact VC.ret (jV (vs:=[.agg #[str eS.1.path,i64 eS.1.mode,str eS.1.data,.bool eS.2]]) (.inr rfl) rfl (eW.cell aAD rfl rfl Rd.blk (eW.nil)) () rfl trivial (by (try dsimp only); exact cO.out) (fun _ _=>trivial))
theorem JX (hO:Sv aD) (r_1:iD) {r:List aV} (hS:Sh.DB hO.l r_1.pl=some r) :
 Ct Tryz.prog 359 [hO.val,.agg #[r_1.files.val,r_1.entries.val,r_1.conflicts.val]] (hO.ok.and (r_1.files.ok.and (r_1.entries.ok.and r_1.conflicts.ok))) (Ow.emp) (X:=Sv aV) (fun x=>x.val) (fun x=>r=x.l) (fun x=>Mo.tt) (fun x=>Sv.own x 9):=by
 refine Zo Tryz.func359 Tryz.ntmps359 fun c => ?_
 unfold Sh.DB at hS
 refine Zq (Zr ?_)
 refine VL.box (cs:=[r_1.files.val,r_1.entries.val,r_1.conflicts.val]) rfl rfl (by decide) fun iM => ?_
 refine Zy ?_
 refine Zq (Zr ?_)
 refine Zy ?_
 refine Zq (Zq (Zr ?_))
 refine Zm ?_
 refine Zu (aC qR rfl) ?_
 refine Zu (aT iN rfl rfl) ?_
 refine VL.lit (α:=Sv aD) (xs:=[.tmp 8,.tmp 10]) (vs:=[hO.val,r_1.files.val]) [hO,r_1.files] Tryz.underlying87 aCk (by decide) rfl rfl rfl rfl (by decide) (fun h m=>List.forall_mem_cons.2 ⟨cO.out (X:=hO.ok) h m,List.forall_mem_cons.2 ⟨cO.out (X:=r_1.files.ok) h m,fun _ h=>by cases h⟩⟩) (by decide) (fun aUi aR4 => ?_) (by decide)
 replace hS:=b5 (congrArg (List.map Sv.l) aR4) hS
 obtain ⟨PN,aC2,hS⟩:=aU hS
 refine VL.cR (MV aUi aC2) rfl (by decide) ?_
 rintro r9 rfl
 try dsimp only
 refine Zu (dO (s:=r9) Tryz.underlying23 rfl) ?_
 refine Zy ?_
 refine Zb ?_
 refine VC.lR (⟨none,0,[]⟩:Sv aV) 9 ⟨rfl,rfl⟩ ?_
 refine VC.iter (S:=Sv aV×Int) (fun sg=>(sg.1.l,sg.2)) (fun sg=>[(0,hO.val),(3,ptr iM 0),(5,sg.1.val),(12,r9.val),(13,i64 (r9.l.length:Int)),(14,i64 sg.2)]) (fun sg=>Mo.tt) (fun sg=>Ow.star (bP iM [r_1.files.val,r_1.entries.val,r_1.conflicts.val] 38) (Ow.star (Sv.own sg.1 9) (Ow.emp))) (⟨none,0,[]⟩,0) [0,3,5,12,13,14] hS rfl ?_
 clear hS
 rintro ⟨DA,I9⟩ m1 y1 hS hK1
 refine Zq (Zr ?_)
 refine Zu (dL rfl rfl) ?_
 refine Zl ?_
 refine Zq ?_
 refine Zc hS (fun h15 hS => ?_) (fun h15 hS => ?_)
 ·
  refine Zk ?_
  refine Zq (Zb (Zq (Zr ?_)))
  obtain ⟨MR,aIL,aHa,hS⟩:=e8 hS
  refine Zu (fM (s:=r9) Tryz.underlying23 o4 rfl rfl aIL (bQ aIL aHa)) ?_
  refine Zu (rH (s:=r9) dK rfl aHa rfl) ?_
  refine Zy ?_
  refine Zq ?_
  refine VC.draw ((List.range 8).map fun k=>(k,true)) mixed (by kernel_rfl) (by kernel_rfl) (by kernel_rfl) ?_
  refine Zw rfl (bT rfl) ?_
  refine Zw rfl (bT rfl) ?_
  obtain ⟨pF,E3,hS⟩:=aU hS
  refine Zw rfl (cN (rZ hO MR E3) rfl (fun _ _=>rfl)) ?_
  refine Zw rfl (aC qR rfl) ?_
  refine Zw rfl (aT iN rfl rfl) ?_
  refine Zw rfl (bT rfl) ?_
  obtain ⟨pG,T8,hS⟩:=aU hS
  refine Zw rfl (cN (rZ r_1.files MR T8) rfl (fun _ _=>rfl)) ?_
  refine Zw rfl (aFq aAH (aAJ pF.dD pF.cX pF.cW pF.is pG.dD pG.cX pG.cW pG.is) rfl rfl) ?_
  refine VD.to (fun _ _ h=>h) ?_
  refine VC.keep (ρ':=[(0,hO.val),(3,ptr iM 0),(5,DA.val),(12,r9.val),(13,i64 (r9.l.length:Int)),(14,i64 I9),(7,str MR),(25,.bool (!decide (pF.dD=pG.dD∧pF.cX=pG.cX∧pF.cW=pG.cW∧pF.is=pG.is)))]) [0,3,5,12,13,14,7,25] rfl ?_
  refine rI hS (fun h25 hS => ?_) (fun h25 hS => ?_)
  ·
   refine Zr ?_
   refine Zy ?_
   refine VL.lit (α:=aV) (xs:=[.tmp 27]) (vs:=[str MR]) [MR] Tryz.underlying23 wL (by decide) rfl rfl rfl rfl (by decide) (fun _ _ _ _=>trivial) (by decide) (fun Y7 aAP => ?_) (by decide)
   replace hS:=b5 aAP hS
   obtain ⟨b29,hS⟩:=bS hS
   refine VL.app (s:=DA) (r:=Y7) Tryz.underlying23 LI (by decide) rfl Fo.out (uW b29) (uX b29 (by decide)) (by decide) (fun aSf aN1 => ?_)
   replace hS:=b5 aN1 hS
   refine Zy ?_
   refine Zr ?_
   obtain ⟨b30,hS⟩:=bS hS
   refine Zu (cK rfl rfl b30) ?_
   refine Zm ?_
   refine VL.jC (aSf,(I9+1)) [0,3,5,12,13,14] (fun _ _ h=>h) (go2 hS hK1) rfl
  refine Zk ?_
  refine Zr ?_
  obtain ⟨b30,hS⟩:=bS hS
  refine Zu (cK rfl rfl b30) ?_
  refine Zm ?_
  refine VL.jC (DA,(I9+1)) [0,3,5,12,13,14] (fun _ _ h=>h) (go2 hS hK1) rfl
 replace hS:=gQ hS hK1
 refine Zx ?_
 refine Zq (Zr ?_)
 refine Zm ?_
 refine Zu (aC DL rfl) ?_
 refine Zu (aT oK rfl rfl) ?_
 obtain ⟨b34,hS⟩:=bS hS
 refine VL.app (s:=DA) (r:=r_1.conflicts) Tryz.underlying23 LI (by decide) rfl Fo.out (uW b34) (uX b34 (by decide)) (by decide) (fun aIt aN5 => ?_)
 replace hS:=b5 aN5 hS
 refine Zy ?_
 refine VC.keep (ρ':=[(5,aIt.val)]) [5] rfl ?_
 refine Zq (Zr ?_)
 refine Zm ?_
 obtain ⟨b36,hS⟩:=bS hS
 refine VL.cA (TA aIt b36) rfl (by decide) ?_
 rintro aTI ⟨aOA,aPH⟩
 try dsimp only
 rw [← aPH]
 replace hS:=b5 aOA hS
 refine Zl ?_
 refine Zq (Zr ?_)
 refine Zm ?_
 obtain ⟨b38,hS⟩:=bS hS
 refine VL.cA (FY aTI b38) rfl (by decide) ?_
 rintro aTJ aOB
 try dsimp only
 replace hS:=b5 aOB hS
 refine Zy ?_
 cases hS
 exact VC.ret (fA (.inr rfl) rfl rfl aTJ rfl rfl (by (try dsimp only); exact cO.out) (by (try dsimp only); exact eT.out))
theorem nG (aB:Sv aV) (v_1:aV) {r:Bool} (hS:Sh.jT aB.l v_1=some r) :
 Ct Tryz.prog 273 [aB.val,str v_1] aB.ok (Ow.emp) (X:=Unit) (fun _ => .bool r) (fun _=>True) (fun _=>Mo.tt) (fun _=>Ow.emp):=by
 refine Zo Tryz.func273 Tryz.ntmps273 fun c => ?_
 unfold Sh.jT at hS
 refine Zq (Zr ?_)
 refine Zy ?_
 refine Zq (Zr ?_)
 refine Zy ?_
 obtain ⟨iR,lI,hS⟩:=aU hS
 refine Zu (cN (tX aB v_1 lI) rfl (fun _ _=>rfl)) ?_
 refine Zu (qF rfl rfl) ?_
 refine Zy ?_
 cases hS
 exact Ze
theorem aBc (hO:Sv aD) (CD:Sv aK) (QK:Sv aD) (p_3:aV) {r:Bool} (hS:Sh.SV hO.l CD.l QK.l p_3=some r) :
 Ct Tryz.prog 375 [hO.val,CD.val,QK.val,str p_3] (hO.ok.and (CD.ok.and QK.ok)) (Ow.emp) (X:=Unit) (fun _ => .bool r) (fun _=>True) (fun _=>Mo.tt) (fun _=>Ow.emp):=by
 refine Zo Tryz.func375 Tryz.ntmps375 fun c => ?_
 unfold Sh.SV at hS
 refine Zq (Zr ?_)
 refine Zy ?_
 refine Zq (Zr ?_)
 refine Zm ?_
 obtain ⟨iJ,EZ,hS⟩:=aU hS
 refine VL.cR (MY CD 0 EZ) rfl (by decide) ?_
 rintro qA rfl
 try dsimp only
 refine Zm ?_
 obtain ⟨jH,K5,hS⟩:=aU hS
 refine Zu (cN (rZ qA p_3 K5) rfl (fun _ _=>rfl)) ?_
 refine VL.alloc (cs:=[str [],i64 0,str [],.bool false]) (by kernel_rfl) (by decide) fun aLT => ?_
 refine Zv (vc:=[str jH.dD,i64 jH.cX,str jH.cW,.bool jH.is]) (cs':=[str jH.dD,i64 jH.cX,str jH.cW,.bool jH.is]) rfl Y2 ?_
 refine Zl ?_
 refine Zq ?_
 refine VC.draw [(0,true),(1,true),(2,true),(3,true),(4,true),(5,true),(6,true),(7,true),(8,true),(9,true),(10,true),(11,true),(12,true),(13,true),(15,true),(14,false),(16,true),(17,true),(18,true),(19,true)] mixed (by kernel_rfl) (by kernel_rfl) (by kernel_rfl) ?_
 refine Zw rfl (bT rfl) ?_
 refine Zw rfl (bT rfl) ?_
 obtain ⟨qK,K8,hS⟩:=aU hS
 refine Zw rfl (cN (rZ QK p_3 K8) rfl (fun _ _=>rfl)) ?_
 refine Zw rfl (cL aAD rfl rfl) ?_
 refine Zw rfl (OI aAH (aAJ qK.dD qK.cX qK.cW qK.is jH.dD jH.cX jH.cW jH.is) rfl rfl) ?_
 refine Zw rfl (bT rfl) ?_
 refine VD.uP 19 rfl (fun h19 => ?_) (fun h19 => ?_)
 ·
  replace hS:=MZ h19 hS
  refine Zi rfl (cL aAD rfl rfl) ?_
  refine Zi rfl (bT rfl) ?_
  refine Zi rfl (bT rfl) ?_
  obtain ⟨MK,aQ2,hS⟩:=aU hS
  refine Zi rfl (cN (rZ hO p_3 aQ2) rfl (fun _ _=>rfl)) ?_
  refine Zi rfl (OI aAH (aAJ jH.dD jH.cX jH.cW jH.is MK.dD MK.cX MK.cW MK.is) rfl rfl) ?_
  refine Zw rfl (jR rfl rfl) ?_
  refine Zw rfl (bT rfl) ?_
  refine VD.uP 26 rfl (fun h26 => ?_) (fun h26 => ?_)
  ·
   replace hS:=MZ h26 hS
   refine Zi rfl (bT rfl) ?_
   refine Zi rfl (bT rfl) ?_
   refine VD.aVd rfl rfl rfl ?_
   refine VL.guard rfl rfl ?_
   obtain ⟨aPY,aQc,hS⟩:=aU hS
   refine VL.cR (yJ CD aQc) rfl (by decide) ?_
   rintro aOb rfl
   try dsimp only
   refine VL.back (D':=[(15,str p_3)]) (by kernel_rfl) (aN.aUH rfl rfl rfl (bT rfl) (aN.nil)) ?_
   obtain ⟨aGw,aQi,hS⟩:=aU hS
   refine Zi rfl (cN (nG aOb p_3 aQi) rfl (fun _ _=>rfl)) ?_
   refine Zi rfl (lN rfl) ?_
   refine Zw rfl (jR rfl rfl) ?_
   refine Zw rfl (fT rfl) ?_
   refine VD.to (fun _ _ h=>h) ?_
   refine VC.keep (ρ':=[(8,.bool (!aGw))]) [8] rfl ?_
   cases hS
   exact Ze
  replace hS:=RD h26 hS
  refine Zd ?_
  refine Zd ?_
  refine VD.aUA (D':=[(15,undef)]) rfl rfl rfl (by decide) (by decide) (by kernel_rfl) (aN.aL1 rfl rfl rfl rfl (aN.nil)) ?_
  refine Zd ?_
  refine Zd ?_
  refine Zw rfl (iG rfl rfl) ?_
  refine Zw rfl (fT rfl) ?_
  refine VD.to (fun _ _ h=>h) ?_
  refine VC.keep (ρ':=[(8,.bool false)]) [8] rfl ?_
  cases hS
  exact Ze
 replace hS:=RD h19 hS
 refine Zd ?_
 refine Zd ?_
 refine Zd ?_
 refine Zd ?_
 refine Zd ?_
 refine Zw rfl (iG rfl rfl) ?_
 refine Zw rfl (bT rfl) ?_
 refine Zd ?_
 refine Zd ?_
 refine VD.aUA (D':=[(15,undef)]) rfl rfl rfl (by decide) (by decide) (by kernel_rfl) (aN.aL1 rfl rfl rfl rfl (aN.nil)) ?_
 refine Zd ?_
 refine Zd ?_
 refine Zw rfl (iG rfl rfl) ?_
 refine Zw rfl (fT rfl) ?_
 refine VD.to (fun _ _ h=>h) ?_
 refine VC.keep (ρ':=[(8,.bool false)]) [8] rfl ?_
 cases hS
 exact Ze
theorem YL (yZ:aV) (gS:Nat) (a_1:iD) (aLL:Nat) (a_2:aD) {r:Bool} (hS:Sh.LU yZ a_1.pl a_2=some r) :
 Ct Tryz.prog 377 [str yZ,ptr gS 0,ptr aLL 0] (a_1.files.ok.and (a_1.entries.ok.and (a_1.conflicts.ok.and ((Cells gS 0 [a_1.files.val,a_1.entries.val,a_1.conflicts.val]).and (Cells aLL 0 [str a_2.path,i64 a_2.mode,str a_2.data]))))) (Ow.emp) (X:=Unit) (fun _ => .bool r) (fun _=>True) (fun _=>Mo.tt) (fun _=>Ow.emp):=by
 refine Zo Tryz.func377 Tryz.ntmps377 fun c => ?_
 unfold Sh.LU at hS
 refine Zq (Zr ?_)
 refine Zy ?_
 refine Zq (Zr ?_)
 refine Zu (aC qR rfl) ?_
 refine Zu (CE iN rfl rfl) ?_
 refine Zm ?_
 obtain ⟨B6,F1,hS⟩:=aU hS
 refine Zu (cN (rZ a_1.files yZ F1) rfl (fun _ _=>rfl)) ?_
 refine Zu (aOp Tryz.underlying393 rfl nN rfl rfl) ?_
 refine Zm ?_
 refine uV 10 hS (fun h10 hS => ?_) (fun h10 hS => ?_)
 ·
  refine Zg ?_
  refine Zh (aC oZ rfl) ?_
  refine Zh (CE dK rfl rfl) ?_
  obtain ⟨B4,aC4,hS⟩:=aU hS
  refine Zh (cN (wR yZ a_2.path aC4) rfl (fun _ _=>rfl)) ?_
  refine Zy ?_
  refine VC.keep (ρ':=[(4,.bool B4)]) [4] rfl ?_
  cases hS
  exact Ze
 refine VL.runs 6 [(4,some false)] (by kernel_rfl) ?_
 refine Zl ?_
 cases hS
 exact Ze
theorem zT (aB:Sv aV) (eC:Nat) (eU:iD) (yW:Nat) (zM:aD) {r:Int} (hS:Sh.oJ aB.l eU.pl zM=some r) :
 Ct Tryz.prog 384 [aB.val,.func (.func 377) #[] #[ptr eC 0,ptr yW 0]] (aB.ok.and (eU.files.ok.and (eU.entries.ok.and (eU.conflicts.ok.and ((Cells eC 0 [eU.files.val,eU.entries.val,eU.conflicts.val]).and (Cells yW 0 [str zM.path,i64 zM.mode,str zM.data])))))) (Ow.emp) (X:=Unit) (fun _=>i64 r) (fun _=>True) (fun _=>Mo.tt) (fun _=>Ow.emp):=by
 refine Zo Tryz.func384 Tryz.ntmps384 fun c => ?_
 unfold Sh.oJ at hS
 refine Zq (Zr ?_)
 refine Zy ?_
 refine Zq (Zq (Zr ?_))
 refine Zm ?_
 refine Zu (dO (s:=aB) Tryz.underlying23 rfl) ?_
 refine Zy ?_
 refine Zb ?_
 refine VC.iter (S:=Int) (fun (cS:Int)=>cS) (fun (cS:Int)=>[(0,aB.val),(1,.func (.func 377) #[] #[ptr eC 0,ptr yW 0]),(7,i64 (aB.l.length:Int)),(8,i64 cS)]) (fun (cS:Int)=>Mo.tt) (fun (cS:Int)=>Ow.emp) 0 [0,1,7,8] hS rfl ?_
 clear hS
 rintro cS m1 y1 hS hK1
 refine Zq (Zr ?_)
 refine Zu (dL rfl rfl) ?_
 refine Zl ?_
 refine Zq ?_
 refine Zc hS (fun h9 hS => ?_) (fun h9 hS => ?_)
 ·
  refine Zk ?_
  refine Zq (Zb (Zq (Zr ?_)))
  refine Zy ?_
  refine Zq (Zr ?_)
  refine Zy ?_
  obtain ⟨gF,mD,mC,hS⟩:=e8 hS
  refine Zu (fM (s:=aB) Tryz.underlying23 o4 rfl rfl mD (bQ mD mC)) ?_
  refine Zu (rH (s:=aB) dK rfl mC rfl) ?_
  obtain ⟨kQ,rV,hS⟩:=aU hS
  refine Zu (tN (vs:=[str gF]) (caps:=[ptr eC 0,ptr yW 0]) (YL gF eC eU yW zM rV) rfl rfl (fun _ _=>rfl)) ?_
  refine Zl ?_
  refine VC.keep (ρ':=[(0,aB.val),(1,.func (.func 377) #[] #[ptr eC 0,ptr yW 0]),(7,i64 (aB.l.length:Int)),(8,i64 cS),(5,i64 cS),(16,.bool kQ)]) [0,1,7,8,5,16] rfl ?_
  refine iT hS (fun h16 hS => ?_) (fun h16 hS => ?_)
  ·
   refine Zq (Zr ?_)
   refine Zy ?_
   replace hS:=gQ hS hK1
   cases hS
   exact Ze
  refine Zk ?_
  refine Zr ?_
  obtain ⟨b18,hS⟩:=bS hS
  refine Zu (cK rfl rfl b18) ?_
  refine Zm ?_
  refine VL.jC (cS+1) [0,1,7,8] (fun _ _ h=>h) (go2 hS hK1) rfl
 replace hS:=gQ hS hK1
 refine Zx ?_
 refine Zq (Zr ?_)
 refine Zy ?_
 cases hS
 exact Ze
theorem yA (aB:Sv aV) (eC:Nat) (eU:iD) (yW:Nat) (zM:aD) {r:Bool} (hS:Sh.mV aB.l eU.pl zM=some r) :
 Ct Tryz.prog 376 [aB.val,.func (.func 377) #[] #[ptr eC 0,ptr yW 0]] (aB.ok.and (eU.files.ok.and (eU.entries.ok.and (eU.conflicts.ok.and ((Cells eC 0 [eU.files.val,eU.entries.val,eU.conflicts.val]).and (Cells yW 0 [str zM.path,i64 zM.mode,str zM.data])))))) (Ow.emp) (X:=Unit) (fun _ => .bool r) (fun _=>True) (fun _=>Mo.tt) (fun _=>Ow.emp):=by
 refine Zo Tryz.func376 Tryz.ntmps376 fun c => ?_
 unfold Sh.mV at hS
 refine Zq (Zr ?_)
 refine Zy ?_
 refine Zq (Zr ?_)
 refine Zy ?_
 obtain ⟨iR,lI,hS⟩:=aU hS
 refine Zu (oO (zT aB eC eU yW zM lI) rfl (fun _ _=>rfl)) ?_
 refine Zu (qF rfl rfl) ?_
 refine Zy ?_
 cases hS
 exact Ze
end Go.Proofs.YtcenmlklkpgmnaaGreatDoor
end
