/- Part of the proofs of: a plan's folder, laid down by the journal, is on the disk as planned, and outlasts the power (any two trees, any keep) -/
import Derived.Test.YtedhnpjkoeblnaaGreatDoorLD
set_option linter.unusedVariables false
set_option linter.unusedSimpArgs false
set_option linter.unusedSectionVars false
section
set_option linter.unusedVariables false
namespace Go.Proofs.YtedhnpjkoeblnaaGreatDoor
set_option maxHeartbeats 4000000
set_option maxRecDepth 100000
set_option synthInstance.maxSize 2000
set_option synthInstance.maxHeartbeats 1000000
open Go.RowKit Go.V
open Go.S hiding aK
theorem aDj (b_0:Sv UInt8) {r:bQ×kH} (hS:Sh.OR b_0.l=some r) :
 Ct Tryz.prog 155 [b_0.val] b_0.ok (Ow.emp) (X:=cF×Er) (fun x => .tuple #[.agg (bM.enc x.1).toArray,x.2.val]) (fun x=>r=(x.1.pl,x.2.pl)) (fun x=>(x.1.m.and x.2.ok)) (fun x=>Ow.emp):=by
 refine Zo Tryz.func155 Tryz.ntmps155 fun c => ?_
 unfold Sh.OR at hS
 refine Zq (Zr ?_)
 refine gV [.slice none 0 0,.slice none 0 0,.slice none 0 0,str [],i64 0,str [],i64 0,str [],.slice none 0 0,.slice none 0 0,i64 0,str [],str [],i64 0,.slice none 0 0,.slice none 0 0,.slice none 0 0,.slice none 0 0,.slice none 0 0,.slice none 0 0,i64 0] fun fJ => ?_
 refine Zy ?_
 refine Zq (Zr (Zm ?_))
 obtain ⟨lR,y9,hS⟩:=aO hS
 refine VL.bL (aJN b_0 y9) rfl (by decide) ?_
 rintro ⟨CL,a2i⟩ rfl
 try dsimp only
 refine Zu (fR (vs:=[(0,ptr CL 0)]) (cs := #[ptr CL 0,.bool false]) rfl (by kernel_rfl)) ?_
 refine kQ [ptr CL 0,.bool false] fun K0 => ?_
 refine Zy ?_
 refine Zq (Zr (Zm ?_))
 obtain ⟨W9,aJR,hS⟩:=aO hS
 refine VL.bL (S2 K0 (⟨false⟩:aW) CL a2i aJR) rfl (by decide) ?_
 rintro ⟨xY,aXy,aXz⟩ rfl
 try dsimp only
 refine gV [.slice none 0 0,.slice none 0 0,.slice none 0 0,str [],i64 0,str [],i64 0,str [],.slice none 0 0,.slice none 0 0,i64 0,str [],str [],i64 0,.slice none 0 0,.slice none 0 0,.slice none 0 0,.slice none 0 0,.slice none 0 0,.slice none 0 0,i64 0] fun aUZ => ?_
 refine Zv (cs':=(aJ xY)) rfl gP ?_
 refine Zl ?_
 refine VC.keep (ρ':=[(2,ptr fJ 0),(4,ptr K0 0),(5,ptr aUZ 0)]) [2,4,5] rfl ?_
 refine Zq (Zq (Zr (Zm ?_)))
 obtain ⟨aZC,aZv,hS⟩:=aO hS
 refine VL.bL (WC K0 aXz CL aXy aZv) rfl (by decide) ?_
 rintro a7E rfl
 try dsimp only
 refine Zy ?_
 refine Zq (Zr (Zm (Zu (o5 Tryz.underlying27 rfl) ?_)))
 refine Zl ?_
 refine o3 hS (fun h16 hS => ?_) (fun h16 hS => ?_)
 ·
  refine Zq ?_
  cases hS
 refine Zk ?_
 refine Zq (Zr (Zu (cJ cI rfl rfl) ?_))
 refine Zv (cs':=(aJ xY)) rfl gP ?_
 refine Zy ?_
 cases hS
 exact VC.ret (Z3 (xY,.nil) [.agg (aJ xY).toArray,.nilIface] (fI.cell cI rfl rfl Rd.blk (fI.tmp rfl (fI.nil))))
theorem V2 (aA:cF) {r:bQ} (hS:Sh.NM aA.pl=some r) :
 Ct Tryz.prog 111 [.agg (aJ aA).toArray] (aA.bG.ok.and (aA.aY.ok.and (aA.bP.ok.and (aA.aP.ok.and (aA.aT.ok.and (aA.aQ.ok.and (aA.aU.ok.and (aA.bC.ok.and (aA.bD.ok.and (aA.bS.ok.and aA.bJ.ok)))))))))) (Ow.emp) (X:=cF) (fun x => .agg (bM.enc x).toArray) (fun x=>r=x.pl) (fun x=>x.m) (fun x=>Ow.emp):=by
 refine Zo Tryz.func111 Tryz.ntmps111 fun c => ?_
 unfold Sh.NM at hS
 refine Zq (Zr ?_)
 refine kQ (aJ aA) fun jN => ?_
 refine gV [.slice none 0 0,.slice none 0 0,.slice none 0 0,str [],i64 0,str [],i64 0,str [],.slice none 0 0,.slice none 0 0,i64 0,str [],str [],i64 0,.slice none 0 0,.slice none 0 0,.slice none 0 0,.slice none 0 0,.slice none 0 0,.slice none 0 0,i64 0] fun MX => ?_
 refine Zl ?_
 refine Zq (Zr (Zu (cJ cI rfl rfl) ?_))
 obtain ⟨a4l,a5F,hS⟩:=aO hS
 refine VL.dK (aDk aA a5F) rfl (by decide) ?_
 rintro a2g rfl
 try dsimp only
 obtain ⟨G6,LC,hS⟩:=aO hS
 refine VL.dK (aDj a2g LC) rfl (by decide) ?_
 rintro ⟨A7,a2j⟩ rfl
 try dsimp only
 refine Zm (Zu (aV rfl rfl) (Zu (aV rfl rfl) ?_))
 refine gV [.slice none 0 0,.slice none 0 0,.slice none 0 0,str [],i64 0,str [],i64 0,str [],.slice none 0 0,.slice none 0 0,i64 0,str [],str [],i64 0,.slice none 0 0,.slice none 0 0,.slice none 0 0,.slice none 0 0,.slice none 0 0,.slice none 0 0,i64 0] fun a6k => ?_
 refine Zv (cs':=(aJ A7)) rfl gP ?_
 refine Zy ?_
 refine VC.keep (ρ':=[(1,ptr jN 0),(2,ptr MX 0),(3,ptr a6k 0),(4,a2j.val)]) [1,2,3,4] rfl ?_
 refine Zq (Zq (Zr (Zm (Zu (o5 Tryz.underlying27 rfl) ?_))))
 refine Zl ?_
 refine o3 hS (fun h12 hS => ?_) (fun h12 hS => ?_)
 ·
  refine Zq ?_
  cases hS
 refine Zk ?_
 refine Zq (Zr (Zu (cJ cI rfl rfl) ?_))
 refine Zv (cs':=(aJ A7)) rfl gP ?_
 refine Zl ?_
 cases hS
 exact VC.ret (Z3 A7 [.agg (aJ A7).toArray] (fI.cell cI rfl rfl Rd.blk (fI.nil)))
theorem aKE (s v:Sv aC) (i:Int) (hi:0≤i∧i≤(s.l.length:Int)) (hv:v.l≠[]) (hb:s.l.length+v.l.length≤4294967296):Ct Tryz.prog 78 [s.val,i64 i,v.val] Mo.tt (Ow.star (s.own 32) (v.own 32)) (X:=Sv aC) (fun q=>q.val) (fun q=>q.l=s.l.take i.toNat++v.l++s.l.drop i.toNat) (fun _=>Mo.tt) (fun q=>q.own 32):=by
 refine Zo Tryz.func78 Tryz.ntmps78 fun c => ?_
 have hvp:0 < v.l.length:=List.length_pos_iff.2 hv
 have hK:bM.sz aC=3:=rfl
 refine Zq (Zr (Zy ?_))
 refine Zq (Zr (Zy ?_))
 refine VL.fits (s:=s) (e:=32) Fo.out fun hf => ?_
 refine Zu (KC (s:=s) Tryz.underlying23 fC rfl rfl hi.1 hi.2 hf) ?_
 refine Zl ?_
 refine Zq (Zr (Zm (Zu (eB (s:=v) Tryz.underlying22 rfl) (Zy ?_))))
 refine Zq (Zq (Zr (Zm (Zu (iI rfl rfl) ?_))))
 refine Zl ?_
 refine VC.AA rfl (fun h16=>absurd h16 (by omega)) (fun h16 => ?_)
 refine Zk ?_
 refine Zq (Zr (Zm (Zu (eB (s:=s) Tryz.underlying23 rfl) (Zy ?_))))
 refine Zq (Zq (Zr (Zy ?_)))
 refine Zu (iI rfl rfl) ?_
 refine Zl ?_
 refine VC.AA rfl (fun h22 => ?_) (fun h22 => ?_)
 ·
  refine Zq (Zr (Zy ?_))
  refine VL.shut v 32 (fun _ _ _ _=>trivial) ?_
  refine VL.aUV (s:=s) (r:=v) Tryz.underlying23 Tryz.underlying22 XN (by decide) rfl Fo.out (wM hb) (wN hb (by decide)) (by decide) (fun q hq => ?_)
  refine Zy ?_
  have e1:i.toNat=s.l.length:=by omega
  exact VC.ret (UM (.inr rfl) rfl rfl q rfl (by rw [hq,e1,List.take_length,List.drop_length,List.append_nil]) (fun _ _=>trivial) iY.out)
 have hin:i < (s.l.length:Int):=by omega
 have hne:s.l≠[]:=fun h=>by rw [h] at hin; simp at hin; omega
 have hkq:(s.l.length:Int)+(v.l.length:Int) - i=((s.l.length+v.l.length - i.toNat:Nat):Int):=by omega
 have hLn:(s.l.take i.toNat++v.l++s.l.drop i.toNat).length=s.l.length+v.l.length:=by simp only [List.length_append,List.length_take,List.length_drop]; omega
 have hfl:(s.l.take i.toNat++v.l++s.l.drop i.toNat).flatMap bM.enc=(s.l.take i.toNat).flatMap bM.enc++v.l.flatMap bM.enc++(s.l.drop i.toNat).flatMap bM.enc:=by rw [List.flatMap_append,List.flatMap_append]
 have lA:((s.l.take i.toNat).flatMap bM.enc).length=i.toNat*3:=by rw [jI,List.length_take,hK,Nat.min_eq_left (by omega)]
 have lV:(v.l.flatMap bM.enc).length=v.l.length*3:=by rw [jI,hK]
 have lS:((s.l.drop i.toNat).flatMap bM.enc).length=(s.l.length - i.toNat)*3:=by rw [jI,List.length_drop,hK]
 refine Zk ?_
 refine Zq (Zq (Zr (Zy ?_)))
 refine Zu (cR rfl rfl ⟨by omega,by omega⟩) ?_
 refine Zm (Zu (aKX (a0:=s.a) (L:=s.l.length) (C:=s.c) Tryz.underlying23 rfl) (Zu (lE rfl rfl) ?_))
 refine Zl ?_
 refine VC.AA rfl (fun h31 => ?_) (fun h31 => ?_)
 ·
  refine VC.shut s 32 (fun _ _ _ _=>trivial) ?_
  refine VC.shut v 32 (fun _ _ _ _=>trivial) ?_
  refine Zq (Zr ?_)
  refine VL.FV (φ:=s.a=some ⟨s.b,s.o,none⟩) (fun h m=>(fQ.out (X:=s.ok) h m).2.2.1 hne) fun hsa => ?_
  refine VL.FV (φ:=v.a=some ⟨v.b,v.o,none⟩) (fun h m=>(fQ.out (X:=v.ok) h m).2.2.1 hv) fun hva => ?_
  refine Zy ?_
  refine Zu (aDc (a0:=s.a) (L:=s.l.length) (C:=s.c) (K:=3) Tryz.underlying23 fC rfl rfl hi.1 (by omega)) ?_
  refine Zy ?_
  refine Zu (cR rfl rfl ⟨by omega,by omega⟩) ?_
  refine Zm ?_
  refine Zu (zI rfl rfl ⟨by omega,by omega⟩) ?_
  refine VL.MC 39 rfl (congrArg (Value.int .i64) hkq) ?_
  refine VL.aNf (s:=s) (L:=i.toNat) (kq:=s.l.length+v.l.length - i.toNat) Tryz.underlying23 Tryz.underlying3 XN (by decide) rfl hne (by omega) (by omega) (by omega) (by omega) (by decide) (by decide) fun g cs cp hcl hcp hcm hct => ?_
  rw [hK] at hcl hct
  rw [show i.toNat+(s.l.length+v.l.length - i.toNat)=s.l.length+v.l.length by omega] at hcp ⊢
  have hfit:((s.l.take i.toNat).flatMap bM.enc).length+(v.l.flatMap bM.enc).length+((s.l.drop i.toNat).flatMap bM.enc).length≤cs.length:=by
    rw [lA,lV,lS,hcl,← Nat.add_mul,← Nat.add_mul]; exact Nat.mul_le_mul_right _ (by omega)
  have hic:=UY (V:=v.l.flatMap bM.enc) (S:=(s.l.drop i.toNat).flatMap bM.enc) (by rw [lA]; exact hct) hfit
  rw [← hfl,lA,lV,lS] at hic
  refine Zy ?_
  refine Zq (Zr (Zy ?_))
  refine Zu (oW (b:=g) (o:=0) (L:=s.l.length+v.l.length) (C:=cp) (K:=3) Tryz.underlying23 fC rfl rfl hi.1 (by omega) hcp (by omega) rfl) ?_
  refine Zm ?_
  refine VL.MC 44 rfl (show v.val = .slice (some ⟨v.b,v.o+0*bM.sz aC,none⟩) v.l.length v.c by unfold Sv.val; rw [hva,Nat.zero_mul]; rfl) ?_
  refine VL.I9 (src:=v.l.flatMap bM.enc) Tryz.underlying23 fC uW.out rfl (by rw [lV]; congr 1; exact (Nat.min_eq_left (by omega)).symm) (P3 (r:=v) (by decide) hv) (vK v.l) (by rw [lV,Nat.zero_add,hcl,← Nat.add_mul]; exact Nat.mul_le_mul_right _ (by omega)) (by decide) ?_
  rw [Nat.zero_add,lV]
  refine Zl ?_
  refine Zq ?_
  refine l9 [(0,true),(1,true),(2,true),(3,true),(4,true),(5,true),(6,true),(7,true),(8,false)] ?_
  refine Zw rfl (bB rfl) ?_
  refine Zw rfl (bB rfl) ?_
  refine Zw rfl (bB rfl) ?_
  refine Zw rfl (cR rfl rfl ⟨by omega,by omega⟩) ?_
  refine Zw rfl (oW (b:=g) (o:=0) (L:=s.l.length+v.l.length) (C:=cp) (K:=3) Tryz.underlying23 fC rfl rfl (by omega) (by omega) hcp (by omega) rfl) ?_
  refine Zw rfl (bB rfl) ?_
  refine Zw rfl (bB rfl) ?_
  refine Zw rfl (oW (b:=s.b) (o:=s.o) (L:=s.l.length) (C:=s.c) (K:=3) Tryz.underlying23 fC (show some s.val=_ by unfold Sv.val; rw [hsa]) rfl hi.1 (by omega) hf (by omega) rfl) ?_
  refine VD.one rfl ?_
  rw [show (i+(v.l.length:Int)).toNat=i.toNat+v.l.length by omega]
  refine VL.I9 (src:=(s.l.drop i.toNat).flatMap bM.enc) Tryz.underlying23 fC uW.out rfl (by rw [lS]; congr 1; exact (Nat.min_eq_left (by omega)).symm) (aCE (r:=s) (by decide) hne i.toNat) (vK _) (by rw [lS,Nat.zero_add,hic.1,hcl,← Nat.add_mul]; exact Nat.mul_le_mul_right _ (by omega)) (by decide) ?_
  rw [Nat.zero_add,lS,Nat.add_mul]
  refine jH ?_
  refine VD.to (fun _ _ h=>h) ?_
  refine Zq (Zr (Zy ?_))
  have ho:=fun F=>P6 (F:=F) (e:=32) (b:=g) (l':=s.l.take i.toNat++v.l++s.l.drop i.toNat) (Nat.le_of_eq (hic.2.1.trans hcl).symm) (by rw [jI] at hic; exact hic.2.2) hLn hcp hcm
  exact VC.ret (UM (.inr rfl) rfl rfl ⟨some ⟨g,0,none⟩,cp,_⟩ (ho Ow.emp).1 rfl (fun _ _=>trivial) (ho _).2)
 refine Zk ?_
 refine Zq (Zr ?_)
 refine VL.open (s:=s) (e:=32) Fo.out (by omega) fun b cs hsa hcl hct _ hcm => ?_
 rw [hK] at hcl hct
 have hctA:cs.take ((s.l.take i.toNat).flatMap bM.enc).length=(s.l.take i.toNat).flatMap bM.enc:=by
   rw [lA]
   have:cs.take (i.toNat*3)=(cs.take (s.l.length*3)).take (i.toNat*3):=by rw [List.take_take,Nat.min_eq_left (Nat.mul_le_mul_right _ (by omega))]
   rw [this,hct]
   exact wO s.l i.toNat
 have hfit:((s.l.take i.toNat).flatMap bM.enc).length+(v.l.flatMap bM.enc).length+((s.l.drop i.toNat).flatMap bM.enc).length≤cs.length:=by
   refine Nat.le_trans ?_ hcl; rw [lA,lV,lS,← Nat.add_mul,← Nat.add_mul]; exact Nat.mul_le_mul_right _ (by omega)
 have hic:=UZ (V:=v.l.flatMap bM.enc) (S:=(s.l.drop i.toNat).flatMap bM.enc) hctA hfit
 rw [← hfl,lA,lV,lS] at hic
 refine Zy ?_
 refine Zu (cR rfl rfl ⟨by omega,by omega⟩) ?_
 refine Zu (aDc (a0:=s.a) (L:=s.l.length) (C:=s.c) (K:=3) Tryz.underlying23 fC rfl rfl (by omega) (by omega)) ?_
 rw [show ((s.l.length:Int)+(v.l.length:Int)).toNat=s.l.length+v.l.length by omega,hsa]
 refine Zy ?_
 refine Zq (Zq (Zr (Zy ?_)))
 refine Zu (cR rfl rfl ⟨by omega,by omega⟩) ?_
 refine Zu (oW (b:=b) (o:=0) (L:=s.l.length+v.l.length) (C:=s.c) (K:=3) Tryz.underlying23 fC rfl rfl (by omega) (by omega) (by omega) (by omega) rfl) ?_
 refine Zu (VY (tS:=22) (tR:=4) (s:=v) (b:=b) Tryz.func132 rfl rfl (by kernel_rfl) (by kernel_rfl) Tryz.underlying22 fC rfl uW.out (fun h=>by rw [h] at hcl; simp at hcl; omega) hv) ?_
 refine Zu (jE rfl) ?_
 refine Zl ?_
 refine VC.RM rfl ?_
 refine VC.shut v 32 (fun _ _ _ _=>trivial) ?_
 refine Zq ?_
 refine l9 [(0,true),(1,true),(2,true),(3,true),(4,true),(5,true),(6,true),(7,true),(8,false)] ?_
 refine Zw rfl (bB rfl) ?_
 refine Zw rfl (bB rfl) ?_
 refine Zw rfl (bB rfl) ?_
 refine Zw rfl (cR rfl rfl ⟨by omega,by omega⟩) ?_
 refine Zw rfl (oW (b:=b) (o:=0) (L:=s.l.length+v.l.length) (C:=s.c) (K:=3) Tryz.underlying23 fC rfl rfl (by omega) (by omega) (by omega) (by omega) rfl) ?_
 refine Zw rfl (bB rfl) ?_
 refine Zw rfl (bB rfl) ?_
 refine Zw rfl (oW (b:=b) (o:=0) (L:=s.l.length+v.l.length) (C:=s.c) (K:=3) Tryz.underlying23 fC rfl rfl hi.1 (by omega) (by omega) (by omega) rfl) ?_
 refine VD.one rfl ?_
 rw [show (i+(v.l.length:Int)).toNat=i.toNat+v.l.length by omega,Nat.zero_add,Nat.zero_add]
 refine VL.I9 (src:=(s.l.drop i.toNat).flatMap bM.enc) Tryz.underlying23 fC uW.out rfl (by rw [lS]; congr 1; simp only [Nat.min_def]; split <;> omega) (aFC (n:=s.l.length) hct rfl) (vK _) (by refine Nat.le_trans ?_ hcl; rw [lS,← Nat.add_mul]; exact Nat.mul_le_mul_right _ (by omega)) (by decide) ?_
 rw [lS,Nat.add_mul]
 refine jH ?_
 refine VD.to (fun _ _ h=>h) ?_
 refine Zq (Zr (Zy ?_))
 refine Zu (oW (b:=b) (o:=0) (L:=s.l.length+v.l.length) (C:=s.c) (K:=3) Tryz.underlying23 fC rfl rfl hi.1 (by omega) (by omega) (by omega) rfl) ?_
 refine Zm ?_
 refine VL.FV (φ:=v.a=some ⟨v.b,v.o,none⟩) (fun h m=>(fQ.out (X:=v.ok) h m).2.2.1 hv) fun hva => ?_
 refine VL.MC 81 rfl (show v.val = .slice (some ⟨v.b,v.o+0*bM.sz aC,none⟩) v.l.length v.c by unfold Sv.val; rw [hva,Nat.zero_mul]; rfl) ?_
 rw [Nat.zero_add]
 refine VL.I9 (src:=v.l.flatMap bM.enc) Tryz.underlying23 fC uW.out rfl (by rw [lV]; congr 1; exact (Nat.min_eq_left (by omega)).symm) (P3 (r:=v) (by decide) hv) (vK v.l) (by rw [hic.1]; refine Nat.le_trans ?_ hcl; rw [lV,← Nat.add_mul]; exact Nat.mul_le_mul_right _ (by omega)) (by decide) ?_
 rw [lV]
 refine Zl ?_
 refine Zq (Zr (Zy ?_))
 have ho:=fun F=>P6 (F:=F) (e:=32) (b:=b) (l':=s.l.take i.toNat++v.l++s.l.drop i.toNat) (by rw [hic.2.1]; exact hcl) (by rw [jI] at hic; exact hic.2.2) hLn (by omega) hcm
 exact VC.ret (UM (.inr rfl) rfl rfl ⟨some ⟨b,0,none⟩,s.c,_⟩ (ho Ow.emp).1 rfl (fun _ _=>trivial) (ho _).2)
theorem M5 (dD:Sv aC) (G1:aC) {r:List aC} (hS:Sh.xL dD.l G1=some r) :
 Ct Tryz.prog 38 [dD.val,.agg #[str G1.path,i64 G1.mode,str G1.data]] dD.ok (Ow.emp) (X:=Sv aC) (fun x=>x.val) (fun x=>r=x.l) (fun x=>x.ok) (fun x=>Ow.emp):=by
 refine Zo Tryz.func38 Tryz.ntmps38 fun c => ?_
 unfold Sh.xL at hS
 refine Zq (Zr ?_)
 refine kQ [str G1.path,i64 G1.mode,str G1.data] fun jC => ?_
 refine Zy ?_
 refine Zq (Zr (Zm ?_))
 obtain ⟨CX,R3,hS⟩:=aO hS
 refine VL.bL (iH dD R3) rfl (by decide) ?_
 rintro SF rfl
 try dsimp only
 refine Zy ?_
 refine Zq (Zr (Zm (Zu (aB kU rfl) (Zu (aL cQ rfl rfl) ?_))))
 obtain ⟨MP,aZt,hS⟩:=aO hS
 refine Zu (cH (LF dD G1.path aZt) rfl (fun _ _=>rfl)) ?_
 refine Zm (Zu (aV rfl rfl) (Zu (aV rfl rfl) (Zy ?_)))
 refine VC.keep (ρ':=[(3,ptr jC 0),(5,SF.val),(6,i64 MP.1),(7,.bool MP.2)]) [3,5,6,7] rfl ?_
 refine Zq (Zq (Zr (Zy ?_)))
 refine gR hS (fun h17 hS => ?_) (fun h17 hS => ?_)
 ·
  refine Zq (Zr (Zy ?_))
  refine Zu (cJ kI rfl rfl) ?_
  obtain ⟨aHS,aBw,aBb,hS⟩:=fA hS
  refine Zu (lN (s:=SF) Tryz.underlying23 fC rfl rfl aBw (bH aBw aBb)) ?_
  refine VL.wJ (s:=SF) (T:=32) (j:=0) (vc:=[str G1.path,i64 G1.mode,str G1.data]) (⟨G1.path,G1.mode,G1.data⟩:aC) (by decide) rfl rfl aBb rfl fC rfl rfl (Nat.le_of_ble_eq_true rfl) rfl (fun w5 hw5 haw5 hcw5 hvw5 hbw5 how5 => ?_)
  rw [← hvw5]
  replace hS:=bW hw5 hS
  refine Zl ?_
  refine Zq (Zr (Zm ?_))
  refine VL.shut w5 32 (fun _ _ _ _=>trivial) ?_
  obtain ⟨aHH,aJ4,hS⟩:=aO hS
  refine VL.dK (eU w5 aJ4) rfl (by decide) ?_
  rintro aNB rfl
  try dsimp only
  refine Zy ?_
  refine VC.keep (ρ':=[(4,aNB.val)]) [4] rfl ?_
  cases hS
  exact VC.ret (Z1 aNB)
 refine Zk ?_
 refine Zq (Zr (Zy ?_))
 refine Zu (cJ kI rfl rfl) ?_
 refine VL.aQ1 (α:=aC) (xs:=[.tmp 26]) (vs:=[.agg #[str G1.path,i64 G1.mode,str G1.data]]) [⟨G1.path,G1.mode,G1.data⟩] Tryz.underlying22 aB4 (by decide) rfl rfl rfl rfl (by decide) (by decide) (fun a6O a1p => ?_) (by decide)
 replace hS:=bW a1p hS
 obtain ⟨b28,hS⟩:=bU hS
 refine VL.bL (aKE SF a6O MP.1 b28.1 b28.2.1 b28.2.2) rfl (by decide) ?_
 intro aEe aFq
 replace hS:=bW aFq hS
 refine VL.shut aEe 32 (fun _ _ _ _=>trivial) ?_
 obtain ⟨aR8,aUo,hS⟩:=aO hS
 refine VL.dK (eU aEe aUo) rfl (by decide) ?_
 rintro aI9 rfl
 try dsimp only
 refine Zy ?_
 refine VC.keep (ρ':=[(4,aI9.val)]) [4] rfl ?_
 cases hS
 exact VC.ret (Z1 aI9)
theorem aG7 (aA:cF) (p_1:aK) (gK:Int) (CD:aK) {r:bQ×kH} (hS:Sh.V1 aA.pl p_1 gK CD=some r) :
 Ct Tryz.prog 104 [.agg (aJ aA).toArray,str p_1,i64 gK,str CD] (aA.bG.ok.and (aA.aY.ok.and (aA.bP.ok.and (aA.aP.ok.and (aA.aT.ok.and (aA.aQ.ok.and (aA.aU.ok.and (aA.bC.ok.and (aA.bD.ok.and (aA.bS.ok.and aA.bJ.ok)))))))))) (Ow.emp) (X:=cF×Er) (fun x => .tuple #[.agg (bM.enc x.1).toArray,x.2.val]) (fun x=>r=(x.1.pl,x.2.pl)) (fun x=>(x.1.m.and x.2.ok)) (fun x=>Ow.emp):=by
 refine Zo Tryz.func104 Tryz.ntmps104 fun c => ?_
 unfold Sh.V1 at hS
 refine Zq (Zr ?_)
 refine kQ (aJ aA) fun tL => ?_
 refine gV [.slice none 0 0,.slice none 0 0,.slice none 0 0,str [],i64 0,str [],i64 0,str [],.slice none 0 0,.slice none 0 0,i64 0,str [],str [],i64 0,.slice none 0 0,.slice none 0 0,.slice none 0 0,.slice none 0 0,.slice none 0 0,.slice none 0 0,i64 0] fun H6 => ?_
 refine Zy ?_
 refine Zq (Zr (Zy ?_))
 refine Zu (fR (vs:=[(0,str p_1),(1,i64 gK),(2,str CD)]) (cs := #[str p_1,i64 gK,str CD]) rfl (by kernel_rfl)) ?_
 refine gV [str [],i64 0,str []] fun K0 => ?_
 refine Zv (cs':=[str p_1,i64 gK,str CD]) rfl fC ?_
 refine Zl ?_
 refine VC.keep (ρ':=[(1,str p_1),(4,ptr tL 0),(8,ptr H6 0),(10,ptr K0 0)]) [1,4,8,10] rfl ?_
 refine Zq (Zr (Zu (aB eO rfl) (Zu (aB tP rfl) (Zu (aL kO rfl rfl) (Zm ?_)))))
 obtain ⟨HP,a0R,hS⟩:=aO hS
 refine Zu (cH (lT aA.bG p_1 a0R) rfl (fun _ _=>rfl)) ?_
 refine Zm (Zu (aV rfl rfl) (Zu (aV rfl rfl) ?_))
 refine gV [str [],i64 0,str []] fun aUW => ?_
 refine Zv (cs':=[str HP.1.path,i64 HP.1.mode,str HP.1.data]) rfl fC ?_
 refine Zy ?_
 refine VC.keep (ρ':=[(1,str p_1),(4,ptr tL 0),(8,ptr H6 0),(10,ptr K0 0),(12,.bool HP.2)]) [1,4,8,10,12] rfl ?_
 refine Zq (Zr (Zu (cJ kI rfl rfl) ?_))
 refine VL.lit (α:=aC) (xs:=[.tmp 27]) (vs:=[.agg #[str p_1,i64 gK,str CD]]) [⟨p_1,gK,CD⟩] Tryz.underlying23 aB4 (by decide) rfl rfl rfl rfl (by decide) (fun _ _ _ _=>trivial) (by decide) (fun a6P a1q => ?_) (by decide)
 replace hS:=bW a1q hS
 obtain ⟨aZP,a05,hS⟩:=aO hS
 refine VL.dK (sY a6P a05) rfl (by decide) ?_
 rintro aYP rfl
 try dsimp only
 obtain ⟨mZ,y8,hS⟩:=aO hS
 refine VL.dK (aHg aYP y8) rfl (by decide) ?_
 rintro tY rfl
 try dsimp only
 refine Zy ?_
 refine VC.gN (S:=Unit) (fun (_:Unit)=>()) (fun (_:Unit)=>[(4,ptr tL 0),(8,ptr H6 0),(10,ptr K0 0),(13,tY.val)]) (fun (_:Unit)=>Mo.tt) (fun (_:Unit)=>Ow.star (bE aUW [str HP.1.path,i64 HP.1.mode,str HP.1.data] 32) (Ow.star (bE K0 [str p_1,i64 gK,str CD] 32) (Ow.star (bE H6 [.slice none 0 0,.slice none 0 0,.slice none 0 0,str [],i64 0,str [],i64 0,str [],.slice none 0 0,.slice none 0 0,i64 0,str [],str [],i64 0,.slice none 0 0,.slice none 0 0,.slice none 0 0,.slice none 0 0,.slice none 0 0,.slice none 0 0,i64 0] 77) (Ow.star (bE tL (aJ aA) 77) (Ow.emp))))) hS ?_ ?_
 ·
  clear hS
  intro k10 hS
  refine Zb (Zq (Zr (Zm (Zu (o5 Tryz.underlying27 rfl) (Zy ?_)))))
  refine o3 hS (fun h31 hS => ?_) (fun h31 hS => ?_)
  ·
   refine VC.iV () [4,8,10,13] (fun _ _ h=>h) hS rfl
  refine Zq ?_
  refine l9 [(0,true),(1,true),(2,true),(3,true),(6,true),(7,true),(8,true),(9,true),(4,false),(5,true),(10,true),(11,true)] ?_
  refine Zw rfl (aB eO rfl) ?_
  refine Zw rfl (aB tP rfl) ?_
  refine Zw rfl (aL kO rfl rfl) ?_
  refine Zw rfl (bB rfl) ?_
  refine Zw rfl (aB eO rfl) ?_
  refine Zw rfl (aB tP rfl) ?_
  refine Zw rfl (aL kO rfl rfl) ?_
  refine Zw rfl (eB (s:=aA.bG) Tryz.underlying23 rfl) ?_
  refine VD.one rfl ?_
  obtain ⟨YF,aFY,hS⟩:=aO hS
  refine VL.dK (YP aA.bG p_1 aFY) rfl (by decide) ?_
  rintro aIb rfl
  try dsimp only
  refine jS [(9,i64 (aA.bG.l.length:Int)),(8,aA.bG.val),(7,ptr tL 0),(6,ptr tL 0)] (aI.cons rfl (eB (s:=aA.bG) Tryz.underlying23 rfl) (aI.cons rfl (aL kO rfl rfl) (aI.cons rfl (aB tP rfl) (aI.cons rfl (aB eO rfl) aI.nil)))) ?_
  refine Zw rfl (eB (s:=aIb) Tryz.underlying23 rfl) ?_
  refine Zw rfl (dW rfl rfl) ?_
  refine Zw rfl (gI rfl) ?_
  refine VD.to (fun _ _ h=>h) ?_
  refine VC.keep (ρ':=[(4,ptr tL 0),(8,ptr H6 0),(10,ptr K0 0),(12,.bool HP.2),(13,tY.val),(34,.bool (decide ((aIb.l.length:Int) < (aA.bG.l.length:Int))))]) [4,8,10,12,13,34] rfl ?_
  refine Zc hS (fun h34 hS => ?_) (fun h34 hS => ?_)
  ·
   cases hS
  refine VC.gN (S:=Bool) (fun (NY:Bool)=>NY) (fun (NY:Bool)=>[(4,ptr tL 0),(8,ptr H6 0),(10,ptr K0 0),(13,tY.val),(47,.bool NY)]) (fun (NY:Bool)=>Mo.tt) (fun (NY:Bool)=>Ow.star (bE aUW [str HP.1.path,i64 HP.1.mode,str HP.1.data] 32) (Ow.star (bE K0 [str p_1,i64 gK,str CD] 32) (Ow.star (bE H6 [.slice none 0 0,.slice none 0 0,.slice none 0 0,str [],i64 0,str [],i64 0,str [],.slice none 0 0,.slice none 0 0,i64 0,str [],str [],i64 0,.slice none 0 0,.slice none 0 0,.slice none 0 0,.slice none 0 0,.slice none 0 0,.slice none 0 0,i64 0] 77) (Ow.star (bE tL (aJ aA) 77) (Ow.emp))))) hS ?_ ?_
  ·
   clear hS
   intro k13 hS
   refine Zr (Zm (Zu (jE rfl) (Zm ?_)))
   refine xJ 50 hS (fun h50 hS => ?_) (fun h50 hS => ?_)
   ·
    refine Zh (aB eO rfl) ?_
    refine Zh (aB tP rfl) ?_
    refine Zh (aL kO rfl rfl) ?_
    refine Zh (eB (s:=aA.bG) Tryz.underlying23 rfl) ?_
    refine Zh (vC rfl rfl) ?_
    refine Zy ?_
    refine VL.mt (decide (64≤(aA.bG.l.length:Int))) [4,8,10,13,47] (fun _ _ h=>h) hS rfl
   refine VL.runs 7 [(47,some false)] (by kernel_rfl) ?_
   refine VL.mt false [4,8,10,13,47] (fun _ _ h=>h) hS rfl
  clear hS
  rintro NY hS
  refine gR hS (fun h47 hS => ?_) (fun h47 hS => ?_)
  ·
   cases hS
  refine VC.iV () [4,8,10,13] (fun _ _ h=>h) hS rfl
 clear hS
 rintro _ hS
 refine Zq (Zq (Zr (Zm (Zu (o5 Tryz.underlying27 rfl) ?_))))
 refine Zl ?_
 refine o3 hS (fun h59 hS => ?_) (fun h59 hS => ?_)
 ·
  refine Zq ?_
  cases hS
 refine Zk ?_
 refine Zq (Zr (Zu (cJ cI rfl rfl) ?_))
 obtain ⟨qT,aVm,hS⟩:=aO hS
 refine VL.dK (V2 aA aVm) rfl (by decide) ?_
 rintro cT rfl
 try dsimp only
 refine gV [.slice none 0 0,.slice none 0 0,.slice none 0 0,str [],i64 0,str [],i64 0,str [],.slice none 0 0,.slice none 0 0,i64 0,str [],str [],i64 0,.slice none 0 0,.slice none 0 0,.slice none 0 0,.slice none 0 0,.slice none 0 0,.slice none 0 0,i64 0] fun aZi => ?_
 refine Zv (cs':=(aJ cT)) rfl gP ?_
 refine Zl ?_
 refine Zq (Zr (Zu (aB eO rfl) (Zu (aB tP rfl) (Zu (aL kO rfl rfl) (Zu (cJ kI rfl rfl) ?_)))))
 obtain ⟨aSO,aVu,hS⟩:=aO hS
 refine VL.dK (M5 cT.bG (⟨p_1,gK,CD⟩:aC) aVu) rfl (by decide) ?_
 rintro X3 rfl
 try dsimp only
 refine Zu (aB eO rfl) (Zu (aB tP rfl) ?_)
 refine Zv (cs':=[X3.val,cT.aY.val,cT.bP.val,str cT.aS,i64 cT.aH,str cT.bK,i64 cT.bI,str cT.bO,cT.aP.val,cT.aT.val,i64 cT.bN,str cT.aZ,str cT.aM,i64 cT.aN,cT.aQ.val,cT.aU.val,cT.bC.val,cT.bD.val,cT.bS.val,cT.bJ.val,i64 cT.time]) rfl aDG ?_
 refine Zl ?_
 refine VC.keep (ρ':=[(8,ptr H6 0),(14,ptr aZi 0)]) [8,14] rfl ?_
 refine Zq (Zr (Zu (cJ cI rfl rfl) ?_))
 refine Zv (cs':=[X3.val,cT.aY.val,cT.bP.val,str cT.aS,i64 cT.aH,str cT.bK,i64 cT.bI,str cT.bO,cT.aP.val,cT.aT.val,i64 cT.bN,str cT.aZ,str cT.aM,i64 cT.aN,cT.aQ.val,cT.aU.val,cT.bC.val,cT.bD.val,cT.bS.val,cT.bJ.val,i64 cT.time]) rfl gP ?_
 refine Zy ?_
 cases hS
 exact VC.ret (Z3 (⟨X3,cT.aY,cT.bP,cT.aS,cT.aH,cT.bK,cT.bI,cT.bO,cT.aP,cT.aT,cT.bN,cT.aZ,cT.aM,cT.aN,cT.aQ,cT.aU,cT.bC,cT.bD,cT.bS,cT.bJ,cT.time⟩,.nil) [.agg #[X3.val,cT.aY.val,cT.bP.val,str cT.aS,i64 cT.aH,str cT.bK,i64 cT.bI,str cT.bO,cT.aP.val,cT.aT.val,i64 cT.bN,str cT.aZ,str cT.aM,i64 cT.aN,cT.aQ.val,cT.aU.val,cT.bC.val,cT.bD.val,cT.bS.val,cT.bJ.val,i64 cT.time],.nilIface] (fI.cell cI rfl rfl Rd.blk (fI.tmp rfl (fI.nil))))
theorem aA2 (aA:cF) (p_1:aK) (data_2:aK) {r:bQ} (hS:Sh.JE aA.pl p_1 data_2=some r) :
 Ct Tryz.prog 56 [.agg (aJ aA).toArray,str p_1,str data_2] (aA.bG.ok.and (aA.aY.ok.and (aA.bP.ok.and (aA.aP.ok.and (aA.aT.ok.and (aA.aQ.ok.and (aA.aU.ok.and (aA.bC.ok.and (aA.bD.ok.and (aA.bS.ok.and aA.bJ.ok)))))))))) (Ow.emp) (X:=cF) (fun x => .agg (bM.enc x).toArray) (fun x=>r=x.pl) (fun x=>x.m) (fun x=>Ow.emp):=by
 refine Zo Tryz.func56 Tryz.ntmps56 fun c => ?_
 unfold Sh.JE at hS
 refine Zq (Zr ?_)
 refine kQ (aJ aA) fun jC => ?_
 refine gV [.slice none 0 0,.slice none 0 0,.slice none 0 0,str [],i64 0,str [],i64 0,str [],.slice none 0 0,.slice none 0 0,i64 0,str [],str [],i64 0,.slice none 0 0,.slice none 0 0,.slice none 0 0,.slice none 0 0,.slice none 0 0,.slice none 0 0,i64 0] fun CW => ?_
 refine Zl ?_
 refine Zq (Zr (Zu (cJ cI rfl rfl) (Zy ?_)))
 obtain ⟨B7,RQ,hS⟩:=aO hS
 refine VL.dK (aG7 aA p_1 1 data_2 RQ) rfl (by decide) ?_
 rintro ⟨LW,a7D⟩ rfl
 try dsimp only
 refine Zm (Zu (aV rfl rfl) (Zu (aV rfl rfl) ?_))
 refine gV [.slice none 0 0,.slice none 0 0,.slice none 0 0,str [],i64 0,str [],i64 0,str [],.slice none 0 0,.slice none 0 0,i64 0,str [],str [],i64 0,.slice none 0 0,.slice none 0 0,.slice none 0 0,.slice none 0 0,.slice none 0 0,.slice none 0 0,i64 0] fun aEz => ?_
 refine Zv (cs':=(aJ LW)) rfl gP ?_
 refine Zy ?_
 refine VC.keep (ρ':=[(6,ptr CW 0),(7,ptr aEz 0)]) [6,7] rfl ?_
 refine Zq (Zr (Zu (cJ cI rfl rfl) ?_))
 refine Zv (cs':=(aJ LW)) rfl gP ?_
 refine Zl ?_
 cases hS
 exact VC.ret (Z3 LW [.agg (aJ LW).toArray] (fI.cell cI rfl rfl Rd.blk (fI.nil)))
theorem JC (aA:aK) (lP:aK) {r:aK×aK×Bool} (hS:Sh.vB aA lP=some r) :
 Cp Tryz.prog 147 [str aA,str lP] Mo.tt (.tuple #[str r.1,str r.2.1,.bool r.2.2]):=by
 refine Zo Tryz.func147 Tryz.ntmps147 fun c => ?_
 unfold Sh.vB at hS
 refine Zq (Zr (Zy ?_))
 refine Zq (Zq (Zr (Zy ?_)))
 obtain ⟨dA,mC,hS⟩:=aO hS
 refine Zu (cH (xS aA lP mC) rfl (fun _ _=>rfl)) ?_
 refine Zy ?_
 refine Zq (Zr (Zm (Zu (vC rfl rfl) ?_)))
 refine Zl ?_
 refine VC.keep (ρ':=[(0,str aA),(1,str lP),(7,i64 dA),(12,.bool (decide (0≤dA)))]) [0,1,7,12] rfl ?_
 refine Zc hS (fun h12 hS => ?_) (fun h12 hS => ?_)
 ·
  refine Zq ?_
  refine l9 ((List.range 12).map fun k=>(k,true)) ?_
  refine Zw rfl (bB rfl) ?_
  refine Zw rfl (bB rfl) ?_
  obtain ⟨b15,hS⟩:=bU hS
  obtain ⟨aGy,aZw,hS⟩:=wV hS
  refine Zw rfl (X7 Tryz.underlying9 rfl rfl b15.1 b15.2 aZw) ?_
  refine Zw rfl (bB rfl) ?_
  refine Zw rfl (bB rfl) ?_
  refine Zw rfl (bB rfl) ?_
  refine Zw rfl (pN Tryz.underlying9 rfl) ?_
  obtain ⟨b20,hS⟩:=bU hS
  refine Zw rfl (cR rfl rfl b20) ?_
  obtain ⟨b21,hS⟩:=bU hS
  obtain ⟨aPJ,a0I,hS⟩:=wV hS
  refine Zw rfl (X6 Tryz.underlying9 rfl rfl b21.1 b21.2 a0I) ?_
  refine Zw rfl (gI rfl) ?_
  refine Zw rfl (gI rfl) ?_
  refine Zw rfl (gI rfl) ?_
  refine VD.to (fun _ _ h=>h) ?_
  refine VC.keep (ρ':=[(4,str aGy),(5,str aPJ),(6,.bool true)]) [4,5,6] rfl ?_
  cases hS
  exact VC.ret (aLZ (.inr rfl) rfl rfl rfl rfl () rfl trivial (fun _ _=>trivial) (fun _ _=>trivial))
 refine Zk ?_
 refine Zq (Zr (Zy ?_))
 cases hS
 exact VC.ret (aLZ (.inr rfl) rfl rfl rfl rfl () rfl trivial (fun _ _=>trivial) (fun _ _=>trivial))
theorem T0 (aA:aK) (lP:aK) {r:aK×aK×Bool} (hS:Sh.KH aA lP=some r) :
 Cp Tryz.prog 105 [str aA,str lP] Mo.tt (.tuple #[str r.1,str r.2.1,.bool r.2.2]):=by
 refine Zo Tryz.func105 Tryz.ntmps105 fun c => ?_
 unfold Sh.KH at hS
 refine Zq (Zr (Zy ?_))
 refine Zq (Zr (Zy ?_))
 obtain ⟨XE,aOV,hS⟩:=aO hS
 refine Zu (cH (JC aA lP aOV) rfl (fun _ _=>rfl)) ?_
 refine Zu (aV rfl rfl) (Zu (aV rfl rfl) (Zu (aV rfl rfl) (Zy ?_)))
 refine VC.keep (ρ':=[(4,str XE.1),(5,str XE.2.1),(6,.bool XE.2.2)]) [4,5,6] rfl ?_
 cases hS
 exact VC.ret (aLZ (.inr rfl) rfl rfl rfl rfl () rfl trivial (fun _ _=>trivial) (fun _ _=>trivial))
theorem N8 (w_0:Sv aK) {r:aK} (hS:Sh.LA w_0.l=some r) :
 Cp Tryz.prog 194 [w_0.val] w_0.ok (str r):=by
 refine Zo Tryz.func194 Tryz.ntmps194 fun c => ?_
 unfold Sh.LA at hS
 refine Zq (Zr (Zy ?_))
 refine Zq (Zq (Zr (Zm (Zu (eB (s:=w_0) Tryz.underlying39 rfl) (Zu (iI rfl rfl) ?_)))))
 refine Zl ?_
 refine Zc hS (fun h5 hS => ?_) (fun h5 hS => ?_)
 ·
  refine Zq ?_
  cases hS
 refine Zk ?_
 refine Zq (Zr (Zm ?_))
 obtain ⟨aNa,aKM,aKB,hS⟩:=fA hS
 refine Zu (eZ (s:=w_0) Tryz.underlying39 pU rfl rfl aKM (bH aKM aKB)) (Zu (zW (s:=w_0) cQ rfl aKB rfl) (Zy ?_))
 cases hS
 exact Ze
theorem aH2 (aA:aK) {r:Bool} (hS:Sh.Z7 aA=some r) :
 Cp Tryz.prog 195 [str aA] Mo.tt (.bool r):=by
 refine Zo Tryz.func195 Tryz.ntmps195 fun c => ?_
 unfold Sh.Z7 at hS
 refine Zq (Zr (Zy ?_))
 refine Zq (Zr (Zm (Zu (vD rfl rfl) (Zm ?_))))
 refine MW 5 hS (fun h5 hS => ?_) (fun h5 hS => ?_)
 ·
  refine Zg ?_
  obtain ⟨aNa,aKM,aKB,hS⟩:=fA hS
  refine Zh (SH Tryz.underlying9 rfl rfl aKM aKB) ?_
  refine Zh (vC rfl rfl) ?_
  refine Zy ?_
  refine o4 10 hS (fun h10 hS => ?_) (fun h10 hS => ?_)
  ·
   refine Zg ?_
   obtain ⟨aP1,a2S,a2A,hS⟩:=fA hS
   refine Zh (SH Tryz.underlying9 rfl rfl a2S a2A) ?_
   refine Zh (L8 rfl rfl) ?_
   refine Zy ?_
   refine VC.keep (ρ':=[(2,.bool (decide ((aP1.toNat:Int)≤57)))]) [2] rfl ?_
   cases hS
   exact Ze
  refine VL.runs 5 [(2,some false)] (by kernel_rfl) ?_
  refine Zl ?_
  cases hS
  exact Ze
 refine VL.runs 10 [(2,some false)] (by kernel_rfl) ?_
 refine Zl ?_
 cases hS
 exact Ze
theorem aH3 (sQ:Nat) (cC:r9) (w_1:Sv aK) {r:Bool×qU} (hS:Sh.Z8 cC.pl w_1.l=some r) :
 Ct Tryz.prog 148 [ptr sQ 0,w_1.val] (cC.todo.ok.and w_1.ok) (bE sQ [str cC.verb,str cC.name,i64 cC.n,str cC.text,.bool cC.force,cC.todo.val] 133) (X:=Bool×r9) (fun x => .bool x.1) (fun x=>r=(x.1,x.2.pl)) (fun x=>x.2.todo.ok) (fun x=>bE sQ [str x.2.verb,str x.2.name,i64 x.2.n,str x.2.text,.bool x.2.force,x.2.todo.val] 133):=by
 refine Zo Tryz.func148 Tryz.ntmps148 fun c => ?_
 unfold Sh.Z8 at hS
 refine Zq (Zr (Zy ?_))
 refine Zq (Zr (Zy ?_))
 refine VC.gN (S:=Unit) (fun (_:Unit)=>()) (fun (_:Unit)=>[(0,ptr sQ 0),(1,w_1.val),(5,i64 0),(6,.bool true)]) (fun (_:Unit)=>Mo.tt) (fun (_:Unit)=>Ow.star (bE sQ [str cC.verb,str cC.name,i64 cC.n,str cC.text,.bool cC.force,cC.todo.val] 133) (Ow.emp)) hS ?_ ?_
 ·
  clear hS
  intro k1 hS
  refine Zq (Zr (Zm (Zu (aF rfl) (Zu (aB sD rfl) (Zu (aL cQ rfl rfl) ?_)))))
  refine Zl ?_
  refine Zb ?_
  refine VC.gN (S:=Bool) (fun (pS:Bool)=>pS) (fun (pS:Bool)=>[(0,ptr sQ 0),(1,w_1.val),(5,i64 0),(6,.bool true),(11,.bool pS)]) (fun (pS:Bool)=>Mo.tt) (fun (pS:Bool)=>Ow.star (bE sQ [str cC.verb,str cC.name,i64 cC.n,str cC.text,.bool cC.force,cC.todo.val] 133) (Ow.emp)) hS ?_ ?_
  ·
   clear hS
   intro k3 hS
   refine Zq (Zr (Zy ?_))
   refine Zc hS (fun h11 hS => ?_) (fun h11 hS => ?_)
   ·
    refine VC.iV (decide (cC.verb=[114,109])) [0,1,5,6,11] (fun _ _ h=>h) hS rfl
   refine Zr (Zy ?_)
   refine VL.mt (decide (cC.verb=[115,119,105,116,99,104])) [0,1,5,6,11] (fun _ _ h=>h) hS rfl
  clear hS
  rintro pS hS
  refine gR hS (fun h11 hS => ?_) (fun h11 hS => ?_)
  ·
   refine VC.gN (S:=Bool) (fun (WW:Bool)=>WW) (fun (WW:Bool)=>[(0,ptr sQ 0),(1,w_1.val),(5,i64 0),(6,.bool true),(25,.bool WW)]) (fun (WW:Bool)=>Mo.tt) (fun (WW:Bool)=>Ow.star (bE sQ [str cC.verb,str cC.name,i64 cC.n,str cC.text,.bool cC.force,cC.todo.val] 133) (Ow.emp)) hS ?_ ?_
   ·
    clear hS
    intro k5 hS
    refine Zr (Zm (Zu (eB (s:=w_1) Tryz.underlying39 rfl) (Zu (lE rfl rfl) (Zm ?_))))
    refine o4 17 hS (fun h17 hS => ?_) (fun h17 hS => ?_)
    ·
     refine Zy ?_
     refine Zh (eB (s:=w_1) Tryz.underlying39 rfl) ?_
     obtain ⟨b21,hS⟩:=bU hS
     refine Zh (zI rfl rfl b21) ?_
     obtain ⟨aP5,aQo,aQM,hS⟩:=fA hS
     refine Zh (eZ (s:=w_1) Tryz.underlying39 pU rfl rfl aQo (bH aQo aQM)) ?_
     refine Zh (zW (s:=w_1) cQ rfl aQM rfl) ?_
     refine Zh (EM rfl rfl) ?_
     refine Zt ?_
     refine VL.mt (decide (aP5=[45,102])) [0,1,5,6,25] (fun _ _ h=>h) hS rfl
    refine VL.runs 8 [(25,some false)] (by kernel_rfl) ?_
    refine VL.mt false [0,1,5,6,25] (fun _ _ h=>h) hS rfl
   clear hS
   rintro WW hS
   refine gR hS (fun h25 hS => ?_) (fun h25 hS => ?_)
   ·
    cases hS
   refine VC.iV () [0,1,5,6] (fun _ _ h=>h) hS rfl
  refine VC.iV () [0,1,5,6] (fun _ _ h=>h) hS rfl
 clear hS
 rintro _ hS
 refine VC.gN (S:=Int×Bool×aK) (fun sg=>(sg.1,sg.2.1,sg.2.2)) (fun sg=>[(1,w_1.val),(5,i64 sg.1),(6,.bool sg.2.1)]) (fun sg=>Mo.tt) (fun sg=>Ow.star (bE sQ [str cC.verb,str sg.2.2,i64 cC.n,str cC.text,.bool cC.force,cC.todo.val] 133) (Ow.emp)) hS ?_ ?_
 ·
  clear hS
  intro k10 hS
  refine Zq (Zr (Zm (Zu (aF rfl) (Zu (aB sD rfl) (Zu (aL cQ rfl rfl) ?_)))))
  refine Zl ?_
  refine Zb ?_
  refine VC.gN (S:=Unit) (fun (_:Unit)=>()) (fun (_:Unit)=>[(0,ptr sQ 0),(1,w_1.val)]) (fun (_:Unit)=>Mo.tt) (fun (_:Unit)=>Ow.star (bE sQ [str cC.verb,str cC.name,i64 cC.n,str cC.text,.bool cC.force,cC.todo.val] 133) (Ow.emp)) hS ?_ ?_
  ·
   clear hS
   intro k11 hS
   refine Zb ?_
   refine VC.gN (S:=Unit) (fun (_:Unit)=>()) (fun (_:Unit)=>[(0,ptr sQ 0),(1,w_1.val)]) (fun (_:Unit)=>Mo.tt) (fun (_:Unit)=>Ow.star (bE sQ [str cC.verb,str cC.name,i64 cC.n,str cC.text,.bool cC.force,cC.todo.val] 133) (Ow.emp)) hS ?_ ?_
   ·
    clear hS
    intro k12 hS
    refine Zb ?_
    refine VC.gN (S:=Unit) (fun (_:Unit)=>()) (fun (_:Unit)=>[(0,ptr sQ 0),(1,w_1.val)]) (fun (_:Unit)=>Mo.tt) (fun (_:Unit)=>Ow.star (bE sQ [str cC.verb,str cC.name,i64 cC.n,str cC.text,.bool cC.force,cC.todo.val] 133) (Ow.emp)) hS ?_ ?_
    ·
     clear hS
     intro k13 hS
     refine Zb ?_
     refine VC.gN (S:=Unit) (fun (_:Unit)=>()) (fun (_:Unit)=>[(0,ptr sQ 0),(1,w_1.val)]) (fun (_:Unit)=>Mo.tt) (fun (_:Unit)=>Ow.star (bE sQ [str cC.verb,str cC.name,i64 cC.n,str cC.text,.bool cC.force,cC.todo.val] 133) (Ow.emp)) hS ?_ ?_
     ·
      clear hS
      intro k14 hS
      refine Zb (Zq (Zb (Zq (Zq (Zq (Zr (Zy ?_)))))))
      refine Zc hS (fun h38 hS => ?_) (fun h38 hS => ?_)
      ·
       refine Zx ?_
       refine Zq (Zr (Zm (Zu (eB (s:=w_1) Tryz.underlying39 rfl) (Zu (iI rfl rfl) ?_))))
       refine Zl ?_
       refine VC.keep (ρ':=[(0,ptr sQ 0),(1,w_1.val),(5,i64 0),(6,.bool true),(58,.bool (decide ((w_1.l.length:Int)=0)))]) [0,1,5,6,58] rfl ?_
       refine Zc hS (fun h58 hS => ?_) (fun h58 hS => ?_)
       ·
        refine VC.fM (0,true,cC.name) [1,5,6] (fun _ _ h=>h) hS rfl
       refine VC.iV () [0,1] (fun _ _ h=>h) hS rfl
      refine Zk ?_
      refine VC.gN (S:=Unit) (fun (_:Unit)=>()) (fun (_:Unit)=>[(0,ptr sQ 0),(1,w_1.val),(5,i64 0),(6,.bool true),(37,str cC.verb)]) (fun (_:Unit)=>Mo.tt) (fun (_:Unit)=>Ow.star (bE sQ [str cC.verb,str cC.name,i64 cC.n,str cC.text,.bool cC.force,cC.todo.val] 133) (Ow.emp)) hS ?_ ?_
      ·
       clear hS
       intro k15 hS
       refine Zq (Zq (Zr (Zy ?_)))
       refine Zc hS (fun h40 hS => ?_) (fun h40 hS => ?_)
       ·
        refine Zk ?_
        refine Zc hS (fun h40 hS => ?_) (fun h40 hS => ?_)
        ·
         refine VC.fM () [0,1] (fun _ _ h=>h) hS rfl
        refine VC.iV () [0,1,5,6,37] (fun _ _ h=>h) hS rfl
       refine Zq (Zr (Zy ?_))
       refine VC.keep (ρ':=[(0,ptr sQ 0),(1,w_1.val),(5,i64 0),(6,.bool true),(37,str cC.verb),(40,.bool (decide (cC.verb=[98,114,97,110,99,104])))]) [0,1,5,6,37,40] rfl ?_
       refine Zc hS (fun h40 hS => ?_) (fun h40 hS => ?_)
       ·
        refine Zk ?_
        refine Zc hS (fun h40 hS => ?_) (fun h40 hS => ?_)
        ·
         refine VC.fM () [0,1] (fun _ _ h=>h) hS rfl
        refine VC.iV () [0,1,5,6,37] (fun _ _ h=>h) hS rfl
       refine Zq (Zr (Zy ?_))
       refine Zc hS (fun h40 hS => ?_) (fun h40 hS => ?_)
       ·
        refine Zk ?_
        refine Zc hS (fun h40 hS => ?_) (fun h40 hS => ?_)
        ·
         refine VC.fM () [0,1] (fun _ _ h=>h) hS rfl
        refine VC.iV () [0,1,5,6,37] (fun _ _ h=>h) hS rfl
       refine Zr (Zy ?_)
       refine Zc hS (fun h40 hS => ?_) (fun h40 hS => ?_)
       ·
        refine VC.fM () [0,1] (fun _ _ h=>h) hS rfl
       refine VC.iV () [0,1,5,6,37] (fun _ _ h=>h) hS rfl
      clear hS
      rintro _ hS
      refine Zq (Zq (Zr (Zy ?_)))
      refine Zc hS (fun h45 hS => ?_) (fun h45 hS => ?_)
      ·
       refine VC.fM () [0,1] (fun _ _ h=>h) hS rfl
      refine Zk ?_
      refine Zq (Zq (Zr (Zy ?_)))
      refine Zc hS (fun h47 hS => ?_) (fun h47 hS => ?_)
      ·
       refine VC.fM () [0,1] (fun _ _ h=>h) hS rfl
      refine Zk ?_
      refine Zq (Zq (Zr (Zy ?_)))
      refine Zc hS (fun h49 hS => ?_) (fun h49 hS => ?_)
      ·
       refine Zk ?_
       refine Zc hS (fun h49 hS => ?_) (fun h49 hS => ?_)
       ·
        refine VC.fM () [0,1] (fun _ _ h=>h) hS rfl
       refine Zk ?_
       refine VC.keep (ρ':=[(1,w_1.val),(5,i64 0),(6,.bool true)]) [1,5,6] rfl ?_
       refine VC.fM (0,true,cC.name) [1,5,6] (fun _ _ h=>h) hS rfl
      refine Zq (Zr (Zy ?_))
      refine Zc hS (fun h49 hS => ?_) (fun h49 hS => ?_)
      ·
       refine Zk ?_
       refine VC.keep (ρ':=[(0,ptr sQ 0),(1,w_1.val),(5,i64 0),(6,.bool true),(49,.bool (decide (cC.verb=[114,101,118,101,114,116])))]) [0,1,5,6,49] rfl ?_
       refine Zc hS (fun h49 hS => ?_) (fun h49 hS => ?_)
       ·
        refine VC.fM () [0,1] (fun _ _ h=>h) hS rfl
       refine Zk ?_
       refine VC.fM (0,true,cC.name) [1,5,6] (fun _ _ h=>h) hS rfl
      refine Zq (Zr (Zy ?_))
      refine VC.keep (ρ':=[(0,ptr sQ 0),(1,w_1.val),(5,i64 0),(6,.bool true),(37,str cC.verb),(49,.bool (decide (cC.verb=[112,111,112])))]) [0,1,5,6,37,49] rfl ?_
      refine Zc hS (fun h49 hS => ?_) (fun h49 hS => ?_)
      ·
       refine Zk ?_
       refine Zc hS (fun h49 hS => ?_) (fun h49 hS => ?_)
       ·
        refine VC.fM () [0,1] (fun _ _ h=>h) hS rfl
       refine Zk ?_
       refine VC.fM (0,true,cC.name) [1,5,6] (fun _ _ h=>h) hS rfl
      refine Zq (Zr (Zy ?_))
      refine Zc hS (fun h49 hS => ?_) (fun h49 hS => ?_)
      ·
       refine Zk ?_
       refine Zc hS (fun h49 hS => ?_) (fun h49 hS => ?_)
       ·
        refine VC.fM () [0,1] (fun _ _ h=>h) hS rfl
       refine Zk ?_
       refine VC.fM (0,true,cC.name) [1,5,6] (fun _ _ h=>h) hS rfl
      refine Zq (Zr (Zy ?_))
      refine Zc hS (fun h49 hS => ?_) (fun h49 hS => ?_)
      ·
       refine Zk ?_
       refine Zc hS (fun h49 hS => ?_) (fun h49 hS => ?_)
       ·
        refine VC.fM () [0,1] (fun _ _ h=>h) hS rfl
       refine Zk ?_
       refine VC.fM (0,true,cC.name) [1,5,6] (fun _ _ h=>h) hS rfl
      refine Zr (Zy ?_)
      refine Zc hS (fun h49 hS => ?_) (fun h49 hS => ?_)
      ·
       refine VC.fM () [0,1] (fun _ _ h=>h) hS rfl
      refine Zk ?_
      refine VC.fM (0,true,cC.name) [1,5,6] (fun _ _ h=>h) hS rfl
     clear hS
     rintro _ hS
     refine Zq (Zq (Zr (Zy ?_)))
     refine Zq (Zr (Zy ?_))
     obtain ⟨TH,aVi,hS⟩:=aO hS
     refine Zu (cH (N8 w_1 aVi) rfl (fun _ _=>rfl)) ?_
     refine Zu (aF rfl) (Zu (aB qK rfl) ?_)
     refine Zv (cs':=[str cC.verb,str TH,i64 cC.n,str cC.text,.bool cC.force,cC.todo.val]) rfl pU ?_
     refine Zl ?_
     refine Zr (Zm (Zu (aF rfl) (Zu (aB qK rfl) (Zu (aL cQ rfl rfl) (Zu (vD rfl rfl) (Zy ?_))))))
     refine VC.keep (ρ':=[(1,w_1.val),(5,i64 1),(6,.bool (!decide (TH=[])))]) [1,5,6] rfl ?_
     refine VC.fM (1,(!decide (TH=[])),TH) [1,5,6] (fun _ _ h=>h) hS rfl
    clear hS
    rintro _ hS
    refine Zq (Zq (Zr (Zy ?_)))
    refine Zq (Zr (Zm ?_))
    obtain ⟨aKr,aVr,hS⟩:=aO hS
    refine Zu (cH (N8 w_1 aVr) rfl (fun _ _=>rfl)) ?_
    obtain ⟨aSN,aVs,hS⟩:=aO hS
    refine Zu (cH (aH2 aKr aVs) rfl (fun _ _=>rfl)) ?_
    refine Zl ?_
    refine gR hS (fun h71 hS => ?_) (fun h71 hS => ?_)
    ·
     cases hS
    refine Zq (Zr (Zy ?_))
    obtain ⟨YJ,aWC,hS⟩:=aO hS
    refine Zu (cH (N8 w_1 aWC) rfl (fun _ _=>rfl)) ?_
    refine Zu (aF rfl) (Zu (aB qK rfl) ?_)
    refine Zv (cs':=[str cC.verb,str YJ,i64 cC.n,str cC.text,.bool cC.force,cC.todo.val]) rfl pU ?_
    refine Zl ?_
    refine VC.keep (ρ':=[(0,ptr sQ 0),(1,w_1.val),(5,i64 1)]) [0,1,5] rfl ?_
    refine Zr (Zm (Zu (aF rfl) (Zu (aB qK rfl) (Zu (aL cQ rfl rfl) (Zu (vD rfl rfl) (Zy ?_))))))
    refine VC.fM (1,(!decide (YJ=[])),YJ) [1,5,6] (fun _ _ h=>h) hS rfl
   clear hS
   rintro _ hS
   refine Zq (Zq ?_)
   cases hS
  clear hS
  rintro _ hS
  refine Zq (Zq ?_)
  cases hS
 clear hS
 rintro ⟨aC2,aXm,sB⟩ hS
 refine Zq (Zr (Zy ?_))
 refine xJ 127 hS (fun h127 hS => ?_) (fun h127 hS => ?_)
 ·
  refine Zg ?_
  refine Zh (eB (s:=w_1) Tryz.underlying39 rfl) ?_
  refine Zg ?_
  refine Zh (iI rfl rfl) ?_
  refine Zy ?_
  refine VC.keep (ρ':=[(4,.bool (decide ((w_1.l.length:Int)=aC2)))]) [4] rfl ?_
  cases hS
  exact VC.ret (Z1 ((decide ((w_1.l.length:Int)=aC2)),⟨cC.verb,sB,cC.n,cC.text,cC.force,cC.todo⟩))
 refine VL.runs 6 [(4,some false)] (by kernel_rfl) ?_
 refine Zl ?_
 cases hS
 exact VC.ret (Z1 (false,⟨cC.verb,sB,cC.n,cC.text,cC.force,cC.todo⟩))
theorem aJL (aBr:aK) {r:qU×Bool} (hS:Sh.aCw aBr=some r) :
 Ct Tryz.prog 106 [str aBr] Mo.tt (Ow.emp) (X:=r9×Bool) (fun x => .tuple #[.agg (bM.enc x.1).toArray,.bool x.2]) (fun x=>r=(x.1.pl,x.2)) (fun x=>x.1.m) (fun x=>Ow.emp):=by
 refine Zo Tryz.func106 Tryz.ntmps106 fun c => ?_
 unfold Sh.aCw at hS
 refine Zq (Zr ?_)
 refine gV [str [],str [],i64 0,str [],.bool false,.slice none 0 0] fun fJ => ?_
 refine Zy ?_
 refine Zq (Zr (Zm ?_))
 obtain ⟨gU,J4,hS⟩:=aO hS
 refine Zu (cH (T0 aBr [32] J4) rfl (fun _ _=>rfl)) ?_
 refine Zm (Zu (aV rfl rfl) (Zu (aV rfl rfl) (Zu (aV rfl rfl) (Zy ?_))))
 refine VC.keep (ρ':=[(2,ptr fJ 0),(4,str gU.1),(5,str gU.2.1),(6,.bool gU.2.2)]) [2,4,5,6] rfl ?_
 refine Zq (Zr (Zm ?_))
 refine Zu (fR (vs:=[(0,str gU.1)]) (cs := #[str gU.1,str [],i64 0,str [],.bool false,.slice none 0 0]) rfl (by kernel_rfl)) ?_
 refine gV [str [],str [],i64 0,str [],.bool false,.slice none 0 0] fun aAu => ?_
 refine Zv (cs':=[str gU.1,str [],i64 0,str [],.bool false,.slice none 0 0]) rfl R7 ?_
 refine Zl ?_
 refine Zq ?_
 refine VC.gN (S:=Bool) (fun (WV:Bool)=>WV) (fun (WV:Bool)=>[(2,ptr fJ 0),(5,str gU.2.1),(6,.bool gU.2.2),(7,ptr aAu 0),(23,.bool WV)]) (fun (WV:Bool)=>Mo.tt) (fun (WV:Bool)=>Ow.star (bE aAu [str gU.1,str [],i64 0,str [],.bool false,.slice none 0 0] 133) (Ow.star (bE fJ [str [],str [],i64 0,str [],.bool false,.slice none 0 0] 133) (Ow.emp))) hS ?_ ?_
 ·
  clear hS
  intro k5 hS
  refine Zr (Zy ?_)
  refine o4 20 hS (fun h20 hS => ?_) (fun h20 hS => ?_)
  ·
   refine VL.runs 3 [(23,some true)] (by kernel_rfl) ?_
   refine VL.mt true [2,5,6,7,23] (fun _ _ h=>h) hS rfl
  refine Zg ?_
  refine Zh (EM rfl rfl) ?_
  refine Zf ?_
  refine VL.mt (decide (gU.1=[115,116,97,115,104])) [2,5,6,7,23] (fun _ _ h=>h) hS rfl
 clear hS
 rintro WV hS
 refine gR hS (fun h23 hS => ?_) (fun h23 hS => ?_)
 ·
  refine Zq (Zr (Zm (Zu (aB aDF rfl) ?_)))
  refine Zv (cs':=[str gU.1,str [],i64 0,str gU.2.1,.bool false,.slice none 0 0]) rfl pU ?_
  refine Zl ?_
  refine Zq (Zr (Zu (cJ rN rfl rfl) (Zm (Zu (jE rfl) (Zm ?_)))))
  refine xJ 29 hS (fun h29 hS => ?_) (fun h29 hS => ?_)
  ·
   refine VL.runs 3 [(32,some true)] (by kernel_rfl) ?_
   refine Zv (cs':=[str gU.1,str [],i64 0,str gU.2.1,.bool false,.slice none 0 0]) rfl R7 ?_
   refine Zy ?_
   refine VC.keep (ρ':=[(2,ptr fJ 0),(3,.bool true)]) [2,3] rfl ?_
   cases hS
   exact VC.ret (Z3 (⟨gU.1,[],0,gU.2.1,false,⟨none,0,[]⟩⟩,true) [.agg #[str gU.1,str [],i64 0,str gU.2.1,.bool false,.slice none 0 0],.bool true] (fI.cell rN rfl rfl Rd.blk (fI.tmp rfl (fI.nil))))
  refine Zg ?_
  refine Zh (vD rfl rfl) ?_
  refine Zf ?_
  refine Zv (cs':=[str gU.1,str [],i64 0,str gU.2.1,.bool false,.slice none 0 0]) rfl R7 ?_
  refine Zy ?_
  refine VC.keep (ρ':=[(2,ptr fJ 0),(3,.bool (!decide (gU.2.1=[])))]) [2,3] rfl ?_
  cases hS
  exact VC.ret (Z3 (⟨gU.1,[],0,gU.2.1,false,⟨none,0,[]⟩⟩,(!decide (gU.2.1=[]))) [.agg #[str gU.1,str [],i64 0,str gU.2.1,.bool false,.slice none 0 0],.bool (!decide (gU.2.1=[]))] (fI.cell rN rfl rfl Rd.blk (fI.tmp rfl (fI.nil))))
 refine Zk ?_
 refine Zq (Zr (Zy ?_))
 refine VC.gN (S:=Sv aK) (fun (ZB:Sv aK)=>ZB.l) (fun (ZB:Sv aK)=>[(2,ptr fJ 0),(7,ptr aAu 0),(8,ZB.val)]) (fun (ZB:Sv aK)=>ZB.ok) (fun (ZB:Sv aK)=>Ow.star (bE aAu [str gU.1,str [],i64 0,str [],.bool false,.slice none 0 0] 133) (Ow.star (bE fJ [str [],str [],i64 0,str [],.bool false,.slice none 0 0] 133) (Ow.emp))) hS ?_ ?_
 ·
  clear hS
  intro k7 hS
  refine Zq (Zr (Zy ?_))
  refine gR hS (fun h33 hS => ?_) (fun h33 hS => ?_)
  ·
   refine Zr (Zm ?_)
   obtain ⟨aZT,a0f,hS⟩:=aO hS
   refine VL.dK (NT gU.2.1 [32] a0f) rfl (by decide) ?_
   rintro aYU rfl
   try dsimp only
   refine Za ?_
   refine VL.mt aYU [2,7,8] (fun _ _ h=>h) hS rfl
  refine VC.iV ⟨none,0,[]⟩ [2,7,8] (fun _ _ h=>h) hS rfl
 clear hS
 rintro ZB hS
 refine Zq (Zr (Zm ?_))
 refine VL.SI aAu (cs':=[str gU.1,str [],i64 0,str [],.bool false,(⟨none,0,[]⟩:Sv dB).val]) rfl ?_
 obtain ⟨XD,a0h,hS⟩:=aO hS
 refine VL.bL (aH3 aAu (⟨gU.1,[],0,[],false,(⟨none,0,[]⟩:Sv dB)⟩:r9) ZB a0h) rfl (by decide) ?_
 rintro ⟨aNH,qW⟩ rfl
 try dsimp only
 refine Zy ?_
 refine Zq (Zr (Zu (cJ rN rfl rfl) (Zm ?_)))
 refine Zv (cs':=[str qW.verb,str qW.name,i64 qW.n,str qW.text,.bool qW.force,qW.todo.val]) rfl R7 ?_
 refine Zy ?_
 cases hS
 exact VC.ret (Z3 (⟨qW.verb,qW.name,qW.n,qW.text,qW.force,qW.todo⟩,aNH) [.agg #[str qW.verb,str qW.name,i64 qW.n,str qW.text,.bool qW.force,qW.todo.val],.bool aNH] (fI.cell rN rfl rfl Rd.blk (fI.tmp rfl (fI.nil))))
theorem aH1  {r:List aK} (hS:Sh.Z6=some r) :
 Ct Tryz.prog 114 [] Mo.tt (Ow.emp) (X:=Sv aK) (fun x=>x.val) (fun x=>r=x.l) (fun x=>x.ok) (fun x=>Ow.emp):=by
 refine Zo Tryz.func114 Tryz.ntmps114 fun c => ?_
 unfold Sh.Z6 at hS
 refine Zq (Zr (Zy ?_))
 refine Zq (Zr ?_)
 refine VL.lit (α:=aK) (xs:=[.const (str [97,100,100]),.const (str [114,109]),.const (str [99,111,109,109,105,116]),.const (str [98,114,97,110,99,104]),.const (str [100,101,108,101,116,101]),.const (str [115,119,105,116,99,104]),.const (str [114,101,115,101,116]),.const (str [109,101,114,103,101]),.const (str [112,105,99,107]),.const (str [114,101,118,101,114,116]),.const (str [115,116,97,115,104]),.const (str [112,111,112]),.const (str [97,112,112,108,121]),.const (str [115,104,101,108,118,101]),.const (str [114,101,98,97,115,101]),.const (str [99,111,110,116,105,110,117,101]),.const (str [115,107,105,112]),.const (str [97,98,111,114,116]),.const (str [117,110,100,111]),.const (str [114,101,100,111])]) (vs:=[str [97,100,100],str [114,109],str [99,111,109,109,105,116],str [98,114,97,110,99,104],str [100,101,108,101,116,101],str [115,119,105,116,99,104],str [114,101,115,101,116],str [109,101,114,103,101],str [112,105,99,107],str [114,101,118,101,114,116],str [115,116,97,115,104],str [112,111,112],str [97,112,112,108,121],str [115,104,101,108,118,101],str [114,101,98,97,115,101],str [99,111,110,116,105,110,117,101],str [115,107,105,112],str [97,98,111,114,116],str [117,110,100,111],str [114,101,100,111]]) [[97,100,100],[114,109],[99,111,109,109,105,116],[98,114,97,110,99,104],[100,101,108,101,116,101],[115,119,105,116,99,104],[114,101,115,101,116],[109,101,114,103,101],[112,105,99,107],[114,101,118,101,114,116],[115,116,97,115,104],[112,111,112],[97,112,112,108,121],[115,104,101,108,118,101],[114,101,98,97,115,101],[99,111,110,116,105,110,117,101],[115,107,105,112],[97,98,111,114,116],[117,110,100,111],[114,101,100,111]] Tryz.underlying39 xQ (by decide) rfl rfl rfl rfl (by decide) (fun _ _ _ _=>trivial) (by decide) (fun a7O a5T => ?_) (by decide)
 replace hS:=bW a5T hS
 refine Zy ?_
 cases hS
 exact VC.ret (Z1 a7O)
theorem yK (aA:Sv aK) (v_1:aK) {r:Int} (hS:Sh.pO aA.l v_1=some r) :
 Cp Tryz.prog 113 [aA.val,str v_1] aA.ok (i64 r):=by
 refine Zo Tryz.func113 Tryz.ntmps113 fun c => ?_
 unfold Sh.pO at hS
 refine Zq (Zr (Zy ?_))
 refine Zq (Zq (Zr (Zm (Zu (eB (s:=aA) Tryz.underlying39 rfl) (Zy ?_)))))
 refine Zb ?_
 refine VC.iter (S:=Int) (fun (cV:Int)=>cV) (fun (cV:Int)=>[(0,aA.val),(1,str v_1),(7,i64 (aA.l.length:Int)),(8,i64 cV)]) (fun (cV:Int)=>Mo.tt) (fun (cV:Int)=>Ow.emp) 0 [0,1,7,8] hS rfl ?_
 clear hS
 rintro cV m1 y1 hS hK1
 refine Zq (Zr (Zu (dW rfl rfl) ?_))
 refine Zl ?_
 refine Zq ?_
 refine Zc hS (fun h9 hS => ?_) (fun h9 hS => ?_)
 ·
  refine Zk ?_
  refine Zq (Zb (Zq (Zr (Zy ?_))))
  refine Zq (Zr (Zy ?_))
  obtain ⟨eV,nC,lU,hS⟩:=fA hS
  refine Zu (eZ (s:=aA) Tryz.underlying39 pU rfl rfl nC (bH nC lU)) (Zu (zW (s:=aA) cQ rfl lU rfl) (Zy ?_))
  refine VC.keep (ρ':=[(0,aA.val),(1,str v_1),(7,i64 (aA.l.length:Int)),(8,i64 cV),(5,i64 cV),(16,.bool (decide (v_1=eV)))]) [0,1,7,8,5,16] rfl ?_
  refine Zc hS (fun h16 hS => ?_) (fun h16 hS => ?_)
  ·
   refine Zq (Zr (Zy ?_))
   replace hS:=iJ hS hK1
   cases hS
   exact Ze
  refine Zk ?_
  refine Zr ?_
  obtain ⟨b18,hS⟩:=bU hS
  refine Zu (cR rfl rfl b18) (Zm ?_)
  refine VL.jU (cV+1) [0,1,7,8] (fun _ _ h=>h) (go2 hS hK1) rfl
 replace hS:=iJ hS hK1
 refine Zx ?_
 refine Zq (Zr (Zy ?_))
 cases hS
 exact Ze
theorem YZ (aC1:aK) {r:Int} (hS:Sh.RK aC1=some r) :
 Cp Tryz.prog 107 [str aC1] Mo.tt (i64 r):=by
 refine Zo Tryz.func107 Tryz.ntmps107 fun c => ?_
 unfold Sh.RK at hS
 refine Zq (Zr (Zy ?_))
 refine Zq (Zr ?_)
 obtain ⟨a4i,a5A,hS⟩:=aO hS
 refine VL.dK (aH1 a5A) rfl (by decide) ?_
 rintro a2a rfl
 try dsimp only
 refine Zm ?_
 obtain ⟨y6,a5E,hS⟩:=aO hS
 refine Zu (cH (yK a2a aC1 a5E) rfl (fun _ _=>rfl)) ?_
 refine Zy ?_
 cases hS
 exact Ze
theorem U5 (HT:aK) {r:Bool} (hS:Sh.NG HT=some r) :
 Cp Tryz.prog 205 [str HT] Mo.tt (.bool r):=by
 refine Zo Tryz.func205 Tryz.ntmps205 fun c => ?_
 unfold Sh.NG at hS
 refine Zq (Zr (Zy ?_))
 refine Zq (Zq (Zr (Zm ?_)))
 obtain ⟨b6,hS⟩:=bU hS
 refine VL.s2b Tryz.underlying9 Tryz.underlying35 Tryz.underlying5 rfl b6 (by decide) fun aGl a5U => ?_
 replace hS:=bW a5U hS
 refine Zu (eB (s:=aGl) Tryz.underlying35 rfl) (Zy ?_)
 refine Zb ?_
 refine VC.iter (S:=Int) (fun (MM:Int)=>MM) (fun (MM:Int)=>[(0,str HT),(6,aGl.val),(7,i64 (aGl.l.length:Int)),(8,i64 MM)]) (fun (MM:Int)=>Mo.tt) (fun (MM:Int)=>Ow.emp) 0 [0,6,7,8] hS rfl ?_
 clear hS
 rintro MM m1 y1 hS hK1
 refine Zq (Zr (Zu (dW rfl rfl) ?_))
 refine Zl ?_
 refine Zq ?_
 refine Zc hS (fun h9 hS => ?_) (fun h9 hS => ?_)
 ·
  refine Zk ?_
  refine Zq (Zb (Zq (Zr (Zm ?_))))
  obtain ⟨yV,aBt,XT,hS⟩:=fA hS
  refine Zu (eZ (s:=aGl) Tryz.underlying35 aLh rfl rfl aBt (bH aBt XT)) (Zu (zW (s:=aGl) aOZ rfl XT rfl) (Zy ?_))
  refine VC.gN (S:=Bool) (fun (W5:Bool)=>W5) (fun (W5:Bool)=>[(0,str HT),(6,aGl.val),(7,i64 (aGl.l.length:Int)),(8,i64 MM),(34,.bool W5)]) (fun (W5:Bool)=>Mo.tt) (fun (W5:Bool)=>Ow.emp) hS ?_ ?_
  ·
   clear hS
   intro k6 hS
   refine Zr (Zm (Zu (dW rfl rfl) (Zm ?_)))
   refine o4 15 hS (fun h15 hS => ?_) (fun h15 hS => ?_)
   ·
    refine VL.runs 4 [(19,some true)] (by kernel_rfl) ?_
    refine Zg ?_
    refine Zh (iI rfl rfl) ?_
    refine Zg ?_
    refine o4 22 hS (fun h22 hS => ?_) (fun h22 hS => ?_)
    ·
     refine VL.runs 10 [(32,none)] (by kernel_rfl) ?_
     refine Zh (gS rfl rfl) ?_
     refine Zt ?_
     refine VL.mt true [0,6,7,8,34] (fun _ _ h=>h) hS rfl
    refine Zg ?_
    refine Zh (lF rfl rfl) ?_
    refine Zg ?_
    refine MW 25 hS (fun h25 hS => ?_) (fun h25 hS => ?_)
    ·
     refine Zg ?_
     refine Zh (dW rfl rfl) ?_
     refine Zg ?_
     refine o4 28 hS (fun h28 hS => ?_) (fun h28 hS => ?_)
     ·
      refine Zy ?_
      refine Zh (gS rfl rfl) ?_
      refine Zh (gS rfl rfl) ?_
      refine Zh (gL rfl rfl) ?_
      refine Zt ?_
      refine VL.mt true [0,6,7,8,34] (fun _ _ h=>h) hS rfl
     refine Zg ?_
     refine Zh (lE rfl rfl) ?_
     refine Zh (gL rfl rfl) ?_
     refine Zh (gS rfl rfl) ?_
     refine Zh (gL rfl rfl) ?_
     refine Zt ?_
     refine VL.mt (decide (57 < (yV.toNat:Int))) [0,6,7,8,34] (fun _ _ h=>h) hS rfl
    refine VL.runs 6 [(31,none)] (by kernel_rfl) ?_
    refine Zh (gL rfl rfl) ?_
    refine Zh (gL rfl rfl) ?_
    refine Zt ?_
    refine VL.mt false [0,6,7,8,34] (fun _ _ h=>h) hS rfl
   refine Zg ?_
   refine Zh (lE rfl rfl) ?_
   refine Zy ?_
   refine o4 19 hS (fun h19 hS => ?_) (fun h19 hS => ?_)
   ·
    refine Zg ?_
    refine Zh (iI rfl rfl) ?_
    refine Zg ?_
    refine o4 22 hS (fun h22 hS => ?_) (fun h22 hS => ?_)
    ·
     refine VL.runs 10 [(32,none)] (by kernel_rfl) ?_
     refine Zh (gS rfl rfl) ?_
     refine Zt ?_
     refine VL.mt true [0,6,7,8,34] (fun _ _ h=>h) hS rfl
    refine Zg ?_
    refine Zh (lF rfl rfl) ?_
    refine Zg ?_
    refine MW 25 hS (fun h25 hS => ?_) (fun h25 hS => ?_)
    ·
     refine Zg ?_
     refine Zh (dW rfl rfl) ?_
     refine Zg ?_
     refine o4 28 hS (fun h28 hS => ?_) (fun h28 hS => ?_)
     ·
      refine Zy ?_
      refine Zh (gS rfl rfl) ?_
      refine Zh (gS rfl rfl) ?_
      refine Zh (gL rfl rfl) ?_
      refine Zt ?_
      refine VL.mt true [0,6,7,8,34] (fun _ _ h=>h) hS rfl
     refine Zg ?_
     refine Zh (lE rfl rfl) ?_
     refine Zh (gL rfl rfl) ?_
     refine Zh (gS rfl rfl) ?_
     refine Zh (gL rfl rfl) ?_
     refine Zt ?_
     refine VL.mt (decide (57 < (yV.toNat:Int))) [0,6,7,8,34] (fun _ _ h=>h) hS rfl
    refine VL.runs 6 [(31,none)] (by kernel_rfl) ?_
    refine Zh (gL rfl rfl) ?_
    refine Zh (gL rfl rfl) ?_
    refine Zt ?_
    refine VL.mt false [0,6,7,8,34] (fun _ _ h=>h) hS rfl
   refine VL.runs 15 [(34,some false)] (by kernel_rfl) ?_
   refine VL.mt false [0,6,7,8,34] (fun _ _ h=>h) hS rfl
  clear hS
  rintro W5 hS
  refine gR hS (fun h34 hS => ?_) (fun h34 hS => ?_)
  ·
   refine Zq ?_
   cases hS
  refine Zk ?_
  refine Zr ?_
  obtain ⟨b35,hS⟩:=bU hS
  refine Zu (cR rfl rfl b35) (Zm ?_)
  refine VL.jU (MM+1) [0,6,7,8] (fun _ _ h=>h) (go2 hS hK1) rfl
 replace hS:=iJ hS hK1
 refine Zx ?_
 refine Zq (Zr (Zm (Zu (pN Tryz.underlying9 rfl) (Zu (vC rfl rfl) (Zm ?_)))))
 refine o4 39 hS (fun h39 hS => ?_) (fun h39 hS => ?_)
 ·
  refine Zg ?_
  refine Zh (pN Tryz.underlying9 rfl) ?_
  refine Zh (L8 rfl rfl) ?_
  refine Zy ?_
  refine VC.keep (ρ':=[(2,.bool (decide ((HT.length:Int)≤32)))]) [2] rfl ?_
  cases hS
  exact Ze
 refine VL.runs 5 [(2,some false)] (by kernel_rfl) ?_
 refine Zl ?_
 cases hS
 exact Ze
theorem aJK (cC:r9) {r:Int} (hS:Sh.aCv cC.pl=some r) :
 Cp Tryz.prog 152 [.agg #[str cC.verb,str cC.name,i64 cC.n,str cC.text,.bool cC.force,cC.todo.val]] cC.todo.ok (i64 r):=by
 refine Zo Tryz.func152 Tryz.ntmps152 fun c => ?_
 unfold Sh.aCv at hS
 refine Zq (Zr ?_)
 refine kQ [str cC.verb,str cC.name,i64 cC.n,str cC.text,.bool cC.force,cC.todo.val] fun jN => ?_
 refine Zy ?_
 refine Zq (Zr (Zy ?_))
 refine VC.gN (S:=Bool) (fun (U9:Bool)=>U9) (fun (U9:Bool)=>[(3,.bool U9)]) (fun (U9:Bool)=>Mo.tt) (fun (U9:Bool)=>Ow.star (bE jN [str cC.verb,str cC.name,i64 cC.n,str cC.text,.bool cC.force,cC.todo.val] 133) (Ow.emp)) hS ?_ ?_
 ·
  clear hS
  intro k3 hS
  refine Zq (Zr (Zu (aB sD rfl) (Zu (aL cQ rfl rfl) ?_)))
  refine Zl ?_
  refine Zb ?_
  refine VC.gN (S:=Unit) (fun (_:Unit)=>()) (fun (_:Unit)=>[(1,ptr jN 0)]) (fun (_:Unit)=>Mo.tt) (fun (_:Unit)=>Ow.star (bE jN [str cC.verb,str cC.name,i64 cC.n,str cC.text,.bool cC.force,cC.todo.val] 133) (Ow.emp)) hS ?_ ?_
  ·
   clear hS
   intro k4 hS
   refine Zb ?_
   refine VC.gN (S:=Unit) (fun (_:Unit)=>()) (fun (_:Unit)=>[(1,ptr jN 0)]) (fun (_:Unit)=>Mo.tt) (fun (_:Unit)=>Ow.star (bE jN [str cC.verb,str cC.name,i64 cC.n,str cC.text,.bool cC.force,cC.todo.val] 133) (Ow.emp)) hS ?_ ?_
   ·
    clear hS
    intro k5 hS
    refine Zb ?_
    refine VC.gN (S:=Unit) (fun (_:Unit)=>()) (fun (_:Unit)=>[(1,ptr jN 0)]) (fun (_:Unit)=>Mo.tt) (fun (_:Unit)=>Ow.star (bE jN [str cC.verb,str cC.name,i64 cC.n,str cC.text,.bool cC.force,cC.todo.val] 133) (Ow.emp)) hS ?_ ?_
    ·
     clear hS
     intro k6 hS
     refine Zb ?_
     refine VC.gN (S:=Unit) (fun (_:Unit)=>()) (fun (_:Unit)=>[(1,ptr jN 0)]) (fun (_:Unit)=>Mo.tt) (fun (_:Unit)=>Ow.star (bE jN [str cC.verb,str cC.name,i64 cC.n,str cC.text,.bool cC.force,cC.todo.val] 133) (Ow.emp)) hS ?_ ?_
     ·
      clear hS
      intro k7 hS
      refine Zb (Zq (Zb (Zq (Zq (Zq (Zr (Zy ?_)))))))
      refine Zc hS (fun h6 hS => ?_) (fun h6 hS => ?_)
      ·
       refine Zx ?_
       refine Zq (Zr (Zu (aB qK rfl) (Zu (aL cQ rfl rfl) (Zy ?_))))
       refine VC.keep (ρ':=[(1,ptr jN 0),(20,.bool (decide (cC.name=[])))]) [1,20] rfl ?_
       refine Zc hS (fun h20 hS => ?_) (fun h20 hS => ?_)
       ·
        refine Zq ?_
        cases hS
       refine VC.iV () [1] (fun _ _ h=>h) hS rfl
      refine Zk ?_
      refine Zq (Zq (Zr (Zy ?_)))
      refine Zc hS (fun h8 hS => ?_) (fun h8 hS => ?_)
      ·
       refine VC.fM () [1] (fun _ _ h=>h) hS rfl
      refine Zk ?_
      refine VC.gN (S:=Unit) (fun (_:Unit)=>()) (fun (_:Unit)=>[(1,ptr jN 0),(3,.bool true),(5,str cC.verb)]) (fun (_:Unit)=>Mo.tt) (fun (_:Unit)=>Ow.star (bE jN [str cC.verb,str cC.name,i64 cC.n,str cC.text,.bool cC.force,cC.todo.val] 133) (Ow.emp)) hS ?_ ?_
      ·
       clear hS
       intro k8 hS
       refine Zq (Zq (Zr (Zy ?_)))
       refine VC.keep (ρ':=[(1,ptr jN 0),(3,.bool true),(5,str cC.verb),(10,.bool (decide (cC.verb=[98,114,97,110,99,104])))]) [1,3,5,10] rfl ?_
       refine Zc hS (fun h10 hS => ?_) (fun h10 hS => ?_)
       ·
        refine Zk ?_
        refine Zc hS (fun h10 hS => ?_) (fun h10 hS => ?_)
        ·
         refine VC.fM () [1] (fun _ _ h=>h) hS rfl
        refine VC.iV () [1,3,5] (fun _ _ h=>h) hS rfl
       refine Zq (Zr (Zy ?_))
       refine Zc hS (fun h10 hS => ?_) (fun h10 hS => ?_)
       ·
        refine Zk ?_
        refine Zc hS (fun h10 hS => ?_) (fun h10 hS => ?_)
        ·
         refine VC.fM () [1] (fun _ _ h=>h) hS rfl
        refine VC.iV () [1,3,5] (fun _ _ h=>h) hS rfl
       refine Zr (Zy ?_)
       refine Zc hS (fun h10 hS => ?_) (fun h10 hS => ?_)
       ·
        refine VC.fM () [1] (fun _ _ h=>h) hS rfl
       refine VC.iV () [1,3,5] (fun _ _ h=>h) hS rfl
      clear hS
      rintro _ hS
      refine Zq (Zq (Zr (Zy ?_)))
      refine Zc hS (fun h14 hS => ?_) (fun h14 hS => ?_)
      ·
       refine VC.fM () [1] (fun _ _ h=>h) hS rfl
      refine Zk ?_
      refine Zq (Zr (Zy ?_))
      refine Zc hS (fun h16 hS => ?_) (fun h16 hS => ?_)
      ·
       refine VC.fM () [1] (fun _ _ h=>h) hS rfl
      refine Zk ?_
      refine VC.fM true [3] (fun _ _ h=>h) hS rfl
     clear hS
     rintro _ hS
     refine Zq (Zq (Zr (Zu (aB qK rfl) (Zu (aL cQ rfl rfl) ?_))))
     obtain ⟨TB,RX,hS⟩:=aO hS
     refine Zu (cH (xV cC.name RX) rfl (fun _ _=>rfl)) ?_
     refine Zy ?_
     cases hS
     exact Ze
    clear hS
    rintro _ hS
    refine Zq (Zr (Zu (aB qK rfl) (Zu (aL cQ rfl rfl) ?_)))
    obtain ⟨N2,LB,hS⟩:=aO hS
    refine Zu (cH (U5 cC.name LB) rfl (fun _ _=>rfl)) ?_
    refine Zy ?_
    refine VC.fM N2 [3] (fun _ _ h=>h) hS rfl
   clear hS
   rintro _ hS
   refine Zq (Zr (Zu (aB qK rfl) (Zu (aL cQ rfl rfl) (Zy ?_))))
   refine o4 30 hS (fun h30 hS => ?_) (fun h30 hS => ?_)
   ·
    refine VL.runs 5 [(3,some true)] (by kernel_rfl) ?_
    refine Zl ?_
    refine VC.fM true [3] (fun _ _ h=>h) hS rfl
   refine Zh (aB qK rfl) ?_
   refine Zh (aL cQ rfl rfl) ?_
   obtain ⟨aKc,aUx,hS⟩:=aO hS
   refine Zh (cH (U5 cC.name aUx) rfl (fun _ _=>rfl)) ?_
   refine Zy ?_
   refine VC.fM aKc [3] (fun _ _ h=>h) hS rfl
  clear hS
  rintro _ hS
  refine Zq ?_
  cases hS
 clear hS
 rintro U9 hS
 refine Zq (Zq (Zr (Zm (Zu (jE rfl) ?_))))
 refine Zl ?_
 refine gR hS (fun h49 hS => ?_) (fun h49 hS => ?_)
 ·
  refine Zq ?_
  cases hS
 refine Zk ?_
 refine Zq (Zr (Zy ?_))
 cases hS
 exact Ze
theorem aFO (cC:r9) {r:Int} (hS:Sh.UH cC.pl=some r) :
 Cp Tryz.prog 153 [.agg #[str cC.verb,str cC.name,i64 cC.n,str cC.text,.bool cC.force,cC.todo.val]] cC.todo.ok (i64 r):=by
 refine Zo Tryz.func153 Tryz.ntmps153 fun c => ?_
 unfold Sh.UH at hS
 refine Zq (Zr ?_)
 refine kQ [str cC.verb,str cC.name,i64 cC.n,str cC.text,.bool cC.force,cC.todo.val] fun jN => ?_
 refine Zy ?_
 refine Zq (Zr (Zu (aB aHz rfl) (Zu (aL fL rfl rfl) (Zy ?_))))
 refine VC.gN (S:=Unit) (fun (_:Unit)=>()) (fun (_:Unit)=>[(1,ptr jN 0),(3,i64 cC.n)]) (fun (_:Unit)=>Mo.tt) (fun (_:Unit)=>Ow.star (bE jN [str cC.verb,str cC.name,i64 cC.n,str cC.text,.bool cC.force,cC.todo.val] 133) (Ow.emp)) hS ?_ ?_
 ·
  clear hS
  intro k2 hS
  refine Zq (Zr (Zu (aB sD rfl) (Zu (aL cQ rfl rfl) ?_)))
  refine Zl ?_
  refine Zb (Zq (Zb (Zq (Zb (Zq (Zb (Zq ?_)))))))
  refine VC.gN (S:=Unit) (fun (_:Unit)=>()) (fun (_:Unit)=>[(1,ptr jN 0),(3,i64 cC.n),(7,str cC.verb)]) (fun (_:Unit)=>Mo.tt) (fun (_:Unit)=>Ow.star (bE jN [str cC.verb,str cC.name,i64 cC.n,str cC.text,.bool cC.force,cC.todo.val] 133) (Ow.emp)) hS ?_ ?_
  ·
   clear hS
   intro k3 hS
   refine Zq (Zq (Zr (Zy ?_)))
   refine Zc hS (fun h8 hS => ?_) (fun h8 hS => ?_)
   ·
    refine Zk ?_
    refine Zc hS (fun h8 hS => ?_) (fun h8 hS => ?_)
    ·
     refine Zx ?_
     refine Zq ?_
     cases hS
    refine VC.iV () [1,3,7] (fun _ _ h=>h) hS rfl
   refine Zq (Zr (Zy ?_))
   refine VC.keep (ρ':=[(1,ptr jN 0),(3,i64 cC.n),(7,str cC.verb),(8,.bool (decide (cC.verb=[97,112,112,108,121])))]) [1,3,7,8] rfl ?_
   refine Zc hS (fun h8 hS => ?_) (fun h8 hS => ?_)
   ·
    refine Zk ?_
    refine Zc hS (fun h8 hS => ?_) (fun h8 hS => ?_)
    ·
     refine Zx ?_
     refine Zq ?_
     cases hS
    refine VC.iV () [1,3,7] (fun _ _ h=>h) hS rfl
   refine Zr (Zy ?_)
   refine Zc hS (fun h8 hS => ?_) (fun h8 hS => ?_)
   ·
    refine Zx ?_
    refine Zq ?_
    cases hS
   refine VC.iV () [1,3,7] (fun _ _ h=>h) hS rfl
  clear hS
  rintro _ hS
  refine Zq (Zq (Zr (Zy ?_)))
  refine Zc hS (fun h12 hS => ?_) (fun h12 hS => ?_)
  ·
   refine Zx ?_
   refine Zq (Zr (Zu (aB qK rfl) (Zu (aL cQ rfl rfl) (Zu (vD rfl rfl) ?_))))
   refine Zl ?_
   refine o3 hS (fun h21 hS => ?_) (fun h21 hS => ?_)
   ·
    refine VC.fM () [1,3] (fun _ _ h=>h) hS rfl
   refine Zk ?_
   refine Zq ?_
   cases hS
  refine Zk ?_
  refine Zq (Zq (Zr (Zy ?_)))
  refine Zc hS (fun h14 hS => ?_) (fun h14 hS => ?_)
  ·
   refine Zk ?_
   refine Zc hS (fun h14 hS => ?_) (fun h14 hS => ?_)
   ·
    refine Zx ?_
    refine Zq ?_
    cases hS
   refine Zk ?_
   refine VC.fM () [1,3] (fun _ _ h=>h) hS rfl
  refine Zq (Zr (Zy ?_))
  refine Zc hS (fun h14 hS => ?_) (fun h14 hS => ?_)
  ·
   refine Zk ?_
   refine Zc hS (fun h14 hS => ?_) (fun h14 hS => ?_)
   ·
    refine Zx ?_
    refine Zq ?_
    cases hS
   refine Zk ?_
   refine VC.fM () [1,3] (fun _ _ h=>h) hS rfl
  refine Zq (Zr (Zy ?_))
  refine Zc hS (fun h14 hS => ?_) (fun h14 hS => ?_)
  ·
   refine Zk ?_
   refine Zc hS (fun h14 hS => ?_) (fun h14 hS => ?_)
   ·
    refine Zx ?_
    refine Zq ?_
    cases hS
   refine Zk ?_
   refine VC.fM () [1,3] (fun _ _ h=>h) hS rfl
  refine Zr (Zy ?_)
  refine Zc hS (fun h14 hS => ?_) (fun h14 hS => ?_)
  ·
   refine Zx ?_
   refine Zq ?_
   cases hS
  refine Zk ?_
  refine VC.fM () [1,3] (fun _ _ h=>h) hS rfl
 clear hS
 rintro _ hS
 refine Zq (Zq (Zr (Zu (aB aHz rfl) (Zu (aL fL rfl rfl) (Zm (Zu (dW rfl rfl) ?_))))))
 refine Zl ?_
 refine Zc hS (fun h25 hS => ?_) (fun h25 hS => ?_)
 ·
  refine Zq ?_
  cases hS
 refine Zk ?_
 refine Zq (Zr (Zy ?_))
 cases hS
 exact Ze
theorem WH (aA:aK) (gE:aK) {r:Bool} (hS:Sh.GS aA gE=some r) :
 Cp Tryz.prog 267 [str aA,str gE] Mo.tt (.bool r):=by
 refine Zo Tryz.func267 Tryz.ntmps267 fun c => ?_
 unfold Sh.GS at hS
 refine Zq (Zr (Zy ?_))
 refine Zq (Zr (Zy ?_))
 obtain ⟨jO,mD,hS⟩:=aO hS
 refine Zu (cH (GU aA gE mD) rfl (fun _ _=>rfl)) ?_
 refine Zu (vC rfl rfl) (Zy ?_)
 cases hS
 exact Ze
theorem aJM (aA:aK) (aEb:Bool) {r:Int} (hS:Sh.aCx aA aEb=some r) :
 Cp Tryz.prog 206 [str aA,.bool aEb] Mo.tt (i64 r):=by
 refine Zo Tryz.func206 Tryz.ntmps206 fun c => ?_
 unfold Sh.aCx at hS
 refine Zq (Zr (Zy ?_))
 refine Zq (Zb (Zq (Zr (Zm (Zu (pN Tryz.underlying9 rfl) (Zu (lE rfl rfl) (Zy ?_)))))))
 refine Zc hS (fun h5 hS => ?_) (fun h5 hS => ?_)
 ·
  refine Zq ?_
  cases hS
 refine VC.gN (S:=Bool) (fun (uX:Bool)=>uX) (fun (uX:Bool)=>[(0,str aA),(9,.bool uX)]) (fun (uX:Bool)=>Mo.tt) (fun (uX:Bool)=>Ow.emp) hS ?_ ?_
 ·
  clear hS
  intro k2 hS
  refine Zr (Zy ?_)
  refine xJ 11 hS (fun h11 hS => ?_) (fun h11 hS => ?_)
  ·
   refine Zg ?_
   refine Zh (EM rfl rfl) ?_
   refine Zy ?_
   refine VL.mt (decide (aA=[])) [0,9] (fun _ _ h=>h) hS rfl
  refine VL.runs 4 [(9,some false)] (by kernel_rfl) ?_
  refine VL.mt false [0,9] (fun _ _ h=>h) hS rfl
 clear hS
 rintro uX hS
 refine gR hS (fun h9 hS => ?_) (fun h9 hS => ?_)
 ·
  refine Zq ?_
  cases hS
 refine Zq (Zr (Zm ?_))
 obtain ⟨A4,RT,hS⟩:=aO hS
 refine Zu (cH (WH aA [10] RT) rfl (fun _ _=>rfl)) ?_
 refine Zy ?_
 refine gR hS (fun h15 hS => ?_) (fun h15 hS => ?_)
 ·
  refine Zq ?_
  cases hS
 refine Zk ?_
 refine Zq (Zr (Zy ?_))
 cases hS
 exact Ze
theorem aJJ (cC:r9) {r:Int} (hS:Sh.aCu cC.pl=some r) :
 Cp Tryz.prog 154 [.agg #[str cC.verb,str cC.name,i64 cC.n,str cC.text,.bool cC.force,cC.todo.val]] cC.todo.ok (i64 r):=by
 refine Zo Tryz.func154 Tryz.ntmps154 fun c => ?_
 unfold Sh.aCu at hS
 refine Zq (Zr ?_)
 refine kQ [str cC.verb,str cC.name,i64 cC.n,str cC.text,.bool cC.force,cC.todo.val] fun jN => ?_
 refine Zy ?_
 refine Zq (Zq (Zr (Zu (aB sD rfl) (Zu (aL cQ rfl rfl) ?_))))
 refine Zl ?_
 refine Zb ?_
 refine VC.gN (S:=Bool) (fun (aEH:Bool)=>aEH) (fun (aEH:Bool)=>[(1,ptr jN 0),(4,str cC.verb),(5,.bool aEH)]) (fun (aEH:Bool)=>Mo.tt) (fun (aEH:Bool)=>Ow.star (bE jN [str cC.verb,str cC.name,i64 cC.n,str cC.text,.bool cC.force,cC.todo.val] 133) (Ow.emp)) hS ?_ ?_
 ·
  clear hS
  intro k3 hS
  refine Zq (Zr (Zy ?_))
  refine Zc hS (fun h5 hS => ?_) (fun h5 hS => ?_)
  ·
   refine VC.iV (decide (cC.verb=[99,111,109,109,105,116])) [1,4,5] (fun _ _ h=>h) hS rfl
  refine Zr (Zy ?_)
  refine VL.mt (decide (cC.verb=[115,116,97,115,104])) [1,4,5] (fun _ _ h=>h) hS rfl
 clear hS
 rintro aEH hS
 refine gR hS (fun h5 hS => ?_) (fun h5 hS => ?_)
 ·
  refine Zq (Zr (Zu (aB aDF rfl) (Zu (aL cQ rfl rfl) (Zu (aB sD rfl) (Zu (aL cQ rfl rfl) (Zs ?_))))))
  obtain ⟨MO,aJS,hS⟩:=aO hS
  refine Zu (cH (aJM cC.text (decide (cC.verb=[99,111,109,109,105,116])) aJS) rfl (fun _ _=>rfl)) ?_
  refine Zy ?_
  cases hS
  exact Ze
 refine Zq (Zr (Zy ?_))
 refine Zc hS (fun h14 hS => ?_) (fun h14 hS => ?_)
 ·
  refine Zq ?_
  cases hS
 refine Zk ?_
 refine Zq (Zr (Zy ?_))
 cases hS
 exact Ze
theorem YY (cC:r9) {r:kH} (hS:Sh.RJ cC.pl=some r) :
 Ct Tryz.prog 110 [.agg #[str cC.verb,str cC.name,i64 cC.n,str cC.text,.bool cC.force,cC.todo.val]] cC.todo.ok (Ow.emp) (X:=Er) (fun x=>x.val) (fun x=>r=x.pl) (fun x=>x.ok) (fun x=>Ow.emp):=by
 refine Zo Tryz.func110 Tryz.ntmps110 fun c => ?_
 unfold Sh.RJ at hS
 refine Zq (Zr ?_)
 refine kQ [str cC.verb,str cC.name,i64 cC.n,str cC.text,.bool cC.force,cC.todo.val] fun jN => ?_
 refine Zy ?_
 refine Zq (Zq (Zr (Zu (aB sD rfl) (Zu (aL cQ rfl rfl) ?_))))
 obtain ⟨yU,EC,hS⟩:=aO hS
 refine Zu (cH (YZ cC.verb EC) rfl (fun _ _=>rfl)) ?_
 refine Zu (dW rfl rfl) ?_
 refine Zl ?_
 refine Zc hS (fun h8 hS => ?_) (fun h8 hS => ?_)
 ·
  refine Zq ?_
  cases hS
 refine Zk ?_
 refine Zq (Zq ?_)
 refine l9 [(0,true),(1,true),(2,true),(3,true),(4,true),(5,true),(8,true),(6,false),(7,true)] ?_
 refine Zw rfl (cJ rN rfl rfl) ?_
 obtain ⟨B7,RQ,hS⟩:=aO hS
 refine Zw rfl (cH (aJK cC RQ) rfl (fun _ _=>rfl)) ?_
 refine Zw rfl (cJ rN rfl rfl) ?_
 obtain ⟨HL,aBI,hS⟩:=aO hS
 refine Zw rfl (cH (aFO cC aBI) rfl (fun _ _=>rfl)) ?_
 refine Zw rfl (cJ rN rfl rfl) ?_
 obtain ⟨HM,RU,hS⟩:=aO hS
 refine Zw rfl (cH (aJJ cC RU) rfl (fun _ _=>rfl)) ?_
 refine Zw rfl (bB rfl) ?_
 refine VD.one rfl ?_
 refine VL.lit (α:=Int) (xs:=[.tmp 13,.tmp 15,.tmp 17]) (vs:=[i64 B7,i64 HL,i64 HM]) [B7,HL,HM] Tryz.underlying235 a1L (by decide) rfl rfl rfl rfl (by decide) (fun _ _ _ _=>trivial) (by decide) (fun aA7 a1e => ?_) (by decide)
 replace hS:=bW a1e hS
 refine jH ?_
 refine Zw rfl (eB (s:=aA7) Tryz.underlying235 rfl) ?_
 refine VD.to (fun _ _ h=>h) ?_
 refine VC.keep (ρ':=[(1,ptr jN 0),(20,i64 0),(18,aA7.val),(19,i64 (aA7.l.length:Int))]) [1,20,18,19] rfl ?_
 refine Zb ?_
 refine VC.iter (S:=Int) (fun (JL:Int)=>JL) (fun (JL:Int)=>[(1,ptr jN 0),(18,aA7.val),(19,i64 (aA7.l.length:Int)),(20,i64 JL)]) (fun (JL:Int)=>Mo.tt) (fun (JL:Int)=>Ow.star (bE jN [str cC.verb,str cC.name,i64 cC.n,str cC.text,.bool cC.force,cC.todo.val] 133) (Ow.emp)) 0 [1,18,19,20] hS rfl ?_
 clear hS
 rintro JL m1 y1 hS hK1
 refine Zq (Zr (Zu (dW rfl rfl) ?_))
 refine Zl ?_
 refine Zq ?_
 refine Zc hS (fun h21 hS => ?_) (fun h21 hS => ?_)
 ·
  refine Zk ?_
  refine Zq (Zb (Zq (Zr ?_)))
  obtain ⟨aZd,aQp,aQN,hS⟩:=fA hS
  refine Zu (eZ (s:=aA7) Tryz.underlying235 a5P rfl rfl aQp (bH aQp aQN)) (Zu (zW (s:=aA7) a1P rfl aQN rfl) (Zy ?_))
  refine Zq (Zr (Zm (Zu (lF rfl rfl) ?_)))
  refine Zl ?_
  refine o3 hS (fun h25 hS => ?_) (fun h25 hS => ?_)
  ·
   refine Zq ?_
   cases hS
  refine Zk ?_
  refine Zr ?_
  obtain ⟨b30,hS⟩:=bU hS
  refine Zu (cR rfl rfl b30) (Zm ?_)
  refine VL.jU (JL+1) [1,18,19,20] (fun _ _ h=>h) (go2 hS hK1) rfl
 replace hS:=iJ hS hK1
 refine Zx ?_
 refine Zq (Zr (Zy ?_))
 cases hS
 exact VC.ret (Z1 .nil)
theorem aH0 (aA:aK) {r:qU×kH} (hS:Sh.Z5 aA=some r) :
 Ct Tryz.prog 57 [str aA] Mo.tt (Ow.emp) (X:=r9×Er) (fun x => .tuple #[.agg (bM.enc x.1).toArray,x.2.val]) (fun x=>r=(x.1.pl,x.2.pl)) (fun x=>(x.1.m.and x.2.ok)) (fun x=>Ow.emp):=by
 refine Zo Tryz.func57 Tryz.ntmps57 fun c => ?_
 unfold Sh.Z5 at hS
 refine Zq (Zr ?_)
 refine gV [str [],str [],i64 0,str [],.bool false,.slice none 0 0] fun fJ => ?_
 refine Zy ?_
 refine Zq (Zr (Zm ?_))
 obtain ⟨C9,aJT,hS⟩:=aO hS
 refine Zu (cH (T0 aA [10] aJT) rfl (fun _ _=>rfl)) ?_
 refine Zm (Zu (aV rfl rfl) (Zu (aV rfl rfl) (Zu (aV rfl rfl) (Zy ?_))))
 refine VC.keep (ρ':=[(2,ptr fJ 0),(4,str C9.1),(5,str C9.2.1),(6,.bool C9.2.2)]) [2,4,5,6] rfl ?_
 refine Zq (Zr (Zm ?_))
 obtain ⟨EW,aJ0,hS⟩:=aO hS
 refine VL.dK (aJL C9.1 aJ0) rfl (by decide) ?_
 rintro ⟨iP,aYE⟩ rfl
 try dsimp only
 refine Zm (Zu (aV rfl rfl) (Zu (aV rfl rfl) ?_))
 refine gV [str [],str [],i64 0,str [],.bool false,.slice none 0 0] fun aEz => ?_
 refine Zv (cs':=[str iP.verb,str iP.name,i64 iP.n,str iP.text,.bool iP.force,iP.todo.val]) rfl R7 ?_
 refine Zy ?_
 refine Zq (Zb (Zq (Zr (Zu (aB sD rfl) (Zu (aL cQ rfl rfl) ?_)))))
 obtain ⟨aPO,a0W,hS⟩:=aO hS
 refine Zu (cH (YZ iP.verb a0W) rfl (fun _ _=>rfl)) ?_
 refine Zu (dW rfl rfl) (Zy ?_)
 refine VC.keep (ρ':=[(2,ptr fJ 0),(5,str C9.2.1),(6,.bool C9.2.2),(7,ptr aEz 0),(8,.bool aYE),(23,.bool (decide (aPO < 0)))]) [2,5,6,7,8,23] rfl ?_
 refine Zc hS (fun h23 hS => ?_) (fun h23 hS => ?_)
 ·
  refine Zq ?_
  cases hS
 refine VC.gN (S:=Bool) (fun (WZ:Bool)=>WZ) (fun (WZ:Bool)=>[(2,ptr fJ 0),(5,str C9.2.1),(7,ptr aEz 0),(32,.bool WZ)]) (fun (WZ:Bool)=>Mo.tt) (fun (WZ:Bool)=>Ow.star (bE aEz [str iP.verb,str iP.name,i64 iP.n,str iP.text,.bool iP.force,iP.todo.val] 133) (Ow.star (bE fJ [str [],str [],i64 0,str [],.bool false,.slice none 0 0] 133) (Ow.emp))) hS ?_ ?_
 ·
  clear hS
  intro k7 hS
  refine Zr (Zm (Zu (jE rfl) (Zm ?_)))
  refine xJ 35 hS (fun h35 hS => ?_) (fun h35 hS => ?_)
  ·
   refine VL.runs 8 [(32,some true)] (by kernel_rfl) ?_
   refine VL.mt true [2,5,7,32] (fun _ _ h=>h) hS rfl
  refine Zy ?_
  refine xJ 37 hS (fun h37 hS => ?_) (fun h37 hS => ?_)
  ·
   refine Zh (aB sD rfl) ?_
   refine Zh (aL cQ rfl rfl) ?_
   refine Zh (vD rfl rfl) ?_
   refine Zh (gS rfl rfl) ?_
   refine Zy ?_
   refine VL.mt (!decide (iP.verb=[114,101,98,97,115,101])) [2,5,7,32] (fun _ _ h=>h) hS rfl
  refine VL.runs 3 [(40,none)] (by kernel_rfl) ?_
  refine Zh (gL rfl rfl) ?_
  refine Zy ?_
  refine VL.mt false [2,5,7,32] (fun _ _ h=>h) hS rfl
 clear hS
 rintro WZ hS
 refine gR hS (fun h32 hS => ?_) (fun h32 hS => ?_)
 ·
  refine Zq ?_
  cases hS
 refine Zq (Zr (Zu (aB sD rfl) (Zu (aL cQ rfl rfl) (Zy ?_))))
 refine Zc hS (fun h47 hS => ?_) (fun h47 hS => ?_)
 ·
  refine Zq ?_
  cases hS
 refine Zk ?_
 refine Zq (Zq (Zr (Zu (cJ rN rfl rfl) ?_)))
 obtain ⟨aZ6,a1D,hS⟩:=aO hS
 refine VL.dK (YY iP a1D) rfl (by decide) ?_
 rintro aYZ rfl
 try dsimp only
 refine Zy ?_
 refine VC.keep (ρ':=[(2,ptr fJ 0),(7,ptr aEz 0),(11,aYZ.val)]) [2,7,11] rfl ?_
 refine Zq (Zr (Zm (Zu (o5 Tryz.underlying27 rfl) ?_)))
 refine Zl ?_
 refine o3 hS (fun h67 hS => ?_) (fun h67 hS => ?_)
 ·
  refine Zq ?_
  cases hS
 refine Zk ?_
 refine Zq (Zr (Zu (cJ rN rfl rfl) ?_))
 refine Zv (cs':=[str iP.verb,str iP.name,i64 iP.n,str iP.text,.bool iP.force,iP.todo.val]) rfl R7 ?_
 refine Zy ?_
 cases hS
 exact VC.ret (Z3 (⟨iP.verb,iP.name,iP.n,iP.text,iP.force,iP.todo⟩,.nil) [.agg #[str iP.verb,str iP.name,i64 iP.n,str iP.text,.bool iP.force,iP.todo.val],.nilIface] (fI.cell rN rfl rfl Rd.blk (fI.tmp rfl (fI.nil))))
theorem aG9 (fF:Sv aE) (p_1:aK) {r:Bool} (hS:Sh.V4 fF.l p_1=some r) :
 Cp Tryz.prog 212 [fF.val,str p_1] fF.ok (.bool r):=by
 refine Zo Tryz.func212 Tryz.ntmps212 fun c => ?_
 unfold Sh.V4 at hS
 refine Zq (Zr ?_)
 refine kQ [str p_1] fun jC => ?_
 refine Zy ?_
 refine Zq ?_
 cases hS
theorem kJ (aA:Sv aE) {r:List aE} (hS:Sh.fT aA.l=some r) :
 Ct Tryz.prog 30 [aA.val] aA.ok (Ow.emp) (X:=Sv aE) (fun x=>x.val) (fun x=>r=x.l) (fun x=>Mo.tt) (fun x=>Sv.own x 103):=by
 refine Zo Tryz.func30 Tryz.ntmps30 fun c => ?_
 unfold Sh.fT at hS
 refine Zq (Zr (Zy ?_))
 refine Zq (Zq (Zr (Zm (Zu (IZ (s:=aA) Tryz.underlying36 rfl) ?_))))
 refine Zl ?_
 refine VC.slnil (s:=aA) rfl (fun h4 => ?_) ?_
 ·
  have hS:(some [])=some r:=by
    simp [lt,gd,h4] at hS ⊢
    try exact hS
  refine Zq (Zr (Zy ?_))
  refine VC.nU (⟨none,0,[]⟩:Sv aE) 103 ⟨rfl,rfl⟩ ?_
  cases hS
  exact VC.ret (Z1 ⟨none,0,[]⟩)
 refine Zk ?_
 refine Zq (Zr ?_)
 refine VL.aEE (α:=aE) Tryz.underlying36 aW3 (by decide) (fun BX s6 zE => ?_)
 refine VL.nU BX 103 ⟨zE,s6⟩ ?_
 replace hS:=bW s6 hS
 refine Zm ?_
 obtain ⟨b7,hS⟩:=bU hS
 refine VL.app (s:=BX) (r:=aA) Tryz.underlying36 UP (by decide) rfl Fo.out (wM b7) (wN b7 (by decide)) (by decide) (fun MB CY => ?_)
 replace hS:=bW CY hS
 refine Zy ?_
 cases hS
 exact VC.ret (Z1 MB)
theorem aEK (fY:aE) (e_1:aE) {r:Bool} (hS:Sh.J9 fY e_1=some r) :
 Cp Tryz.prog 129 [.agg #[str fY.path,i64 fY.eM,i64 fY.mode,str fY.data,i64 fY.time,i64 fY.size],.agg #[str e_1.path,i64 e_1.eM,i64 e_1.mode,str e_1.data,i64 e_1.time,i64 e_1.size]] Mo.tt (.bool r):=by
 refine Zo Tryz.func129 Tryz.ntmps129 fun c => ?_
 unfold Sh.J9 at hS
 refine Zq (Zr ?_)
 refine kQ [str fY.path,i64 fY.eM,i64 fY.mode,str fY.data,i64 fY.time,i64 fY.size] fun fJ => ?_
 refine kQ [str e_1.path,i64 e_1.eM,i64 e_1.mode,str e_1.data,i64 e_1.time,i64 e_1.size] fun lI => ?_
 refine Zy ?_
 refine Zq (Zb (Zq (Zr (Zu (aB tG rfl) (Zu (aL cQ rfl rfl) (Zu (aB tG rfl) (Zu (aL cQ rfl rfl) ?_)))))))
 obtain ⟨tC,J3,hS⟩:=aO hS
 refine Zu (cH (rQ fY.path e_1.path J3) rfl (fun _ _=>rfl)) ?_
 refine Zy ?_
 refine VC.keep (ρ':=[(2,ptr fJ 0),(3,ptr lI 0),(5,.bool tC)]) [2,3,5] rfl ?_
 refine gR hS (fun h5 hS => ?_) (fun h5 hS => ?_)
 ·
  refine Zq (Zr (Zy ?_))
  cases hS
  exact Ze
 refine Zq (Zr (Zu (aB tG rfl) (Zu (aL cQ rfl rfl) (Zu (aB tG rfl) (Zu (aL cQ rfl rfl) (Zu (vD rfl rfl) (Zy ?_)))))))
 refine o3 hS (fun h11 hS => ?_) (fun h11 hS => ?_)
 ·
  refine Zq (Zr (Zy ?_))
  cases hS
  exact Ze
 refine Zk ?_
 refine Zq (Zq (Zr (Zu (aB xN rfl) (Zu (aL fL rfl rfl) ?_))))
 refine Zl ?_
 refine VC.keep (ρ':=[(2,ptr fJ 0),(3,ptr lI 0),(18,i64 e_1.eM)]) [2,3,18] rfl ?_
 refine Zb ?_
 refine VC.gN (S:=Unit) (fun (_:Unit)=>()) (fun (_:Unit)=>[(2,ptr fJ 0),(3,ptr lI 0)]) (fun (_:Unit)=>Mo.tt) (fun (_:Unit)=>Ow.star (bE lI [str e_1.path,i64 e_1.eM,i64 e_1.mode,str e_1.data,i64 e_1.time,i64 e_1.size] 103) (Ow.star (bE fJ [str fY.path,i64 fY.eM,i64 fY.mode,str fY.data,i64 fY.time,i64 fY.size] 103) (Ow.emp))) hS ?_ ?_
 ·
  clear hS
  intro k4 hS
  refine Zb (Zb (Zb (Zq (Zq (Zq (Zr (Zu (iI rfl rfl) (Zy ?_))))))))
  refine Zc hS (fun h19 hS => ?_) (fun h19 hS => ?_)
  ·
   refine VC.fM () [2,3] (fun _ _ h=>h) hS rfl
  refine Zk ?_
  refine Zq (Zq (Zr (Zu (iI rfl rfl) (Zy ?_))))
  refine Zc hS (fun h21 hS => ?_) (fun h21 hS => ?_)
  ·
   refine VC.fM () [2,3] (fun _ _ h=>h) hS rfl
  refine Zk ?_
  refine Zq (Zr (Zu (iI rfl rfl) (Zy ?_)))
  refine Zc hS (fun h23 hS => ?_) (fun h23 hS => ?_)
  ·
   refine VC.fM () [2,3] (fun _ _ h=>h) hS rfl
  refine Zk ?_
  refine Zx ?_
  refine Zq (Zr (Zy ?_))
  cases hS
  exact Ze
 clear hS
 rintro _ hS
 refine Zq (Zq (Zr (Zu (aB xN rfl) (Zu (aL fL rfl rfl) (Zu (iI rfl rfl) (Zm ?_))))))
 refine o4 28 hS (fun h28 hS => ?_) (fun h28 hS => ?_)
 ·
  refine VL.runs 7 [(4,some true)] (by kernel_rfl) ?_
  refine Zl ?_
  cases hS
  exact Ze
 refine Zh (aB xN rfl) ?_
 refine Zh (aL fL rfl rfl) ?_
 refine Zh (aB xN rfl) ?_
 refine Zh (aL fL rfl rfl) ?_
 refine Zh (iI rfl rfl) ?_
 refine Zy ?_
 refine VC.keep (ρ':=[(4,.bool (decide (fY.eM=e_1.eM)))]) [4] rfl ?_
 cases hS
 exact Ze
theorem TS (fY:aE) (jA:Nat) (a_1:aE) {r:Bool} (hS:Sh.vW fY a_1=some r) :
 Cp Tryz.prog 128 [.agg #[str fY.path,i64 fY.eM,i64 fY.mode,str fY.data,i64 fY.time,i64 fY.size],ptr jA 0] (Cells jA 0 [str a_1.path,i64 a_1.eM,i64 a_1.mode,str a_1.data,i64 a_1.time,i64 a_1.size]) (.bool r):=by
 refine Zo Tryz.func128 Tryz.ntmps128 fun c => ?_
 unfold Sh.vW at hS
 refine Zq (Zr ?_)
 refine kQ [str fY.path,i64 fY.eM,i64 fY.mode,str fY.data,i64 fY.time,i64 fY.size] fun fJ => ?_
 refine Zy ?_
 refine Zq (Zr (Zu (cJ oE rfl rfl) (Zu (a5n oE rfl rfl) ?_)))
 obtain ⟨N5,aAB,hS⟩:=aO hS
 refine Zu (cH (aEK fY a_1 aAB) rfl (fun _ _=>rfl)) ?_
 refine Zy ?_
 cases hS
 exact Ze
theorem yJ (aA:Sv aE) (eF:Nat) (fD:aE) {r:Int} (hS:Sh.iS aA.l fD=some r) :
 Cp Tryz.prog 127 [aA.val,.func (.func 128) #[] #[ptr eF 0]] (aA.ok.and (Cells eF 0 [str fD.path,i64 fD.eM,i64 fD.mode,str fD.data,i64 fD.time,i64 fD.size])) (i64 r):=by
 refine Zo Tryz.func127 Tryz.ntmps127 fun c => ?_
 unfold Sh.iS at hS
 refine Zq (Zr (Zy ?_))
 refine Zq (Zq (Zr (Zm (Zu (eB (s:=aA) Tryz.underlying36 rfl) (Zy ?_)))))
 refine Zb ?_
 refine VC.iter (S:=Int) (fun (cV:Int)=>cV) (fun (cV:Int)=>[(0,aA.val),(1,.func (.func 128) #[] #[ptr eF 0]),(7,i64 (aA.l.length:Int)),(8,i64 cV)]) (fun (cV:Int)=>Mo.tt) (fun (cV:Int)=>Ow.emp) 0 [0,1,7,8] hS rfl ?_
 clear hS
 rintro cV m1 y1 hS hK1
 refine Zq (Zr (Zu (dW rfl rfl) ?_))
 refine Zl ?_
 refine Zq ?_
 refine Zc hS (fun h9 hS => ?_) (fun h9 hS => ?_)
 ·
  refine Zk ?_
  refine Zq (Zb (Zq (Zr (Zy ?_))))
  refine Zq (Zr (Zy ?_))
  obtain ⟨eV,nC,lU,hS⟩:=fA hS
  refine Zu (eZ (s:=aA) Tryz.underlying36 jD rfl rfl nC (bH nC lU)) (Zu (nX (s:=aA) oE rfl rfl lU) ?_)
  obtain ⟨iA,rG,hS⟩:=aO hS
  refine Zu (tJ (vs:=[.agg #[str eV.path,i64 eV.eM,i64 eV.mode,str eV.data,i64 eV.time,i64 eV.size]]) (caps:=[ptr eF 0]) (TS eV eF fD rG) rfl rfl (fun _ _=>rfl)) ?_
  refine Zl ?_
  refine VC.keep (ρ':=[(0,aA.val),(1,.func (.func 128) #[] #[ptr eF 0]),(7,i64 (aA.l.length:Int)),(8,i64 cV),(5,i64 cV),(16,.bool iA)]) [0,1,7,8,5,16] rfl ?_
  refine gR hS (fun h16 hS => ?_) (fun h16 hS => ?_)
  ·
   refine Zq (Zr (Zy ?_))
   replace hS:=iJ hS hK1
   cases hS
   exact Ze
  refine Zk ?_
  refine Zr ?_
  obtain ⟨b18,hS⟩:=bU hS
  refine Zu (cR rfl rfl b18) (Zm ?_)
  refine VL.jU (cV+1) [0,1,7,8] (fun _ _ h=>h) (go2 hS hK1) rfl
 replace hS:=iJ hS hK1
 refine Zx ?_
 refine Zq (Zr (Zy ?_))
 cases hS
 exact Ze
theorem wY (aA:Sv aE) (cY:Nat) (dY:aE) {r:List aE} (hS:Sh.iN aA.l dY=some r) :
 Ct Tryz.prog 73 [aA.val,.func (.func 128) #[] #[ptr cY 0]] Mo.tt (Ow.star (Sv.own aA 103) (bE cY [str dY.path,i64 dY.eM,i64 dY.mode,str dY.data,i64 dY.time,i64 dY.size] 103)) (X:=Sv aE) (fun x=>x.val) (fun x=>r=x.l) (fun x=>Mo.tt) (fun x=>Ow.star (Sv.own x 103) (bE cY [str dY.path,i64 dY.eM,i64 dY.mode,str dY.data,i64 dY.time,i64 dY.size] 103)):=by
 refine Zo Tryz.func73 Tryz.ntmps73 fun c => ?_
 unfold Sh.iN at hS
 refine Zq (Zr (Zy ?_))
 refine Zq (Zr (Zy ?_))
 obtain ⟨dA,mC,hS⟩:=aO hS
 refine Zu (rT (yJ aA cY dY mC) rfl (fun _ _=>rfl)) ?_
 refine Zy ?_
 refine Zq (Zq (Zr (Zm (Zu (iI rfl rfl) ?_))))
 refine Zl ?_
 refine Zc hS (fun h12 hS => ?_) (fun h12 hS => ?_)
 ·
  refine Zq (Zr (Zy ?_))
  cases hS
  exact VC.ret (Z1 aA)
 refine Zk ?_
 refine Zq (Zq (Zr (Zm ?_)))
 obtain ⟨b15,hS⟩:=bU hS
 refine Zu (cR rfl rfl b15) (Zy ?_)
 refine VC.keep (ρ':=[(0,aA.val),(1,.func (.func 128) #[] #[ptr cY 0]),(5,i64 dA),(6,i64 (dA+1))]) [0,1,5,6] rfl ?_
 refine Zb ?_
 refine VC.iter (S:=Sv aE×Int×Int) (fun sg=>(sg.1.l,sg.2.1,sg.2.2)) (fun sg=>[(0,sg.1.val),(1,.func (.func 128) #[] #[ptr cY 0]),(5,i64 sg.2.1),(6,i64 sg.2.2)]) (fun sg=>Mo.tt) (fun sg=>Ow.star (bE cY [str dY.path,i64 dY.eM,i64 dY.mode,str dY.data,i64 dY.time,i64 dY.size] 103) (Ow.star (Sv.own sg.1 103) (Ow.emp))) (aA,dA,(dA+1)) [0,1,5,6] hS rfl ?_
 clear hS
 rintro ⟨eT,gF,kV⟩ m1 y1 hS hK1
 refine Zq (Zq (Zr (Zy ?_)))
 refine Zu (eB (s:=eT) Tryz.underlying36 rfl) (Zu (dW rfl rfl) ?_)
 refine Zl ?_
 refine Zc hS (fun h19 hS => ?_) (fun h19 hS => ?_)
 ·
  refine Zk ?_
  refine VC.gN (S:=Sv aE×Int) (fun sg=>(sg.1.l,sg.2)) (fun sg=>[(0,sg.1.val),(1,.func (.func 128) #[] #[ptr cY 0]),(5,i64 sg.2),(6,i64 kV)]) (fun sg=>Mo.tt) (fun sg=>Ow.star (bE cY [str dY.path,i64 dY.eM,i64 dY.mode,str dY.data,i64 dY.time,i64 dY.size] 103) (Ow.star (Sv.own sg.1 103) (Ow.emp))) hS ?_ ?_
  ·
   clear hS
   intro k7 hS
   refine Zb (Zq (Zr (Zy ?_)))
   obtain ⟨dN,vX,vV,hS⟩:=fA hS
   refine Zu (lN (s:=eT) Tryz.underlying36 jD rfl rfl vX (bH vX vV)) (Zu (X5 (s:=eT) oE rfl rfl vV) ?_)
   refine gV [str [],i64 0,i64 0,str [],i64 0,i64 0] fun aFA => ?_
   refine Zv (cs':=[str dN.path,i64 dN.eM,i64 dN.mode,str dN.data,i64 dN.time,i64 dN.size]) rfl jD ?_
   refine Zl ?_
   refine VC.keep (ρ':=[(0,eT.val),(1,.func (.func 128) #[] #[ptr cY 0]),(5,i64 gF),(6,i64 kV),(7,ptr aFA 0)]) [0,1,5,6,7] rfl ?_
   refine Zq (Zr (Zm (Zu (cJ oE rfl rfl) ?_)))
   obtain ⟨BB,FR,hS⟩:=aO hS
   refine Zu (tJ (vs:=[.agg #[str dN.path,i64 dN.eM,i64 dN.mode,str dN.data,i64 dN.time,i64 dN.size]]) (caps:=[ptr cY 0]) (TS dN cY dY FR) rfl rfl (fun _ _=>rfl)) ?_
   refine Zu (jE rfl) ?_
   refine Zl ?_
   refine gR hS (fun h29 hS => ?_) (fun h29 hS => ?_)
   ·
    refine Zq (Zr (Zy ?_))
    refine Zu (cJ oE rfl rfl) ?_
    obtain ⟨TP,BS,BM,hS⟩:=fA hS
    refine Zu (lN (s:=eT) Tryz.underlying36 jD rfl rfl BS (bH BS BM)) ?_
    refine VL.wJ (s:=eT) (T:=103) (j:=0) (vc:=[str dN.path,i64 dN.eM,i64 dN.mode,str dN.data,i64 dN.time,i64 dN.size]) (⟨dN.path,dN.eM,dN.mode,dN.data,dN.time,dN.size⟩:aE) (by decide) rfl rfl BM rfl jD rfl rfl (Nat.le_of_ble_eq_true rfl) rfl (fun w12 hw12 haw12 hcw12 hvw12 hbw12 how12 => ?_)
    rw [← hvw12]
    replace hS:=bW hw12 hS
    refine Zl ?_
    refine VC.keep (ρ':=[(0,w12.val),(1,.func (.func 128) #[] #[ptr cY 0]),(5,i64 gF),(6,i64 kV)]) [0,1,5,6] rfl ?_
    refine Zr (Zm ?_)
    obtain ⟨b35,hS⟩:=bU hS
    refine Zu (cR rfl rfl b35) (Za ?_)
    refine VL.mt (w12,(gF+1)) [0,1,5,6] (fun _ _ h=>h) hS rfl
   refine VC.iV (eT,gF) [0,1,5,6] (fun _ _ h=>h) hS rfl
  clear hS
  rintro ⟨BW,BN⟩ hS
  refine Zr (Zm ?_)
  obtain ⟨b21,hS⟩:=bU hS
  refine Zu (cR rfl rfl b21) (Za ?_)
  refine VL.jU (BW,BN,(kV+1)) [0,1,5,6] (fun _ _ h=>h) (go2 hS hK1) rfl
 replace hS:=iJ hS hK1
 refine Zx ?_
 refine Zq (Zr (Zy ?_))
 obtain ⟨b38,hS⟩:=bU hS
 refine VL.fits (s:=eT) (e:=103) Fo.out fun FU => ?_
 refine Zu (KC (s:=eT) Tryz.underlying36 jD rfl rfl b38.1 b38.2 FU) ?_
 refine VL.aHs (s:=eT) (i:=gF.toNat) (.agg #[str [],i64 0,i64 0,str [],i64 0,i64 0]) Tryz.underlying36 aPq rfl rfl rfl (by have:=b38; dsimp only at this ⊢; omega) Fo.out fun GJ LL MK => ?_
 replace hS:=bW LL hS
 refine Zl ?_
 refine VC.keep (ρ':=[(0,eT.val),(5,i64 gF)]) [0,5] rfl ?_
 refine Zq (Zr (Zy ?_))
 refine Zu (X4 (s:=eT) (q:=GJ) Tryz.underlying36 jD rfl rfl b38.1 b38.2 FU MK) (Zy ?_)
 cases hS
 exact VC.ret (Z1 GJ)
theorem MZ (fY:Int) {r:Bool} (hS:Sh.cmp_isNaN_int fY=some r) :
 Cp Tryz.prog 249 [i64 fY] Mo.tt (.bool r):=by
 refine Zo Tryz.func249 Tryz.ntmps249 fun c => ?_
 unfold Sh.cmp_isNaN_int at hS
 refine Zq (Zr (Zy ?_))
 refine Zq (Zr (Zy ?_))
 refine Zu (lF rfl rfl) (Zy ?_)
 cases hS
 exact Ze
theorem YO (fY:Int) (z7:Int) {r:Int} (hS:Sh.xK fY z7=some r) :
 Cp Tryz.prog 183 [i64 fY,i64 z7] Mo.tt (i64 r):=by
 refine Zo Tryz.func183 Tryz.ntmps183 fun c => ?_
 unfold Sh.xK at hS
 refine Zq (Zr (Zy ?_))
 refine Zq (Zr (Zm ?_))
 obtain ⟨uL,G8,hS⟩:=aO hS
 refine Zu (cH (MZ fY G8) rfl (fun _ _=>rfl)) ?_
 refine Zy ?_
 refine Zq (Zr (Zm ?_))
 obtain ⟨gD,FQ,hS⟩:=aO hS
 refine Zu (cH (MZ z7 FQ) rfl (fun _ _=>rfl)) ?_
 refine Zy ?_
 refine Zq (Zq (Zr (Zy ?_)))
 refine gR hS (fun h11 hS => ?_) (fun h11 hS => ?_)
 ·
  refine Zq (Zq (Zr (Zy ?_)))
  refine VC.keep (ρ':=[(12,.bool gD)]) [12] rfl ?_
  refine gR hS (fun h12 hS => ?_) (fun h12 hS => ?_)
  ·
   refine Zq (Zr (Zy ?_))
   cases hS
   exact Ze
  refine Zk ?_
  refine Zq (Zr (Zy ?_))
  cases hS
  exact Ze
 refine Zk ?_
 refine Zq (Zq (Zr (Zy ?_)))
 refine VC.keep (ρ':=[(0,i64 fY),(1,i64 z7),(13,.bool gD)]) [0,1,13] rfl ?_
 refine gR hS (fun h13 hS => ?_) (fun h13 hS => ?_)
 ·
  refine Zq (Zr (Zy ?_))
  cases hS
  exact Ze
 refine Zk ?_
 refine Zq (Zq (Zr (Zy ?_)))
 refine Zu (dW rfl rfl) ?_
 refine Zl ?_
 refine Zc hS (fun h16 hS => ?_) (fun h16 hS => ?_)
 ·
  refine Zq (Zr (Zy ?_))
  cases hS
  exact Ze
 refine Zk ?_
 refine Zq (Zq (Zr (Zy ?_)))
 refine Zu (lE rfl rfl) ?_
 refine Zl ?_
 refine Zc hS (fun h19 hS => ?_) (fun h19 hS => ?_)
 ·
  refine Zq (Zr (Zy ?_))
  cases hS
  exact Ze
 refine Zk ?_
 refine Zq (Zr (Zy ?_))
 cases hS
 exact Ze
theorem aFP (CP:Sv Int) {r:Int} (hS:Sh.H8 CP.l=some r) :
 Cp Tryz.prog 182 [CP.val] CP.ok (i64 r):=by
 refine Zo Tryz.func182 Tryz.ntmps182 fun c => ?_
 unfold Sh.H8 at hS
 refine Zq (Zr (Zy ?_))
 refine Zq (Zr (Zy ?_))
 refine Zq (Zq (Zr (Zm (Zu (eB (s:=CP) Tryz.underlying83 rfl) (Zy ?_)))))
 refine Zb ?_
 refine VC.iter (S:=Int) (fun (cV:Int)=>cV) (fun (cV:Int)=>[(3,i64 0),(6,CP.val),(7,i64 (CP.l.length:Int)),(8,i64 cV)]) (fun (cV:Int)=>Mo.tt) (fun (cV:Int)=>Ow.emp) 0 [3,6,7,8] hS rfl ?_
 clear hS
 rintro cV m1 y1 hS hK1
 refine Zq (Zr (Zu (dW rfl rfl) ?_))
 refine Zl ?_
 refine Zq ?_
 refine Zc hS (fun h9 hS => ?_) (fun h9 hS => ?_)
 ·
  refine Zk ?_
  refine Zq (Zb (Zq (Zr ?_)))
  obtain ⟨aKu,aQ5,aPt,hS⟩:=fA hS
  refine Zu (eZ (s:=CP) Tryz.underlying83 DE rfl rfl aQ5 (bH aQ5 aPt)) (Zu (zW (s:=CP) fL rfl aPt rfl) (Zy ?_))
  refine Zq (Zr (Zy ?_))
  refine Zu (lF rfl rfl) ?_
  refine Zl ?_
  refine o3 hS (fun h14 hS => ?_) (fun h14 hS => ?_)
  ·
   refine Zq (Zr (Zy ?_))
   refine VC.keep (ρ':=[(2,i64 aKu)]) [2] rfl ?_
   replace hS:=iJ hS hK1
   cases hS
   exact Ze
  refine Zk ?_
  refine VC.keep (ρ':=[(3,i64 0),(6,CP.val),(7,i64 (CP.l.length:Int)),(8,i64 cV)]) [3,6,7,8] rfl ?_
  refine Zr ?_
  obtain ⟨b16,hS⟩:=bU hS
  refine Zu (cR rfl rfl b16) (Zm ?_)
  refine VL.jU (cV+1) [3,6,7,8] (fun _ _ h=>h) (go2 hS hK1) rfl
 replace hS:=iJ hS hK1
 refine Zx ?_
 refine Zq (Zr (Zy ?_))
 cases hS
 exact Ze
theorem aBj (bZ:aE) (b_1:aE) {r:Int} (hS:Sh.BO bZ b_1=some r) :
 Cp Tryz.prog 130 [.agg #[str bZ.path,i64 bZ.eM,i64 bZ.mode,str bZ.data,i64 bZ.time,i64 bZ.size],.agg #[str b_1.path,i64 b_1.eM,i64 b_1.mode,str b_1.data,i64 b_1.time,i64 b_1.size]] Mo.tt (i64 r):=by
 refine Zo Tryz.func130 Tryz.ntmps130 fun c => ?_
 unfold Sh.BO at hS
 refine Zq (Zr ?_)
 refine kQ [str bZ.path,i64 bZ.eM,i64 bZ.mode,str bZ.data,i64 bZ.time,i64 bZ.size] fun fJ => ?_
 refine kQ [str b_1.path,i64 b_1.eM,i64 b_1.mode,str b_1.data,i64 b_1.time,i64 b_1.size] fun lI => ?_
 refine Zy ?_
 refine Zq ?_
 refine l9 [(0,true),(1,true),(2,true),(3,true),(4,true),(5,true),(6,true),(7,true),(8,true),(9,true),(10,false),(11,true),(12,true)] ?_
 refine Zw rfl (aB tG rfl) ?_
 refine Zw rfl (aL cQ rfl rfl) ?_
 refine Zw rfl (aB tG rfl) ?_
 refine Zw rfl (aL cQ rfl rfl) ?_
 obtain ⟨XF,a5G,hS⟩:=aO hS
 refine Zw rfl (cH (HC bZ.path b_1.path a5G) rfl (fun _ _=>rfl)) ?_
 refine Zw rfl (aB xN rfl) ?_
 refine Zw rfl (aL fL rfl rfl) ?_
 refine Zw rfl (aB xN rfl) ?_
 refine Zw rfl (aL fL rfl rfl) ?_
 obtain ⟨aAe,aJU,hS⟩:=aO hS
 refine Zw rfl (cH (YO bZ.eM b_1.eM aJU) rfl (fun _ _=>rfl)) ?_
 refine VD.one rfl ?_
 refine VL.lit (α:=Int) (xs:=[.tmp 9,.tmp 14]) (vs:=[i64 XF,i64 aAe]) [XF,aAe] Tryz.underlying83 oS (by decide) rfl rfl rfl rfl (by decide) (fun _ _ _ _=>trivial) (by decide) (fun a6C a18 => ?_) (by decide)
 replace hS:=bW a18 hS
 refine jH ?_
 obtain ⟨aHA,aZy,hS⟩:=aO hS
 refine Zw rfl (cH (aFP a6C aZy) rfl (fun _ _=>rfl)) ?_
 refine Zw rfl (gI rfl) ?_
 refine VD.to (fun _ _ h=>h) ?_
 refine VC.keep (ρ':=[(4,i64 aHA)]) [4] rfl ?_
 cases hS
 exact Ze
theorem aH6 (s v:Sv aE) (i:Int) (hi:0≤i∧i≤(s.l.length:Int)) (hv:v.l≠[]) (hb:s.l.length+v.l.length≤4294967296):Ct Tryz.prog 131 [s.val,i64 i,v.val] Mo.tt (Ow.star (s.own 103) (v.own 103)) (X:=Sv aE) (fun q=>q.val) (fun q=>q.l=s.l.take i.toNat++v.l++s.l.drop i.toNat) (fun _=>Mo.tt) (fun q=>q.own 103):=by
 refine Zo Tryz.func131 Tryz.ntmps131 fun c => ?_
 have hvp:0 < v.l.length:=List.length_pos_iff.2 hv
 have hK:bM.sz aE=6:=rfl
 refine Zq (Zr (Zy ?_))
 refine Zq (Zr (Zy ?_))
 refine VL.fits (s:=s) (e:=103) Fo.out fun hf => ?_
 refine Zu (KC (s:=s) Tryz.underlying36 jD rfl rfl hi.1 hi.2 hf) ?_
 refine Zl ?_
 refine Zq (Zr (Zm (Zu (eB (s:=v) Tryz.underlying36 rfl) (Zy ?_))))
 refine Zq (Zq (Zr (Zm (Zu (iI rfl rfl) ?_))))
 refine Zl ?_
 refine VC.AA rfl (fun h16=>absurd h16 (by omega)) (fun h16 => ?_)
 refine Zk ?_
 refine Zq (Zr (Zm (Zu (eB (s:=s) Tryz.underlying36 rfl) (Zy ?_))))
 refine Zq (Zq (Zr (Zy ?_)))
 refine Zu (iI rfl rfl) ?_
 refine Zl ?_
 refine VC.AA rfl (fun h22 => ?_) (fun h22 => ?_)
 ·
  refine Zq (Zr (Zy ?_))
  refine VL.shut v 103 (fun _ _ _ _=>trivial) ?_
  refine VL.aUV (s:=s) (r:=v) Tryz.underlying36 Tryz.underlying36 UP (by decide) rfl Fo.out (wM hb) (wN hb (by decide)) (by decide) (fun q hq => ?_)
  refine Zy ?_
  have e1:i.toNat=s.l.length:=by omega
  exact VC.ret (UM (.inr rfl) rfl rfl q rfl (by rw [hq,e1,List.take_length,List.drop_length,List.append_nil]) (fun _ _=>trivial) iY.out)
 have hin:i < (s.l.length:Int):=by omega
 have hne:s.l≠[]:=fun h=>by rw [h] at hin; simp at hin; omega
 have hkq:(s.l.length:Int)+(v.l.length:Int) - i=((s.l.length+v.l.length - i.toNat:Nat):Int):=by omega
 have hLn:(s.l.take i.toNat++v.l++s.l.drop i.toNat).length=s.l.length+v.l.length:=by simp only [List.length_append,List.length_take,List.length_drop]; omega
 have hfl:(s.l.take i.toNat++v.l++s.l.drop i.toNat).flatMap bM.enc=(s.l.take i.toNat).flatMap bM.enc++v.l.flatMap bM.enc++(s.l.drop i.toNat).flatMap bM.enc:=by rw [List.flatMap_append,List.flatMap_append]
 have lA:((s.l.take i.toNat).flatMap bM.enc).length=i.toNat*6:=by rw [jI,List.length_take,hK,Nat.min_eq_left (by omega)]
 have lV:(v.l.flatMap bM.enc).length=v.l.length*6:=by rw [jI,hK]
 have lS:((s.l.drop i.toNat).flatMap bM.enc).length=(s.l.length - i.toNat)*6:=by rw [jI,List.length_drop,hK]
 refine Zk ?_
 refine Zq (Zq (Zr (Zy ?_)))
 refine Zu (cR rfl rfl ⟨by omega,by omega⟩) ?_
 refine Zm (Zu (aKX (a0:=s.a) (L:=s.l.length) (C:=s.c) Tryz.underlying36 rfl) (Zu (lE rfl rfl) ?_))
 refine Zl ?_
 refine VC.AA rfl (fun h31 => ?_) (fun h31 => ?_)
 ·
  refine VC.shut s 103 (fun _ _ _ _=>trivial) ?_
  refine VC.shut v 103 (fun _ _ _ _=>trivial) ?_
  refine Zq (Zr ?_)
  refine VL.FV (φ:=s.a=some ⟨s.b,s.o,none⟩) (fun h m=>(fQ.out (X:=s.ok) h m).2.2.1 hne) fun hsa => ?_
  refine VL.FV (φ:=v.a=some ⟨v.b,v.o,none⟩) (fun h m=>(fQ.out (X:=v.ok) h m).2.2.1 hv) fun hva => ?_
  refine Zy ?_
  refine Zu (aDc (a0:=s.a) (L:=s.l.length) (C:=s.c) (K:=6) Tryz.underlying36 jD rfl rfl hi.1 (by omega)) ?_
  refine Zy ?_
  refine Zu (cR rfl rfl ⟨by omega,by omega⟩) ?_
  refine Zm ?_
  refine Zu (zI rfl rfl ⟨by omega,by omega⟩) ?_
  refine VL.MC 39 rfl (congrArg (Value.int .i64) hkq) ?_
  refine VL.aNf (s:=s) (L:=i.toNat) (kq:=s.l.length+v.l.length - i.toNat) Tryz.underlying36 Tryz.underlying3 UP (by decide) rfl hne (by omega) (by omega) (by omega) (by omega) (by decide) (by decide) fun g cs cp hcl hcp hcm hct => ?_
  rw [hK] at hcl hct
  rw [show i.toNat+(s.l.length+v.l.length - i.toNat)=s.l.length+v.l.length by omega] at hcp ⊢
  have hfit:((s.l.take i.toNat).flatMap bM.enc).length+(v.l.flatMap bM.enc).length+((s.l.drop i.toNat).flatMap bM.enc).length≤cs.length:=by
    rw [lA,lV,lS,hcl,← Nat.add_mul,← Nat.add_mul]; exact Nat.mul_le_mul_right _ (by omega)
  have hic:=UY (V:=v.l.flatMap bM.enc) (S:=(s.l.drop i.toNat).flatMap bM.enc) (by rw [lA]; exact hct) hfit
  rw [← hfl,lA,lV,lS] at hic
  refine Zy ?_
  refine Zq (Zr (Zy ?_))
  refine Zu (oW (b:=g) (o:=0) (L:=s.l.length+v.l.length) (C:=cp) (K:=6) Tryz.underlying36 jD rfl rfl hi.1 (by omega) hcp (by omega) rfl) ?_
  refine Zm ?_
  refine VL.MC 44 rfl (show v.val = .slice (some ⟨v.b,v.o+0*bM.sz aE,none⟩) v.l.length v.c by unfold Sv.val; rw [hva,Nat.zero_mul]; rfl) ?_
  refine VL.I9 (src:=v.l.flatMap bM.enc) Tryz.underlying36 jD uW.out rfl (by rw [lV]; congr 1; exact (Nat.min_eq_left (by omega)).symm) (P3 (r:=v) (by decide) hv) (vK v.l) (by rw [lV,Nat.zero_add,hcl,← Nat.add_mul]; exact Nat.mul_le_mul_right _ (by omega)) (by decide) ?_
  rw [Nat.zero_add,lV]
  refine Zl ?_
  refine Zq ?_
  refine l9 [(0,true),(1,true),(2,true),(3,true),(4,true),(5,true),(6,true),(7,true),(8,false)] ?_
  refine Zw rfl (bB rfl) ?_
  refine Zw rfl (bB rfl) ?_
  refine Zw rfl (bB rfl) ?_
  refine Zw rfl (cR rfl rfl ⟨by omega,by omega⟩) ?_
  refine Zw rfl (oW (b:=g) (o:=0) (L:=s.l.length+v.l.length) (C:=cp) (K:=6) Tryz.underlying36 jD rfl rfl (by omega) (by omega) hcp (by omega) rfl) ?_
  refine Zw rfl (bB rfl) ?_
  refine Zw rfl (bB rfl) ?_
  refine Zw rfl (oW (b:=s.b) (o:=s.o) (L:=s.l.length) (C:=s.c) (K:=6) Tryz.underlying36 jD (show some s.val=_ by unfold Sv.val; rw [hsa]) rfl hi.1 (by omega) hf (by omega) rfl) ?_
  refine VD.one rfl ?_
  rw [show (i+(v.l.length:Int)).toNat=i.toNat+v.l.length by omega]
  refine VL.I9 (src:=(s.l.drop i.toNat).flatMap bM.enc) Tryz.underlying36 jD uW.out rfl (by rw [lS]; congr 1; exact (Nat.min_eq_left (by omega)).symm) (aCE (r:=s) (by decide) hne i.toNat) (vK _) (by rw [lS,Nat.zero_add,hic.1,hcl,← Nat.add_mul]; exact Nat.mul_le_mul_right _ (by omega)) (by decide) ?_
  rw [Nat.zero_add,lS,Nat.add_mul]
  refine jH ?_
  refine VD.to (fun _ _ h=>h) ?_
  refine Zq (Zr (Zy ?_))
  have ho:=fun F=>P6 (F:=F) (e:=103) (b:=g) (l':=s.l.take i.toNat++v.l++s.l.drop i.toNat) (Nat.le_of_eq (hic.2.1.trans hcl).symm) (by rw [jI] at hic; exact hic.2.2) hLn hcp hcm
  exact VC.ret (UM (.inr rfl) rfl rfl ⟨some ⟨g,0,none⟩,cp,_⟩ (ho Ow.emp).1 rfl (fun _ _=>trivial) (ho _).2)
 refine Zk ?_
 refine Zq (Zr ?_)
 refine VL.open (s:=s) (e:=103) Fo.out (by omega) fun b cs hsa hcl hct _ hcm => ?_
 rw [hK] at hcl hct
 have hctA:cs.take ((s.l.take i.toNat).flatMap bM.enc).length=(s.l.take i.toNat).flatMap bM.enc:=by
   rw [lA]
   have:cs.take (i.toNat*6)=(cs.take (s.l.length*6)).take (i.toNat*6):=by rw [List.take_take,Nat.min_eq_left (Nat.mul_le_mul_right _ (by omega))]
   rw [this,hct]
   exact wO s.l i.toNat
 have hfit:((s.l.take i.toNat).flatMap bM.enc).length+(v.l.flatMap bM.enc).length+((s.l.drop i.toNat).flatMap bM.enc).length≤cs.length:=by
   refine Nat.le_trans ?_ hcl; rw [lA,lV,lS,← Nat.add_mul,← Nat.add_mul]; exact Nat.mul_le_mul_right _ (by omega)
 have hic:=UZ (V:=v.l.flatMap bM.enc) (S:=(s.l.drop i.toNat).flatMap bM.enc) hctA hfit
 rw [← hfl,lA,lV,lS] at hic
 refine Zy ?_
 refine Zu (cR rfl rfl ⟨by omega,by omega⟩) ?_
 refine Zu (aDc (a0:=s.a) (L:=s.l.length) (C:=s.c) (K:=6) Tryz.underlying36 jD rfl rfl (by omega) (by omega)) ?_
 rw [show ((s.l.length:Int)+(v.l.length:Int)).toNat=s.l.length+v.l.length by omega,hsa]
 refine Zy ?_
 refine Zq (Zq (Zr (Zy ?_)))
 refine Zu (cR rfl rfl ⟨by omega,by omega⟩) ?_
 refine Zu (oW (b:=b) (o:=0) (L:=s.l.length+v.l.length) (C:=s.c) (K:=6) Tryz.underlying36 jD rfl rfl (by omega) (by omega) (by omega) (by omega) rfl) ?_
 refine Zu (VY (tS:=36) (tR:=4) (s:=v) (b:=b) Tryz.func184 rfl rfl (by kernel_rfl) (by kernel_rfl) Tryz.underlying36 jD rfl uW.out (fun h=>by rw [h] at hcl; simp at hcl; omega) hv) ?_
 refine Zu (jE rfl) ?_
 refine Zl ?_
 refine VC.RM rfl ?_
 refine VC.shut v 103 (fun _ _ _ _=>trivial) ?_
 refine Zq ?_
 refine l9 [(0,true),(1,true),(2,true),(3,true),(4,true),(5,true),(6,true),(7,true),(8,false)] ?_
 refine Zw rfl (bB rfl) ?_
 refine Zw rfl (bB rfl) ?_
 refine Zw rfl (bB rfl) ?_
 refine Zw rfl (cR rfl rfl ⟨by omega,by omega⟩) ?_
 refine Zw rfl (oW (b:=b) (o:=0) (L:=s.l.length+v.l.length) (C:=s.c) (K:=6) Tryz.underlying36 jD rfl rfl (by omega) (by omega) (by omega) (by omega) rfl) ?_
 refine Zw rfl (bB rfl) ?_
 refine Zw rfl (bB rfl) ?_
 refine Zw rfl (oW (b:=b) (o:=0) (L:=s.l.length+v.l.length) (C:=s.c) (K:=6) Tryz.underlying36 jD rfl rfl hi.1 (by omega) (by omega) (by omega) rfl) ?_
 refine VD.one rfl ?_
 rw [show (i+(v.l.length:Int)).toNat=i.toNat+v.l.length by omega,Nat.zero_add,Nat.zero_add]
 refine VL.I9 (src:=(s.l.drop i.toNat).flatMap bM.enc) Tryz.underlying36 jD uW.out rfl (by rw [lS]; congr 1; simp only [Nat.min_def]; split <;> omega) (aFC (n:=s.l.length) hct rfl) (vK _) (by refine Nat.le_trans ?_ hcl; rw [lS,← Nat.add_mul]; exact Nat.mul_le_mul_right _ (by omega)) (by decide) ?_
 rw [lS,Nat.add_mul]
 refine jH ?_
 refine VD.to (fun _ _ h=>h) ?_
 refine Zq (Zr (Zy ?_))
 refine Zu (oW (b:=b) (o:=0) (L:=s.l.length+v.l.length) (C:=s.c) (K:=6) Tryz.underlying36 jD rfl rfl hi.1 (by omega) (by omega) (by omega) rfl) ?_
 refine Zm ?_
 refine VL.FV (φ:=v.a=some ⟨v.b,v.o,none⟩) (fun h m=>(fQ.out (X:=v.ok) h m).2.2.1 hv) fun hva => ?_
 refine VL.MC 81 rfl (show v.val = .slice (some ⟨v.b,v.o+0*bM.sz aE,none⟩) v.l.length v.c by unfold Sv.val; rw [hva,Nat.zero_mul]; rfl) ?_
 rw [Nat.zero_add]
 refine VL.I9 (src:=v.l.flatMap bM.enc) Tryz.underlying36 jD uW.out rfl (by rw [lV]; congr 1; exact (Nat.min_eq_left (by omega)).symm) (P3 (r:=v) (by decide) hv) (vK v.l) (by rw [hic.1]; refine Nat.le_trans ?_ hcl; rw [lV,← Nat.add_mul]; exact Nat.mul_le_mul_right _ (by omega)) (by decide) ?_
 rw [lV]
 refine Zl ?_
 refine Zq (Zr (Zy ?_))
 have ho:=fun F=>P6 (F:=F) (e:=103) (b:=b) (l':=s.l.take i.toNat++v.l++s.l.drop i.toNat) (by rw [hic.2.1]; exact hcl) (by rw [jI] at hic; exact hic.2.2) hLn (by omega) hcm
 exact VC.ret (UM (.inr rfl) rfl rfl ⟨some ⟨b,0,none⟩,s.c,_⟩ (ho Ow.emp).1 rfl (fun _ _=>trivial) (ho _).2)
theorem OG (fF:Sv aE) (e_1:aE) {r:List aE} (hS:Sh.EG fF.l e_1=some r) :
 Ct Tryz.prog 77 [fF.val,.agg #[str e_1.path,i64 e_1.eM,i64 e_1.mode,str e_1.data,i64 e_1.time,i64 e_1.size]] fF.ok (Ow.emp) (X:=Sv aE) (fun x=>x.val) (fun x=>r=x.l) (fun x=>x.ok) (fun x=>Ow.emp):=by
 refine Zo Tryz.func77 Tryz.ntmps77 fun c => ?_
 unfold Sh.EG at hS
 refine Zq (Zr ?_)
 refine kQ [str e_1.path,i64 e_1.eM,i64 e_1.mode,str e_1.data,i64 e_1.time,i64 e_1.size] fun jC => ?_
 refine Zy ?_
 refine Zq (Zr (Zm ?_))
 obtain ⟨lR,y9,hS⟩:=aO hS
 refine VL.bL (kJ fF y9) rfl (by decide) ?_
 rintro CL rfl
 try dsimp only
 refine Zu (sJ rfl) ?_
 obtain ⟨tC,J3,hS⟩:=aO hS
 refine VL.bL (wY CL jC e_1 J3) rfl (by decide) ?_
 rintro lY rfl
 try dsimp only
 refine Zy ?_
 refine Zq (Zr (Zy ?_))
 refine VC.gN (S:=Int) (fun (TR:Int)=>TR) (fun (TR:Int)=>[(3,ptr jC 0),(5,lY.val),(6,i64 TR)]) (fun (TR:Int)=>Mo.tt) (fun (TR:Int)=>Ow.star (bE jC [str e_1.path,i64 e_1.eM,i64 e_1.mode,str e_1.data,i64 e_1.time,i64 e_1.size] 103) (Ow.star (Sv.own lY 103) (Ow.emp))) hS ?_ ?_
 ·
  clear hS
  intro k5 hS
  refine Zb ?_
  refine VC.iter (S:=Int) (fun (G4:Int)=>G4) (fun (G4:Int)=>[(3,ptr jC 0),(5,lY.val),(6,i64 G4)]) (fun (G4:Int)=>Mo.tt) (fun (G4:Int)=>Ow.star (bE jC [str e_1.path,i64 e_1.eM,i64 e_1.mode,str e_1.data,i64 e_1.time,i64 e_1.size] 103) (Ow.star (Sv.own lY 103) (Ow.emp))) 0 [3,5,6] hS rfl ?_
  clear hS
  rintro G4 m1 y1 hS hK1
  refine Zq (Zq ?_)
  refine l9 ((List.range 13).map fun k=>(k,true)) ?_
  refine Zw rfl (bB rfl) ?_
  refine Zw rfl (bB rfl) ?_
  refine Zw rfl (eB (s:=lY) Tryz.underlying36 rfl) ?_
  refine Zw rfl (dW rfl rfl) ?_
  refine Zw rfl (bB rfl) ?_
  refine VD.rC 15 rfl (fun h15 => ?_) (fun h15 => ?_)
  ·
   replace hS:=EZ h15 hS
   refine Zi rfl (bB rfl) ?_
   refine Zi rfl (bB rfl) ?_
   obtain ⟨aP3,aQc,aQA,hS⟩:=fA hS
   refine Zi rfl (lN (s:=lY) Tryz.underlying36 jD rfl rfl aQc (bH aQc aQA)) ?_
   refine Zi rfl (X5 (s:=lY) oE rfl rfl aQA) ?_
   refine Zi rfl (cJ oE rfl rfl) ?_
   obtain ⟨aHG,a0L,hS⟩:=aO hS
   refine Zi rfl (cH (aBj aP3 e_1 a0L) rfl (fun _ _=>rfl)) ?_
   refine Zi rfl (dW rfl rfl) ?_
   refine Zw rfl (gS rfl rfl) ?_
   refine VD.to (fun _ _ h=>h) ?_
   refine VC.keep (ρ':=[(3,ptr jC 0),(5,lY.val),(6,i64 G4),(23,.bool (decide (aHG < 0)))]) [3,5,6,23] rfl ?_
   refine Zc hS (fun h23 hS => ?_) (fun h23 hS => ?_)
   ·
    refine Zk ?_
    refine Zb (Zr (Zm ?_))
    obtain ⟨b25,hS⟩:=bU hS
    refine Zu (cR rfl rfl b25) (Za ?_)
    refine VL.jU (G4+1) [3,5,6] (fun _ _ h=>h) (go2 hS hK1) rfl
   replace hS:=iJ hS hK1
   refine VC.fM G4 [3,5,6] (fun _ _ h=>h) hS rfl
  replace hS:=JW h15 hS
  refine Zd ?_
  refine Zd ?_
  refine Zd ?_
  refine Zd ?_
  refine Zd ?_
  refine Zd ?_
  refine Zd ?_
  refine Zw rfl (gL rfl rfl) ?_
  refine VD.to (fun _ _ h=>h) ?_
  refine VC.keep (ρ':=[(3,ptr jC 0),(5,lY.val),(6,i64 G4),(23,.bool false)]) [3,5,6,23] rfl ?_
  refine VC.CC rfl ?_
  replace hS:=iJ hS hK1
  refine VC.fM G4 [3,5,6] (fun _ _ h=>h) hS rfl
 clear hS
 rintro TR hS
 refine Zq (Zr (Zy ?_))
 refine Zu (cJ oE rfl rfl) ?_
 refine VL.aQ1 (α:=aE) (xs:=[.tmp 28]) (vs:=[.agg #[str e_1.path,i64 e_1.eM,i64 e_1.mode,str e_1.data,i64 e_1.time,i64 e_1.size]]) [⟨e_1.path,e_1.eM,e_1.mode,e_1.data,e_1.time,e_1.size⟩] Tryz.underlying36 aFm (by decide) rfl rfl rfl rfl (by decide) (by decide) (fun a6Q a1r => ?_) (by decide)
 replace hS:=bW a1r hS
 obtain ⟨b30,hS⟩:=bU hS
 refine VL.bL (aH6 lY a6Q TR b30.1 b30.2.1 b30.2.2) rfl (by decide) ?_
 intro aRO aWp
 replace hS:=bW aWp hS
 refine VL.shut aRO 103 (fun _ _ _ _=>trivial) ?_
 obtain ⟨aRb,aUt,hS⟩:=aO hS
 refine VL.dK (gC aRO aUt) rfl (by decide) ?_
 rintro aT6 rfl
 try dsimp only
 refine Zy ?_
 cases hS
 exact VC.ret (Z1 aT6)
theorem aHh (fF:Sv aE) (YB:Sv aC) (p_2:aK) {r:List aE} (hS:Sh.aA6 fF.l YB.l p_2=some r) :
 Ct Tryz.prog 213 [fF.val,YB.val,str p_2] (fF.ok.and YB.ok) (Ow.emp) (X:=Sv aE) (fun x=>x.val) (fun x=>r=x.l) (fun x=>x.ok) (fun x=>Ow.emp):=by
 refine Zo Tryz.func213 Tryz.ntmps213 fun c => ?_
 unfold Sh.aA6 at hS
 refine Zq (Zr (Zy ?_))
 refine Zq (Zr (Zy ?_))
 obtain ⟨A3,aJQ,hS⟩:=aO hS
 refine Zu (cH (lT YB p_2 aJQ) rfl (fun _ _=>rfl)) ?_
 refine Zm (Zu (aV rfl rfl) (Zu (aV rfl rfl) ?_))
 refine gV [str [],i64 0,str []] fun aHp => ?_
 refine Zv (cs':=[str A3.1.path,i64 A3.1.mode,str A3.1.data]) rfl fC ?_
 refine Zy ?_
 refine VC.keep (ρ':=[(0,fF.val),(2,str p_2),(7,ptr aHp 0),(8,.bool A3.2)]) [0,2,7,8] rfl ?_
 refine Zq (Zq (Zr (Zm (Zu (jE rfl) ?_))))
 refine Zl ?_
 refine gR hS (fun h16 hS => ?_) (fun h16 hS => ?_)
 ·
  refine Zq ?_
  cases hS
 refine Zk ?_
 refine Zq (Zr (Zy ?_))
 refine Zu (aB xO rfl) (Zu (aL fL rfl rfl) (Zu (aB DD rfl) (Zu (aL cQ rfl rfl) ?_)))
 refine Zu (fR (vs:=[(0,str p_2),(2,i64 A3.1.mode),(3,str A3.1.data)]) (cs := #[str p_2,i64 0,i64 A3.1.mode,str A3.1.data,i64 0,i64 0]) rfl (by kernel_rfl)) ?_
 obtain ⟨TD,aBR,hS⟩:=aO hS
 refine VL.dK (OG fF (⟨p_2,0,A3.1.mode,A3.1.data,0,0⟩:aE) aBR) rfl (by decide) ?_
 rintro QF rfl
 try dsimp only
 refine Zy ?_
 refine VC.keep (ρ':=[(6,QF.val)]) [6] rfl ?_
 cases hS
 exact VC.ret (Z1 QF)
theorem aDM (fY:aE) (z7:aE) {r:Bool} (hS:Sh.OH fY z7=some r) :
 Cp Tryz.prog 279 [.agg #[str fY.path,i64 fY.eM,i64 fY.mode,str fY.data,i64 fY.time,i64 fY.size],.agg #[str z7.path,i64 z7.eM,i64 z7.mode,str z7.data,i64 z7.time,i64 z7.size]] Mo.tt (.bool r):=by
 refine Zo Tryz.func279 Tryz.ntmps279 fun c => ?_
 unfold Sh.OH at hS
 refine Zq (Zr ?_)
 refine kQ [str fY.path,i64 fY.eM,i64 fY.mode,str fY.data,i64 fY.time,i64 fY.size] fun fJ => ?_
 refine kQ [str z7.path,i64 z7.eM,i64 z7.mode,str z7.data,i64 z7.time,i64 z7.size] fun lI => ?_
 refine Zy ?_
 refine Zq (Zr (Zu (aB tG rfl) (Zu (aL cQ rfl rfl) (Zu (aB tG rfl) (Zu (aL cQ rfl rfl) (Zy ?_))))))
 refine o4 10 hS (fun h10 hS => ?_) (fun h10 hS => ?_)
 ·
  refine Zh (aB xN rfl) ?_
  refine Zh (aL fL rfl rfl) ?_
  refine Zh (aB xN rfl) ?_
  refine Zh (aL fL rfl rfl) ?_
  refine Zh (iI rfl rfl) ?_
  refine Zy ?_
  refine o4 17 hS (fun h17 hS => ?_) (fun h17 hS => ?_)
  ·
   refine Zh (aB XO rfl) ?_
   refine Zh (aL fL rfl rfl) ?_
   refine Zh (aB XO rfl) ?_
   refine Zh (aL fL rfl rfl) ?_
   refine Zh (iI rfl rfl) ?_
   refine Zy ?_
   refine o4 24 hS (fun h24 hS => ?_) (fun h24 hS => ?_)
   ·
    refine Zh (aB XP rfl) ?_
    refine Zh (aL cQ rfl rfl) ?_
    refine Zh (aB XP rfl) ?_
    refine Zh (aL cQ rfl rfl) ?_
    refine Zh (EM rfl rfl) ?_
    refine Zy ?_
    refine VC.keep (ρ':=[(4,.bool (decide (fY.data=z7.data)))]) [4] rfl ?_
    cases hS
    exact Ze
   refine VL.runs 7 [(4,some false)] (by kernel_rfl) ?_
   refine Zl ?_
   refine VC.keep (ρ':=[(4,.bool false)]) [4] rfl ?_
   cases hS
   exact Ze
  refine VL.runs 14 [(4,some false)] (by kernel_rfl) ?_
  refine Zl ?_
  refine VC.keep (ρ':=[(4,.bool false)]) [4] rfl ?_
  cases hS
  exact Ze
 refine VL.runs 21 [(4,some false)] (by kernel_rfl) ?_
 refine Zl ?_
 refine VC.keep (ρ':=[(4,.bool false)]) [4] rfl ?_
 cases hS
 exact Ze
end Go.Proofs.YtedhnpjkoeblnaaGreatDoor
end

section
set_option linter.unusedVariables false
namespace Go.Proofs.YtedhnpjkoeblnaaGreatDoor
set_option maxHeartbeats 4000000
set_option maxRecDepth 100000
set_option synthInstance.maxSize 2000
set_option synthInstance.maxHeartbeats 1000000
open Go.RowKit Go.V
open Go.S hiding aK
theorem oY (qX:Sv aE) (y5:Sv aE) {r:Bool} (hS:Sh.hO qX.l y5.l=some r) :
 Cp Tryz.prog 278 [qX.val,y5.val,.func (.func 279) #[] #[]] (qX.ok.and y5.ok) (.bool r):=by
 refine Zo Tryz.func278 Tryz.ntmps278 fun c => ?_
 unfold Sh.hO at hS
 refine Zq (Zr (Zy ?_))
 refine Zq (Zq (Zr (Zm (Zu (eB (s:=qX) Tryz.underlying36 rfl) (Zm (Zu (eB (s:=y5) Tryz.underlying36 rfl) (Zu (lF rfl rfl) ?_)))))))
 refine Zl ?_
 refine o3 hS (fun h14 hS => ?_) (fun h14 hS => ?_)
 ·
  refine Zq (Zr (Zy ?_))
  cases hS
  exact Ze
 refine Zk ?_
 refine Zq (Zq (Zr (Zm (Zu (eB (s:=qX) Tryz.underlying36 rfl) (Zy ?_)))))
 refine VC.keep (ρ':=[(1,y5.val),(2,.func (.func 279) #[] #[]),(15,qX.val),(16,i64 (qX.l.length:Int)),(17,i64 0)]) [1,2,15,16,17] rfl ?_
 refine Zb ?_
 refine VC.iter (S:=Int) (fun (EU:Int)=>EU) (fun (EU:Int)=>[(1,y5.val),(2,.func (.func 279) #[] #[]),(15,qX.val),(16,i64 (qX.l.length:Int)),(17,i64 EU)]) (fun (EU:Int)=>Mo.tt) (fun (EU:Int)=>Ow.emp) 0 [1,2,15,16,17] hS rfl ?_
 clear hS
 rintro EU m1 y1 hS hK1
 refine Zq (Zr (Zu (dW rfl rfl) ?_))
 refine Zl ?_
 refine Zq ?_
 refine Zc hS (fun h18 hS => ?_) (fun h18 hS => ?_)
 ·
  refine Zk ?_
  refine Zq (Zb (Zq (Zr (Zm ?_))))
  obtain ⟨TL,aQi,aQH,hS⟩:=fA hS
  refine Zu (eZ (s:=qX) Tryz.underlying36 jD rfl rfl aQi (bH aQi aQH)) (Zu (nX (s:=qX) oE rfl rfl aQH) ?_)
  refine gV [str [],i64 0,i64 0,str [],i64 0,i64 0] fun a6n => ?_
  refine Za ?_
  refine Zv (cs':=[str TL.path,i64 TL.eM,i64 TL.mode,str TL.data,i64 TL.time,i64 TL.size]) rfl jD ?_
  refine Zl ?_
  refine Zq (Zr (Zy ?_))
  obtain ⟨TM,aQr,aQO,hS⟩:=fA hS
  refine Zu (eZ (s:=y5) Tryz.underlying36 jD rfl rfl aQr (bH aQr aQO)) (Zu (nX (s:=y5) oE rfl rfl aQO) ?_)
  refine gV [str [],i64 0,i64 0,str [],i64 0,i64 0] fun a6o => ?_
  refine Zv (cs':=[str TM.path,i64 TM.eM,i64 TM.mode,str TM.data,i64 TM.time,i64 TM.size]) rfl jD ?_
  refine Zl ?_
  refine VC.keep (ρ':=[(1,y5.val),(2,.func (.func 279) #[] #[]),(15,qX.val),(16,i64 (qX.l.length:Int)),(17,i64 EU),(8,ptr a6n 0),(9,ptr a6o 0)]) [1,2,15,16,17,8,9] rfl ?_
  refine Zq (Zr (Zm (Zu (cJ oE rfl rfl) (Zu (cJ oE rfl rfl) ?_))))
  obtain ⟨aZO,a04,hS⟩:=aO hS
  refine Zu (L7 (aDM TL TM a04) rfl rfl (fun _ _=>rfl)) ?_
  refine Zu (jE rfl) ?_
  refine Zl ?_
  refine gR hS (fun h30 hS => ?_) (fun h30 hS => ?_)
  ·
   refine Zq (Zr (Zy ?_))
   refine VC.keep (ρ':=[(6,.bool false)]) [6] rfl ?_
   replace hS:=iJ hS hK1
   cases hS
   exact Ze
  refine Zk ?_
  refine VC.keep (ρ':=[(1,y5.val),(2,.func (.func 279) #[] #[]),(15,qX.val),(16,i64 (qX.l.length:Int)),(17,i64 EU)]) [1,2,15,16,17] rfl ?_
  refine Zr ?_
  obtain ⟨b31,hS⟩:=bU hS
  refine Zu (cR rfl rfl b31) (Zm ?_)
  refine VL.jU (EU+1) [1,2,15,16,17] (fun _ _ h=>h) (go2 hS hK1) rfl
 replace hS:=iJ hS hK1
 refine Zx ?_
 refine Zq (Zr (Zy ?_))
 cases hS
 exact Ze
theorem UX (bZ:Sv aE) (b_1:Sv aE) {r:Bool} (hS:Sh.M8 bZ.l b_1.l=some r) :
 Cp Tryz.prog 214 [bZ.val,b_1.val] (bZ.ok.and b_1.ok) (.bool r):=by
 refine Zo Tryz.func214 Tryz.ntmps214 fun c => ?_
 unfold Sh.M8 at hS
 refine Zq (Zr (Zy ?_))
 refine Zq (Zr (Zy ?_))
 obtain ⟨jO,mD,hS⟩:=aO hS
 refine Zu (cH (oY bZ b_1 mD) rfl (fun _ _=>rfl)) ?_
 refine Zy ?_
 cases hS
 exact Ze
theorem aKY (aA:cF) (fU:aK) {r:bQ×kH} (hS:Sh.aDd aA.pl fU=some r) :
 Ct Tryz.prog 157 [.agg (aJ aA).toArray,str fU] (aA.bG.ok.and (aA.aY.ok.and (aA.bP.ok.and (aA.aP.ok.and (aA.aT.ok.and (aA.aQ.ok.and (aA.aU.ok.and (aA.bC.ok.and (aA.bD.ok.and (aA.bS.ok.and aA.bJ.ok)))))))))) (Ow.emp) (X:=cF×Er) (fun x => .tuple #[.agg (bM.enc x.1).toArray,x.2.val]) (fun x=>r=(x.1.pl,x.2.pl)) (fun x=>(x.1.m.and x.2.ok)) (fun x=>Ow.emp):=by
 refine Zo Tryz.func157 Tryz.ntmps157 fun c => ?_
 unfold Sh.aDd at hS
 refine Zq (Zr ?_)
 refine kQ (aJ aA) fun fJ => ?_
 refine gV [.slice none 0 0,.slice none 0 0,.slice none 0 0,str [],i64 0,str [],i64 0,str [],.slice none 0 0,.slice none 0 0,i64 0,str [],str [],i64 0,.slice none 0 0,.slice none 0 0,.slice none 0 0,.slice none 0 0,.slice none 0 0,.slice none 0 0,i64 0] fun pF => ?_
 refine Zy ?_
 refine Zq (Zr (Zm ?_))
 refine VL.lit (α:=aK) (xs:=[.tmp 12]) (vs:=[str fU]) [fU] Tryz.underlying39 xQ (by decide) rfl rfl rfl rfl (by decide) (fun _ _ _ _=>trivial) (by decide) (fun SS a13 => ?_) (by decide)
 replace hS:=bW a13 hS
 refine Zy ?_
 refine Zq (Zr (Zu (aB eO rfl) (Zu (aB tP rfl) (Zu (aL kO rfl rfl) (Zm ?_)))))
 obtain ⟨nL,RV,hS⟩:=aO hS
 refine Zu (cH (lT aA.bG fU RV) rfl (fun _ _=>rfl)) ?_
 refine Zm (Zu (aV rfl rfl) (Zu (aV rfl rfl) ?_))
 refine gV [str [],i64 0,str []] fun aDz => ?_
 refine Zv (cs':=[str nL.1.path,i64 nL.1.mode,str nL.1.data]) rfl fC ?_
 refine Zy ?_
 refine VC.keep (ρ':=[(1,str fU),(2,ptr fJ 0),(4,ptr pF 0),(6,SS.val),(8,.bool nL.2)]) [1,2,4,6,8] rfl ?_
 refine Zq (Zb (Zq (Zr (Zy ?_))))
 refine Zc hS (fun h22 hS => ?_) (fun h22 hS => ?_)
 ·
  cases hS
 refine VC.gN (S:=Bool) (fun (W3:Bool)=>W3) (fun (W3:Bool)=>[(2,ptr fJ 0),(4,ptr pF 0),(6,SS.val),(32,.bool W3)]) (fun (W3:Bool)=>Mo.tt) (fun (W3:Bool)=>Ow.star (bE aDz [str nL.1.path,i64 nL.1.mode,str nL.1.data] 32) (Ow.star (bE pF [.slice none 0 0,.slice none 0 0,.slice none 0 0,str [],i64 0,str [],i64 0,str [],.slice none 0 0,.slice none 0 0,i64 0,str [],str [],i64 0,.slice none 0 0,.slice none 0 0,.slice none 0 0,.slice none 0 0,.slice none 0 0,.slice none 0 0,i64 0] 77) (Ow.star (bE fJ (aJ aA) 77) (Ow.emp)))) hS ?_ ?_
 ·
  clear hS
  intro k8 hS
  refine Zr (Zm (Zu (jE rfl) (Zm ?_)))
  refine xJ 35 hS (fun h35 hS => ?_) (fun h35 hS => ?_)
  ·
   refine Zh (aB eO rfl) ?_
   refine Zh (aB rO rfl) ?_
   refine Zh (aL nN rfl rfl) ?_
   refine Zg ?_
   obtain ⟨aPX,a0m,hS⟩:=aO hS
   refine Zh (cH (aG9 aA.aY fU a0m) rfl (fun _ _=>rfl)) ?_
   refine Zh (jE rfl) ?_
   refine Zy ?_
   refine VL.mt (!aPX) [2,4,6,32] (fun _ _ h=>h) hS rfl
  refine VL.runs 8 [(32,some false)] (by kernel_rfl) ?_
  refine VL.mt false [2,4,6,32] (fun _ _ h=>h) hS rfl
 clear hS
 rintro W3 hS
 refine gR hS (fun h32 hS => ?_) (fun h32 hS => ?_)
 ·
  refine Zq ?_
  cases hS
 refine Zk ?_
 refine Zq (Zr (Zu (cJ cI rfl rfl) ?_))
 refine gV [.slice none 0 0,.slice none 0 0,.slice none 0 0,str [],i64 0,str [],i64 0,str [],.slice none 0 0,.slice none 0 0,i64 0,str [],str [],i64 0,.slice none 0 0,.slice none 0 0,.slice none 0 0,.slice none 0 0,.slice none 0 0,.slice none 0 0,i64 0] fun aJA => ?_
 refine Zv (cs':=(aJ aA)) rfl gP ?_
 refine Zl ?_
 refine Zq (Zq (Zr (Zm (Zu (eB (s:=SS) Tryz.underlying39 rfl) (Zy ?_)))))
 refine Zb ?_
 refine VC.iter (S:=Int×Sv aE) (fun sg=>(sg.1,sg.2.l)) (fun sg=>[(2,ptr fJ 0),(4,ptr pF 0),(9,ptr aJA 0),(46,SS.val),(47,i64 (SS.l.length:Int)),(48,i64 sg.1)]) (fun sg=>sg.2.ok) (fun sg=>Ow.star (bE aJA [aA.bG.val,sg.2.val,aA.bP.val,str aA.aS,i64 aA.aH,str aA.bK,i64 aA.bI,str aA.bO,aA.aP.val,aA.aT.val,i64 aA.bN,str aA.aZ,str aA.aM,i64 aA.aN,aA.aQ.val,aA.aU.val,aA.bC.val,aA.bD.val,aA.bS.val,aA.bJ.val,i64 aA.time] 77) (Ow.star (bE aDz [str nL.1.path,i64 nL.1.mode,str nL.1.data] 32) (Ow.star (bE pF [.slice none 0 0,.slice none 0 0,.slice none 0 0,str [],i64 0,str [],i64 0,str [],.slice none 0 0,.slice none 0 0,i64 0,str [],str [],i64 0,.slice none 0 0,.slice none 0 0,.slice none 0 0,.slice none 0 0,.slice none 0 0,.slice none 0 0,i64 0] 77) (Ow.star (bE fJ (aJ aA) 77) (Ow.emp))))) (0,aA.aY) [2,4,9,46,47,48] hS rfl ?_
 clear hS
 rintro ⟨S6,K4⟩ m1 y1 hS hK1
 refine Zq (Zr (Zu (dW rfl rfl) ?_))
 refine Zl ?_
 refine Zq ?_
 refine Zc hS (fun h49 hS => ?_) (fun h49 hS => ?_)
 ·
  refine Zk ?_
  refine Zq (Zb (Zq (Zr ?_)))
  obtain ⟨aKy,aMe,aLw,hS⟩:=fA hS
  refine Zu (eZ (s:=SS) Tryz.underlying39 pU rfl rfl aMe (bH aMe aLw)) (Zu (zW (s:=SS) cQ rfl aLw rfl) (Zy ?_))
  refine Zr (Zu (aB eO rfl) (Zu (aB rO rfl) (Zu (aL nN rfl rfl) (Zu (aB eO rfl) (Zu (aB tP rfl) (Zu (aL kO rfl rfl) ?_))))))
  refine Zm ?_
  obtain ⟨aSD,aVg,hS⟩:=aO hS
  refine VL.dK (aHh K4 aA.bG aKy aVg) rfl (by decide) ?_
  rintro aIg rfl
  try dsimp only
  refine Zu (aB eO rfl) (Zu (aB rO rfl) ?_)
  refine Zv (cs':=[aA.bG.val,aIg.val,aA.bP.val,str aA.aS,i64 aA.aH,str aA.bK,i64 aA.bI,str aA.bO,aA.aP.val,aA.aT.val,i64 aA.bN,str aA.aZ,str aA.aM,i64 aA.aN,aA.aQ.val,aA.aU.val,aA.bC.val,aA.bD.val,aA.bS.val,aA.bJ.val,i64 aA.time]) rfl aO0 ?_
  refine Zl ?_
  refine VC.keep (ρ':=[(2,ptr fJ 0),(4,ptr pF 0),(9,ptr aJA 0),(46,SS.val),(47,i64 (SS.l.length:Int)),(48,i64 S6)]) [2,4,9,46,47,48] rfl ?_
  refine Zr ?_
  obtain ⟨b62,hS⟩:=bU hS
  refine Zu (cR rfl rfl b62) (Zm ?_)
  refine VL.jU ((S6+1),aIg) [2,4,9,46,47,48] (fun _ _ h=>h) (go2 hS hK1) rfl
 replace hS:=iJ hS hK1
 refine Zx ?_
 refine Zq (Zb (Zq (Zr (Zu (aB eO rfl) (Zu (aB rO rfl) (Zu (aL nN rfl rfl) (Zu (aB eO rfl) (Zu (aB rO rfl) (Zu (aL nN rfl rfl) ?_)))))))))
 obtain ⟨aKq,aVq,hS⟩:=aO hS
 refine Zu (cH (UX K4 aA.aY aVq) rfl (fun _ _=>rfl)) ?_
 refine Zy ?_
 refine VC.keep (ρ':=[(2,ptr fJ 0),(4,ptr pF 0),(9,ptr aJA 0),(63,.bool aKq)]) [2,4,9,63] rfl ?_
 refine gR hS (fun h63 hS => ?_) (fun h63 hS => ?_)
 ·
  refine Zq ?_
  cases hS
 refine Zq (Zr (Zu (aB eO rfl) (Zu (aB rO rfl) (Zu (aL nN rfl rfl) (Zu (eB (s:=K4) Tryz.underlying36 rfl) (Zu (lE rfl rfl) (Zy ?_)))))))
 refine Zc hS (fun h73 hS => ?_) (fun h73 hS => ?_)
 ·
  refine Zq ?_
  cases hS
 refine Zk ?_
 refine Zq (Zr (Zu (cJ cI rfl rfl) ?_))
 refine Zv (cs':=[aA.bG.val,K4.val,aA.bP.val,str aA.aS,i64 aA.aH,str aA.bK,i64 aA.bI,str aA.bO,aA.aP.val,aA.aT.val,i64 aA.bN,str aA.aZ,str aA.aM,i64 aA.aN,aA.aQ.val,aA.aU.val,aA.bC.val,aA.bD.val,aA.bS.val,aA.bJ.val,i64 aA.time]) rfl gP ?_
 refine Zy ?_
 refine VC.keep (ρ':=[(4,ptr pF 0),(5,.nilIface)]) [4,5] rfl ?_
 cases hS
 exact VC.ret (Z3 (⟨aA.bG,K4,aA.bP,aA.aS,aA.aH,aA.bK,aA.bI,aA.bO,aA.aP,aA.aT,aA.bN,aA.aZ,aA.aM,aA.aN,aA.aQ,aA.aU,aA.bC,aA.bD,aA.bS,aA.bJ,aA.time⟩,.nil) [.agg #[aA.bG.val,K4.val,aA.bP.val,str aA.aS,i64 aA.aH,str aA.bK,i64 aA.bI,str aA.bO,aA.aP.val,aA.aT.val,i64 aA.bN,str aA.aZ,str aA.aM,i64 aA.aN,aA.aQ.val,aA.aU.val,aA.bC.val,aA.bD.val,aA.bS.val,aA.bJ.val,i64 aA.time],.nilIface] (fI.cell cI rfl rfl Rd.blk (fI.tmp rfl (fI.nil))))
theorem TT (fF:Sv aE) (n_1:Int) {r:List aC} (hS:Sh.CF fF.l n_1=some r) :
 Ct Tryz.prog 122 [fF.val,i64 n_1] fF.ok (Ow.emp) (X:=Sv aC) (fun x=>x.val) (fun x=>r=x.l) (fun x=>x.ok) (fun x=>Ow.emp):=by
 refine Zo Tryz.func122 Tryz.ntmps122 fun c => ?_
 unfold Sh.CF at hS
 refine Zq (Zr (Zy ?_))
 refine Zq (Zr (Zy ?_))
 refine Zq (Zq (Zr (Zm (Zu (eB (s:=fF) Tryz.underlying36 rfl) (Zy ?_)))))
 refine Zb ?_
 refine VC.nU (⟨none,0,[]⟩:Sv aC) 32 ⟨rfl,rfl⟩ ?_
 refine VC.iter (S:=Sv aC×Int) (fun sg=>(sg.1.l,sg.2)) (fun sg=>[(1,i64 n_1),(5,sg.1.val),(8,fF.val),(9,i64 (fF.l.length:Int)),(10,i64 sg.2)]) (fun sg=>Mo.tt) (fun sg=>Ow.star (Sv.own sg.1 32) (Ow.emp)) (⟨none,0,[]⟩,0) [1,5,8,9,10] hS rfl ?_
 clear hS
 rintro ⟨HU,ML⟩ m1 y1 hS hK1
 refine Zq (Zr (Zu (dW rfl rfl) ?_))
 refine Zl ?_
 refine Zq ?_
 refine Zc hS (fun h11 hS => ?_) (fun h11 hS => ?_)
 ·
  refine Zk ?_
  refine Zq (Zb (Zq (Zr ?_)))
  obtain ⟨uM,aQ6,aPv,hS⟩:=fA hS
  refine Zu (eZ (s:=fF) Tryz.underlying36 jD rfl rfl aQ6 (bH aQ6 aPv)) (Zu (nX (s:=fF) oE rfl rfl aPv) ?_)
  refine gV [str [],i64 0,i64 0,str [],i64 0,i64 0] fun aEz => ?_
  refine Zv (cs':=[str uM.path,i64 uM.eM,i64 uM.mode,str uM.data,i64 uM.time,i64 uM.size]) rfl jD ?_
  refine Zl ?_
  refine Zq (Zr (Zu (aB xN rfl) (Zu (aL fL rfl rfl) (Zm (Zu (iI rfl rfl) ?_)))))
  refine Zl ?_
  refine Zc hS (fun h17 hS => ?_) (fun h17 hS => ?_)
  ·
   refine Zr (Zm (Zu (aB tG rfl) (Zu (aL cQ rfl rfl) (Zu (aB XO rfl) (Zu (aL fL rfl rfl) (Zu (aB XP rfl) ?_))))))
   refine Zu (aL cQ rfl rfl) ?_
   refine Zu (fR (vs:=[(0,str uM.path),(1,i64 uM.mode),(2,str uM.data)]) (cs := #[str uM.path,i64 uM.mode,str uM.data]) rfl (by kernel_rfl)) ?_
   refine VL.lit (α:=aC) (xs:=[.tmp 25]) (vs:=[.agg #[str uM.path,i64 uM.mode,str uM.data]]) [⟨uM.path,uM.mode,uM.data⟩] Tryz.underlying23 aB4 (by decide) rfl rfl rfl rfl (by decide) (fun _ _ _ _=>trivial) (by decide) (fun a6N a1o => ?_) (by decide)
   replace hS:=bW a1o hS
   obtain ⟨b27,hS⟩:=bU hS
   refine VL.app (s:=HU) (r:=a6N) Tryz.underlying23 XN (by decide) rfl Fo.out (wM b27) (wN b27 (by decide)) (by decide) (fun OP aJs => ?_)
   replace hS:=bW aJs hS
   refine Zy ?_
   refine VC.keep (ρ':=[(1,i64 n_1),(5,OP.val),(8,fF.val),(9,i64 (fF.l.length:Int)),(10,i64 ML)]) [1,5,8,9,10] rfl ?_
   refine Zr ?_
   obtain ⟨b28,hS⟩:=bU hS
   refine Zu (cR rfl rfl b28) (Zm ?_)
   refine VL.jU (OP,(ML+1)) [1,5,8,9,10] (fun _ _ h=>h) (go2 hS hK1) rfl
  refine Zk ?_
  refine VC.keep (ρ':=[(1,i64 n_1),(5,HU.val),(8,fF.val),(9,i64 (fF.l.length:Int)),(10,i64 ML)]) [1,5,8,9,10] rfl ?_
  refine Zr ?_
  obtain ⟨b28,hS⟩:=bU hS
  refine Zu (cR rfl rfl b28) (Zm ?_)
  refine VL.jU (HU,(ML+1)) [1,5,8,9,10] (fun _ _ h=>h) (go2 hS hK1) rfl
 replace hS:=iJ hS hK1
 refine Zx ?_
 refine Zq (Zr (Zm ?_))
 refine VL.shut HU 32 (fun _ _ _ _=>trivial) ?_
 obtain ⟨mZ,y8,hS⟩:=aO hS
 refine VL.dK (eU HU y8) rfl (by decide) ?_
 rintro tY rfl
 try dsimp only
 refine Zy ?_
 cases hS
 exact VC.ret (Z1 tY)
theorem aA9 (s:Sv aK) (hb:s.l.length≤4294967296):Ct Tryz.prog 70 [s.val] Mo.tt (s.own 9) (X:=Sv aK) (fun _ => .tuple #[]) (fun q=>q.l=Go.S.uC s.l∧q.val=s.val) (fun _=>Mo.tt) (fun q=>q.own 9) :=
  Ct.sort (AB Tryz.func70 rfl (by kernel_rfl)) (fun blk off cap ss w hH hb hs=>Tryz.slices_Sort_string blk off cap ss w hH hb hs) (fun p cap w=>Tryz.slices_Sort_string_none p cap w) s 9 hb
theorem N9 (s:Sv aK) (hb:s.l.length≤4294967296):Ct Tryz.prog 72 [s.val] Mo.tt (s.own 9) (X:=Sv aK) (fun q=>q.val) (fun q=>q.l=Go.S.q7 s.l) (fun _=>Mo.tt) (fun q=>q.own 9) :=
  Ct.compact (AB Tryz.func72 rfl (by kernel_rfl)) (fun blk off cap ss w hH hb hs=>Tryz.slices_Compact_string blk off cap ss w hH hb hs) (fun p cap w=>Tryz.slices_Compact_string_empty p cap w) s 9 hb
theorem CZ (fF:Sv aE) {r:List aK} (hS:Sh.q8 fF.l=some r) :
 Ct Tryz.prog 123 [fF.val] fF.ok (Ow.emp) (X:=Sv aK) (fun x=>x.val) (fun x=>r=x.l) (fun x=>Mo.tt) (fun x=>Sv.own x 9):=by
 refine Zo Tryz.func123 Tryz.ntmps123 fun c => ?_
 unfold Sh.q8 at hS
 refine Zq (Zr (Zy ?_))
 refine Zq (Zr (Zy ?_))
 refine Zq (Zq (Zr (Zm (Zu (eB (s:=fF) Tryz.underlying36 rfl) (Zy ?_)))))
 refine Zb ?_
 refine VC.nU (⟨none,0,[]⟩:Sv aK) 9 ⟨rfl,rfl⟩ ?_
 refine VC.iter (S:=Sv aK×Int) (fun sg=>(sg.1.l,sg.2)) (fun sg=>[(3,sg.1.val),(6,fF.val),(7,i64 (fF.l.length:Int)),(8,i64 sg.2)]) (fun sg=>Mo.tt) (fun sg=>Ow.star (Sv.own sg.1 9) (Ow.emp)) (⟨none,0,[]⟩,0) [3,6,7,8] hS rfl ?_
 clear hS
 rintro ⟨nD,sM⟩ m1 y1 hS hK1
 refine Zq (Zr (Zu (dW rfl rfl) ?_))
 refine Zl ?_
 refine Zq ?_
 refine Zc hS (fun h9 hS => ?_) (fun h9 hS => ?_)
 ·
  refine Zk ?_
  refine Zq (Zb (Zq (Zr ?_)))
  obtain ⟨jW,GA,F6,hS⟩:=fA hS
  refine Zu (eZ (s:=fF) Tryz.underlying36 jD rfl rfl GA (bH GA F6)) (Zu (nX (s:=fF) oE rfl rfl F6) ?_)
  refine gV [str [],i64 0,i64 0,str [],i64 0,i64 0] fun a6l => ?_
  refine Zv (cs':=[str jW.path,i64 jW.eM,i64 jW.mode,str jW.data,i64 jW.time,i64 jW.size]) rfl jD ?_
  refine Zl ?_
  refine Zq (Zr (Zu (aB xN rfl) (Zu (aL fL rfl rfl) (Zu (lF rfl rfl) ?_))))
  refine Zl ?_
  refine o3 hS (fun h14 hS => ?_) (fun h14 hS => ?_)
  ·
   refine Zr (Zm (Zu (aB tG rfl) (Zu (aL cQ rfl rfl) ?_)))
   refine VL.lit (α:=aK) (xs:=[.tmp 17]) (vs:=[str jW.path]) [jW.path] Tryz.underlying39 xQ (by decide) rfl rfl rfl rfl (by decide) (fun _ _ _ _=>trivial) (by decide) (fun a6G a1d => ?_) (by decide)
   replace hS:=bW a1d hS
   obtain ⟨b19,hS⟩:=bU hS
   refine VL.app (s:=nD) (r:=a6G) Tryz.underlying39 R6 (by decide) rfl Fo.out (wM b19) (wN b19 (by decide)) (by decide) (fun aYb a1g => ?_)
   replace hS:=bW a1g hS
   refine Zy ?_
   refine VC.keep (ρ':=[(3,aYb.val),(6,fF.val),(7,i64 (fF.l.length:Int)),(8,i64 sM)]) [3,6,7,8] rfl ?_
   refine Zr ?_
   obtain ⟨b20,hS⟩:=bU hS
   refine Zu (cR rfl rfl b20) (Zm ?_)
   refine VL.jU (aYb,(sM+1)) [3,6,7,8] (fun _ _ h=>h) (go2 hS hK1) rfl
  refine Zk ?_
  refine VC.keep (ρ':=[(3,nD.val),(6,fF.val),(7,i64 (fF.l.length:Int)),(8,i64 sM)]) [3,6,7,8] rfl ?_
  refine Zr ?_
  obtain ⟨b20,hS⟩:=bU hS
  refine Zu (cR rfl rfl b20) (Zm ?_)
  refine VL.jU (nD,(sM+1)) [3,6,7,8] (fun _ _ h=>h) (go2 hS hK1) rfl
 replace hS:=iJ hS hK1
 refine Zx ?_
 refine Zq (Zr (Zm ?_))
 obtain ⟨b22,hS⟩:=bU hS
 refine VL.bL (aA9 nD b22) rfl (by decide) ?_
 rintro a60 ⟨a1z,a30⟩
 try dsimp only
 rw [← a30]
 replace hS:=bW a1z hS
 refine Zl ?_
 refine Zq (Zr (Zm ?_))
 obtain ⟨b24,hS⟩:=bU hS
 refine VL.bL (N9 a60 b24) rfl (by decide) ?_
 rintro a34 aXY
 try dsimp only
 replace hS:=bW aXY hS
 obtain ⟨aR7,aUk,hS⟩:=aO hS
 refine VL.bL (lZ a34 aUk) rfl (by decide) ?_
 rintro aI7 rfl
 try dsimp only
 refine Zy ?_
 refine VC.keep (ρ':=[(2,aI7.val)]) [2] rfl ?_
 cases hS
 exact VC.ret (Z1 aI7)
theorem aHk (aA:cF) (aIQ:Int) {r:Bool} (hS:Sh.aAb aA.pl aIQ=some r) :
 Cp Tryz.prog 340 [.agg (aJ aA).toArray,i64 aIQ] (aA.bG.ok.and (aA.aY.ok.and (aA.bP.ok.and (aA.aP.ok.and (aA.aT.ok.and (aA.aQ.ok.and (aA.aU.ok.and (aA.bC.ok.and (aA.bD.ok.and (aA.bS.ok.and aA.bJ.ok)))))))))) (.bool r):=by
 refine Zo Tryz.func340 Tryz.ntmps340 fun c => ?_
 unfold Sh.aAb at hS
 refine Zq (Zr ?_)
 refine kQ (aJ aA) fun fJ => ?_
 refine Zy ?_
 refine Zq (Zr (Zm (Zu (vC rfl rfl) (Zm ?_))))
 refine o4 7 hS (fun h7 hS => ?_) (fun h7 hS => ?_)
 ·
  refine Zg ?_
  refine Zh (aB nT rfl) ?_
  refine Zh (aL s5 rfl rfl) ?_
  refine Zh (qN cG.pl (s:=aA.bD) Tryz.underlying73 rfl) ?_
  refine Zh (L8 rfl rfl) ?_
  refine Zy ?_
  refine VC.keep (ρ':=[(4,.bool (decide (aIQ≤((aA.bD.l.map cG.pl).length:Int))))]) [4] rfl ?_
  cases hS
  exact Ze
 refine VL.runs 7 [(4,some false)] (by kernel_rfl) ?_
 refine Zl ?_
 cases hS
 exact Ze
theorem B0 (aA:cF) (mP:Int) {r:List aC} (hS:Sh.E4 aA.pl mP=some r) :
 Ct Tryz.prog 280 [.agg (aJ aA).toArray,i64 mP] (aA.bG.ok.and (aA.aY.ok.and (aA.bP.ok.and (aA.aP.ok.and (aA.aT.ok.and (aA.aQ.ok.and (aA.aU.ok.and (aA.bC.ok.and (aA.bD.ok.and (aA.bS.ok.and aA.bJ.ok)))))))))) (Ow.emp) (X:=Sv aC) (fun x=>x.val) (fun x=>r=x.l) (fun x=>x.ok) (fun x=>Ow.emp):=by
 refine Zo Tryz.func280 Tryz.ntmps280 fun c => ?_
 unfold Sh.E4 at hS
 refine Zq (Zr ?_)
 refine kQ (aJ aA) fun fJ => ?_
 refine Zy ?_
 refine Zq (Zq (Zr (Zu (cJ cI rfl rfl) (Zm ?_))))
 obtain ⟨yU,EC,hS⟩:=aO hS
 refine Zu (cH (aHk aA mP EC) rfl (fun _ _=>rfl)) ?_
 refine Zu (jE rfl) ?_
 refine Zl ?_
 refine gR hS (fun h8 hS => ?_) (fun h8 hS => ?_)
 ·
  refine Zq (Zr (Zy ?_))
  cases hS
  exact VC.ret (Z1 ⟨none,0,[]⟩)
 refine Zk ?_
 refine Zq (Zr (Zu (aB nT rfl) (Zu (aL s5 rfl rfl) (Zm ?_))))
 obtain ⟨b12,hS⟩:=bU hS
 refine Zu (zI rfl rfl b12) ?_
 obtain ⟨XH,aBu,XU,hS⟩:=EB hS
 refine VL.deep XH.m XU (fun _ q=>q) ?_
 refine Zu (eZ (s:=aA.bD) Tryz.underlying73 aAI rfl rfl aBu (bH aBu XU)) (Zu (aB aL7 rfl) (Zu (pQ (s:=aA.bD) kO rfl XU rfl) ?_))
 obtain ⟨pT,J5,hS⟩:=aO hS
 refine VL.bL (iH XH.tree J5) rfl (by decide) ?_
 rintro aCG rfl
 try dsimp only
 refine VL.shut aCG 32 (fun _ _ _ _=>trivial) ?_
 obtain ⟨HM,RU,hS⟩:=aO hS
 refine VL.dK (eU aCG RU) rfl (by decide) ?_
 rintro LZ rfl
 try dsimp only
 refine Zy ?_
 refine VC.keep (ρ':=[(4,LZ.val)]) [4] rfl ?_
 cases hS
 exact VC.ret (Z1 LZ)
theorem HX (aA:cF) {r:List aC} (hS:Sh.HF aA.pl=some r) :
 Ct Tryz.prog 216 [.agg (aJ aA).toArray] (aA.bG.ok.and (aA.aY.ok.and (aA.bP.ok.and (aA.aP.ok.and (aA.aT.ok.and (aA.aQ.ok.and (aA.aU.ok.and (aA.bC.ok.and (aA.bD.ok.and (aA.bS.ok.and aA.bJ.ok)))))))))) (Ow.emp) (X:=Sv aC) (fun x=>x.val) (fun x=>r=x.l) (fun x=>x.ok) (fun x=>Ow.emp):=by
 refine Zo Tryz.func216 Tryz.ntmps216 fun c => ?_
 unfold Sh.HF at hS
 refine Zq (Zr ?_)
 refine kQ (aJ aA) fun jN => ?_
 refine Zy ?_
 refine Zq (Zr (Zu (cJ cI rfl rfl) (Zu (aB eO rfl) (Zu (aB p4 rfl) (Zu (aB F1 rfl) (Zu (aL fL rfl rfl) ?_))))))
 obtain ⟨lR,y9,hS⟩:=aO hS
 refine VL.dK (B0 aA aA.aH y9) rfl (by decide) ?_
 rintro CL rfl
 try dsimp only
 refine Zy ?_
 cases hS
 exact VC.ret (Z1 CL)
theorem CN (qX:Sv aC) (y5:Sv aC) {r:Bool} (hS:Sh.kF qX.l y5.l=some r) :
 Cp Tryz.prog 39 [qX.val,y5.val] (qX.ok.and y5.ok) (.bool r):=by
 refine Zo Tryz.func39 Tryz.ntmps39 fun c => ?_
 unfold Sh.kF at hS
 refine Zq (Zr (Zy ?_))
 refine Zq (Zq (Zr (Zm (Zu (eB (s:=qX) Tryz.underlying23 rfl) (Zm (Zu (eB (s:=y5) Tryz.underlying23 rfl) (Zu (lF rfl rfl) ?_)))))))
 refine Zl ?_
 refine o3 hS (fun h10 hS => ?_) (fun h10 hS => ?_)
 ·
  refine Zq (Zr (Zy ?_))
  cases hS
  exact Ze
 refine Zk ?_
 refine Zq (Zq (Zr (Zm (Zu (eB (s:=qX) Tryz.underlying23 rfl) (Zy ?_)))))
 refine VC.keep (ρ':=[(0,qX.val),(1,y5.val),(12,i64 (qX.l.length:Int)),(13,i64 0)]) [0,1,12,13] rfl ?_
 refine Zb ?_
 refine VC.iter (S:=Int) (fun (vJ:Int)=>vJ) (fun (vJ:Int)=>[(0,qX.val),(1,y5.val),(12,i64 (qX.l.length:Int)),(13,i64 vJ)]) (fun (vJ:Int)=>Mo.tt) (fun (vJ:Int)=>Ow.emp) 0 [0,1,12,13] hS rfl ?_
 clear hS
 rintro vJ m1 y1 hS hK1
 refine Zq (Zr (Zu (dW rfl rfl) ?_))
 refine Zl ?_
 refine Zq ?_
 refine Zc hS (fun h14 hS => ?_) (fun h14 hS => ?_)
 ·
  refine Zk ?_
  refine Zq (Zb (Zq (Zr (Zy ?_))))
  refine Zq ?_
  refine l9 ((List.range 9).map fun k=>(k,true)) ?_
  refine Zw rfl (bB rfl) ?_
  refine Zw rfl (bB rfl) ?_
  obtain ⟨EX,aEc,aE9,hS⟩:=fA hS
  refine Zw rfl (eZ (s:=qX) Tryz.underlying23 fC rfl rfl aEc (bH aEc aE9)) ?_
  refine Zw rfl (nX (s:=qX) kI rfl rfl aE9) ?_
  refine Zw rfl (bB rfl) ?_
  refine Zw rfl (bB rfl) ?_
  obtain ⟨PG,aQm,aQK,hS⟩:=fA hS
  refine Zw rfl (eZ (s:=y5) Tryz.underlying23 fC rfl rfl aQm (bH aQm aQK)) ?_
  refine Zw rfl (nX (s:=y5) kI rfl rfl aQK) ?_
  refine Zw rfl (aG3 aPo (aPp EX.path EX.mode EX.data PG.path PG.mode PG.data) rfl rfl) ?_
  refine VD.to (fun _ _ h=>h) ?_
  refine VC.keep (ρ':=[(0,qX.val),(1,y5.val),(12,i64 (qX.l.length:Int)),(13,i64 vJ),(24,.bool (!decide (EX.path=PG.path∧EX.mode=PG.mode∧EX.data=PG.data)))]) [0,1,12,13,24] rfl ?_
  refine o3 hS (fun h24 hS => ?_) (fun h24 hS => ?_)
  ·
   refine Zq (Zr (Zy ?_))
   replace hS:=iJ hS hK1
   cases hS
   exact Ze
  refine Zk ?_
  refine Zr ?_
  obtain ⟨b25,hS⟩:=bU hS
  refine Zu (cR rfl rfl b25) (Zm ?_)
  refine VL.jU (vJ+1) [0,1,12,13] (fun _ _ h=>h) (go2 hS hK1) rfl
 replace hS:=iJ hS hK1
 refine Zx ?_
 refine Zq (Zr (Zy ?_))
 cases hS
 exact Ze
theorem LD (dD:Sv aC) (q_1:Sv aC) {r:Bool} (hS:Sh.vL dD.l q_1.l=some r) :
 Cp Tryz.prog 10 [dD.val,q_1.val] (dD.ok.and q_1.ok) (.bool r):=by
 refine Zo Tryz.func10 Tryz.ntmps10 fun c => ?_
 unfold Sh.vL at hS
 refine Zq (Zr (Zy ?_))
 refine Zq (Zr (Zy ?_))
 obtain ⟨jO,mD,hS⟩:=aO hS
 refine Zu (cH (CN dD q_1 mD) rfl (fun _ _=>rfl)) ?_
 refine Zy ?_
 cases hS
 exact Ze
theorem TY (dD:fH) (n_1:aK) {r:Int} (hS:Sh.KD dD n_1=some r) :
 Cp Tryz.prog 348 [.agg #[str dD.name,i64 dD.dX],str n_1] Mo.tt (i64 r):=by
 refine Zo Tryz.func348 Tryz.ntmps348 fun c => ?_
 unfold Sh.KD at hS
 refine Zq (Zr ?_)
 refine kQ [str dD.name,i64 dD.dX] fun fJ => ?_
 refine Zy ?_
 refine Zq (Zr (Zu (aB aIA rfl) (Zu (aL cQ rfl rfl) (Zm ?_))))
 obtain ⟨lR,y9,hS⟩:=aO hS
 refine Zu (cH (FO dD.name n_1 y9) rfl (fun _ _=>rfl)) ?_
 refine Zy ?_
 cases hS
 exact Ze
theorem sS (fY:Sv fH) (mV:aK) {r:Int×Bool} (hS:Sh.j4 fY.l mV=some r) :
 Cp Tryz.prog 347 [fY.val,str mV,.func (.func 348) #[] #[]] fY.ok (.tuple #[i64 r.1,.bool r.2]):=by
 refine Zo Tryz.func347 Tryz.ntmps347 fun c => ?_
 unfold Sh.j4 at hS
 refine Zq (Zr (Zy ?_))
 refine Zq (Zr (Zm (Zu (eB (s:=fY) Tryz.underlying63 rfl) (Zy ?_))))
 refine Zq (Zr (Zy ?_))
 refine Zq (Zb ?_)
 refine VC.iter (S:=Int×Int) (fun sg=>(sg.1,sg.2)) (fun sg=>[(0,fY.val),(1,str mV),(2,.func (.func 348) #[] #[]),(8,i64 (fY.l.length:Int)),(9,i64 sg.1),(10,i64 sg.2)]) (fun sg=>Mo.tt) (fun sg=>Ow.emp) (0,(fY.l.length:Int)) [0,1,2,8,9,10] hS rfl ?_
 clear hS
 rintro ⟨oT,o8⟩ m1 y1 hS hK1
 refine Zq (Zq (Zr (Zy ?_)))
 refine Zu (dW rfl rfl) ?_
 refine Zl ?_
 refine Zc hS (fun h17 hS => ?_) (fun h17 hS => ?_)
 ·
  refine Zk ?_
  refine Zb (Zq (Zr (Zy ?_)))
  obtain ⟨b20,hS⟩:=bU hS
  refine Zu (cR rfl rfl b20) (Zu (tZ Tryz.underlying3 Tryz.underlying207 rfl) ?_)
  refine Zu (aA0 rfl rfl (by decide)) ?_
  refine Zu (tZ Tryz.underlying207 Tryz.underlying3 rfl) (Zy ?_)
  refine VC.keep (ρ':=[(0,fY.val),(1,str mV),(2,.func (.func 348) #[] #[]),(8,i64 (fY.l.length:Int)),(9,i64 oT),(10,i64 o8),(11,i64 (IntKind.wrap .i64 (yX .u64 (IntKind.wrap .u64 (oT+o8)) 1)))]) [0,1,2,8,9,10,11] rfl ?_
  refine Zq (Zr (Zy ?_))
  obtain ⟨aAl,aBx,aBc,hS⟩:=fA hS
  refine Zu (eZ (s:=fY) Tryz.underlying63 p5 rfl rfl aBx (bH aBx aBc)) (Zu (nX (s:=fY) aFc rfl rfl aBc) (Zm ?_))
  obtain ⟨uJ,RZ,hS⟩:=aO hS
  refine Zu (L7 (TY aAl mV RZ) rfl rfl (fun _ _=>rfl)) ?_
  refine Zu (dW rfl rfl) ?_
  refine Zl ?_
  refine VC.keep (ρ':=[(0,fY.val),(1,str mV),(2,.func (.func 348) #[] #[]),(8,i64 (fY.l.length:Int)),(9,i64 oT),(10,i64 o8),(11,i64 (IntKind.wrap .i64 (yX .u64 (IntKind.wrap .u64 (oT+o8)) 1))),(31,.bool (decide (uJ < 0)))]) [0,1,2,8,9,10,11,31] rfl ?_
  refine Zc hS (fun h31 hS => ?_) (fun h31 hS => ?_)
  ·
   refine Zr (Zm ?_)
   obtain ⟨b33,hS⟩:=bU hS
   refine Zu (cR rfl rfl b33) (Za ?_)
   refine VL.jU (((IntKind.wrap .i64 (yX .u64 (IntKind.wrap .u64 (oT+o8)) 1))+1),o8) [0,1,2,8,9,10] (fun _ _ h=>h) (go2 hS hK1) rfl
  refine Zr (Zy ?_)
  refine VL.jU (oT,(IntKind.wrap .i64 (yX .u64 (IntKind.wrap .u64 (oT+o8)) 1))) [0,1,2,8,9,10] (fun _ _ h=>h) (go2 hS hK1) rfl
 replace hS:=iJ hS hK1
 refine Zx ?_
 refine Zq (Zr (Zy ?_))
 refine Zu (dW rfl rfl) (Zm ?_)
 refine o4 39 hS (fun h39 hS => ?_) (fun h39 hS => ?_)
 ·
  refine Zy ?_
  obtain ⟨aAm,aBy,aBd,hS⟩:=fA hS
  refine Zh (eZ (s:=fY) Tryz.underlying63 p5 rfl rfl aBy (bH aBy aBd)) ?_
  refine Zh (nX (s:=fY) aFc rfl rfl aBd) ?_
  refine Zg ?_
  obtain ⟨zP,aBS,hS⟩:=aO hS
  refine Zh (L7 (TY aAm mV aBS) rfl rfl (fun _ _=>rfl)) ?_
  refine Zh (iI rfl rfl) ?_
  refine Zy ?_
  refine VC.keep (ρ':=[(6,i64 oT),(7,.bool (decide (zP=0)))]) [6,7] rfl ?_
  cases hS
  exact VC.ret (Z2 ())
 refine VL.runs 9 [(48,some false)] (by kernel_rfl) ?_
 refine Zy ?_
 refine VC.keep (ρ':=[(6,i64 oT),(7,.bool false)]) [6,7] rfl ?_
 cases hS
 exact VC.ret (Z2 ())
theorem DQ (aA:cF) (fU:aK) {r:Int×Bool} (hS:Sh.EO aA.pl fU=some r) :
 Cp Tryz.prog 291 [.agg (aJ aA).toArray,str fU] (aA.bG.ok.and (aA.aY.ok.and (aA.bP.ok.and (aA.aP.ok.and (aA.aT.ok.and (aA.aQ.ok.and (aA.aU.ok.and (aA.bC.ok.and (aA.bD.ok.and (aA.bS.ok.and aA.bJ.ok)))))))))) (.tuple #[i64 r.1,.bool r.2]):=by
 refine Zo Tryz.func291 Tryz.ntmps291 fun c => ?_
 unfold Sh.EO at hS
 refine Zq (Zr ?_)
 refine kQ (aJ aA) fun fJ => ?_
 refine Zy ?_
 refine Zq (Zr (Zu (aB eO rfl) (Zu (aB lX rfl) (Zu (aL vT rfl rfl) (Zm ?_)))))
 obtain ⟨gD,FQ,hS⟩:=aO hS
 refine Zu (cH (sS aA.bP fU FQ) rfl (fun _ _=>rfl)) ?_
 refine Zu (aV rfl rfl) (Zu (aV rfl rfl) (Zy ?_))
 refine VC.keep (ρ':=[(4,i64 gD.1),(5,.bool gD.2)]) [4,5] rfl ?_
 cases hS
 exact VC.ret (Z2 ())
theorem aCT (aA:cF) {r:Bool} (hS:Sh.L9 aA.pl=some r) :
 Cp Tryz.prog 297 [.agg (aJ aA).toArray] (aA.bG.ok.and (aA.aY.ok.and (aA.bP.ok.and (aA.aP.ok.and (aA.aT.ok.and (aA.aQ.ok.and (aA.aU.ok.and (aA.bC.ok.and (aA.bD.ok.and (aA.bS.ok.and aA.bJ.ok)))))))))) (.bool r):=by
 refine Zo Tryz.func297 Tryz.ntmps297 fun c => ?_
 unfold Sh.L9 at hS
 refine Zq (Zr ?_)
 refine kQ (aJ aA) fun jN => ?_
 refine Zy ?_
 refine Zq (Zr (Zu (cJ cI rfl rfl) (Zu (aB eO rfl) (Zu (aB p4 rfl) (Zu (aB UR rfl) (Zu (aL cQ rfl rfl) ?_))))))
 obtain ⟨rE,RO,hS⟩:=aO hS
 refine Zu (cH (DQ aA aA.aS RO) rfl (fun _ _=>rfl)) ?_
 refine Zm (Zu (aV rfl rfl) (Zu (aV rfl rfl) (Zy ?_)))
 refine VC.keep (ρ':=[(1,ptr jN 0),(4,.bool rE.2)]) [1,4] rfl ?_
 refine Zq (Zr (Zy ?_))
 refine xJ 15 hS (fun h15 hS => ?_) (fun h15 hS => ?_)
 ·
  refine VL.runs 14 [(2,some true)] (by kernel_rfl) ?_
  refine Zl ?_
  cases hS
  exact Ze
 refine Zh (aB eO rfl) ?_
 refine Zh (aB p4 rfl) ?_
 refine Zh (aB UR rfl) ?_
 refine Zh (aL cQ rfl rfl) ?_
 refine Zh (EM rfl rfl) ?_
 refine Zy ?_
 refine o4 22 hS (fun h22 hS => ?_) (fun h22 hS => ?_)
 ·
  refine VL.runs 7 [(2,some true)] (by kernel_rfl) ?_
  refine Zl ?_
  refine VC.keep (ρ':=[(2,.bool true)]) [2] rfl ?_
  cases hS
  exact Ze
 refine Zh (aB eO rfl) ?_
 refine Zh (aB lX rfl) ?_
 refine Zh (aL vT rfl rfl) ?_
 refine Zh (eB (s:=aA.bP) Tryz.underlying63 rfl) ?_
 refine Zh (dW rfl rfl) ?_
 refine Zy ?_
 refine VC.keep (ρ':=[(2,.bool (decide ((aA.bP.l.length:Int) < 64)))]) [2] rfl ?_
 cases hS
 exact Ze
theorem HY (aA:cF) {r:Bool} (hS:Sh.SR aA.pl=some r) :
 Cp Tryz.prog 281 [.agg (aJ aA).toArray] (aA.bG.ok.and (aA.aY.ok.and (aA.bP.ok.and (aA.aP.ok.and (aA.aT.ok.and (aA.aQ.ok.and (aA.aU.ok.and (aA.bC.ok.and (aA.bD.ok.and (aA.bS.ok.and aA.bJ.ok)))))))))) (.bool r):=by
 refine Zo Tryz.func281 Tryz.ntmps281 fun c => ?_
 unfold Sh.SR at hS
 refine Zq (Zr ?_)
 refine kQ (aJ aA) fun jN => ?_
 refine Zy ?_
 refine Zq (Zr (Zu (aB nT rfl) (Zu (aL s5 rfl rfl) (Zu (qN cG.pl (s:=aA.bD) Tryz.underlying73 rfl) (Zu (dW rfl rfl) (Zm ?_))))))
 refine o4 7 hS (fun h7 hS => ?_) (fun h7 hS => ?_)
 ·
  refine Zh (cJ cI rfl rfl) ?_
  obtain ⟨CX,R3,hS⟩:=aO hS
  refine Zh (cH (aCT aA R3) rfl (fun _ _=>rfl)) ?_
  refine Zy ?_
  refine VC.keep (ρ':=[(2,.bool CX)]) [2] rfl ?_
  cases hS
  exact Ze
 refine VL.runs 4 [(2,some false)] (by kernel_rfl) ?_
 refine Zl ?_
 cases hS
 exact Ze
theorem MA (SC:Int) {r:Bool} (hS:Sh.D2 SC=some r) :
 Cp Tryz.prog 343 [i64 SC] Mo.tt (.bool r):=by
 refine Zo Tryz.func343 Tryz.ntmps343 fun c => ?_
 unfold Sh.D2 at hS
 refine Zq (Zr (Zy ?_))
 refine Zq (Zr (Zm (Zu (dW rfl rfl) (Zy ?_))))
 cases hS
 exact Ze
theorem JH (aA:Sv Int) {r:Int} (hS:Sh.vI aA.l=some r) :
 Cp Tryz.prog 372 [aA.val,.func (.func 343) #[] #[]] aA.ok (i64 r):=by
 refine Zo Tryz.func372 Tryz.ntmps372 fun c => ?_
 unfold Sh.vI at hS
 refine Zq (Zr (Zy ?_))
 refine Zq (Zq (Zr (Zm (Zu (eB (s:=aA) Tryz.underlying83 rfl) (Zy ?_)))))
 refine Zb ?_
 refine VC.iter (S:=Int) (fun (cV:Int)=>cV) (fun (cV:Int)=>[(0,aA.val),(1,.func (.func 343) #[] #[]),(7,i64 (aA.l.length:Int)),(8,i64 cV)]) (fun (cV:Int)=>Mo.tt) (fun (cV:Int)=>Ow.emp) 0 [0,1,7,8] hS rfl ?_
 clear hS
 rintro cV m1 y1 hS hK1
 refine Zq (Zr (Zu (dW rfl rfl) ?_))
 refine Zl ?_
 refine Zq ?_
 refine Zc hS (fun h9 hS => ?_) (fun h9 hS => ?_)
 ·
  refine Zk ?_
  refine Zq (Zb (Zq (Zr (Zy ?_))))
  refine Zq (Zr (Zy ?_))
  obtain ⟨eV,nC,lU,hS⟩:=fA hS
  refine Zu (eZ (s:=aA) Tryz.underlying83 DE rfl rfl nC (bH nC lU)) (Zu (zW (s:=aA) fL rfl lU rfl) ?_)
  obtain ⟨iA,rG,hS⟩:=aO hS
  refine Zu (L7 (MA eV rG) rfl rfl (fun _ _=>rfl)) ?_
  refine Zl ?_
  refine VC.keep (ρ':=[(0,aA.val),(1,.func (.func 343) #[] #[]),(7,i64 (aA.l.length:Int)),(8,i64 cV),(5,i64 cV),(16,.bool iA)]) [0,1,7,8,5,16] rfl ?_
  refine gR hS (fun h16 hS => ?_) (fun h16 hS => ?_)
  ·
   refine Zq (Zr (Zy ?_))
   replace hS:=iJ hS hK1
   cases hS
   exact Ze
  refine Zk ?_
  refine Zr ?_
  obtain ⟨b18,hS⟩:=bU hS
  refine Zu (cR rfl rfl b18) (Zm ?_)
  refine VL.jU (cV+1) [0,1,7,8] (fun _ _ h=>h) (go2 hS hK1) rfl
 replace hS:=iJ hS hK1
 refine Zx ?_
 refine Zq (Zr (Zy ?_))
 cases hS
 exact Ze
theorem I0 (aA:Sv Int) {r:List Int} (hS:Sh.uB aA.l=some r) :
 Ct Tryz.prog 342 [aA.val,.func (.func 343) #[] #[]] Mo.tt (Sv.own aA 3) (X:=Sv Int) (fun x=>x.val) (fun x=>r=x.l) (fun x=>Mo.tt) (fun x=>Sv.own x 3):=by
 refine Zo Tryz.func342 Tryz.ntmps342 fun c => ?_
 unfold Sh.uB at hS
 refine Zq (Zr (Zy ?_))
 refine Zq (Zr (Zy ?_))
 obtain ⟨dA,mC,hS⟩:=aO hS
 refine Zu (rT (JH aA mC) rfl (fun _ _=>rfl)) ?_
 refine Zy ?_
 refine Zq (Zq (Zr (Zm (Zu (iI rfl rfl) ?_))))
 refine Zl ?_
 refine Zc hS (fun h12 hS => ?_) (fun h12 hS => ?_)
 ·
  refine Zq (Zr (Zy ?_))
  cases hS
  exact VC.ret (Z1 aA)
 refine Zk ?_
 refine Zq (Zq (Zr (Zm ?_)))
 obtain ⟨b15,hS⟩:=bU hS
 refine Zu (cR rfl rfl b15) (Zy ?_)
 refine VC.keep (ρ':=[(0,aA.val),(1,.func (.func 343) #[] #[]),(5,i64 dA),(6,i64 (dA+1))]) [0,1,5,6] rfl ?_
 refine Zb ?_
 refine VC.iter (S:=Sv Int×Int×Int) (fun sg=>(sg.1.l,sg.2.1,sg.2.2)) (fun sg=>[(0,sg.1.val),(1,.func (.func 343) #[] #[]),(5,i64 sg.2.1),(6,i64 sg.2.2)]) (fun sg=>Mo.tt) (fun sg=>Ow.star (Sv.own sg.1 3) (Ow.emp)) (aA,dA,(dA+1)) [0,1,5,6] hS rfl ?_
 clear hS
 rintro ⟨eT,gF,kV⟩ m1 y1 hS hK1
 refine Zq (Zq (Zr (Zy ?_)))
 refine Zu (eB (s:=eT) Tryz.underlying83 rfl) (Zu (dW rfl rfl) ?_)
 refine Zl ?_
 refine Zc hS (fun h19 hS => ?_) (fun h19 hS => ?_)
 ·
  refine Zk ?_
  refine VC.gN (S:=Sv Int×Int) (fun sg=>(sg.1.l,sg.2)) (fun sg=>[(0,sg.1.val),(1,.func (.func 343) #[] #[]),(5,i64 sg.2),(6,i64 kV)]) (fun sg=>Mo.tt) (fun sg=>Ow.star (Sv.own sg.1 3) (Ow.emp)) hS ?_ ?_
  ·
   clear hS
   intro k7 hS
   refine Zb (Zq (Zr (Zy ?_)))
   obtain ⟨dN,vX,vV,hS⟩:=fA hS
   refine Zu (lN (s:=eT) Tryz.underlying83 DE rfl rfl vX (bH vX vV)) (Zu (AO (s:=eT) 3 fL rfl vV rfl) (Zy ?_))
   refine VC.keep (ρ':=[(0,eT.val),(1,.func (.func 343) #[] #[]),(5,i64 gF),(6,i64 kV),(7,i64 dN)]) [0,1,5,6,7] rfl ?_
   refine Zq (Zr (Zy ?_))
   obtain ⟨aHJ,aJ7,hS⟩:=aO hS
   refine Zu (L7 (MA dN aJ7) rfl rfl (fun _ _=>rfl)) ?_
   refine Zu (jE rfl) ?_
   refine Zl ?_
   refine gR hS (fun h29 hS => ?_) (fun h29 hS => ?_)
   ·
    refine Zq (Zr (Zy ?_))
    obtain ⟨aKx,U7,UW,hS⟩:=fA hS
    refine Zu (lN (s:=eT) Tryz.underlying83 DE rfl rfl U7 (bH U7 UW)) ?_
    refine VL.wJ (s:=eT) (T:=3) (j:=0) (vc:=[i64 dN]) (dN:Int) (by decide) rfl rfl UW rfl DE rfl rfl (Nat.le_of_ble_eq_true rfl) rfl (fun w11 hw11 haw11 hcw11 hvw11 hbw11 how11 => ?_)
    rw [← hvw11]
    replace hS:=bW hw11 hS
    refine Zl ?_
    refine VC.keep (ρ':=[(0,w11.val),(1,.func (.func 343) #[] #[]),(5,i64 gF),(6,i64 kV)]) [0,1,5,6] rfl ?_
    refine Zr (Zm ?_)
    obtain ⟨b35,hS⟩:=bU hS
    refine Zu (cR rfl rfl b35) (Za ?_)
    refine VL.mt (w11,(gF+1)) [0,1,5,6] (fun _ _ h=>h) hS rfl
   refine VC.iV (eT,gF) [0,1,5,6] (fun _ _ h=>h) hS rfl
  clear hS
  rintro ⟨BW,BN⟩ hS
  refine Zr (Zm ?_)
  obtain ⟨b21,hS⟩:=bU hS
  refine Zu (cR rfl rfl b21) (Za ?_)
  refine VL.jU (BW,BN,(kV+1)) [0,1,5,6] (fun _ _ h=>h) (go2 hS hK1) rfl
 replace hS:=iJ hS hK1
 refine Zx ?_
 refine Zq (Zr (Zy ?_))
 obtain ⟨b38,hS⟩:=bU hS
 refine VL.fits (s:=eT) (e:=3) Fo.out fun aBT => ?_
 refine Zu (KC (s:=eT) Tryz.underlying83 DE rfl rfl b38.1 b38.2 aBT) ?_
 refine VL.aHs (s:=eT) (i:=gF.toNat) (i64 0) Tryz.underlying83 a6y rfl rfl rfl (by have:=b38; dsimp only at this ⊢; omega) Fo.out fun aCZ aFv aGt => ?_
 replace hS:=bW aFv hS
 refine Zl ?_
 refine VC.keep (ρ':=[(0,eT.val),(5,i64 gF)]) [0,5] rfl ?_
 refine Zq (Zr (Zy ?_))
 refine Zu (X4 (s:=eT) (q:=aCZ) Tryz.underlying83 DE rfl rfl b38.1 b38.2 aBT aGt) (Zy ?_)
 cases hS
 exact VC.ret (Z1 aCZ)
theorem QM (aA:cF) (P5:Int) {r:List Int} (hS:Sh.OO aA.pl P5=some r) :
 Ct Tryz.prog 283 [.agg (aJ aA).toArray,i64 P5] (aA.bG.ok.and (aA.aY.ok.and (aA.bP.ok.and (aA.aP.ok.and (aA.aT.ok.and (aA.aQ.ok.and (aA.aU.ok.and (aA.bC.ok.and (aA.bD.ok.and (aA.bS.ok.and aA.bJ.ok)))))))))) (Ow.emp) (X:=Sv Int) (fun x=>x.val) (fun x=>r=x.l) (fun x=>Mo.tt) (fun x=>Sv.own x 3):=by
 refine Zo Tryz.func283 Tryz.ntmps283 fun c => ?_
 unfold Sh.OO at hS
 refine Zq (Zr ?_)
 refine kQ (aJ aA) fun fJ => ?_
 refine Zy ?_
 refine Zq (Zr (Zu (aB eO rfl) (Zu (aB p4 rfl) (Zu (aB F1 rfl) (Zu (aL fL rfl rfl) (Zm ?_))))))
 refine VL.aQ1 (α:=Int) (xs:=[.tmp 8,.tmp 9]) (vs:=[i64 aA.aH,i64 P5]) [aA.aH,P5] Tryz.underlying83 oS (by decide) rfl rfl rfl rfl (by decide) (by decide) (fun a5v a1Y => ?_) (by decide)
 replace hS:=bW a1Y hS
 obtain ⟨JM,M4,hS⟩:=aO hS
 refine VL.bL (I0 a5v M4) rfl (by decide) ?_
 rintro VF rfl
 try dsimp only
 refine Zy ?_
 refine VC.keep (ρ':=[(4,VF.val)]) [4] rfl ?_
 cases hS
 exact VC.ret (Z1 VF)
theorem qB (aA:Sv cG) {r:List mO} (hS:Sh.nJ (aA.l.map cG.pl)=some r) :
 Ct Tryz.prog 341 [aA.val] aA.ok (Ow.emp) (X:=Sv cG) (fun x=>x.val) (fun x=>r=(x.l.map cG.pl)) (fun x=>(mH x.l)) (fun x=>Sv.own x 85):=by
 refine Zo Tryz.func341 Tryz.ntmps341 fun c => ?_
 unfold Sh.nJ at hS
 refine Zq (Zr (Zy ?_))
 refine Zq (Zq (Zr (Zm (Zu (IZ (s:=aA) Tryz.underlying73 rfl) ?_))))
 refine Zl ?_
 refine VC.slnil (s:=aA) rfl (fun h4 => ?_) ?_
 ·
  have hS:(some [])=some r:=by
    simp [lt,gd,h4] at hS ⊢
    try exact hS
  refine Zq (Zr (Zy ?_))
  refine VC.nU (⟨none,0,[]⟩:Sv cG) 85 ⟨rfl,rfl⟩ ?_
  refine VC.JD (s:=(⟨none,0,[]⟩:Sv cG)) rfl ?_
  cases hS
  exact VC.ret (Z1 ⟨none,0,[]⟩)
 refine Zk ?_
 refine Zq (Zr ?_)
 refine VL.aEE (α:=cG) Tryz.underlying73 a1K (by decide) (fun BX s6 zE => ?_)
 refine VL.nU BX 85 ⟨zE,s6⟩ ?_
 refine VL.JD s6 ?_
 replace hS:=bW (congrArg (List.map cG.pl) s6) hS
 refine Zm ?_
 obtain ⟨b7,hS⟩:=bU hS
 refine VL.app (s:=BX) (r:=aA) Tryz.underlying73 aE3 (by decide) rfl Fo.out (wM (apm b7)) (wN (apm b7) (by decide)) (by decide) (fun MB CY => ?_)
 replace hS:=bW ((congrArg (List.map cG.pl) CY).trans List.map_append) hS
 refine VL.aAU CY ?_
 refine Zy ?_
 cases hS
 exact VC.ret (Z1 MB)
theorem C0 (aA:Sv fH) {r:List fH} (hS:Sh.pR aA.l=some r) :
 Ct Tryz.prog 290 [aA.val] aA.ok (Ow.emp) (X:=Sv fH) (fun x=>x.val) (fun x=>r=x.l) (fun x=>Mo.tt) (fun x=>Sv.own x 301):=by
 refine Zo Tryz.func290 Tryz.ntmps290 fun c => ?_
 unfold Sh.pR at hS
 refine Zq (Zr (Zy ?_))
 refine Zq (Zq (Zr (Zm (Zu (IZ (s:=aA) Tryz.underlying63 rfl) ?_))))
 refine Zl ?_
 refine VC.slnil (s:=aA) rfl (fun h4 => ?_) ?_
 ·
  have hS:(some [])=some r:=by
    simp [lt,gd,h4] at hS ⊢
    try exact hS
  refine Zq (Zr (Zy ?_))
  refine VC.nU (⟨none,0,[]⟩:Sv fH) 301 ⟨rfl,rfl⟩ ?_
  cases hS
  exact VC.ret (Z1 ⟨none,0,[]⟩)
 refine Zk ?_
 refine Zq (Zr ?_)
 refine VL.aEE (α:=fH) Tryz.underlying63 aW4 (by decide) (fun BX s6 zE => ?_)
 refine VL.nU BX 301 ⟨zE,s6⟩ ?_
 replace hS:=bW s6 hS
 refine Zm ?_
 obtain ⟨b7,hS⟩:=bU hS
 refine VL.app (s:=BX) (r:=aA) Tryz.underlying63 aBZ (by decide) rfl Fo.out (wM b7) (wN b7 (by decide)) (by decide) (fun MB CY => ?_)
 replace hS:=bW CY hS
 refine Zy ?_
 cases hS
 exact VC.ret (Z1 MB)
theorem aH7 (s v:Sv fH) (i:Int) (hi:0≤i∧i≤(s.l.length:Int)) (hv:v.l≠[]) (hb:s.l.length+v.l.length≤4294967296):Ct Tryz.prog 293 [s.val,i64 i,v.val] Mo.tt (Ow.star (s.own 301) (v.own 301)) (X:=Sv fH) (fun q=>q.val) (fun q=>q.l=s.l.take i.toNat++v.l++s.l.drop i.toNat) (fun _=>Mo.tt) (fun q=>q.own 301):=by
 refine Zo Tryz.func293 Tryz.ntmps293 fun c => ?_
 have hvp:0 < v.l.length:=List.length_pos_iff.2 hv
 have hK:bM.sz fH=2:=rfl
 refine Zq (Zr (Zy ?_))
 refine Zq (Zr (Zy ?_))
 refine VL.fits (s:=s) (e:=301) Fo.out fun hf => ?_
 refine Zu (KC (s:=s) Tryz.underlying63 p5 rfl rfl hi.1 hi.2 hf) ?_
 refine Zl ?_
 refine Zq (Zr (Zm (Zu (eB (s:=v) Tryz.underlying63 rfl) (Zy ?_))))
 refine Zq (Zq (Zr (Zm (Zu (iI rfl rfl) ?_))))
 refine Zl ?_
 refine VC.AA rfl (fun h16=>absurd h16 (by omega)) (fun h16 => ?_)
 refine Zk ?_
 refine Zq (Zr (Zm (Zu (eB (s:=s) Tryz.underlying63 rfl) (Zy ?_))))
 refine Zq (Zq (Zr (Zy ?_)))
 refine Zu (iI rfl rfl) ?_
 refine Zl ?_
 refine VC.AA rfl (fun h22 => ?_) (fun h22 => ?_)
 ·
  refine Zq (Zr (Zy ?_))
  refine VL.shut v 301 (fun _ _ _ _=>trivial) ?_
  refine VL.aUV (s:=s) (r:=v) Tryz.underlying63 Tryz.underlying63 aBZ (by decide) rfl Fo.out (wM hb) (wN hb (by decide)) (by decide) (fun q hq => ?_)
  refine Zy ?_
  have e1:i.toNat=s.l.length:=by omega
  exact VC.ret (UM (.inr rfl) rfl rfl q rfl (by rw [hq,e1,List.take_length,List.drop_length,List.append_nil]) (fun _ _=>trivial) iY.out)
 have hin:i < (s.l.length:Int):=by omega
 have hne:s.l≠[]:=fun h=>by rw [h] at hin; simp at hin; omega
 have hkq:(s.l.length:Int)+(v.l.length:Int) - i=((s.l.length+v.l.length - i.toNat:Nat):Int):=by omega
 have hLn:(s.l.take i.toNat++v.l++s.l.drop i.toNat).length=s.l.length+v.l.length:=by simp only [List.length_append,List.length_take,List.length_drop]; omega
 have hfl:(s.l.take i.toNat++v.l++s.l.drop i.toNat).flatMap bM.enc=(s.l.take i.toNat).flatMap bM.enc++v.l.flatMap bM.enc++(s.l.drop i.toNat).flatMap bM.enc:=by rw [List.flatMap_append,List.flatMap_append]
 have lA:((s.l.take i.toNat).flatMap bM.enc).length=i.toNat*2:=by rw [jI,List.length_take,hK,Nat.min_eq_left (by omega)]
 have lV:(v.l.flatMap bM.enc).length=v.l.length*2:=by rw [jI,hK]
 have lS:((s.l.drop i.toNat).flatMap bM.enc).length=(s.l.length - i.toNat)*2:=by rw [jI,List.length_drop,hK]
 refine Zk ?_
 refine Zq (Zq (Zr (Zy ?_)))
 refine Zu (cR rfl rfl ⟨by omega,by omega⟩) ?_
 refine Zm (Zu (aKX (a0:=s.a) (L:=s.l.length) (C:=s.c) Tryz.underlying63 rfl) (Zu (lE rfl rfl) ?_))
 refine Zl ?_
 refine VC.AA rfl (fun h31 => ?_) (fun h31 => ?_)
 ·
  refine VC.shut s 301 (fun _ _ _ _=>trivial) ?_
  refine VC.shut v 301 (fun _ _ _ _=>trivial) ?_
  refine Zq (Zr ?_)
  refine VL.FV (φ:=s.a=some ⟨s.b,s.o,none⟩) (fun h m=>(fQ.out (X:=s.ok) h m).2.2.1 hne) fun hsa => ?_
  refine VL.FV (φ:=v.a=some ⟨v.b,v.o,none⟩) (fun h m=>(fQ.out (X:=v.ok) h m).2.2.1 hv) fun hva => ?_
  refine Zy ?_
  refine Zu (aDc (a0:=s.a) (L:=s.l.length) (C:=s.c) (K:=2) Tryz.underlying63 p5 rfl rfl hi.1 (by omega)) ?_
  refine Zy ?_
  refine Zu (cR rfl rfl ⟨by omega,by omega⟩) ?_
  refine Zm ?_
  refine Zu (zI rfl rfl ⟨by omega,by omega⟩) ?_
  refine VL.MC 39 rfl (congrArg (Value.int .i64) hkq) ?_
  refine VL.aNf (s:=s) (L:=i.toNat) (kq:=s.l.length+v.l.length - i.toNat) Tryz.underlying63 Tryz.underlying3 aBZ (by decide) rfl hne (by omega) (by omega) (by omega) (by omega) (by decide) (by decide) fun g cs cp hcl hcp hcm hct => ?_
  rw [hK] at hcl hct
  rw [show i.toNat+(s.l.length+v.l.length - i.toNat)=s.l.length+v.l.length by omega] at hcp ⊢
  have hfit:((s.l.take i.toNat).flatMap bM.enc).length+(v.l.flatMap bM.enc).length+((s.l.drop i.toNat).flatMap bM.enc).length≤cs.length:=by
    rw [lA,lV,lS,hcl,← Nat.add_mul,← Nat.add_mul]; exact Nat.mul_le_mul_right _ (by omega)
  have hic:=UY (V:=v.l.flatMap bM.enc) (S:=(s.l.drop i.toNat).flatMap bM.enc) (by rw [lA]; exact hct) hfit
  rw [← hfl,lA,lV,lS] at hic
  refine Zy ?_
  refine Zq (Zr (Zy ?_))
  refine Zu (oW (b:=g) (o:=0) (L:=s.l.length+v.l.length) (C:=cp) (K:=2) Tryz.underlying63 p5 rfl rfl hi.1 (by omega) hcp (by omega) rfl) ?_
  refine Zm ?_
  refine VL.MC 44 rfl (show v.val = .slice (some ⟨v.b,v.o+0*bM.sz fH,none⟩) v.l.length v.c by unfold Sv.val; rw [hva,Nat.zero_mul]; rfl) ?_
  refine VL.I9 (src:=v.l.flatMap bM.enc) Tryz.underlying63 p5 uW.out rfl (by rw [lV]; congr 1; exact (Nat.min_eq_left (by omega)).symm) (P3 (r:=v) (by decide) hv) (vK v.l) (by rw [lV,Nat.zero_add,hcl,← Nat.add_mul]; exact Nat.mul_le_mul_right _ (by omega)) (by decide) ?_
  rw [Nat.zero_add,lV]
  refine Zl ?_
  refine Zq ?_
  refine l9 [(0,true),(1,true),(2,true),(3,true),(4,true),(5,true),(6,true),(7,true),(8,false)] ?_
  refine Zw rfl (bB rfl) ?_
  refine Zw rfl (bB rfl) ?_
  refine Zw rfl (bB rfl) ?_
  refine Zw rfl (cR rfl rfl ⟨by omega,by omega⟩) ?_
  refine Zw rfl (oW (b:=g) (o:=0) (L:=s.l.length+v.l.length) (C:=cp) (K:=2) Tryz.underlying63 p5 rfl rfl (by omega) (by omega) hcp (by omega) rfl) ?_
  refine Zw rfl (bB rfl) ?_
  refine Zw rfl (bB rfl) ?_
  refine Zw rfl (oW (b:=s.b) (o:=s.o) (L:=s.l.length) (C:=s.c) (K:=2) Tryz.underlying63 p5 (show some s.val=_ by unfold Sv.val; rw [hsa]) rfl hi.1 (by omega) hf (by omega) rfl) ?_
  refine VD.one rfl ?_
  rw [show (i+(v.l.length:Int)).toNat=i.toNat+v.l.length by omega]
  refine VL.I9 (src:=(s.l.drop i.toNat).flatMap bM.enc) Tryz.underlying63 p5 uW.out rfl (by rw [lS]; congr 1; exact (Nat.min_eq_left (by omega)).symm) (aCE (r:=s) (by decide) hne i.toNat) (vK _) (by rw [lS,Nat.zero_add,hic.1,hcl,← Nat.add_mul]; exact Nat.mul_le_mul_right _ (by omega)) (by decide) ?_
  rw [Nat.zero_add,lS,Nat.add_mul]
  refine jH ?_
  refine VD.to (fun _ _ h=>h) ?_
  refine Zq (Zr (Zy ?_))
  have ho:=fun F=>P6 (F:=F) (e:=301) (b:=g) (l':=s.l.take i.toNat++v.l++s.l.drop i.toNat) (Nat.le_of_eq (hic.2.1.trans hcl).symm) (by rw [jI] at hic; exact hic.2.2) hLn hcp hcm
  exact VC.ret (UM (.inr rfl) rfl rfl ⟨some ⟨g,0,none⟩,cp,_⟩ (ho Ow.emp).1 rfl (fun _ _=>trivial) (ho _).2)
 refine Zk ?_
 refine Zq (Zr ?_)
 refine VL.open (s:=s) (e:=301) Fo.out (by omega) fun b cs hsa hcl hct _ hcm => ?_
 rw [hK] at hcl hct
 have hctA:cs.take ((s.l.take i.toNat).flatMap bM.enc).length=(s.l.take i.toNat).flatMap bM.enc:=by
   rw [lA]
   have:cs.take (i.toNat*2)=(cs.take (s.l.length*2)).take (i.toNat*2):=by rw [List.take_take,Nat.min_eq_left (Nat.mul_le_mul_right _ (by omega))]
   rw [this,hct]
   exact wO s.l i.toNat
 have hfit:((s.l.take i.toNat).flatMap bM.enc).length+(v.l.flatMap bM.enc).length+((s.l.drop i.toNat).flatMap bM.enc).length≤cs.length:=by
   refine Nat.le_trans ?_ hcl; rw [lA,lV,lS,← Nat.add_mul,← Nat.add_mul]; exact Nat.mul_le_mul_right _ (by omega)
 have hic:=UZ (V:=v.l.flatMap bM.enc) (S:=(s.l.drop i.toNat).flatMap bM.enc) hctA hfit
 rw [← hfl,lA,lV,lS] at hic
 refine Zy ?_
 refine Zu (cR rfl rfl ⟨by omega,by omega⟩) ?_
 refine Zu (aDc (a0:=s.a) (L:=s.l.length) (C:=s.c) (K:=2) Tryz.underlying63 p5 rfl rfl (by omega) (by omega)) ?_
 rw [show ((s.l.length:Int)+(v.l.length:Int)).toNat=s.l.length+v.l.length by omega,hsa]
 refine Zy ?_
 refine Zq (Zq (Zr (Zy ?_)))
 refine Zu (cR rfl rfl ⟨by omega,by omega⟩) ?_
 refine Zu (oW (b:=b) (o:=0) (L:=s.l.length+v.l.length) (C:=s.c) (K:=2) Tryz.underlying63 p5 rfl rfl (by omega) (by omega) (by omega) (by omega) rfl) ?_
 refine Zu (VY (tS:=63) (tR:=4) (s:=v) (b:=b) Tryz.func349 rfl rfl (by kernel_rfl) (by kernel_rfl) Tryz.underlying63 p5 rfl uW.out (fun h=>by rw [h] at hcl; simp at hcl; omega) hv) ?_
 refine Zu (jE rfl) ?_
 refine Zl ?_
 refine VC.RM rfl ?_
 refine VC.shut v 301 (fun _ _ _ _=>trivial) ?_
 refine Zq ?_
 refine l9 [(0,true),(1,true),(2,true),(3,true),(4,true),(5,true),(6,true),(7,true),(8,false)] ?_
 refine Zw rfl (bB rfl) ?_
 refine Zw rfl (bB rfl) ?_
 refine Zw rfl (bB rfl) ?_
 refine Zw rfl (cR rfl rfl ⟨by omega,by omega⟩) ?_
 refine Zw rfl (oW (b:=b) (o:=0) (L:=s.l.length+v.l.length) (C:=s.c) (K:=2) Tryz.underlying63 p5 rfl rfl (by omega) (by omega) (by omega) (by omega) rfl) ?_
 refine Zw rfl (bB rfl) ?_
 refine Zw rfl (bB rfl) ?_
 refine Zw rfl (oW (b:=b) (o:=0) (L:=s.l.length+v.l.length) (C:=s.c) (K:=2) Tryz.underlying63 p5 rfl rfl hi.1 (by omega) (by omega) (by omega) rfl) ?_
 refine VD.one rfl ?_
 rw [show (i+(v.l.length:Int)).toNat=i.toNat+v.l.length by omega,Nat.zero_add,Nat.zero_add]
 refine VL.I9 (src:=(s.l.drop i.toNat).flatMap bM.enc) Tryz.underlying63 p5 uW.out rfl (by rw [lS]; congr 1; simp only [Nat.min_def]; split <;> omega) (aFC (n:=s.l.length) hct rfl) (vK _) (by refine Nat.le_trans ?_ hcl; rw [lS,← Nat.add_mul]; exact Nat.mul_le_mul_right _ (by omega)) (by decide) ?_
 rw [lS,Nat.add_mul]
 refine jH ?_
 refine VD.to (fun _ _ h=>h) ?_
 refine Zq (Zr (Zy ?_))
 refine Zu (oW (b:=b) (o:=0) (L:=s.l.length+v.l.length) (C:=s.c) (K:=2) Tryz.underlying63 p5 rfl rfl hi.1 (by omega) (by omega) (by omega) rfl) ?_
 refine Zm ?_
 refine VL.FV (φ:=v.a=some ⟨v.b,v.o,none⟩) (fun h m=>(fQ.out (X:=v.ok) h m).2.2.1 hv) fun hva => ?_
 refine VL.MC 81 rfl (show v.val = .slice (some ⟨v.b,v.o+0*bM.sz fH,none⟩) v.l.length v.c by unfold Sv.val; rw [hva,Nat.zero_mul]; rfl) ?_
 rw [Nat.zero_add]
 refine VL.I9 (src:=v.l.flatMap bM.enc) Tryz.underlying63 p5 uW.out rfl (by rw [lV]; congr 1; exact (Nat.min_eq_left (by omega)).symm) (P3 (r:=v) (by decide) hv) (vK v.l) (by rw [hic.1]; refine Nat.le_trans ?_ hcl; rw [lV,← Nat.add_mul]; exact Nat.mul_le_mul_right _ (by omega)) (by decide) ?_
 rw [lV]
 refine Zl ?_
 refine Zq (Zr (Zy ?_))
 have ho:=fun F=>P6 (F:=F) (e:=301) (b:=b) (l':=s.l.take i.toNat++v.l++s.l.drop i.toNat) (by rw [hic.2.1]; exact hcl) (by rw [jI] at hic; exact hic.2.2) hLn (by omega) hcm
 exact VC.ret (UM (.inr rfl) rfl rfl ⟨some ⟨b,0,none⟩,s.c,_⟩ (ho Ow.emp).1 rfl (fun _ _=>trivial) (ho _).2)
theorem aCU (aA:cF) (fU:aK) (qJ:Int) {r:bQ} (hS:Sh.X9 aA.pl fU qJ=some r) :
 Ct Tryz.prog 222 [.agg (aJ aA).toArray,str fU,i64 qJ] (aA.bG.ok.and (aA.aY.ok.and (aA.bP.ok.and (aA.aP.ok.and (aA.aT.ok.and (aA.aQ.ok.and (aA.aU.ok.and (aA.bC.ok.and (aA.bD.ok.and (aA.bS.ok.and aA.bJ.ok)))))))))) (Ow.emp) (X:=cF) (fun x => .agg (bM.enc x).toArray) (fun x=>r=x.pl) (fun x=>x.m) (fun x=>Ow.emp):=by
 refine Zo Tryz.func222 Tryz.ntmps222 fun c => ?_
 unfold Sh.X9 at hS
 refine Zq (Zr ?_)
 refine kQ (aJ aA) fun jC => ?_
 refine gV [.slice none 0 0,.slice none 0 0,.slice none 0 0,str [],i64 0,str [],i64 0,str [],.slice none 0 0,.slice none 0 0,i64 0,str [],str [],i64 0,.slice none 0 0,.slice none 0 0,.slice none 0 0,.slice none 0 0,.slice none 0 0,.slice none 0 0,i64 0] fun CW => ?_
 refine Zl ?_
 refine Zq (Zr (Zu (aB eO rfl) (Zu (aB lX rfl) (Zu (aL vT rfl rfl) ?_))))
 obtain ⟨mL,vR,hS⟩:=aO hS
 refine VL.bL (C0 aA.bP vR) rfl (by decide) ?_
 rintro iG rfl
 try dsimp only
 refine Zu (aB eO rfl) (Zu (aB lX rfl) ?_)
 refine Zv (cs':=[aA.bG.val,aA.aY.val,iG.val,str aA.aS,i64 aA.aH,str aA.bK,i64 aA.bI,str aA.bO,aA.aP.val,aA.aT.val,i64 aA.bN,str aA.aZ,str aA.aM,i64 aA.aN,aA.aQ.val,aA.aU.val,aA.bC.val,aA.bD.val,aA.bS.val,aA.bJ.val,i64 aA.time]) rfl aDJ ?_
 refine Zl ?_
 refine VC.keep (ρ':=[(1,str fU),(2,i64 qJ),(3,ptr jC 0),(6,ptr CW 0)]) [1,2,3,6] rfl ?_
 refine Zq (Zr (Zu (cJ cI rfl rfl) (Zm ?_)))
 obtain ⟨JO,a0C,hS⟩:=aO hS
 refine Zu (rT (DQ (⟨aA.bG,aA.aY,iG,aA.aS,aA.aH,aA.bK,aA.bI,aA.bO,aA.aP,aA.aT,aA.bN,aA.aZ,aA.aM,aA.aN,aA.aQ,aA.aU,aA.bC,aA.bD,aA.bS,aA.bJ,aA.time⟩:cF) fU a0C) rfl (fun _ _=>rfl)) ?_
 refine Zm (Zu (aV rfl rfl) (Zu (aV rfl rfl) (Zy ?_)))
 refine Zq (Zb ?_)
 refine VC.gN (S:=Bool) (fun (B6:Bool)=>B6) (fun (B6:Bool)=>[(1,str fU),(2,i64 qJ),(3,ptr jC 0),(6,ptr CW 0),(7,i64 JO.1),(8,.bool JO.2),(21,.bool B6)]) (fun (B6:Bool)=>Mo.tt) (fun (B6:Bool)=>Ow.star (bE jC [aA.bG.val,aA.aY.val,iG.val,str aA.aS,i64 aA.aH,str aA.bK,i64 aA.bI,str aA.bO,aA.aP.val,aA.aT.val,i64 aA.bN,str aA.aZ,str aA.aM,i64 aA.aN,aA.aQ.val,aA.aU.val,aA.bC.val,aA.bD.val,aA.bS.val,aA.bJ.val,i64 aA.time] 77) (Ow.star (bE CW [.slice none 0 0,.slice none 0 0,.slice none 0 0,str [],i64 0,str [],i64 0,str [],.slice none 0 0,.slice none 0 0,i64 0,str [],str [],i64 0,.slice none 0 0,.slice none 0 0,.slice none 0 0,.slice none 0 0,.slice none 0 0,.slice none 0 0,i64 0] 77) (Ow.star (Sv.own iG 301) (Ow.emp)))) hS ?_ ?_
 ·
  clear hS
  intro k6 hS
  refine Zr (Zy ?_)
  refine xJ 23 hS (fun h23 hS => ?_) (fun h23 hS => ?_)
  ·
   refine Zg ?_
   refine Zh (iI rfl rfl) ?_
   refine Zy ?_
   refine VL.mt (decide (qJ=0)) [1,2,3,6,7,8,21] (fun _ _ h=>h) hS rfl
  refine VL.runs 4 [(21,some false)] (by kernel_rfl) ?_
  refine VL.mt false [1,2,3,6,7,8,21] (fun _ _ h=>h) hS rfl
 clear hS
 rintro B6 hS
 refine gR hS (fun h21 hS => ?_) (fun h21 hS => ?_)
 ·
  cases hS
 refine Zq (Zr (Zy ?_))
 refine gR hS (fun h36 hS => ?_) (fun h36 hS => ?_)
 ·
  refine Zr (Zu (aB eO rfl) (Zu (aB lX rfl) (Zu (aL vT rfl rfl) (Zy ?_))))
  obtain ⟨aP9,aQz,aQV,hS⟩:=fA hS
  refine Zu (lN (s:=iG) Tryz.underlying63 p5 rfl rfl aQz (bH aQz aQV)) (Zu (aB XR rfl) ?_)
  refine VL.wJ (s:=iG) (T:=301) (j:=1) (vc:=[i64 qJ]) (⟨aP9.name,qJ⟩:fH) (by decide) rfl rfl aQV rfl DE rfl rfl (Nat.le_of_ble_eq_true rfl) rfl (fun w8 hw8 haw8 hcw8 hvw8 hbw8 how8 => ?_)
  rw [← hvw8]
  replace hS:=bW hw8 hS
  refine Zl ?_
  refine VC.keep (ρ':=[(3,ptr jC 0),(6,ptr CW 0)]) [3,6] rfl ?_
  refine Zq (Zr (Zu (cJ cI rfl rfl) ?_))
  refine Zv (cs':=[aA.bG.val,aA.aY.val,w8.val,str aA.aS,i64 aA.aH,str aA.bK,i64 aA.bI,str aA.bO,aA.aP.val,aA.aT.val,i64 aA.bN,str aA.aZ,str aA.aM,i64 aA.aN,aA.aQ.val,aA.aU.val,aA.bC.val,aA.bD.val,aA.bS.val,aA.bJ.val,i64 aA.time]) rfl gP ?_
  refine Zl ?_
  refine VC.shut w8 301 (fun _ _ _ _=>trivial) ?_
  cases hS
  exact VC.ret (Z3 ⟨aA.bG,aA.aY,w8,aA.aS,aA.aH,aA.bK,aA.bI,aA.bO,aA.aP,aA.aT,aA.bN,aA.aZ,aA.aM,aA.aN,aA.aQ,aA.aU,aA.bC,aA.bD,aA.bS,aA.bJ,aA.time⟩ [.agg #[aA.bG.val,aA.aY.val,w8.val,str aA.aS,i64 aA.aH,str aA.bK,i64 aA.bI,str aA.bO,aA.aP.val,aA.aT.val,i64 aA.bN,str aA.aZ,str aA.aM,i64 aA.aN,aA.aQ.val,aA.aU.val,aA.bC.val,aA.bD.val,aA.bS.val,aA.bJ.val,i64 aA.time]] (fI.cell cI rfl rfl Rd.blk (fI.nil)))
 refine Zq (Zr (Zm (Zu (lE rfl rfl) (Zy ?_))))
 refine Zc hS (fun h45 hS => ?_) (fun h45 hS => ?_)
 ·
  refine Zr (Zu (aB eO rfl) (Zu (aB lX rfl) (Zu (aL vT rfl rfl) (Zy ?_))))
  refine Zu (fR (vs:=[(0,str fU),(1,i64 qJ)]) (cs := #[str fU,i64 qJ]) rfl (by kernel_rfl)) ?_
  refine VL.aQ1 (α:=fH) (xs:=[.tmp 54]) (vs:=[.agg #[str fU,i64 qJ]]) [⟨fU,qJ⟩] Tryz.underlying63 aLf (by decide) rfl rfl rfl rfl (by decide) (by decide) (fun a3M aXL => ?_) (by decide)
  replace hS:=bW aXL hS
  obtain ⟨b56,hS⟩:=bU hS
  refine VL.bL (aH7 iG a3M JO.1 b56.1 b56.2.1 b56.2.2) rfl (by decide) ?_
  intro aCW aXN
  replace hS:=bW aXN hS
  refine Zu (aB eO rfl) (Zu (aB lX rfl) ?_)
  refine Zv (cs':=[aA.bG.val,aA.aY.val,aCW.val,str aA.aS,i64 aA.aH,str aA.bK,i64 aA.bI,str aA.bO,aA.aP.val,aA.aT.val,i64 aA.bN,str aA.aZ,str aA.aM,i64 aA.aN,aA.aQ.val,aA.aU.val,aA.bC.val,aA.bD.val,aA.bS.val,aA.bJ.val,i64 aA.time]) rfl aDJ ?_
  refine Zl ?_
  refine VC.keep (ρ':=[(3,ptr jC 0),(6,ptr CW 0)]) [3,6] rfl ?_
  refine Zq (Zr (Zu (cJ cI rfl rfl) ?_))
  refine Zv (cs':=[aA.bG.val,aA.aY.val,aCW.val,str aA.aS,i64 aA.aH,str aA.bK,i64 aA.bI,str aA.bO,aA.aP.val,aA.aT.val,i64 aA.bN,str aA.aZ,str aA.aM,i64 aA.aN,aA.aQ.val,aA.aU.val,aA.bC.val,aA.bD.val,aA.bS.val,aA.bJ.val,i64 aA.time]) rfl gP ?_
  refine Zl ?_
  refine VC.shut aCW 301 (fun _ _ _ _=>trivial) ?_
  cases hS
  exact VC.ret (Z3 ⟨aA.bG,aA.aY,aCW,aA.aS,aA.aH,aA.bK,aA.bI,aA.bO,aA.aP,aA.aT,aA.bN,aA.aZ,aA.aM,aA.aN,aA.aQ,aA.aU,aA.bC,aA.bD,aA.bS,aA.bJ,aA.time⟩ [.agg #[aA.bG.val,aA.aY.val,aCW.val,str aA.aS,i64 aA.aH,str aA.bK,i64 aA.bI,str aA.bO,aA.aP.val,aA.aT.val,i64 aA.bN,str aA.aZ,str aA.aM,i64 aA.aN,aA.aQ.val,aA.aU.val,aA.bC.val,aA.bD.val,aA.bS.val,aA.bJ.val,i64 aA.time]] (fI.cell cI rfl rfl Rd.blk (fI.nil)))
 refine Zk ?_
 refine VC.keep (ρ':=[(3,ptr jC 0),(6,ptr CW 0)]) [3,6] rfl ?_
 refine Zq (Zr (Zu (cJ cI rfl rfl) ?_))
 refine Zv (cs':=[aA.bG.val,aA.aY.val,iG.val,str aA.aS,i64 aA.aH,str aA.bK,i64 aA.bI,str aA.bO,aA.aP.val,aA.aT.val,i64 aA.bN,str aA.aZ,str aA.aM,i64 aA.aN,aA.aQ.val,aA.aU.val,aA.bC.val,aA.bD.val,aA.bS.val,aA.bJ.val,i64 aA.time]) rfl gP ?_
 refine Zl ?_
 refine VC.shut iG 301 (fun _ _ _ _=>trivial) ?_
 cases hS
 exact VC.ret (Z3 ⟨aA.bG,aA.aY,iG,aA.aS,aA.aH,aA.bK,aA.bI,aA.bO,aA.aP,aA.aT,aA.bN,aA.aZ,aA.aM,aA.aN,aA.aQ,aA.aU,aA.bC,aA.bD,aA.bS,aA.bJ,aA.time⟩ [.agg #[aA.bG.val,aA.aY.val,iG.val,str aA.aS,i64 aA.aH,str aA.bK,i64 aA.bI,str aA.bO,aA.aP.val,aA.aT.val,i64 aA.bN,str aA.aZ,str aA.aM,i64 aA.aN,aA.aQ.val,aA.aU.val,aA.bC.val,aA.bD.val,aA.bS.val,aA.bJ.val,i64 aA.time]] (fI.cell cI rfl rfl Rd.blk (fI.nil)))
theorem Y7 (aA:cF) (mP:Int) {r:bQ} (hS:Sh.aA5 aA.pl mP=some r) :
 Ct Tryz.prog 298 [.agg (aJ aA).toArray,i64 mP] (aA.bG.ok.and (aA.aY.ok.and (aA.bP.ok.and (aA.aP.ok.and (aA.aT.ok.and (aA.aQ.ok.and (aA.aU.ok.and (aA.bC.ok.and (aA.bD.ok.and (aA.bS.ok.and aA.bJ.ok)))))))))) (Ow.emp) (X:=cF) (fun x => .agg (bM.enc x).toArray) (fun x=>r=x.pl) (fun x=>x.m) (fun x=>Ow.emp):=by
 refine Zo Tryz.func298 Tryz.ntmps298 fun c => ?_
 unfold Sh.aA5 at hS
 refine Zq (Zr ?_)
 refine kQ (aJ aA) fun fJ => ?_
 refine gV [.slice none 0 0,.slice none 0 0,.slice none 0 0,str [],i64 0,str [],i64 0,str [],.slice none 0 0,.slice none 0 0,i64 0,str [],str [],i64 0,.slice none 0 0,.slice none 0 0,.slice none 0 0,.slice none 0 0,.slice none 0 0,.slice none 0 0,i64 0] fun pF => ?_
 refine Zl ?_
 refine Zq (Zr (Zm (Zu (aB eO rfl) (Zu (aB p4 rfl) (Zu (aB F1 rfl) ?_)))))
 refine Zv (cs':=[aA.bG.val,aA.aY.val,aA.bP.val,str aA.aS,i64 mP,str aA.bK,i64 aA.bI,str aA.bO,aA.aP.val,aA.aT.val,i64 aA.bN,str aA.aZ,str aA.aM,i64 aA.aN,aA.aQ.val,aA.aU.val,aA.bC.val,aA.bD.val,aA.bS.val,aA.bJ.val,i64 aA.time]) rfl DE ?_
 refine Zl ?_
 refine Zq (Zq (Zr (Zu (aB eO rfl) (Zu (aB p4 rfl) (Zu (aB UR rfl) (Zu (aL cQ rfl rfl) (Zu (vD rfl rfl) ?_)))))))
 refine Zl ?_
 refine VC.keep (ρ':=[(1,i64 mP),(2,ptr fJ 0),(4,ptr pF 0),(13,.bool (!decide (aA.aS=[])))]) [1,2,4,13] rfl ?_
 refine o3 hS (fun h13 hS => ?_) (fun h13 hS => ?_)
 ·
  refine Zr (Zu (cJ cI rfl rfl) (Zu (aB eO rfl) (Zu (aB p4 rfl) (Zu (aB UR rfl) (Zu (aL cQ rfl rfl) (Zm ?_))))))
  obtain ⟨EW,aJ0,hS⟩:=aO hS
  refine VL.dK (aCU (⟨aA.bG,aA.aY,aA.bP,aA.aS,mP,aA.bK,aA.bI,aA.bO,aA.aP,aA.aT,aA.bN,aA.aZ,aA.aM,aA.aN,aA.aQ,aA.aU,aA.bC,aA.bD,aA.bS,aA.bJ,aA.time⟩:cF) aA.aS mP aJ0) rfl (by decide) ?_
  rintro iP rfl
  try dsimp only
  refine Zv (cs':=(aJ iP)) rfl gP ?_
  refine Zl ?_
  refine VC.keep (ρ':=[(2,ptr fJ 0),(4,ptr pF 0)]) [2,4] rfl ?_
  refine Zq (Zr (Zu (cJ cI rfl rfl) ?_))
  refine Zv (cs':=(aJ iP)) rfl gP ?_
  refine Zl ?_
  cases hS
  exact VC.ret (Z3 iP [.agg (aJ iP).toArray] (fI.cell cI rfl rfl Rd.blk (fI.nil)))
 refine Zk ?_
 refine Zq (Zr (Zu (cJ cI rfl rfl) ?_))
 refine Zv (cs':=[aA.bG.val,aA.aY.val,aA.bP.val,str aA.aS,i64 mP,str aA.bK,i64 aA.bI,str aA.bO,aA.aP.val,aA.aT.val,i64 aA.bN,str aA.aZ,str aA.aM,i64 aA.aN,aA.aQ.val,aA.aU.val,aA.bC.val,aA.bD.val,aA.bS.val,aA.bJ.val,i64 aA.time]) rfl gP ?_
 refine Zl ?_
 cases hS
 exact VC.ret (Z3 ⟨aA.bG,aA.aY,aA.bP,aA.aS,mP,aA.bK,aA.bI,aA.bO,aA.aP,aA.aT,aA.bN,aA.aZ,aA.aM,aA.aN,aA.aQ,aA.aU,aA.bC,aA.bD,aA.bS,aA.bJ,aA.time⟩ [.agg #[aA.bG.val,aA.aY.val,aA.bP.val,str aA.aS,i64 mP,str aA.bK,i64 aA.bI,str aA.bO,aA.aP.val,aA.aT.val,i64 aA.bN,str aA.aZ,str aA.aM,i64 aA.aN,aA.aQ.val,aA.aU.val,aA.bC.val,aA.bD.val,aA.bS.val,aA.bJ.val,i64 aA.time]] (fI.cell cI rfl rfl Rd.blk (fI.nil)))
theorem AL (aA:cF) (nF:Sv aC) (oH:Sv Int) (sL:aK) {r:bQ} (hS:Sh.SO aA.pl nF.l oH.l sL=some r) :
 Ct Tryz.prog 282 [.agg (aJ aA).toArray,nF.val,oH.val,str sL] (aA.bG.ok.and (aA.aY.ok.and (aA.bP.ok.and (aA.aP.ok.and (aA.aT.ok.and (aA.aQ.ok.and (aA.aU.ok.and (aA.bC.ok.and (aA.bD.ok.and (aA.bS.ok.and (aA.bJ.ok.and (nF.ok.and oH.ok)))))))))))) (Ow.emp) (X:=cF) (fun x => .agg (bM.enc x).toArray) (fun x=>r=x.pl) (fun x=>x.m) (fun x=>Ow.emp):=by
 refine Zo Tryz.func282 Tryz.ntmps282 fun c => ?_
 unfold Sh.SO at hS
 refine Zq (Zr ?_)
 refine kQ (aJ aA) fun tL => ?_
 refine gV [.slice none 0 0,.slice none 0 0,.slice none 0 0,str [],i64 0,str [],i64 0,str [],.slice none 0 0,.slice none 0 0,i64 0,str [],str [],i64 0,.slice none 0 0,.slice none 0 0,.slice none 0 0,.slice none 0 0,.slice none 0 0,.slice none 0 0,i64 0] fun H6 => ?_
 refine Zl ?_
 refine Zq ?_
 refine VC.aJO (n:=5) (listed := #[true,true,false,true,true,true,true,true,true,false,false,false,false]) [(0,true),(1,true),(3,true),(4,true),(5,true),(6,true),(7,true),(8,true)] mixed (by kernel_rfl) (by kernel_rfl) (by kernel_rfl) (by kernel_rfl) ?_
 refine VD.q rfl (aB nT rfl) (by decide) ?_
 refine VD.q rfl (aL s5 rfl rfl) (by decide) ?_
 refine VD.q rfl (bB rfl) (by decide) ?_
 refine VD.q rfl (bB rfl) (by decide) ?_
 refine VD.q rfl (aB aB1 rfl) (by decide) ?_
 refine VD.q rfl (aL fL rfl rfl) (by decide) ?_
 refine VD.q rfl (bB rfl) (by decide) ?_
 refine VD.q rfl (fR (vs:=[(0,nF.val),(1,oH.val),(2,i64 aA.time),(3,str sL)]) (cs := #[nF.val,oH.val,i64 aA.time,str sL]) rfl (by kernel_rfl)) (by decide) ?_
 obtain ⟨B8,XL,hS⟩:=wV hS
 obtain ⟨JM,M4,hS⟩:=aO hS
 refine VD.toG fun hcl => ?_
 refine VG.fork (l:=[2,9]) (n:=4) (by kernel_rfl) rfl fun i hi => ?_
 obtain rfl | rfl:i=2∨i=9:=by simpa using hi
 ·
  refine UA.of rfl ?_
  refine VL.bL (qB aA.bD M4) rfl (by decide) ?_
  rintro VI rfl
  try dsimp only
  refine VL.FC (D':=[(8,.agg #[nF.val,oH.val,i64 aA.time,str sL]),(6,i64 aA.time),(5,ptr tL 20)]) (listed' := #[true,true,true,true,true,true,true,true,true,false,false,false,false]) (aI.cons rfl (fR (vs:=[(0,nF.val),(1,oH.val),(2,i64 aA.time),(3,str sL)]) (cs := #[nF.val,oH.val,i64 aA.time,str sL]) rfl (by kernel_rfl)) (aI.cons rfl (aL fL rfl rfl) (aI.cons rfl (aB aB1 rfl) (aI.nil)))) (by kernel_rfl) (by kernel_rfl) ?_
  refine VG.ord [(9,false),(10,false),(11,true),(12,false)] (by kernel_rfl) (tM (by kernel_rfl)) (by kernel_rfl) ?_
  refine VD.one rfl ?_
  refine VL.lit (α:=cG) (xs:=[.tmp 17]) (vs:=[.agg #[nF.val,oH.val,i64 aA.time,str sL]]) [⟨nF,oH,aA.time,sL⟩] Tryz.underlying73 aJi (by decide) rfl rfl rfl rfl (by decide) (fun h m=>List.forall_mem_cons.2 ⟨fQ.out (X:=(nF.ok.and oH.ok)) h m,fun _ h=>by cases h⟩) (by decide) (fun QN aAJ => ?_) (by decide)
  obtain rfl:B8=QN.l.map cG.pl:=XL.symm.trans (congrArg (List.map cG.pl) aAJ).symm
  refine jH ?_
  refine VD.one rfl ?_
  obtain ⟨b19,hS⟩:=bU hS
  refine VL.app (s:=VI) (r:=QN) Tryz.underlying73 aE3 (by decide) rfl Fo.out (wM (apm b19)) (wN (apm b19) (by decide)) (by decide) (fun EP R9 => ?_)
  replace hS:=bW ((congrArg (List.map cG.pl) R9).trans List.map_append) hS
  refine VL.aAU R9 ?_
  refine jH ?_
  refine Zw rfl (aB nT rfl) ?_
  refine VD.one rfl ?_
  refine Zv (cs':=[aA.bG.val,aA.aY.val,aA.bP.val,str aA.aS,i64 aA.aH,str aA.bK,i64 aA.bI,str aA.bO,aA.aP.val,aA.aT.val,i64 aA.bN,str aA.aZ,str aA.aM,i64 aA.aN,aA.aQ.val,aA.aU.val,aA.bC.val,EP.val,aA.bS.val,aA.bJ.val,i64 aA.time]) rfl aJm ?_
  refine jH ?_
  refine VD.to (fun _ _ h=>h) ?_
  refine VC.keep (ρ':=[(4,ptr tL 0),(8,ptr H6 0)]) [4,8] rfl ?_
  refine Zq (Zr (Zu (cJ cI rfl rfl) (Zu (aB nT rfl) (Zu (aL s5 rfl rfl) (Zu (qN cG.pl (s:=EP) Tryz.underlying73 rfl) ?_)))))
  refine VL.shut EP 85 (fun h m=>fQ.out (X:=mH EP.l) h m) ?_
  obtain ⟨JP,aBP,hS⟩:=aO hS
  refine VL.dK (Y7 (⟨aA.bG,aA.aY,aA.bP,aA.aS,aA.aH,aA.bK,aA.bI,aA.bO,aA.aP,aA.aT,aA.bN,aA.aZ,aA.aM,aA.aN,aA.aQ,aA.aU,aA.bC,EP,aA.bS,aA.bJ,aA.time⟩:cF) ((EP.l.map cG.pl).length:Int) aBP) rfl (by decide) ?_
  rintro L3 rfl
  try dsimp only
  refine Zv (cs':=(aJ L3)) rfl gP ?_
  refine Zl ?_
  cases hS
  exact VC.ret (Z3 L3 [.agg (aJ L3).toArray] (fI.cell cI rfl rfl Rd.blk (fI.nil)))
 refine UA.of rfl ?_
 refine VL.lit (α:=cG) (xs:=[.tmp 17]) (vs:=[.agg #[nF.val,oH.val,i64 aA.time,str sL]]) [⟨nF,oH,aA.time,sL⟩] Tryz.underlying73 aJi (by decide) rfl rfl rfl rfl (by decide) (fun h m=>List.forall_mem_cons.2 ⟨fQ.out (X:=(nF.ok.and oH.ok)) h m,fun _ h=>by cases h⟩) (by decide) (fun QN aAJ => ?_) (by decide)
 obtain rfl:B8=QN.l.map cG.pl:=XL.symm.trans (congrArg (List.map cG.pl) aAJ).symm
 refine VL.FC (D':=[(1,aA.bD.val),(0,ptr tL 17)]) (listed' := #[true,true,false,true,true,true,true,true,true,true,false,false,false]) (aI.cons rfl (aL s5 rfl rfl) (aI.cons rfl (aB nT rfl) (aI.nil))) (by kernel_rfl) (by kernel_rfl) ?_
 refine VG.ord [(2,false),(10,false),(11,true),(12,false)] (by kernel_rfl) (tM (by kernel_rfl)) (by kernel_rfl) ?_
 refine VD.one rfl ?_
 refine VL.bL (qB aA.bD M4) rfl (by decide) ?_
 rintro VI rfl
 try dsimp only
 refine jH ?_
 refine VD.one rfl ?_
 obtain ⟨b19,hS⟩:=bU hS
 refine VL.app (s:=VI) (r:=QN) Tryz.underlying73 aE3 (by decide) rfl Fo.out (wM (apm b19)) (wN (apm b19) (by decide)) (by decide) (fun EP R9 => ?_)
 replace hS:=bW ((congrArg (List.map cG.pl) R9).trans List.map_append) hS
 refine VL.aAU R9 ?_
 refine jH ?_
 refine Zw rfl (aB nT rfl) ?_
 refine VD.one rfl ?_
 refine Zv (cs':=[aA.bG.val,aA.aY.val,aA.bP.val,str aA.aS,i64 aA.aH,str aA.bK,i64 aA.bI,str aA.bO,aA.aP.val,aA.aT.val,i64 aA.bN,str aA.aZ,str aA.aM,i64 aA.aN,aA.aQ.val,aA.aU.val,aA.bC.val,EP.val,aA.bS.val,aA.bJ.val,i64 aA.time]) rfl aJm ?_
 refine jH ?_
 refine VD.to (fun _ _ h=>h) ?_
 refine VC.keep (ρ':=[(4,ptr tL 0),(8,ptr H6 0)]) [4,8] rfl ?_
 refine Zq (Zr (Zu (cJ cI rfl rfl) (Zu (aB nT rfl) (Zu (aL s5 rfl rfl) (Zu (qN cG.pl (s:=EP) Tryz.underlying73 rfl) ?_)))))
 refine VL.shut EP 85 (fun h m=>fQ.out (X:=mH EP.l) h m) ?_
 obtain ⟨JP,aBP,hS⟩:=aO hS
 refine VL.dK (Y7 (⟨aA.bG,aA.aY,aA.bP,aA.aS,aA.aH,aA.bK,aA.bI,aA.bO,aA.aP,aA.aT,aA.bN,aA.aZ,aA.aM,aA.aN,aA.aQ,aA.aU,aA.bC,EP,aA.bS,aA.bJ,aA.time⟩:cF) ((EP.l.map cG.pl).length:Int) aBP) rfl (by decide) ?_
 rintro L3 rfl
 try dsimp only
 refine Zv (cs':=(aJ L3)) rfl gP ?_
 refine Zl ?_
 cases hS
 exact VC.ret (Z3 L3 [.agg (aJ L3).toArray] (fI.cell cI rfl rfl Rd.blk (fI.nil)))
theorem aEQ (aA:cF) (nF:Sv aC) (KJ:aK) {r:bQ×kH} (hS:Sh.SQ aA.pl nF.l KJ=some r) :
 Ct Tryz.prog 217 [.agg (aJ aA).toArray,nF.val,str KJ] (aA.bG.ok.and (aA.aY.ok.and (aA.bP.ok.and (aA.aP.ok.and (aA.aT.ok.and (aA.aQ.ok.and (aA.aU.ok.and (aA.bC.ok.and (aA.bD.ok.and (aA.bS.ok.and (aA.bJ.ok.and nF.ok))))))))))) (Ow.emp) (X:=cF×Er) (fun x => .tuple #[.agg (bM.enc x.1).toArray,x.2.val]) (fun x=>r=(x.1.pl,x.2.pl)) (fun x=>(x.1.m.and x.2.ok)) (fun x=>Ow.emp):=by
 refine Zo Tryz.func217 Tryz.ntmps217 fun c => ?_
 unfold Sh.SQ at hS
 refine Zq (Zr ?_)
 refine kQ (aJ aA) fun jC => ?_
 refine gV [.slice none 0 0,.slice none 0 0,.slice none 0 0,str [],i64 0,str [],i64 0,str [],.slice none 0 0,.slice none 0 0,i64 0,str [],str [],i64 0,.slice none 0 0,.slice none 0 0,.slice none 0 0,.slice none 0 0,.slice none 0 0,.slice none 0 0,i64 0] fun CW => ?_
 refine Zy ?_
 refine Zq (Zq (Zr (Zm ?_)))
 obtain ⟨mL,vR,hS⟩:=aO hS
 refine VL.dK (sY nF vR) rfl (by decide) ?_
 rintro iG rfl
 try dsimp only
 refine Zy ?_
 refine Zq (Zr (Zm (Zu (o5 Tryz.underlying27 rfl) ?_)))
 refine Zl ?_
 refine o3 hS (fun h14 hS => ?_) (fun h14 hS => ?_)
 ·
  refine Zq ?_
  cases hS
 refine Zk ?_
 refine VC.keep (ρ':=[(1,nF.val),(2,str KJ),(3,ptr jC 0),(6,ptr CW 0)]) [1,2,3,6] rfl ?_
 refine Zq (Zq (Zr (Zu (cJ cI rfl rfl) ?_)))
 obtain ⟨aZI,a0D,hS⟩:=aO hS
 refine Zu (cH (HY aA a0D) rfl (fun _ _=>rfl)) ?_
 refine Zu (jE rfl) ?_
 refine Zl ?_
 refine gR hS (fun h20 hS => ?_) (fun h20 hS => ?_)
 ·
  refine Zq ?_
  cases hS
 refine Zk ?_
 refine Zq (Zr (Zy ?_))
 refine Zq (Zq (Zr (Zu (aB eO rfl) (Zu (aB tQ rfl) (Zu (aB IG rfl) (Zu (aL cQ rfl rfl) (Zy ?_)))))))
 refine VC.keep (ρ':=[(1,nF.val),(2,str KJ),(3,ptr jC 0),(6,ptr CW 0),(9,i64 0),(27,.bool (decide (aA.bK=[109,101,114,103,101])))]) [1,2,3,6,9,27] rfl ?_
 refine Zc hS (fun h27 hS => ?_) (fun h27 hS => ?_)
 ·
  cases hS
 refine Zk ?_
 refine Zq ?_
 refine VC.aJO (n:=4) (listed := #[true,true,true,true,false,true,false,false,false]) [(0,true),(1,true),(2,true),(3,true),(5,true)] mixed (by kernel_rfl) (by kernel_rfl) (by kernel_rfl) (by kernel_rfl) ?_
 refine VD.q rfl (cJ cI rfl rfl) (by decide) ?_
 refine VD.q rfl (bB rfl) (by decide) ?_
 refine VD.q rfl (cJ cI rfl rfl) (by decide) ?_
 refine VD.q rfl (bB rfl) (by decide) ?_
 refine VD.q rfl (bB rfl) (by decide) ?_
 obtain ⟨aZU,aPj,hS⟩:=aO hS
 obtain ⟨HQ,aJc,hS⟩:=aO hS
 refine VD.toG fun hcl => ?_
 refine VG.fork (l:=[4,7]) (n:=3) (by kernel_rfl) rfl fun i hi => ?_
 obtain rfl | rfl:i=4∨i=7:=by simpa using hi
 ·
  refine UA.of rfl ?_
  refine VL.bL (QM aA 0 aPj) rfl (by decide) ?_
  rintro BV rfl
  try dsimp only
  refine VL.FC (D':=[(0,.agg (aJ aA).toArray)]) (listed' := #[true,true,true,true,true,true,false,false,false]) (aI.cons rfl (cJ cI rfl rfl) (aI.nil)) (by kernel_rfl) (by kernel_rfl) ?_
  refine VG.fork (l:=[6,7]) (n:=2) (by kernel_rfl) rfl fun i hi => ?_
  obtain rfl | rfl:i=6∨i=7:=by simpa using hi
  ·
   refine UA.of rfl ?_
   refine VL.shut BV 3 (fun _ _ _ _=>trivial) ?_
   refine VL.dK (AL aA nF BV KJ aJc) rfl (by decide) ?_
   rintro aX rfl
   try dsimp only
   refine VL.FC (D':=[]) (listed' := #[true,true,true,true,true,true,true,false,false]) (aI.nil) (by kernel_rfl) (by kernel_rfl) ?_
   refine VG.ord [(7,false),(8,false)] (by kernel_rfl) (tM (by kernel_rfl)) (by kernel_rfl) ?_
   refine VD.one rfl ?_
   refine gV [.slice none 0 0,.slice none 0 0,.slice none 0 0,str [],i64 0,str [],i64 0,str [],.slice none 0 0,.slice none 0 0,i64 0,str [],str [],i64 0,.slice none 0 0,.slice none 0 0,.slice none 0 0,.slice none 0 0,.slice none 0 0,.slice none 0 0,i64 0] fun PJ => ?_
   refine jH ?_
   refine VD.one rfl ?_
   refine Zv (cs':=(aJ aX)) rfl gP ?_
   refine jH ?_
   refine VD.to (fun _ _ h=>h) ?_
   refine VC.keep (ρ':=[(6,ptr CW 0),(10,ptr PJ 0)]) [6,10] rfl ?_
   refine Zq (Zq (Zr (Zu (aB eO rfl) (Zu (aB tQ rfl) (Zu (aB IG rfl) (Zu (aL cQ rfl rfl) (Zu (vD rfl rfl) ?_)))))))
   refine Zl ?_
   refine o3 hS (fun h43 hS => ?_) (fun h43 hS => ?_)
   ·
    refine Zr ?_
    refine Zu (fR (vs:=[]) (cs := #[str [],i64 0,str [],.slice none 0 0,.slice none 0 0,i64 0,str [],str [],i64 0,.slice none 0 0,.slice none 0 0]) rfl (by kernel_rfl)) ?_
    refine Zu (aB eO rfl) (Zu (aB tQ rfl) ?_)
    refine Zv (cs':=[aX.bG.val,aX.aY.val,aX.bP.val,str aX.aS,i64 aX.aH,str [],i64 0,str [],.slice none 0 0,.slice none 0 0,i64 0,str [],str [],i64 0,.slice none 0 0,.slice none 0 0,aX.bC.val,aX.bD.val,aX.bS.val,aX.bJ.val,i64 aX.time]) rfl aAH ?_
    refine Zl ?_
    refine Zq (Zr (Zu (cJ cI rfl rfl) ?_))
    refine Zv (cs':=[aX.bG.val,aX.aY.val,aX.bP.val,str aX.aS,i64 aX.aH,str [],i64 0,str [],.slice none 0 0,.slice none 0 0,i64 0,str [],str [],i64 0,.slice none 0 0,.slice none 0 0,aX.bC.val,aX.bD.val,aX.bS.val,aX.bJ.val,i64 aX.time]) rfl gP ?_
    refine Zy ?_
    refine VC.keep (ρ':=[(6,ptr CW 0),(7,.nilIface)]) [6,7] rfl ?_
    cases hS
    exact VC.ret (Z3 (⟨aX.bG,aX.aY,aX.bP,aX.aS,aX.aH,[],0,[],⟨none,0,[]⟩,⟨none,0,[]⟩,0,[],[],0,⟨none,0,[]⟩,⟨none,0,[]⟩,aX.bC,aX.bD,aX.bS,aX.bJ,aX.time⟩,.nil) [.agg #[aX.bG.val,aX.aY.val,aX.bP.val,str aX.aS,i64 aX.aH,str [],i64 0,str [],.slice none 0 0,.slice none 0 0,i64 0,str [],str [],i64 0,.slice none 0 0,.slice none 0 0,aX.bC.val,aX.bD.val,aX.bS.val,aX.bJ.val,i64 aX.time],.nilIface] (fI.cell cI rfl rfl Rd.blk (fI.tmp rfl (fI.nil))))
   refine Zk ?_
   refine Zq (Zr (Zu (cJ cI rfl rfl) ?_))
   refine Zv (cs':=(aJ aX)) rfl gP ?_
   refine Zy ?_
   cases hS
   exact VC.ret (Z3 (aX,.nil) [.agg (aJ aX).toArray,.nilIface] (fI.cell cI rfl rfl Rd.blk (fI.tmp rfl (fI.nil))))
  refine UA.of rfl ?_
  refine gV [.slice none 0 0,.slice none 0 0,.slice none 0 0,str [],i64 0,str [],i64 0,str [],.slice none 0 0,.slice none 0 0,i64 0,str [],str [],i64 0,.slice none 0 0,.slice none 0 0,.slice none 0 0,.slice none 0 0,.slice none 0 0,.slice none 0 0,i64 0] fun PJ => ?_
  refine VL.FC (D':=[(0,.agg (aJ aA).toArray)]) (listed' := #[true,true,true,true,true,true,false,true,false]) (aI.cons rfl (cJ cI rfl rfl) (aI.nil)) (by kernel_rfl) (by kernel_rfl) ?_
  refine VG.ord [(6,false),(8,false)] (by kernel_rfl) (tM (by kernel_rfl)) (by kernel_rfl) ?_
  refine VD.one rfl ?_
  refine VL.shut BV 3 (fun _ _ _ _=>trivial) ?_
  refine VL.dK (AL aA nF BV KJ aJc) rfl (by decide) ?_
  rintro aX rfl
  try dsimp only
  refine jH ?_
  refine VD.one rfl ?_
  refine Zv (cs':=(aJ aX)) rfl gP ?_
  refine jH ?_
  refine VD.to (fun _ _ h=>h) ?_
  refine VC.keep (ρ':=[(6,ptr CW 0),(10,ptr PJ 0)]) [6,10] rfl ?_
  refine Zq (Zq (Zr (Zu (aB eO rfl) (Zu (aB tQ rfl) (Zu (aB IG rfl) (Zu (aL cQ rfl rfl) (Zu (vD rfl rfl) ?_)))))))
  refine Zl ?_
  refine o3 hS (fun h43 hS => ?_) (fun h43 hS => ?_)
  ·
   refine Zr ?_
   refine Zu (fR (vs:=[]) (cs := #[str [],i64 0,str [],.slice none 0 0,.slice none 0 0,i64 0,str [],str [],i64 0,.slice none 0 0,.slice none 0 0]) rfl (by kernel_rfl)) ?_
   refine Zu (aB eO rfl) (Zu (aB tQ rfl) ?_)
   refine Zv (cs':=[aX.bG.val,aX.aY.val,aX.bP.val,str aX.aS,i64 aX.aH,str [],i64 0,str [],.slice none 0 0,.slice none 0 0,i64 0,str [],str [],i64 0,.slice none 0 0,.slice none 0 0,aX.bC.val,aX.bD.val,aX.bS.val,aX.bJ.val,i64 aX.time]) rfl aAH ?_
   refine Zl ?_
   refine Zq (Zr (Zu (cJ cI rfl rfl) ?_))
   refine Zv (cs':=[aX.bG.val,aX.aY.val,aX.bP.val,str aX.aS,i64 aX.aH,str [],i64 0,str [],.slice none 0 0,.slice none 0 0,i64 0,str [],str [],i64 0,.slice none 0 0,.slice none 0 0,aX.bC.val,aX.bD.val,aX.bS.val,aX.bJ.val,i64 aX.time]) rfl gP ?_
   refine Zy ?_
   refine VC.keep (ρ':=[(6,ptr CW 0),(7,.nilIface)]) [6,7] rfl ?_
   cases hS
   exact VC.ret (Z3 (⟨aX.bG,aX.aY,aX.bP,aX.aS,aX.aH,[],0,[],⟨none,0,[]⟩,⟨none,0,[]⟩,0,[],[],0,⟨none,0,[]⟩,⟨none,0,[]⟩,aX.bC,aX.bD,aX.bS,aX.bJ,aX.time⟩,.nil) [.agg #[aX.bG.val,aX.aY.val,aX.bP.val,str aX.aS,i64 aX.aH,str [],i64 0,str [],.slice none 0 0,.slice none 0 0,i64 0,str [],str [],i64 0,.slice none 0 0,.slice none 0 0,aX.bC.val,aX.bD.val,aX.bS.val,aX.bJ.val,i64 aX.time],.nilIface] (fI.cell cI rfl rfl Rd.blk (fI.tmp rfl (fI.nil))))
  refine Zk ?_
  refine Zq (Zr (Zu (cJ cI rfl rfl) ?_))
  refine Zv (cs':=(aJ aX)) rfl gP ?_
  refine Zy ?_
  cases hS
  exact VC.ret (Z3 (aX,.nil) [.agg (aJ aX).toArray,.nilIface] (fI.cell cI rfl rfl Rd.blk (fI.tmp rfl (fI.nil))))
 refine UA.of rfl ?_
 refine gV [.slice none 0 0,.slice none 0 0,.slice none 0 0,str [],i64 0,str [],i64 0,str [],.slice none 0 0,.slice none 0 0,i64 0,str [],str [],i64 0,.slice none 0 0,.slice none 0 0,.slice none 0 0,.slice none 0 0,.slice none 0 0,.slice none 0 0,i64 0] fun PJ => ?_
 refine VL.FC (D':=[(2,.agg (aJ aA).toArray),(0,.agg (aJ aA).toArray)]) (listed' := #[true,true,true,true,false,true,false,true,false]) (aI.cons rfl (cJ cI rfl rfl) (aI.cons rfl (cJ cI rfl rfl) (aI.nil))) (by kernel_rfl) (by kernel_rfl) ?_
 refine VG.ord [(4,false),(6,false),(8,false)] (by kernel_rfl) (tM (by kernel_rfl)) (by kernel_rfl) ?_
 refine VD.one rfl ?_
 refine VL.bL (QM aA 0 aPj) rfl (by decide) ?_
 rintro BV rfl
 try dsimp only
 refine jS [(0,.agg (aJ aA).toArray)] (aI.cons rfl (cJ cI rfl rfl) aI.nil) ?_
 refine VD.one rfl ?_
 refine VL.shut BV 3 (fun _ _ _ _=>trivial) ?_
 refine VL.dK (AL aA nF BV KJ aJc) rfl (by decide) ?_
 rintro aX rfl
 try dsimp only
 refine jH ?_
 refine VD.one rfl ?_
 refine Zv (cs':=(aJ aX)) rfl gP ?_
 refine jH ?_
 refine VD.to (fun _ _ h=>h) ?_
 refine VC.keep (ρ':=[(6,ptr CW 0),(10,ptr PJ 0)]) [6,10] rfl ?_
 refine Zq (Zq (Zr (Zu (aB eO rfl) (Zu (aB tQ rfl) (Zu (aB IG rfl) (Zu (aL cQ rfl rfl) (Zu (vD rfl rfl) ?_)))))))
 refine Zl ?_
 refine o3 hS (fun h43 hS => ?_) (fun h43 hS => ?_)
 ·
  refine Zr ?_
  refine Zu (fR (vs:=[]) (cs := #[str [],i64 0,str [],.slice none 0 0,.slice none 0 0,i64 0,str [],str [],i64 0,.slice none 0 0,.slice none 0 0]) rfl (by kernel_rfl)) ?_
  refine Zu (aB eO rfl) (Zu (aB tQ rfl) ?_)
  refine Zv (cs':=[aX.bG.val,aX.aY.val,aX.bP.val,str aX.aS,i64 aX.aH,str [],i64 0,str [],.slice none 0 0,.slice none 0 0,i64 0,str [],str [],i64 0,.slice none 0 0,.slice none 0 0,aX.bC.val,aX.bD.val,aX.bS.val,aX.bJ.val,i64 aX.time]) rfl aAH ?_
  refine Zl ?_
  refine Zq (Zr (Zu (cJ cI rfl rfl) ?_))
  refine Zv (cs':=[aX.bG.val,aX.aY.val,aX.bP.val,str aX.aS,i64 aX.aH,str [],i64 0,str [],.slice none 0 0,.slice none 0 0,i64 0,str [],str [],i64 0,.slice none 0 0,.slice none 0 0,aX.bC.val,aX.bD.val,aX.bS.val,aX.bJ.val,i64 aX.time]) rfl gP ?_
  refine Zy ?_
  refine VC.keep (ρ':=[(6,ptr CW 0),(7,.nilIface)]) [6,7] rfl ?_
  cases hS
  exact VC.ret (Z3 (⟨aX.bG,aX.aY,aX.bP,aX.aS,aX.aH,[],0,[],⟨none,0,[]⟩,⟨none,0,[]⟩,0,[],[],0,⟨none,0,[]⟩,⟨none,0,[]⟩,aX.bC,aX.bD,aX.bS,aX.bJ,aX.time⟩,.nil) [.agg #[aX.bG.val,aX.aY.val,aX.bP.val,str aX.aS,i64 aX.aH,str [],i64 0,str [],.slice none 0 0,.slice none 0 0,i64 0,str [],str [],i64 0,.slice none 0 0,.slice none 0 0,aX.bC.val,aX.bD.val,aX.bS.val,aX.bJ.val,i64 aX.time],.nilIface] (fI.cell cI rfl rfl Rd.blk (fI.tmp rfl (fI.nil))))
 refine Zk ?_
 refine Zq (Zr (Zu (cJ cI rfl rfl) ?_))
 refine Zv (cs':=(aJ aX)) rfl gP ?_
 refine Zy ?_
 cases hS
 exact VC.ret (Z3 (aX,.nil) [.agg (aJ aX).toArray,.nilIface] (fI.cell cI rfl rfl Rd.blk (fI.tmp rfl (fI.nil))))
theorem aEP (aA:cF) (NU:aK) {r:bQ×kH} (hS:Sh.SL aA.pl NU=some r) :
 Ct Tryz.prog 159 [.agg (aJ aA).toArray,str NU] (aA.bG.ok.and (aA.aY.ok.and (aA.bP.ok.and (aA.aP.ok.and (aA.aT.ok.and (aA.aQ.ok.and (aA.aU.ok.and (aA.bC.ok.and (aA.bD.ok.and (aA.bS.ok.and aA.bJ.ok)))))))))) (Ow.emp) (X:=cF×Er) (fun x => .tuple #[.agg (bM.enc x.1).toArray,x.2.val]) (fun x=>r=(x.1.pl,x.2.pl)) (fun x=>(x.1.m.and x.2.ok)) (fun x=>Ow.emp):=by
 refine Zo Tryz.func159 Tryz.ntmps159 fun c => ?_
 unfold Sh.SL at hS
 refine Zq (Zr ?_)
 refine kQ (aJ aA) fun fJ => ?_
 refine gV [.slice none 0 0,.slice none 0 0,.slice none 0 0,str [],i64 0,str [],i64 0,str [],.slice none 0 0,.slice none 0 0,i64 0,str [],str [],i64 0,.slice none 0 0,.slice none 0 0,.slice none 0 0,.slice none 0 0,.slice none 0 0,.slice none 0 0,i64 0] fun pF => ?_
 refine Zy ?_
 refine Zq (Zr (Zu (aB eO rfl) (Zu (aB rO rfl) (Zu (aL nN rfl rfl) ?_))))
 obtain ⟨tC,J3,hS⟩:=aO hS
 refine VL.dK (TT aA.aY 0 J3) rfl (by decide) ?_
 rintro lY rfl
 try dsimp only
 refine Zy ?_
 refine Zq (Zb (Zq (Zr (Zu (aB eO rfl) (Zu (aB rO rfl) (Zu (aL nN rfl rfl) ?_))))))
 obtain ⟨HL,aBI,hS⟩:=aO hS
 refine VL.bL (CZ aA.aY aBI) rfl (by decide) ?_
 rintro aCF rfl
 try dsimp only
 refine Zu (eB (s:=aCF) Tryz.underlying39 rfl) (Zu (lE rfl rfl) (Zy ?_))
 refine VC.keep (ρ':=[(1,str NU),(2,ptr fJ 0),(4,ptr pF 0),(6,lY.val),(11,.bool (decide (0 < (aCF.l.length:Int))))]) [1,2,4,6,11] rfl ?_
 refine Zc hS (fun h11 hS => ?_) (fun h11 hS => ?_)
 ·
  refine Zq ?_
  cases hS
 refine VC.gN (S:=Bool) (fun (WT:Bool)=>WT) (fun (WT:Bool)=>[(1,str NU),(2,ptr fJ 0),(4,ptr pF 0),(6,lY.val),(20,.bool WT)]) (fun (WT:Bool)=>Mo.tt) (fun (WT:Bool)=>Ow.star (bE pF [.slice none 0 0,.slice none 0 0,.slice none 0 0,str [],i64 0,str [],i64 0,str [],.slice none 0 0,.slice none 0 0,i64 0,str [],str [],i64 0,.slice none 0 0,.slice none 0 0,.slice none 0 0,.slice none 0 0,.slice none 0 0,.slice none 0 0,i64 0] 77) (Ow.star (bE fJ (aJ aA) 77) (Ow.emp))) hS ?_ ?_
 ·
  clear hS
  intro k6 hS
  refine Zr (Zu (aB eO rfl) (Zu (aB tQ rfl) (Zu (aB IG rfl) (Zu (aL cQ rfl rfl) (Zy ?_)))))
  refine o4 26 hS (fun h26 hS => ?_) (fun h26 hS => ?_)
  ·
   refine Zh (aB eO rfl) ?_
   refine Zh (aB tQ rfl) ?_
   refine Zh (aB aL5 rfl) ?_
   refine Zh (aL J8 rfl rfl) ?_
   refine Zh (eB (s:=aA.aP) Tryz.underlying66 rfl) ?_
   refine Zh (lE rfl rfl) ?_
   refine Zy ?_
   refine VL.mt (decide (0 < (aA.aP.l.length:Int))) [1,2,4,6,20] (fun _ _ h=>h) hS rfl
  refine VL.runs 8 [(20,some false)] (by kernel_rfl) ?_
  refine VL.mt false [1,2,4,6,20] (fun _ _ h=>h) hS rfl
 clear hS
 rintro WT hS
 refine gR hS (fun h20 hS => ?_) (fun h20 hS => ?_)
 ·
  refine Zq ?_
  cases hS
 refine VC.gN (S:=Bool) (fun (W6:Bool)=>W6) (fun (W6:Bool)=>[(1,str NU),(2,ptr fJ 0),(4,ptr pF 0),(6,lY.val),(36,.bool W6)]) (fun (W6:Bool)=>Mo.tt) (fun (W6:Bool)=>Ow.star (bE pF [.slice none 0 0,.slice none 0 0,.slice none 0 0,str [],i64 0,str [],i64 0,str [],.slice none 0 0,.slice none 0 0,i64 0,str [],str [],i64 0,.slice none 0 0,.slice none 0 0,.slice none 0 0,.slice none 0 0,.slice none 0 0,.slice none 0 0,i64 0] 77) (Ow.star (bE fJ (aJ aA) 77) (Ow.emp))) hS ?_ ?_
 ·
  clear hS
  intro k8 hS
  refine Zr (Zu (aB eO rfl) (Zu (aB tQ rfl) (Zu (aB IG rfl) (Zu (aL cQ rfl rfl) (Zu (vD rfl rfl) (Zm ?_))))))
  refine MW 42 hS (fun h42 hS => ?_) (fun h42 hS => ?_)
  ·
   refine Zg ?_
   refine Zh (cJ cI rfl rfl) ?_
   refine VL.guard rfl rfl ?_
   obtain ⟨aZ0,a0w,hS⟩:=aO hS
   refine VL.dK (HX aA a0w) rfl (by decide) ?_
   rintro aYW rfl
   try dsimp only
   obtain ⟨aKi,aVV,hS⟩:=aO hS
   refine Zh (cH (LD lY aYW aVV) rfl (fun _ _=>rfl)) ?_
   refine Zy ?_
   refine VL.mt aKi [1,2,4,6,36] (fun _ _ h=>h) hS rfl
  refine VL.runs 6 [(36,some false)] (by kernel_rfl) ?_
  refine VL.mt false [1,2,4,6,36] (fun _ _ h=>h) hS rfl
 clear hS
 rintro W6 hS
 refine gR hS (fun h36 hS => ?_) (fun h36 hS => ?_)
 ·
  refine Zq ?_
  cases hS
 refine Zk ?_
 refine Zq (Zr (Zu (cJ cI rfl rfl) (Zy ?_)))
 obtain ⟨aKl,aV3,hS⟩:=aO hS
 refine VL.dK (aEQ aA lY NU aV3) rfl (by decide) ?_
 rintro ⟨aD5,aD6⟩ rfl
 try dsimp only
 refine Zu (aV rfl rfl) (Zu (aV rfl rfl) ?_)
 refine Zv (cs':=(aJ aD5)) rfl gP ?_
 refine Zy ?_
 refine VC.keep (ρ':=[(4,ptr pF 0),(5,aD6.val)]) [4,5] rfl ?_
 cases hS
 exact VC.ret (Z3 (aD5,aD6) [.agg (aJ aD5).toArray,aD6.val] (fI.cell cI rfl rfl Rd.blk (fI.tmp rfl (fI.nil))))
theorem aEN (aA:cF) (fU:aK) {r:bQ×kH} (hS:Sh.SJ aA.pl fU=some r) :
 Ct Tryz.prog 226 [.agg (aJ aA).toArray,str fU] (aA.bG.ok.and (aA.aY.ok.and (aA.bP.ok.and (aA.aP.ok.and (aA.aT.ok.and (aA.aQ.ok.and (aA.aU.ok.and (aA.bC.ok.and (aA.bD.ok.and (aA.bS.ok.and aA.bJ.ok)))))))))) (Ow.emp) (X:=cF×Er) (fun x => .tuple #[.agg (bM.enc x.1).toArray,x.2.val]) (fun x=>r=(x.1.pl,x.2.pl)) (fun x=>(x.1.m.and x.2.ok)) (fun x=>Ow.emp):=by
 refine Zo Tryz.func226 Tryz.ntmps226 fun c => ?_
 unfold Sh.SJ at hS
 refine Zq (Zr ?_)
 refine kQ (aJ aA) fun fJ => ?_
 refine gV [.slice none 0 0,.slice none 0 0,.slice none 0 0,str [],i64 0,str [],i64 0,str [],.slice none 0 0,.slice none 0 0,i64 0,str [],str [],i64 0,.slice none 0 0,.slice none 0 0,.slice none 0 0,.slice none 0 0,.slice none 0 0,.slice none 0 0,i64 0] fun pF => ?_
 refine Zy ?_
 refine Zq (Zr (Zu (cJ cI rfl rfl) (Zm ?_)))
 obtain ⟨aDq,aZq,hS⟩:=aO hS
 refine Zu (cH (DQ aA fU aZq) rfl (fun _ _=>rfl)) ?_
 refine Zm (Zu (aV rfl rfl) (Zu (aV rfl rfl) (Zy ?_)))
 refine VC.keep (ρ':=[(1,str fU),(2,ptr fJ 0),(4,ptr pF 0),(7,.bool aDq.2)]) [1,2,4,7] rfl ?_
 refine Zq (Zb (Zq (Zr (Zu (aB eO rfl) (Zu (aB p4 rfl) (Zu (aB F1 rfl) (Zu (aL fL rfl rfl) (Zu (iI rfl rfl) (Zy ?_)))))))))
 refine Zc hS (fun h14 hS => ?_) (fun h14 hS => ?_)
 ·
  refine Zq ?_
  cases hS
 refine Zq (Zr (Zy ?_))
 refine VC.keep (ρ':=[(1,str fU),(2,ptr fJ 0),(4,ptr pF 0),(22,.bool aDq.2)]) [1,2,4,22] rfl ?_
 refine gR hS (fun h22 hS => ?_) (fun h22 hS => ?_)
 ·
  refine Zq ?_
  cases hS
 refine Zq (Zr (Zu (aB eO rfl) (Zu (aB lX rfl) (Zu (aL vT rfl rfl) (Zu (eB (s:=aA.bP) Tryz.underlying63 rfl) (Zu (vC rfl rfl) (Zy ?_)))))))
 refine Zc hS (fun h26 hS => ?_) (fun h26 hS => ?_)
 ·
  refine Zq ?_
  cases hS
 refine Zk ?_
 refine Zq (Zr (Zu (cJ cI rfl rfl) (Zm (Zu (aB eO rfl) (Zu (aB p4 rfl) (Zu (aB F1 rfl) (Zu (aL fL rfl rfl) ?_)))))))
 obtain ⟨aZV,a0k,hS⟩:=aO hS
 refine VL.dK (aCU aA fU aA.aH a0k) rfl (by decide) ?_
 rintro aG2 rfl
 try dsimp only
 refine Zv (cs':=(aJ aG2)) rfl gP ?_
 refine Zy ?_
 refine VC.keep (ρ':=[(4,ptr pF 0),(5,.nilIface)]) [4,5] rfl ?_
 cases hS
 exact VC.ret (Z3 (aG2,.nil) [.agg (aJ aG2).toArray,.nilIface] (fI.cell cI rfl rfl Rd.blk (fI.tmp rfl (fI.nil))))
theorem aNO (aA:cF) (eC:r9) {r:pW×kH} (hS:Sh.aGb aA.pl eC.pl=some r) :
 Ct Tryz.prog 295 [.agg (aJ aA).toArray,.agg #[str eC.verb,str eC.name,i64 eC.n,str eC.text,.bool eC.force,eC.todo.val]] (aA.bG.ok.and (aA.aY.ok.and (aA.bP.ok.and (aA.aP.ok.and (aA.aT.ok.and (aA.aQ.ok.and (aA.aU.ok.and (aA.bC.ok.and (aA.bD.ok.and (aA.bS.ok.and (aA.bJ.ok.and eC.todo.ok))))))))))) (Ow.emp) (X:=pW×Er) (fun x => .tuple #[.agg #[str x.1.branch,i64 x.1.dX],x.2.val]) (fun x=>r=(x.1,x.2.pl)) (fun x=>x.2.ok) (fun x=>Ow.emp):=by
 refine Zo Tryz.func295 Tryz.ntmps295 fun c => ?_
 unfold Sh.aGb at hS
 refine Zq (Zr ?_)
 refine kQ (aJ aA) fun fJ => ?_
 refine kQ [str eC.verb,str eC.name,i64 eC.n,str eC.text,.bool eC.force,eC.todo.val] fun lI => ?_
 refine gV [str [],i64 0] fun o6 => ?_
 refine Zy ?_
 refine Zq (Zq (Zr (Zu (aB qK rfl) (Zu (aL cQ rfl rfl) (Zy ?_)))))
 refine Zc hS (fun h12 hS => ?_) (fun h12 hS => ?_)
 ·
  refine Zq (Zq ?_)
  cases hS
 refine Zk ?_
 refine Zq (Zr (Zu (cJ cI rfl rfl) (Zu (aB qK rfl) (Zu (aL cQ rfl rfl) ?_))))
 obtain ⟨TF,aJ9,hS⟩:=aO hS
 refine Zu (cH (DQ aA eC.name aJ9) rfl (fun _ _=>rfl)) ?_
 refine Zm (Zu (aV rfl rfl) (Zu (aV rfl rfl) (Zy ?_)))
 refine VC.keep (ρ':=[(2,ptr fJ 0),(3,ptr lI 0),(4,ptr o6 0),(8,i64 TF.1),(9,.bool TF.2)]) [2,3,4,8,9] rfl ?_
 refine Zq (Zq (Zr (Zm (Zu (jE rfl) ?_))))
 refine Zl ?_
 refine gR hS (fun h35 hS => ?_) (fun h35 hS => ?_)
 ·
  refine Zq ?_
  cases hS
 refine Zk ?_
 refine Zq ?_
 refine l9 [(0,true),(1,true),(2,true),(3,true),(4,true),(5,true),(6,true),(7,true),(8,true),(9,true),(10,false),(11,true)] ?_
 refine Zw rfl (aB qK rfl) ?_
 refine Zw rfl (aL cQ rfl rfl) ?_
 refine Zw rfl (aB eO rfl) ?_
 refine Zw rfl (aB lX rfl) ?_
 refine Zw rfl (aL vT rfl rfl) ?_
 refine Zw rfl (bB rfl) ?_
 obtain ⟨aAn,aRA,aQW,hS⟩:=fA hS
 refine Zw rfl (eZ (s:=aA.bP) Tryz.underlying63 p5 rfl rfl aRA (bH aRA aQW)) ?_
 refine Zw rfl (aB XR rfl) ?_
 refine Zw rfl (pQ (s:=aA.bP) fL rfl aQW rfl) ?_
 refine Zw rfl (fR (vs:=[(0,str eC.name),(1,i64 aAn.dX)]) (cs := #[str eC.name,i64 aAn.dX]) rfl (by kernel_rfl)) ?_
 refine VD.one rfl ?_
 refine Zv (cs':=[str eC.name,i64 aAn.dX]) rfl aAG ?_
 refine jH ?_
 refine Zw rfl (gI rfl) ?_
 refine VD.to (fun _ _ h=>h) ?_
 refine VC.keep (ρ':=[(4,ptr o6 0),(5,.nilIface)]) [4,5] rfl ?_
 cases hS
 exact VC.ret (Z3 (⟨eC.name,aAn.dX⟩,.nil) [.agg #[str eC.name,i64 aAn.dX],.nilIface] (fI.cell aBX rfl rfl Rd.blk (fI.tmp rfl (fI.nil))))
theorem JB (fF:Sv (Sv aC)) {r:List aK} (hS:Sh.zA (fF.l.map Sv.l)=some r) :
 Ct Tryz.prog 40 [fF.val] fF.ok (Ow.emp) (X:=Sv aK) (fun x=>x.val) (fun x=>r=x.l) (fun x=>Mo.tt) (fun x=>Sv.own x 9):=by
 refine Zo Tryz.func40 Tryz.ntmps40 fun c => ?_
 unfold Sh.zA at hS
 refine Zq (Zr (Zy ?_))
 refine Zq (Zr ?_)
 refine VL.a55 (k:=9) (e:=4) (by decide) fun K2 => ?_
 refine Zy ?_
 refine Zq (Zq (Zr (Zm (Zu (qN Sv.l (s:=fF) Tryz.underlying156 rfl) (Zy ?_)))))
 refine Zb ?_
 refine VC.iter (S:=Int×List aK) (fun sg=>(sg.1,sg.2)) (fun sg=>[(3,.map (some K2)),(9,fF.val),(10,i64 ((fF.l.map Sv.l).length:Int)),(11,i64 sg.1)]) (fun sg=>Mo.tt) (fun sg=>Ow.star (MpK Tryz.prog 9 4 K2 sg.2) (Ow.emp)) (0,([]:List aK)) [3,9,10,11] hS rfl ?_
 clear hS
 rintro ⟨pS,BF⟩ m1 y1 hS hK1
 refine Zq (Zr (Zu (dW rfl rfl) ?_))
 refine Zl ?_
 refine Zq ?_
 refine Zc hS (fun h12 hS => ?_) (fun h12 hS => ?_)
 ·
  refine Zk ?_
  refine Zq (Zb (Zq (Zr ?_)))
  obtain ⟨MU,aQ7,aJw,hS⟩:=EB hS
  refine VL.deep MU.ok aJw (fun _ q=>q) ?_
  refine Zu (eZ (s:=fF) Tryz.underlying156 aDG rfl rfl aQ7 (bH aQ7 aJw)) (Zu (zW (s:=fF) kO rfl aJw rfl) (Zy ?_))
  refine Zq (Zr (Zm (Zu (eB (s:=MU) Tryz.underlying23 rfl) (Zy ?_))))
  refine Zb ?_
  refine VC.iter (S:=Int×List aK) (fun sg=>(sg.1,sg.2)) (fun sg=>[(3,.map (some K2)),(9,fF.val),(10,i64 ((fF.l.map Sv.l).length:Int)),(11,i64 pS),(15,MU.val),(16,i64 (MU.l.length:Int)),(17,i64 sg.1)]) (fun sg=>Mo.tt) (fun sg=>Ow.star (MpK Tryz.prog 9 4 K2 sg.2) (Ow.emp)) (0,BF) [3,9,10,11,15,16,17] hS rfl ?_
  clear hS
  rintro ⟨qD,aCm⟩ m2 y2 hS hK2
  refine Zq (Zr (Zu (dW rfl rfl) ?_))
  refine Zl ?_
  refine Zq ?_
  refine Zc hS (fun h18 hS => ?_) (fun h18 hS => ?_)
  ·
   refine Zk ?_
   refine Zq (Zb (Zq (Zr ?_)))
   obtain ⟨aAj,aQh,aQF,hS⟩:=fA hS
   refine Zu (eZ (s:=MU) Tryz.underlying23 fC rfl rfl aQh (bH aQh aQF)) (Zu (nX (s:=MU) kI rfl rfl aQF) ?_)
   refine gV [str [],i64 0,str []] fun a7X => ?_
   refine Zv (cs':=[str aAj.path,i64 aAj.mode,str aAj.data]) rfl fC ?_
   refine Zl ?_
   refine Zr (Zm (Zu (aB kU rfl) (Zu (aL cQ rfl rfl) ?_)))
   obtain ⟨bs3,hS⟩:=bU hS
   refine VL.a2L (b:=K2) (l:=aCm) (s:=aAj.path) Tryz.underlying9 Tryz.underlying4 Tryz.underlying157 Fo.out rfl rfl rfl bs3 ?_
   obtain ⟨aEv,aSf,hS⟩:=wV hS
   rw [aSf]
   refine Zl ?_
   refine VC.keep (ρ':=[(3,.map (some K2)),(9,fF.val),(10,i64 ((fF.l.map Sv.l).length:Int)),(11,i64 pS),(15,MU.val),(16,i64 (MU.l.length:Int)),(17,i64 qD)]) [3,9,10,11,15,16,17] rfl ?_
   refine Zr ?_
   obtain ⟨b24,hS⟩:=bU hS
   refine Zu (cR rfl rfl b24) (Zm ?_)
   refine VL.jU ((qD+1),aEv) [3,9,10,11,15,16,17] (fun _ _ h=>h) (go2 hS hK2) rfl
  replace hS:=iJ hS hK2
  refine Zx ?_
  refine Zr ?_
  obtain ⟨b25,hS⟩:=bU hS
  refine Zu (cR rfl rfl b25) (Zm ?_)
  refine VL.jU ((pS+1),aCm) [3,9,10,11] (fun _ _ h=>h) (go2 hS hK1) rfl
 replace hS:=iJ hS hK1
 refine Zx ?_
 refine Zq (Zr (Zm ?_))
 refine VL.bL (Ct.mapKeys (b:=K2) (AB Tryz.func80 rfl (by kernel_rfl)) Tryz.aKI) rfl (by decide) ?_
 intro B27_10 _
 try dsimp only
 obtain ⟨b28,hS⟩:=bU hS
 refine VL.bL (Ct.aNV (it:=135) (T:=157) (b:=K2) (B:=B27_10) (e:=4) (l:=BF) (AB Tryz.func79 rfl (by kernel_rfl)) Tryz.underlying9 (fun D0 nn W h1 h2 h3 h4 h5=>Tryz.sortedKeys_79_80 B27_10 K2 nn D0 _ W h1 h2 h3 h4 h5) b28) rfl (by decide) ?_
 intro a2t aWn
 try dsimp only
 replace hS:=bW aWn hS
 obtain ⟨aEh,aUp,hS⟩:=aO hS
 refine VL.bL (lZ a2t aUp) rfl (by decide) ?_
 rintro aT3 rfl
 try dsimp only
 refine Zy ?_
 cases hS
 exact VC.ret (Z1 aT3)
theorem vY (dD:Sv aC) (p_1:aK) {r:T9} (hS:Sh.xW dD.l p_1=some r) :
 Cp Tryz.prog 37 [dD.val,str p_1] dD.ok (.agg #[str r.dZ,i64 r.cN,str r.dQ,.bool r.is]):=by
 refine Zo Tryz.func37 Tryz.ntmps37 fun c => ?_
 unfold Sh.xW at hS
 refine Zq (Zr ?_)
 refine gV [str [],i64 0,str [],.bool false] fun tL => ?_
 refine Zl ?_
 refine Zq (Zr (Zy ?_))
 obtain ⟨gD,FQ,hS⟩:=aO hS
 refine Zu (cH (lT dD p_1 FQ) rfl (fun _ _=>rfl)) ?_
 refine Zm (Zu (aV rfl rfl) (Zu (aV rfl rfl) ?_))
 refine gV [str [],i64 0,str []] fun UB => ?_
 refine Zv (cs':=[str gD.1.path,i64 gD.1.mode,str gD.1.data]) rfl fC ?_
 refine Zy ?_
 refine VC.keep (ρ':=[(4,ptr tL 0),(5,ptr UB 0),(6,.bool gD.2)]) [4,5,6] rfl ?_
 refine Zq (Zr (Zu (cJ kI rfl rfl) (Zm ?_)))
 refine Zu (fR (vs:=[(0,.agg #[str gD.1.path,i64 gD.1.mode,str gD.1.data]),(1,.bool gD.2)]) (cs := #[str gD.1.path,i64 gD.1.mode,str gD.1.data,.bool gD.2]) rfl (by kernel_rfl)) ?_
 refine Zv (cs':=[str gD.1.path,i64 gD.1.mode,str gD.1.data,.bool gD.2]) rfl aE7 ?_
 refine Zl ?_
 cases hS
 exact VC.ret (Z3 () [.agg #[str gD.1.path,i64 gD.1.mode,str gD.1.data,.bool gD.2]] (fI.cell aFb rfl rfl Rd.blk (fI.nil)))
theorem P8 (jP:Sv aC) (r_1:jL) {r:List aK} (hS:Sh.AF jP.l r_1.pl=some r) :
 Ct Tryz.prog 33 [jP.val,.agg #[r_1.files.val,r_1.entries.val,r_1.conflicts.val]] (jP.ok.and (r_1.files.ok.and (r_1.entries.ok.and r_1.conflicts.ok))) (Ow.emp) (X:=Sv aK) (fun x=>x.val) (fun x=>r=x.l) (fun x=>Mo.tt) (fun x=>Sv.own x 9):=by
 refine Zo Tryz.func33 Tryz.ntmps33 fun c => ?_
 unfold Sh.AF at hS
 refine Zq (Zr ?_)
 refine kQ [r_1.files.val,r_1.entries.val,r_1.conflicts.val] fun jC => ?_
 refine Zy ?_
 refine Zq (Zr (Zy ?_))
 refine Zq (Zq (Zr (Zm (Zu (aB xP rfl) (Zu (aL kO rfl rfl) ?_)))))
 refine VL.lit (α:=Sv aC) (xs:=[.tmp 8,.tmp 10]) (vs:=[jP.val,r_1.files.val]) [jP,r_1.files] Tryz.underlying156 aE5 (by decide) rfl rfl rfl rfl (by decide) (fun h m=>List.forall_mem_cons.2 ⟨fQ.out (X:=jP.ok) h m,List.forall_mem_cons.2 ⟨fQ.out (X:=r_1.files.ok) h m,fun _ h=>by cases h⟩⟩) (by decide) (fun a5w a10 => ?_) (by decide)
 replace hS:=bW (congrArg (List.map Sv.l) a10) hS
 obtain ⟨W9,aJR,hS⟩:=aO hS
 refine VL.bL (JB a5w aJR) rfl (by decide) ?_
 rintro xY rfl
 try dsimp only
 refine Zu (eB (s:=xY) Tryz.underlying39 rfl) (Zy ?_)
 refine Zb ?_
 refine VC.nU (⟨none,0,[]⟩:Sv aK) 9 ⟨rfl,rfl⟩ ?_
 refine VC.iter (S:=Sv aK×Int) (fun sg=>(sg.1.l,sg.2)) (fun sg=>[(0,jP.val),(3,ptr jC 0),(5,sg.1.val),(12,xY.val),(13,i64 (xY.l.length:Int)),(14,i64 sg.2)]) (fun sg=>Mo.tt) (fun sg=>Ow.star (bE jC [r_1.files.val,r_1.entries.val,r_1.conflicts.val] 41) (Ow.star (Sv.own xY 9) (Ow.star (Sv.own sg.1 9) (Ow.emp)))) (⟨none,0,[]⟩,0) [0,3,5,12,13,14] hS rfl ?_
 clear hS
 rintro ⟨HV,O7⟩ m1 y1 hS hK1
 refine Zq (Zr (Zu (dW rfl rfl) ?_))
 refine Zl ?_
 refine Zq ?_
 refine Zc hS (fun h15 hS => ?_) (fun h15 hS => ?_)
 ·
  refine Zk ?_
  refine Zq (Zb (Zq (Zr ?_)))
  obtain ⟨TK,aQ9,aPy,hS⟩:=fA hS
  refine Zu (lN (s:=xY) Tryz.underlying39 pU rfl rfl aQ9 (bH aQ9 aPy)) (Zu (AO (s:=xY) 9 cQ rfl aPy rfl) (Zy ?_))
  refine Zq ?_
  refine l9 ((List.range 8).map fun k=>(k,true)) ?_
  refine Zw rfl (bB rfl) ?_
  refine Zw rfl (bB rfl) ?_
  obtain ⟨rX,J6,hS⟩:=aO hS
  refine Zw rfl (cH (vY jP TK J6) rfl (fun _ _=>rfl)) ?_
  refine Zw rfl (aB xP rfl) ?_
  refine Zw rfl (aL kO rfl rfl) ?_
  refine Zw rfl (bB rfl) ?_
  obtain ⟨rY,aBO,hS⟩:=aO hS
  refine Zw rfl (cH (vY r_1.files TK aBO) rfl (fun _ _=>rfl)) ?_
  refine Zw rfl (aG3 aFf (aFh rX.dZ rX.cN rX.dQ rX.is rY.dZ rY.cN rY.dQ rY.is) rfl rfl) ?_
  refine VD.to (fun _ _ h=>h) ?_
  refine VC.keep (ρ':=[(0,jP.val),(3,ptr jC 0),(5,HV.val),(12,xY.val),(13,i64 (xY.l.length:Int)),(14,i64 O7),(7,str TK),(25,.bool (!decide (rX.dZ=rY.dZ∧rX.cN=rY.cN∧rX.dQ=rY.dQ∧rX.is=rY.is)))]) [0,3,5,12,13,14,7,25] rfl ?_
  refine o3 hS (fun h25 hS => ?_) (fun h25 hS => ?_)
  ·
   refine Zr (Zy ?_)
   refine VL.lit (α:=aK) (xs:=[.tmp 27]) (vs:=[str TK]) [TK] Tryz.underlying39 xQ (by decide) rfl rfl rfl rfl (by decide) (fun _ _ _ _=>trivial) (by decide) (fun aEe aFq => ?_) (by decide)
   replace hS:=bW aFq hS
   obtain ⟨b29,hS⟩:=bU hS
   refine VL.app (s:=HV) (r:=aEe) Tryz.underlying39 R6 (by decide) rfl Fo.out (wM b29) (wN b29 (by decide)) (by decide) (fun a2u aWo => ?_)
   replace hS:=bW aWo hS
   refine Zy ?_
   refine Zr ?_
   obtain ⟨b30,hS⟩:=bU hS
   refine Zu (cR rfl rfl b30) (Zm ?_)
   refine VL.jU (a2u,(O7+1)) [0,3,5,12,13,14] (fun _ _ h=>h) (go2 hS hK1) rfl
  refine Zk ?_
  refine Zr ?_
  obtain ⟨b30,hS⟩:=bU hS
  refine Zu (cR rfl rfl b30) (Zm ?_)
  refine VL.jU (HV,(O7+1)) [0,3,5,12,13,14] (fun _ _ h=>h) (go2 hS hK1) rfl
 replace hS:=iJ hS hK1
 refine Zx ?_
 refine Zq (Zr (Zm (Zu (aB IF rfl) (Zu (aL zC rfl rfl) ?_))))
 obtain ⟨b34,hS⟩:=bU hS
 refine VL.app (s:=HV) (r:=r_1.conflicts) Tryz.underlying39 R6 (by decide) rfl Fo.out (wM b34) (wN b34 (by decide)) (by decide) (fun aRP aWu => ?_)
 replace hS:=bW aWu hS
 refine Zy ?_
 refine VC.keep (ρ':=[(5,aRP.val)]) [5] rfl ?_
 refine Zq (Zr (Zm ?_))
 obtain ⟨b36,hS⟩:=bU hS
 refine VL.bL (aA9 aRP b36) rfl (by decide) ?_
 rintro a38 ⟨aXZ,aYs⟩
 try dsimp only
 rw [← aYs]
 replace hS:=bW aXZ hS
 refine Zl ?_
 refine Zq (Zr (Zm ?_))
 obtain ⟨b38,hS⟩:=bU hS
 refine VL.bL (N9 a38 b38) rfl (by decide) ?_
 rintro a39 aX0
 try dsimp only
 replace hS:=bW aX0 hS
 refine Zy ?_
 cases hS
 exact VC.ret (Z1 a39)
theorem mM (aA:Sv aK) (v_1:aK) {r:Bool} (hS:Sh.gJ aA.l v_1=some r) :
 Cp Tryz.prog 67 [aA.val,str v_1] aA.ok (.bool r):=by
 refine Zo Tryz.func67 Tryz.ntmps67 fun c => ?_
 unfold Sh.gJ at hS
 refine Zq (Zr (Zy ?_))
 refine Zq (Zr (Zy ?_))
 obtain ⟨jO,mD,hS⟩:=aO hS
 refine Zu (cH (yK aA v_1 mD) rfl (fun _ _=>rfl)) ?_
 refine Zu (vC rfl rfl) (Zy ?_)
 cases hS
 exact Ze
end Go.Proofs.YtedhnpjkoeblnaaGreatDoor
end
