/- Part of the proofs of: a folder's tree, put into a store, file by file, is there again, told in bytes and loaded; each file's bytes are there once, named by one name (any tree) -/
import Derived.Test.YtcenmlklkpgmnabGreatDoorSD
set_option linter.unusedVariables false
set_option linter.unusedSimpArgs false
set_option linter.unusedSectionVars false
section
set_option linter.unusedVariables false
namespace Go.Proofs.YtcenmlklkpgmnabGreatDoor
set_option maxHeartbeats 4000000
set_option maxRecDepth 100000
set_option synthInstance.maxSize 2000
set_option synthInstance.maxHeartbeats 1000000
open Go.RowKit Go.V
open Go.S hiding bB
theorem DE (j8:Nat) (fR:cH) {r:Int} (hS:Sh.qH fR.pl=some r) :
 Ct Tryz.prog 27 [ptr j8 0] (fR.b.ok.and (fR.err.ok.and (Cells j8 0 [fR.b.val,i64 fR.at_,fR.err.val]))) (Ow.emp) (X:=Unit) (fun _=>i64 r) (fun _=>True) (fun _=>Mo.tt) (fun _=>Ow.emp):=by
 refine Zo Tryz.func27 Tryz.ntmps27 fun c => ?_
 unfold Sh.qH at hS
 refine Zq (Zr ?_)
 refine Zy ?_
 refine Zq (Zq (Zr ?_))
 refine Zm ?_
 refine Zu (aD rfl) ?_
 refine Zu (aB O9 rfl) ?_
 refine Zu (WC aEV rfl rfl) ?_
 refine Zu (jM Tryz.underlying26 rfl) ?_
 refine Zl ?_
 refine rE hS (fun h7 hS => ?_) (fun h7 hS => ?_)
 ·
  refine Zq (Zr ?_)
  refine Zy ?_
  cases hS
  exact Ze
 refine Zk ?_
 refine Zq ?_
 refine VC.draw ((List.range 11).map fun k=>(k,true)) mixed (by kernel_rfl) (by kernel_rfl) (by kernel_rfl) ?_
 refine Zw rfl (bA rfl) ?_
 refine Zw rfl (aD rfl) ?_
 refine Zw rfl (aB O8 rfl) ?_
 refine Zw rfl (WC qM rfl rfl) ?_
 refine Zw rfl (dX (s:=fR.b) Tryz.underlying30 rfl) ?_
 refine Zw rfl (bA rfl) ?_
 refine Zw rfl (aD rfl) ?_
 refine Zw rfl (aB uW rfl) ?_
 refine Zw rfl (WC eP rfl rfl) ?_
 obtain ⟨b17,hS⟩:=bU hS
 refine Zw rfl (qK rfl rfl b17) ?_
 refine Zw rfl (eO rfl) ?_
 refine VD.to (fun _ _ h=>h) ?_
 refine VC.keep (ρ':=[(2,i64 ((fR.b.l.length:Int) - fR.at_))]) [2] rfl ?_
 cases hS
 exact Ze
theorem WU (bG:Nat) (cJ:aU) (aE:Nat) (aT:cH) {r:eY} (hS:Sh.FY cJ aT.pl=some r) :
 Ct Tryz.prog 141 [ptr bG 0] (aT.b.ok.and aT.err.ok) (Ow.star (bD aE [aT.b.val,i64 aT.at_,aT.err.val] 127) (bD bG [ptr aE 0,.bool cJ.bad] 214)) (X:=Er) (fun x=>x.val) (fun x=>r=x.pl) (fun x=>x.ok) (fun x=>Ow.star (bD aE [aT.b.val,i64 aT.at_,aT.err.val] 127) (bD bG [ptr aE 0,.bool cJ.bad] 214)):=by
 refine Zo Tryz.func141 Tryz.ntmps141 fun c => ?_
 unfold Sh.FY at hS
 refine Zq (Zr ?_)
 refine Zy ?_
 refine Zq (Zb (Zq (Zr ?_)))
 refine Zm ?_
 refine Zu (aD rfl) ?_
 refine Zu (aB cQ rfl) ?_
 refine Zu (aJ c5 rfl rfl) ?_
 obtain ⟨sS,DH,hS⟩:=aK hS
 refine VL.bS (jF aE aT DH) rfl (by decide) ?_
 rintro JY rfl
 try dsimp only
 refine Zu (jM Tryz.underlying26 rfl) ?_
 refine Zy ?_
 refine rE hS (fun h3 hS => ?_) (fun h3 hS => ?_)
 ·
  refine Zq ?_
  cases hS
 refine VC.gK (S:=Bool) (fun (XA:Bool)=>XA) (fun (XA:Bool)=>[(15,.bool XA)]) (fun (XA:Bool)=>Mo.tt) (fun (XA:Bool)=>Ow.star (bD aE [aT.b.val,i64 aT.at_,aT.err.val] 127) (Ow.star (bD bG [ptr aE 0,.bool cJ.bad] 214) (Ow.emp))) hS ?_ ?_
 ·
  clear hS
  intro k3 hS
  refine Zr ?_
  refine Zm ?_
  refine Zu (aD rfl) ?_
  refine Zu (aB jX rfl) ?_
  refine Zu (aJ o9 rfl rfl) ?_
  refine Zm ?_
  refine vV 20 hS (fun h20 hS => ?_) (fun h20 hS => ?_)
  ·
   refine VL.runs 8 [(15,some true)] (by kernel_rfl) ?_
   refine VL.mt true [15] (fun _ _ h=>h) hS rfl
  refine Zg ?_
  refine Zh (aD rfl) ?_
  refine Zh (aB cQ rfl) ?_
  refine Zh (aJ c5 rfl rfl) ?_
  obtain ⟨XU,aJW,hS⟩:=aK hS
  refine Zh (oB (DE aE aT aJW) rfl (fun _ _=>rfl)) ?_
  refine Zh (iZ rfl rfl) ?_
  refine Zy ?_
  refine VL.mt (decide (0 < XU)) [15] (fun _ _ h=>h) hS rfl
 clear hS
 rintro XA hS
 refine iL hS (fun h15 hS => ?_) (fun h15 hS => ?_)
 ·
  refine Zq ?_
  cases hS
 refine Zk ?_
 refine Zq (Zr ?_)
 refine Zy ?_
 cases hS
 exact VC.ret (eB (.inr rfl) rfl rfl .nil rfl rfl (by (try dsimp only); exact cA.out) (by (try dsimp only); exact dJ.out))
theorem aDg (iA:Sv UInt8) {r:bR×eY} (hS:Sh.OE iA.l=some r) :
 Ct Tryz.prog 96 [iA.val] iA.ok (Ow.emp) (X:=cF×Er) (fun x => .tuple #[.agg (bM.enc x.1).toArray,x.2.val]) (fun x=>r=(x.1.pl,x.2.pl)) (fun x=>(x.1.m.and x.2.ok)) (fun x=>Ow.emp):=by
 refine Zo Tryz.func96 Tryz.ntmps96 fun c => ?_
 unfold Sh.OE at hS
 refine Zq (Zr ?_)
 refine VL.alloc (cs:=[.slice none 0 0,.slice none 0 0,.slice none 0 0,str [],i64 0,str [],i64 0,str [],.slice none 0 0,.slice none 0 0,i64 0,str [],str [],i64 0,.slice none 0 0,.slice none 0 0,.slice none 0 0,.slice none 0 0,.slice none 0 0,.slice none 0 0,i64 0]) (by kernel_rfl) (by decide) fun dQ => ?_
 refine Zy ?_
 refine Zq (Zr ?_)
 refine Zm ?_
 obtain ⟨iT,tG,hS⟩:=aK hS
 refine VL.bS (RC iA tG) rfl (by decide) ?_
 rintro ⟨jT,NF⟩ rfl
 try dsimp only
 refine Zu (eN (vs:=[(0,ptr jT 0)]) (cs := #[ptr jT 0,.bool false]) rfl (by kernel_rfl)) ?_
 refine VL.box (cs:=[ptr jT 0,.bool false]) rfl rfl (by decide) fun KN => ?_
 refine Zy ?_
 refine Zq (Zr ?_)
 refine Zm ?_
 obtain ⟨XQ,aJF,hS⟩:=aK hS
 refine VL.bS (SV KN (⟨false⟩:aU) jT NF aJF) rfl (by decide) ?_
 rintro ⟨yJ,aXu,aXv⟩ rfl
 try dsimp only
 refine VL.alloc (cs:=[.slice none 0 0,.slice none 0 0,.slice none 0 0,str [],i64 0,str [],i64 0,str [],.slice none 0 0,.slice none 0 0,i64 0,str [],str [],i64 0,.slice none 0 0,.slice none 0 0,.slice none 0 0,.slice none 0 0,.slice none 0 0,.slice none 0 0,i64 0]) (by kernel_rfl) (by decide) fun aUA => ?_
 refine Zv (cs':=(aH yJ)) rfl gG ?_
 refine Zl ?_
 refine VC.keep (ρ':=[(2,ptr dQ 0),(4,ptr KN 0),(5,ptr aUA 0)]) [2,4,5] rfl ?_
 refine Zq (Zq (Zr ?_))
 refine Zm ?_
 obtain ⟨aK3,aZx,hS⟩:=aK hS
 refine VL.bS (WU KN aXv jT aXu aZx) rfl (by decide) ?_
 rintro a6k rfl
 try dsimp only
 refine Zy ?_
 refine Zq (Zr ?_)
 refine Zm ?_
 refine Zu (jM Tryz.underlying26 rfl) ?_
 refine Zl ?_
 refine rE hS (fun h16 hS => ?_) (fun h16 hS => ?_)
 ·
  refine Zq ?_
  cases hS
 refine Zk ?_
 refine Zq (Zr ?_)
 refine Zu (cD cL rfl rfl) ?_
 refine Zv (cs':=(aH yJ)) rfl gG ?_
 refine Zy ?_
 cases hS
 exact VC.ret (hG (vs:=[.agg (aH yJ).toArray,.nilIface]) (.inr rfl) rfl (dS.cell cL rfl rfl Rd.blk (dS.tmp rfl (dS.nil))) (yJ,.nil) rfl rfl (by (try dsimp only); exact cA.out) (fun _ _=>trivial))
theorem WH (aA:cF) {r:bR} (hS:Sh.NJ aA.pl=some r) :
 Ct Tryz.prog 67 [.agg (aH aA).toArray] (aA.bH.ok.and (aA.aX.ok.and (aA.bQ.ok.and (aA.aN.ok.and (aA.aR.ok.and (aA.aO.ok.and (aA.aS.ok.and (aA.bC.ok.and (aA.bE.ok.and (aA.bT.ok.and aA.bJ.ok)))))))))) (Ow.emp) (X:=cF) (fun x => .agg (bM.enc x).toArray) (fun x=>r=x.pl) (fun x=>x.m) (fun x=>Ow.emp):=by
 refine Zo Tryz.func67 Tryz.ntmps67 fun c => ?_
 unfold Sh.NJ at hS
 refine Zq (Zr ?_)
 refine VL.box (cs:=(aH aA)) rfl rfl (by decide) fun fE => ?_
 refine VL.alloc (cs:=[.slice none 0 0,.slice none 0 0,.slice none 0 0,str [],i64 0,str [],i64 0,str [],.slice none 0 0,.slice none 0 0,i64 0,str [],str [],i64 0,.slice none 0 0,.slice none 0 0,.slice none 0 0,.slice none 0 0,.slice none 0 0,.slice none 0 0,i64 0]) (by kernel_rfl) (by decide) fun EF => ?_
 refine Zl ?_
 refine Zq (Zr ?_)
 refine Zu (cD cL rfl rfl) ?_
 obtain ⟨a4i,a4v,hS⟩:=aK hS
 refine VL.cU (aDh aA a4v) rfl (by decide) ?_
 rintro a2K rfl
 try dsimp only
 obtain ⟨GV,K4,hS⟩:=aK hS
 refine VL.cU (aDg a2K K4) rfl (by decide) ?_
 rintro ⟨zT,a2L⟩ rfl
 try dsimp only
 refine Zm ?_
 refine Zu (aW rfl rfl) ?_
 refine Zu (aW rfl rfl) ?_
 refine VL.alloc (cs:=[.slice none 0 0,.slice none 0 0,.slice none 0 0,str [],i64 0,str [],i64 0,str [],.slice none 0 0,.slice none 0 0,i64 0,str [],str [],i64 0,.slice none 0 0,.slice none 0 0,.slice none 0 0,.slice none 0 0,.slice none 0 0,.slice none 0 0,i64 0]) (by kernel_rfl) (by decide) fun a6Y => ?_
 refine Zv (cs':=(aH zT)) rfl gG ?_
 refine Zy ?_
 refine VC.keep (ρ':=[(1,ptr fE 0),(2,ptr EF 0),(3,ptr a6Y 0),(4,a2L.val)]) [1,2,3,4] rfl ?_
 refine Zq (Zq (Zr ?_))
 refine Zm ?_
 refine Zu (jM Tryz.underlying26 rfl) ?_
 refine Zl ?_
 refine rE hS (fun h12 hS => ?_) (fun h12 hS => ?_)
 ·
  refine Zq ?_
  cases hS
 refine Zk ?_
 refine Zq (Zr ?_)
 refine Zu (cD cL rfl rfl) ?_
 refine Zv (cs':=(aH zT)) rfl gG ?_
 refine Zl ?_
 cases hS
 exact VC.ret (hG (vs:=[.agg (aH zT).toArray]) (.inr rfl) rfl (dS.cell cL rfl rfl Rd.blk (dS.nil)) zT rfl rfl (by (try dsimp only); exact cA.out) (fun _ _=>trivial))
theorem aJu (s v:Sv aC) (i:Int) (hi:0≤i∧i≤(s.l.length:Int)) (hv:v.l≠[]) (hb:s.l.length+v.l.length≤4294967296):Ct Tryz.prog 124 [s.val,i64 i,v.val] Mo.tt (Ow.star (s.own 36) (v.own 36)) (X:=Sv aC) (fun q=>q.val) (fun q=>q.l=s.l.take i.toNat++v.l++s.l.drop i.toNat) (fun _=>Mo.tt) (fun q=>q.own 36):=by
 refine Zo Tryz.func124 Tryz.ntmps124 fun c => ?_
 have hvp:0 < v.l.length:=List.length_pos_iff.2 hv
 have hK:bM.sz aC=3:=rfl
 refine Zq (Zr ?_)
 refine Zy ?_
 refine Zq (Zr ?_)
 refine Zy ?_
 refine VL.fits (s:=s) (e:=36) Fo.out fun hf => ?_
 refine Zu (NH (s:=s) Tryz.underlying23 fS rfl rfl hi.1 hi.2 hf) ?_
 refine Zl ?_
 refine Zq (Zr ?_)
 refine Zm ?_
 refine Zu (dX (s:=v) Tryz.underlying22 rfl) ?_
 refine Zy ?_
 refine Zq (Zq (Zr ?_))
 refine Zm ?_
 refine Zu (gV rfl rfl) ?_
 refine Zl ?_
 refine VC.yT rfl (fun h16=>absurd h16 (by omega)) (fun h16 => ?_)
 refine Zk ?_
 refine Zq (Zr ?_)
 refine Zm ?_
 refine Zu (dX (s:=s) Tryz.underlying23 rfl) ?_
 refine Zy ?_
 refine Zq (Zq (Zr ?_))
 refine Zy ?_
 refine Zu (gV rfl rfl) ?_
 refine Zl ?_
 refine VC.yT rfl (fun h22 => ?_) (fun h22 => ?_)
 ·
  refine Zq (Zr ?_)
  refine Zy ?_
  refine VL.shut v 36 (fun _ _ _ _=>trivial) ?_
  refine VL.aTt (s:=s) (r:=v) Tryz.underlying23 Tryz.underlying22 RO (by decide) rfl Fo.out (sU hb) (sV hb (by decide)) (by decide) (fun q hq => ?_)
  refine Zy ?_
  have e1:i.toNat=s.l.length:=by omega
  exact VC.ret (eB (.inr rfl) rfl rfl q rfl (by rw [hq,e1,List.take_length,List.drop_length,List.append_nil]) (fun _ _=>trivial) dJ.out)
 have hin:i < (s.l.length:Int):=by omega
 have hne:s.l≠[]:=fun h=>by rw [h] at hin; simp at hin; omega
 have hkq:(s.l.length:Int)+(v.l.length:Int) - i=((s.l.length+v.l.length - i.toNat:Nat):Int):=by omega
 have hLn:(s.l.take i.toNat++v.l++s.l.drop i.toNat).length=s.l.length+v.l.length:=by simp only [List.length_append,List.length_take,List.length_drop]; omega
 have hfl:(s.l.take i.toNat++v.l++s.l.drop i.toNat).flatMap bM.enc=(s.l.take i.toNat).flatMap bM.enc++v.l.flatMap bM.enc++(s.l.drop i.toNat).flatMap bM.enc:=by rw [List.flatMap_append,List.flatMap_append]
 have lA:((s.l.take i.toNat).flatMap bM.enc).length=i.toNat*3:=by rw [iG,List.length_take,hK,Nat.min_eq_left (by omega)]
 have lV:(v.l.flatMap bM.enc).length=v.l.length*3:=by rw [iG,hK]
 have lS:((s.l.drop i.toNat).flatMap bM.enc).length=(s.l.length - i.toNat)*3:=by rw [iG,List.length_drop,hK]
 refine Zk ?_
 refine Zq (Zq (Zr ?_))
 refine Zy ?_
 refine Zu (cR rfl rfl ⟨by omega,by omega⟩) ?_
 refine Zm ?_
 refine Zu (aKH (a0:=s.a) (L:=s.l.length) (C:=s.c) Tryz.underlying23 rfl) ?_
 refine Zu (iZ rfl rfl) ?_
 refine Zl ?_
 refine VC.yT rfl (fun h31 => ?_) (fun h31 => ?_)
 ·
  refine VC.shut s 36 (fun _ _ _ _=>trivial) ?_
  refine VC.shut v 36 (fun _ _ _ _=>trivial) ?_
  refine Zq (Zr ?_)
  refine VL.E3 (φ:=s.a=some ⟨s.b,s.o,none⟩) (fun h m=>(cA.out (X:=s.ok) h m).2.2.1 hne) fun hsa => ?_
  refine VL.E3 (φ:=v.a=some ⟨v.b,v.o,none⟩) (fun h m=>(cA.out (X:=v.ok) h m).2.2.1 hv) fun hva => ?_
  refine Zy ?_
  refine Zu (aD9 (a0:=s.a) (L:=s.l.length) (C:=s.c) (K:=3) Tryz.underlying23 fS rfl rfl hi.1 (by omega)) ?_
  refine Zy ?_
  refine Zu (cR rfl rfl ⟨by omega,by omega⟩) ?_
  refine Zm ?_
  refine Zu (qK rfl rfl ⟨by omega,by omega⟩) ?_
  refine VL.D9 39 rfl (congrArg (Value.int .i64) hkq) ?_
  refine VL.aNU (s:=s) (L:=i.toNat) (kq:=s.l.length+v.l.length - i.toNat) Tryz.underlying23 Tryz.underlying3 RO (by decide) rfl hne (by omega) (by omega) (by omega) (by omega) (by decide) (by decide) fun g cs cp hcl hcp hcm hct => ?_
  rw [hK] at hcl hct
  rw [show i.toNat+(s.l.length+v.l.length - i.toNat)=s.l.length+v.l.length by omega] at hcp ⊢
  have hfit:((s.l.take i.toNat).flatMap bM.enc).length+(v.l.flatMap bM.enc).length+((s.l.drop i.toNat).flatMap bM.enc).length≤cs.length:=by
    rw [lA,lV,lS,hcl,← Nat.add_mul,← Nat.add_mul]; exact Nat.mul_le_mul_right _ (by omega)
  have hic:=VP (V:=v.l.flatMap bM.enc) (S:=(s.l.drop i.toNat).flatMap bM.enc) (by rw [lA]; exact hct) hfit
  rw [← hfl,lA,lV,lS] at hic
  refine Zy ?_
  refine Zq (Zr ?_)
  refine Zy ?_
  refine Zu (oC (b:=g) (o:=0) (L:=s.l.length+v.l.length) (C:=cp) (K:=3) Tryz.underlying23 fS rfl rfl hi.1 (by omega) hcp (by omega) rfl) ?_
  refine Zm ?_
  refine VL.D9 44 rfl (show v.val = .slice (some ⟨v.b,v.o+0*bM.sz aC,none⟩) v.l.length v.c by unfold Sv.val; rw [hva,Nat.zero_mul]; rfl) ?_
  refine VL.IU (src:=v.l.flatMap bM.enc) Tryz.underlying23 fS sP.out rfl (by rw [lV]; congr 1; exact (Nat.min_eq_left (by omega)).symm) (PL (r:=v) (by decide) hv) (uU v.l) (by rw [lV,Nat.zero_add,hcl,← Nat.add_mul]; exact Nat.mul_le_mul_right _ (by omega)) (by decide) ?_
  rw [Nat.zero_add,lV]
  refine Zl ?_
  refine Zq ?_
  refine VC.draw [(0,true),(1,true),(2,true),(3,true),(4,true),(5,true),(6,true),(7,true),(8,false)] mixed (by kernel_rfl) (by kernel_rfl) (by kernel_rfl) ?_
  refine Zw rfl (bA rfl) ?_
  refine Zw rfl (bA rfl) ?_
  refine Zw rfl (bA rfl) ?_
  refine Zw rfl (cR rfl rfl ⟨by omega,by omega⟩) ?_
  refine Zw rfl (oC (b:=g) (o:=0) (L:=s.l.length+v.l.length) (C:=cp) (K:=3) Tryz.underlying23 fS rfl rfl (by omega) (by omega) hcp (by omega) rfl) ?_
  refine Zw rfl (bA rfl) ?_
  refine Zw rfl (bA rfl) ?_
  refine Zw rfl (oC (b:=s.b) (o:=s.o) (L:=s.l.length) (C:=s.c) (K:=3) Tryz.underlying23 fS (show some s.val=_ by unfold Sv.val; rw [hsa]) rfl hi.1 (by omega) hf (by omega) rfl) ?_
  refine VD.one rfl ?_
  rw [show (i+(v.l.length:Int)).toNat=i.toNat+v.l.length by omega]
  refine VL.IU (src:=(s.l.drop i.toNat).flatMap bM.enc) Tryz.underlying23 fS sP.out rfl (by rw [lS]; congr 1; exact (Nat.min_eq_left (by omega)).symm) (aBr (r:=s) (by decide) hne i.toNat) (uU _) (by rw [lS,Nat.zero_add,hic.1,hcl,← Nat.add_mul]; exact Nat.mul_le_mul_right _ (by omega)) (by decide) ?_
  rw [Nat.zero_add,lS,Nat.add_mul]
  refine VL.back (D':=[]) (by kernel_rfl) aF.nil ?_
  refine VD.to (fun _ _ h=>h) ?_
  refine Zq (Zr ?_)
  refine Zy ?_
  have ho:=fun F=>PN (F:=F) (e:=36) (b:=g) (l':=s.l.take i.toNat++v.l++s.l.drop i.toNat) (hic.2.1.trans hcl) (by rw [iG] at hic; exact hic.2.2) hLn hcp hcm
  exact VC.ret (eB (.inr rfl) rfl rfl ⟨some ⟨g,0,none⟩,cp,_⟩ (ho Ow.emp).1 rfl (fun _ _=>trivial) (ho _).2)
 refine Zk ?_
 refine Zq (Zr ?_)
 refine VL.open (s:=s) (e:=36) Fo.out (by omega) fun b cs hsa hcl hct _ hcm => ?_
 rw [hK] at hcl hct
 have hctA:cs.take ((s.l.take i.toNat).flatMap bM.enc).length=(s.l.take i.toNat).flatMap bM.enc:=by
   rw [lA]
   have:cs.take (i.toNat*3)=(cs.take (s.l.length*3)).take (i.toNat*3):=by rw [List.take_take,Nat.min_eq_left (Nat.mul_le_mul_right _ (by omega))]
   rw [this,hct]
   exact yU s.l i.toNat
 have hfit:((s.l.take i.toNat).flatMap bM.enc).length+(v.l.flatMap bM.enc).length+((s.l.drop i.toNat).flatMap bM.enc).length≤cs.length:=by
   rw [lA,lV,lS,hcl,← Nat.add_mul,← Nat.add_mul]; exact Nat.mul_le_mul_right _ (by omega)
 have hic:=VQ (V:=v.l.flatMap bM.enc) (S:=(s.l.drop i.toNat).flatMap bM.enc) hctA hfit
 rw [← hfl,lA,lV,lS] at hic
 refine Zy ?_
 refine Zu (cR rfl rfl ⟨by omega,by omega⟩) ?_
 refine Zu (aD9 (a0:=s.a) (L:=s.l.length) (C:=s.c) (K:=3) Tryz.underlying23 fS rfl rfl (by omega) (by omega)) ?_
 rw [show ((s.l.length:Int)+(v.l.length:Int)).toNat=s.l.length+v.l.length by omega,hsa]
 refine Zy ?_
 refine Zq (Zq (Zr ?_))
 refine Zy ?_
 refine Zu (cR rfl rfl ⟨by omega,by omega⟩) ?_
 refine Zu (oC (b:=b) (o:=0) (L:=s.l.length+v.l.length) (C:=s.c) (K:=3) Tryz.underlying23 fS rfl rfl (by omega) (by omega) (by omega) (by omega) rfl) ?_
 refine Zu (WD (tS:=22) (tR:=4) (s:=v) (b:=b) Tryz.func189 rfl rfl (by kernel_rfl) (by kernel_rfl) Tryz.underlying22 fS rfl sP.out (fun h=>by rw [h] at hcl; simp at hcl; omega) hv) ?_
 refine Zu (lQ rfl) ?_
 refine Zl ?_
 refine VC.RD rfl ?_
 refine VC.shut v 36 (fun _ _ _ _=>trivial) ?_
 refine Zq ?_
 refine VC.draw [(0,true),(1,true),(2,true),(3,true),(4,true),(5,true),(6,true),(7,true),(8,false)] mixed (by kernel_rfl) (by kernel_rfl) (by kernel_rfl) ?_
 refine Zw rfl (bA rfl) ?_
 refine Zw rfl (bA rfl) ?_
 refine Zw rfl (bA rfl) ?_
 refine Zw rfl (cR rfl rfl ⟨by omega,by omega⟩) ?_
 refine Zw rfl (oC (b:=b) (o:=0) (L:=s.l.length+v.l.length) (C:=s.c) (K:=3) Tryz.underlying23 fS rfl rfl (by omega) (by omega) (by omega) (by omega) rfl) ?_
 refine Zw rfl (bA rfl) ?_
 refine Zw rfl (bA rfl) ?_
 refine Zw rfl (oC (b:=b) (o:=0) (L:=s.l.length+v.l.length) (C:=s.c) (K:=3) Tryz.underlying23 fS rfl rfl hi.1 (by omega) (by omega) (by omega) rfl) ?_
 refine VD.one rfl ?_
 rw [show (i+(v.l.length:Int)).toNat=i.toNat+v.l.length by omega,Nat.zero_add,Nat.zero_add]
 refine VL.IU (src:=(s.l.drop i.toNat).flatMap bM.enc) Tryz.underlying23 fS sP.out rfl (by rw [lS]; congr 1; simp only [Nat.min_def]; split <;> omega) (aEy (n:=s.l.length) hct rfl) (uU _) (by rw [lS,hcl,← Nat.add_mul]; exact Nat.mul_le_mul_right _ (by omega)) (by decide) ?_
 rw [lS,Nat.add_mul]
 refine VL.back (D':=[]) (by kernel_rfl) aF.nil ?_
 refine VD.to (fun _ _ h=>h) ?_
 refine Zq (Zr ?_)
 refine Zy ?_
 refine Zu (oC (b:=b) (o:=0) (L:=s.l.length+v.l.length) (C:=s.c) (K:=3) Tryz.underlying23 fS rfl rfl hi.1 (by omega) (by omega) (by omega) rfl) ?_
 refine Zm ?_
 refine VL.E3 (φ:=v.a=some ⟨v.b,v.o,none⟩) (fun h m=>(cA.out (X:=v.ok) h m).2.2.1 hv) fun hva => ?_
 refine VL.D9 81 rfl (show v.val = .slice (some ⟨v.b,v.o+0*bM.sz aC,none⟩) v.l.length v.c by unfold Sv.val; rw [hva,Nat.zero_mul]; rfl) ?_
 rw [Nat.zero_add]
 refine VL.IU (src:=v.l.flatMap bM.enc) Tryz.underlying23 fS sP.out rfl (by rw [lV]; congr 1; exact (Nat.min_eq_left (by omega)).symm) (PL (r:=v) (by decide) hv) (uU v.l) (by rw [lV,hic.1,hcl,← Nat.add_mul]; exact Nat.mul_le_mul_right _ (by omega)) (by decide) ?_
 rw [lV]
 refine Zl ?_
 refine Zq (Zr ?_)
 refine Zy ?_
 have ho:=fun F=>PN (F:=F) (e:=36) (b:=b) (l':=s.l.take i.toNat++v.l++s.l.drop i.toNat) (hic.2.1.trans hcl) (by rw [iG] at hic; exact hic.2.2) hLn (by omega) hcm
 exact VC.ret (eB (.inr rfl) rfl rfl ⟨some ⟨b,0,none⟩,s.c,_⟩ (ho Ow.emp).1 rfl (fun _ _=>trivial) (ho _).2)
theorem MX (cJ:Sv aC) (GI:aC) {r:List aC} (hS:Sh.E4 cJ.l GI=some r) :
 Ct Tryz.prog 87 [cJ.val,.agg #[str GI.path,i64 GI.mode,str GI.data]] cJ.ok (Ow.emp) (X:=Sv aC) (fun x=>x.val) (fun x=>r=x.l) (fun x=>x.ok) (fun x=>Ow.emp):=by
 refine Zo Tryz.func87 Tryz.ntmps87 fun c => ?_
 unfold Sh.E4 at hS
 refine Zq (Zr ?_)
 refine VL.box (cs:=[str GI.path,i64 GI.mode,str GI.data]) rfl rfl (by decide) fun fX => ?_
 refine Zy ?_
 refine Zq (Zr ?_)
 refine Zm ?_
 obtain ⟨EE,aAJ,hS⟩:=aK hS
 refine VL.bS (iQ cJ aAJ) rfl (by decide) ?_
 rintro NG rfl
 try dsimp only
 refine Zy ?_
 refine Zq (Zr ?_)
 refine Zm ?_
 refine Zu (aB qS rfl) ?_
 refine Zu (aJ dD rfl rfl) ?_
 obtain ⟨MI,aZw,hS⟩:=aK hS
 refine Zu (bZ (K7 cJ GI.path aZw) rfl (fun _ _=>rfl)) ?_
 refine Zm ?_
 refine Zu (aW rfl rfl) ?_
 refine Zu (aW rfl rfl) ?_
 refine Zy ?_
 refine VC.keep (ρ':=[(3,ptr fX 0),(5,NG.val),(6,i64 MI.1),(7,.bool MI.2)]) [3,5,6,7] rfl ?_
 refine Zq (Zq (Zr ?_))
 refine Zy ?_
 refine iL hS (fun h17 hS => ?_) (fun h17 hS => ?_)
 ·
  refine Zq (Zr ?_)
  refine Zy ?_
  refine Zu (cD jZ rfl rfl) ?_
  obtain ⟨aHW,aBh,aB3,hS⟩:=c6 hS
  refine Zu (lJ (s:=NG) Tryz.underlying23 fS rfl rfl aBh (bN aBh aB3)) ?_
  refine VL.wD (s:=NG) (T:=36) (j:=0) (vc:=[str GI.path,i64 GI.mode,str GI.data]) (⟨GI.path,GI.mode,GI.data⟩:aC) (by decide) rfl rfl aB3 rfl fS rfl rfl (Nat.le_of_ble_eq_true rfl) rfl (fun w5 hw5 haw5 hcw5 hvw5 hbw5 how5 => ?_)
  rw [← hvw5]
  replace hS:=bV hw5 hS
  refine Zl ?_
  refine Zq (Zr ?_)
  refine Zm ?_
  refine VL.shut w5 36 (fun _ _ _ _=>trivial) ?_
  obtain ⟨aHL,aJS,hS⟩:=aK hS
  refine VL.cU (e7 w5 aJS) rfl (by decide) ?_
  rintro aMf rfl
  try dsimp only
  refine Zy ?_
  refine VC.keep (ρ':=[(4,aMf.val)]) [4] rfl ?_
  cases hS
  exact VC.ret (eB (.inr rfl) rfl rfl aMf rfl rfl (by (try dsimp only); exact cA.out) (fun _ _=>trivial))
 refine Zk ?_
 refine Zq (Zr ?_)
 refine Zy ?_
 refine Zu (cD jZ rfl rfl) ?_
 refine VL.aPj (α:=aC) (xs:=[.tmp 26]) (vs:=[.agg #[str GI.path,i64 GI.mode,str GI.data]]) [⟨GI.path,GI.mode,GI.data⟩] Tryz.underlying22 X9 (by decide) rfl rfl rfl rfl (by decide) (by decide) (fun a5y a1c => ?_) (by decide)
 replace hS:=bV a1c hS
 obtain ⟨b28,hS⟩:=bU hS
 refine VL.bS (aJu NG a5y MI.1 b28.1 b28.2.1 b28.2.2) rfl (by decide) ?_
 intro aE5 aFi
 replace hS:=bV aFi hS
 refine VL.shut aE5 36 (fun _ _ _ _=>trivial) ?_
 obtain ⟨aRB,aUZ,hS⟩:=aK hS
 refine VL.cU (e7 aE5 aUZ) rfl (by decide) ?_
 rintro aIY rfl
 try dsimp only
 refine Zy ?_
 refine VC.keep (ρ':=[(4,aIY.val)]) [4] rfl ?_
 cases hS
 exact VC.ret (eB (.inr rfl) rfl rfl aIY rfl rfl (by (try dsimp only); exact cA.out) (fun _ _=>trivial))
theorem aGg (aA:cF) (p_1:bB) (BJ:Int) (BC:bB) {r:bR×eY} (hS:Sh.WG aA.pl p_1 BJ BC=some r) :
 Ct Tryz.prog 60 [.agg (aH aA).toArray,str p_1,i64 BJ,str BC] (aA.bH.ok.and (aA.aX.ok.and (aA.bQ.ok.and (aA.aN.ok.and (aA.aR.ok.and (aA.aO.ok.and (aA.aS.ok.and (aA.bC.ok.and (aA.bE.ok.and (aA.bT.ok.and aA.bJ.ok)))))))))) (Ow.emp) (X:=cF×Er) (fun x => .tuple #[.agg (bM.enc x.1).toArray,x.2.val]) (fun x=>r=(x.1.pl,x.2.pl)) (fun x=>(x.1.m.and x.2.ok)) (fun x=>Ow.emp):=by
 refine Zo Tryz.func60 Tryz.ntmps60 fun c => ?_
 unfold Sh.WG at hS
 refine Zq (Zr ?_)
 refine VL.box (cs:=(aH aA)) rfl rfl (by decide) fun wM => ?_
 refine VL.alloc (cs:=[.slice none 0 0,.slice none 0 0,.slice none 0 0,str [],i64 0,str [],i64 0,str [],.slice none 0 0,.slice none 0 0,i64 0,str [],str [],i64 0,.slice none 0 0,.slice none 0 0,.slice none 0 0,.slice none 0 0,.slice none 0 0,.slice none 0 0,i64 0]) (by kernel_rfl) (by decide) fun HW => ?_
 refine Zy ?_
 refine Zq (Zr ?_)
 refine Zy ?_
 refine Zu (eN (vs:=[(0,str p_1),(1,i64 BJ),(2,str BC)]) (cs := #[str p_1,i64 BJ,str BC]) rfl (by kernel_rfl)) ?_
 refine VL.alloc (cs:=[str [],i64 0,str []]) (by kernel_rfl) (by decide) fun KN => ?_
 refine Zv (cs':=[str p_1,i64 BJ,str BC]) rfl fS ?_
 refine Zl ?_
 refine VC.keep (ρ':=[(1,str p_1),(4,ptr wM 0),(8,ptr HW 0),(10,ptr KN 0)]) [1,4,8,10] rfl ?_
 refine Zq (Zr ?_)
 refine Zu (aB eC rfl) ?_
 refine Zu (aB tI rfl) ?_
 refine Zu (aJ jS rfl rfl) ?_
 refine Zm ?_
 obtain ⟨CF,aJT,hS⟩:=aK hS
 refine Zu (bZ (rW aA.bH p_1 aJT) rfl (fun _ _=>rfl)) ?_
 refine Zm ?_
 refine Zu (aW rfl rfl) ?_
 refine Zu (aW rfl rfl) ?_
 refine VL.alloc (cs:=[str [],i64 0,str []]) (by kernel_rfl) (by decide) fun aTx => ?_
 refine Zv (cs':=[str CF.1.path,i64 CF.1.mode,str CF.1.data]) rfl fS ?_
 refine Zy ?_
 refine VC.keep (ρ':=[(1,str p_1),(4,ptr wM 0),(8,ptr HW 0),(10,ptr KN 0),(12,.bool CF.2)]) [1,4,8,10,12] rfl ?_
 refine Zq (Zr ?_)
 refine Zu (cD jZ rfl rfl) ?_
 refine VL.lit (α:=aC) (xs:=[.tmp 27]) (vs:=[.agg #[str p_1,i64 BJ,str BC]]) [⟨p_1,BJ,BC⟩] Tryz.underlying23 X9 (by decide) rfl rfl rfl rfl (by decide) (fun _ _ _ _=>trivial) (by decide) (fun a5z a1d => ?_) (by decide)
 replace hS:=bV a1d hS
 obtain ⟨aHM,aJ1,hS⟩:=aK hS
 refine VL.cU (vY a5z aJ1) rfl (by decide) ?_
 rintro aCB rfl
 try dsimp only
 obtain ⟨s5,xY,hS⟩:=aK hS
 refine VL.cU (aHi aCB xY) rfl (by decide) ?_
 rintro nO rfl
 try dsimp only
 refine Zy ?_
 refine VC.gK (S:=Unit) (fun (_:Unit)=>()) (fun (_:Unit)=>[(4,ptr wM 0),(8,ptr HW 0),(10,ptr KN 0),(13,nO.val)]) (fun (_:Unit)=>Mo.tt) (fun (_:Unit)=>Ow.star (bD aTx [str CF.1.path,i64 CF.1.mode,str CF.1.data] 36) (Ow.star (bD KN [str p_1,i64 BJ,str BC] 36) (Ow.star (bD HW [.slice none 0 0,.slice none 0 0,.slice none 0 0,str [],i64 0,str [],i64 0,str [],.slice none 0 0,.slice none 0 0,i64 0,str [],str [],i64 0,.slice none 0 0,.slice none 0 0,.slice none 0 0,.slice none 0 0,.slice none 0 0,.slice none 0 0,i64 0] 66) (Ow.star (bD wM (aH aA) 66) (Ow.emp))))) hS ?_ ?_
 ·
  clear hS
  intro k10 hS
  refine Zb (Zq (Zr ?_))
  refine Zm ?_
  refine Zu (jM Tryz.underlying26 rfl) ?_
  refine Zy ?_
  refine rE hS (fun h31 hS => ?_) (fun h31 hS => ?_)
  ·
   refine VC.iC () [4,8,10,13] (fun _ _ h=>h) hS rfl
  refine Zq ?_
  refine VC.draw [(0,true),(1,true),(2,true),(3,true),(6,true),(7,true),(8,true),(9,true),(4,false),(5,true),(10,true),(11,true)] mixed (by kernel_rfl) (by kernel_rfl) (by kernel_rfl) ?_
  refine Zw rfl (aB eC rfl) ?_
  refine Zw rfl (aB tI rfl) ?_
  refine Zw rfl (aJ jS rfl rfl) ?_
  refine Zw rfl (bA rfl) ?_
  refine Zw rfl (aB eC rfl) ?_
  refine Zw rfl (aB tI rfl) ?_
  refine Zw rfl (aJ jS rfl rfl) ?_
  refine Zw rfl (dX (s:=aA.bH) Tryz.underlying23 rfl) ?_
  refine VD.one rfl ?_
  obtain ⟨aRP,aUl,hS⟩:=aK hS
  refine VL.cU (Y8 aA.bH p_1 aUl) rfl (by decide) ?_
  rintro aI0 rfl
  try dsimp only
  refine VL.back (D':=[(9,i64 (aA.bH.l.length:Int)),(8,aA.bH.val),(7,ptr wM 0),(6,ptr wM 0)]) (by kernel_rfl) (aF.cons rfl (dX (s:=aA.bH) Tryz.underlying23 rfl) (aF.cons rfl (aJ jS rfl rfl) (aF.cons rfl (aB tI rfl) (aF.cons rfl (aB eC rfl) (aF.nil))))) ?_
  refine Zw rfl (dX (s:=aI0) Tryz.underlying23 rfl) ?_
  refine Zw rfl (c4 rfl rfl) ?_
  refine Zw rfl (eO rfl) ?_
  refine VD.to (fun _ _ h=>h) ?_
  refine VC.keep (ρ':=[(4,ptr wM 0),(8,ptr HW 0),(10,ptr KN 0),(12,.bool CF.2),(13,nO.val),(34,.bool (decide ((aI0.l.length:Int) < (aA.bH.l.length:Int))))]) [4,8,10,12,13,34] rfl ?_
  refine Zc hS (fun h34 hS => ?_) (fun h34 hS => ?_)
  ·
   cases hS
  refine VC.gK (S:=Bool) (fun (NQ:Bool)=>NQ) (fun (NQ:Bool)=>[(4,ptr wM 0),(8,ptr HW 0),(10,ptr KN 0),(13,nO.val),(47,.bool NQ)]) (fun (NQ:Bool)=>Mo.tt) (fun (NQ:Bool)=>Ow.star (bD aTx [str CF.1.path,i64 CF.1.mode,str CF.1.data] 36) (Ow.star (bD KN [str p_1,i64 BJ,str BC] 36) (Ow.star (bD HW [.slice none 0 0,.slice none 0 0,.slice none 0 0,str [],i64 0,str [],i64 0,str [],.slice none 0 0,.slice none 0 0,i64 0,str [],str [],i64 0,.slice none 0 0,.slice none 0 0,.slice none 0 0,.slice none 0 0,.slice none 0 0,.slice none 0 0,i64 0] 66) (Ow.star (bD wM (aH aA) 66) (Ow.emp))))) hS ?_ ?_
  ·
   clear hS
   intro k13 hS
   refine Zr ?_
   refine Zm ?_
   refine Zu (lQ rfl) ?_
   refine Zm ?_
   refine vV 50 hS (fun h50 hS => ?_) (fun h50 hS => ?_)
   ·
    refine Zh (aB eC rfl) ?_
    refine Zh (aB tI rfl) ?_
    refine Zh (aJ jS rfl rfl) ?_
    refine Zh (dX (s:=aA.bH) Tryz.underlying23 rfl) ?_
    refine Zh (sK rfl rfl) ?_
    refine Zy ?_
    refine VL.mt (decide (64≤(aA.bH.l.length:Int))) [4,8,10,13,47] (fun _ _ h=>h) hS rfl
   refine VL.runs 7 [(47,some false)] (by kernel_rfl) ?_
   refine VL.mt false [4,8,10,13,47] (fun _ _ h=>h) hS rfl
  clear hS
  rintro NQ hS
  refine iL hS (fun h47 hS => ?_) (fun h47 hS => ?_)
  ·
   cases hS
  refine VC.iC () [4,8,10,13] (fun _ _ h=>h) hS rfl
 clear hS
 rintro _ hS
 refine Zq (Zq (Zr ?_))
 refine Zm ?_
 refine Zu (jM Tryz.underlying26 rfl) ?_
 refine Zl ?_
 refine rE hS (fun h59 hS => ?_) (fun h59 hS => ?_)
 ·
  refine Zq ?_
  cases hS
 refine Zk ?_
 refine Zq (Zr ?_)
 refine Zu (cD cL rfl rfl) ?_
 obtain ⟨qQ,aV7,hS⟩:=aK hS
 refine VL.cU (WH aA aV7) rfl (by decide) ?_
 rintro cS rfl
 try dsimp only
 refine VL.alloc (cs:=[.slice none 0 0,.slice none 0 0,.slice none 0 0,str [],i64 0,str [],i64 0,str [],.slice none 0 0,.slice none 0 0,i64 0,str [],str [],i64 0,.slice none 0 0,.slice none 0 0,.slice none 0 0,.slice none 0 0,.slice none 0 0,.slice none 0 0,i64 0]) (by kernel_rfl) (by decide) fun aZk => ?_
 refine Zv (cs':=(aH cS)) rfl gG ?_
 refine Zl ?_
 refine Zq (Zr ?_)
 refine Zu (aB eC rfl) ?_
 refine Zu (aB tI rfl) ?_
 refine Zu (aJ jS rfl rfl) ?_
 refine Zu (cD jZ rfl rfl) ?_
 obtain ⟨aRq,aVg,hS⟩:=aK hS
 refine VL.cU (MX cS.bH (⟨p_1,BJ,BC⟩:aC) aVg) rfl (by decide) ?_
 rintro YL rfl
 try dsimp only
 refine Zu (aB eC rfl) ?_
 refine Zu (aB tI rfl) ?_
 refine Zv (cs':=[YL.val,cS.aX.val,cS.bQ.val,str cS.aQ,i64 cS.aG,str cS.bK,i64 cS.bI,str cS.bP,cS.aN.val,cS.aR.val,i64 cS.bO,str cS.aZ,str cS.aL,i64 cS.aM,cS.aO.val,cS.aS.val,cS.bC.val,cS.bE.val,cS.bT.val,cS.bJ.val,i64 cS.time]) rfl aCw ?_
 refine Zl ?_
 refine VC.keep (ρ':=[(8,ptr HW 0),(14,ptr aZk 0)]) [8,14] rfl ?_
 refine Zq (Zr ?_)
 refine Zu (cD cL rfl rfl) ?_
 refine Zv (cs':=[YL.val,cS.aX.val,cS.bQ.val,str cS.aQ,i64 cS.aG,str cS.bK,i64 cS.bI,str cS.bP,cS.aN.val,cS.aR.val,i64 cS.bO,str cS.aZ,str cS.aL,i64 cS.aM,cS.aO.val,cS.aS.val,cS.bC.val,cS.bE.val,cS.bT.val,cS.bJ.val,i64 cS.time]) rfl gG ?_
 refine Zy ?_
 cases hS
 exact VC.ret (hG (vs:=[.agg #[YL.val,cS.aX.val,cS.bQ.val,str cS.aQ,i64 cS.aG,str cS.bK,i64 cS.bI,str cS.bP,cS.aN.val,cS.aR.val,i64 cS.bO,str cS.aZ,str cS.aL,i64 cS.aM,cS.aO.val,cS.aS.val,cS.bC.val,cS.bE.val,cS.bT.val,cS.bJ.val,i64 cS.time],.nilIface]) (.inr rfl) rfl (dS.cell cL rfl rfl Rd.blk (dS.tmp rfl (dS.nil))) (⟨YL,cS.aX,cS.bQ,cS.aQ,cS.aG,cS.bK,cS.bI,cS.bP,cS.aN,cS.aR,cS.bO,cS.aZ,cS.aL,cS.aM,cS.aO,cS.aS,cS.bC,cS.bE,cS.bT,cS.bJ,cS.time⟩,.nil) rfl rfl (by (try dsimp only); exact cA.out) (fun _ _=>trivial))
theorem aAZ (aA:cF) (p_1:bB) (data_2:bB) {r:bR} (hS:Sh.IY aA.pl p_1 data_2=some r) :
 Ct Tryz.prog 36 [.agg (aH aA).toArray,str p_1,str data_2] (aA.bH.ok.and (aA.aX.ok.and (aA.bQ.ok.and (aA.aN.ok.and (aA.aR.ok.and (aA.aO.ok.and (aA.aS.ok.and (aA.bC.ok.and (aA.bE.ok.and (aA.bT.ok.and aA.bJ.ok)))))))))) (Ow.emp) (X:=cF) (fun x => .agg (bM.enc x).toArray) (fun x=>r=x.pl) (fun x=>x.m) (fun x=>Ow.emp):=by
 refine Zo Tryz.func36 Tryz.ntmps36 fun c => ?_
 unfold Sh.IY at hS
 refine Zq (Zr ?_)
 refine VL.box (cs:=(aH aA)) rfl rfl (by decide) fun fX => ?_
 refine VL.alloc (cs:=[.slice none 0 0,.slice none 0 0,.slice none 0 0,str [],i64 0,str [],i64 0,str [],.slice none 0 0,.slice none 0 0,i64 0,str [],str [],i64 0,.slice none 0 0,.slice none 0 0,.slice none 0 0,.slice none 0 0,.slice none 0 0,.slice none 0 0,i64 0]) (by kernel_rfl) (by decide) fun D4 => ?_
 refine Zl ?_
 refine Zq (Zr ?_)
 refine Zu (cD cL rfl rfl) ?_
 refine Zy ?_
 obtain ⟨uS,JL,hS⟩:=aK hS
 refine VL.cU (aGg aA p_1 1 data_2 JL) rfl (by decide) ?_
 rintro ⟨LR,a6j⟩ rfl
 try dsimp only
 refine Zm ?_
 refine Zu (aW rfl rfl) ?_
 refine Zu (aW rfl rfl) ?_
 refine VL.alloc (cs:=[.slice none 0 0,.slice none 0 0,.slice none 0 0,str [],i64 0,str [],i64 0,str [],.slice none 0 0,.slice none 0 0,i64 0,str [],str [],i64 0,.slice none 0 0,.slice none 0 0,.slice none 0 0,.slice none 0 0,.slice none 0 0,.slice none 0 0,i64 0]) (by kernel_rfl) (by decide) fun aEv => ?_
 refine Zv (cs':=(aH LR)) rfl gG ?_
 refine Zy ?_
 refine VC.keep (ρ':=[(6,ptr D4 0),(7,ptr aEv 0)]) [6,7] rfl ?_
 refine Zq (Zr ?_)
 refine Zu (cD cL rfl rfl) ?_
 refine Zv (cs':=(aH LR)) rfl gG ?_
 refine Zl ?_
 cases hS
 exact VC.ret (hG (vs:=[.agg (aH LR).toArray]) (.inr rfl) rfl (dS.cell cL rfl rfl Rd.blk (dS.nil)) LR rfl rfl (by (try dsimp only); exact cA.out) (fun _ _=>trivial))
theorem IW (aA:bB) (kN:bB) {r:bB×bB×Bool} (hS:Sh.uM aA kN=some r) :
 Ct Tryz.prog 88 [str aA,str kN] Mo.tt (Ow.emp) (X:=Unit) (fun _ => .tuple #[str r.1,str r.2.1,.bool r.2.2]) (fun _=>True) (fun _=>Mo.tt) (fun _=>Ow.emp):=by
 refine Zo Tryz.func88 Tryz.ntmps88 fun c => ?_
 unfold Sh.uM at hS
 refine Zq (Zr ?_)
 refine Zy ?_
 refine Zq (Zq (Zr ?_))
 refine Zy ?_
 obtain ⟨c9,nF,hS⟩:=aK hS
 refine Zu (bZ (wT aA kN nF) rfl (fun _ _=>rfl)) ?_
 refine Zy ?_
 refine Zq (Zr ?_)
 refine Zm ?_
 refine Zu (sK rfl rfl) ?_
 refine Zl ?_
 refine VC.keep (ρ':=[(0,str aA),(1,str kN),(7,i64 c9),(12,.bool (decide (0≤c9)))]) [0,1,7,12] rfl ?_
 refine Zc hS (fun h12 hS => ?_) (fun h12 hS => ?_)
 ·
  refine Zq ?_
  refine VC.draw ((List.range 12).map fun k=>(k,true)) mixed (by kernel_rfl) (by kernel_rfl) (by kernel_rfl) ?_
  refine Zw rfl (bA rfl) ?_
  refine Zw rfl (bA rfl) ?_
  obtain ⟨b15,hS⟩:=bU hS
  obtain ⟨XT,aJK,hS⟩:=qT hS
  refine Zw rfl (aE4 Tryz.underlying9 rfl rfl b15.1 b15.2 aJK) ?_
  refine Zw rfl (bA rfl) ?_
  refine Zw rfl (bA rfl) ?_
  refine Zw rfl (bA rfl) ?_
  refine Zw rfl (pU Tryz.underlying9 rfl) ?_
  obtain ⟨b20,hS⟩:=bU hS
  refine Zw rfl (cR rfl rfl b20) ?_
  obtain ⟨b21,hS⟩:=bU hS
  obtain ⟨aOU,a0J,hS⟩:=qT hS
  refine Zw rfl (YO Tryz.underlying9 rfl rfl b21.1 b21.2 a0J) ?_
  refine Zw rfl (eO rfl) ?_
  refine Zw rfl (eO rfl) ?_
  refine Zw rfl (eO rfl) ?_
  refine VD.to (fun _ _ h=>h) ?_
  refine VC.keep (ρ':=[(4,str XT),(5,str aOU),(6,.bool true)]) [4,5,6] rfl ?_
  cases hS
  exact VC.ret (aOz (.inr rfl) rfl rfl rfl rfl () rfl trivial (fun _ _=>trivial) (fun _ _=>trivial))
 refine Zk ?_
 refine Zq (Zr ?_)
 refine Zy ?_
 cases hS
 exact VC.ret (aOz (.inr rfl) rfl rfl rfl rfl () rfl trivial (fun _ _=>trivial) (fun _ _=>trivial))
theorem T8 (aA:bB) (kN:bB) {r:bB×bB×Bool} (hS:Sh.J2 aA kN=some r) :
 Ct Tryz.prog 61 [str aA,str kN] Mo.tt (Ow.emp) (X:=Unit) (fun _ => .tuple #[str r.1,str r.2.1,.bool r.2.2]) (fun _=>True) (fun _=>Mo.tt) (fun _=>Ow.emp):=by
 refine Zo Tryz.func61 Tryz.ntmps61 fun c => ?_
 unfold Sh.J2 at hS
 refine Zq (Zr ?_)
 refine Zy ?_
 refine Zq (Zr ?_)
 refine Zy ?_
 obtain ⟨XY,aNl,hS⟩:=aK hS
 refine Zu (bZ (IW aA kN aNl) rfl (fun _ _=>rfl)) ?_
 refine Zu (aW rfl rfl) ?_
 refine Zu (aW rfl rfl) ?_
 refine Zu (aW rfl rfl) ?_
 refine Zy ?_
 refine VC.keep (ρ':=[(4,str XY.1),(5,str XY.2.1),(6,.bool XY.2.2)]) [4,5,6] rfl ?_
 cases hS
 exact VC.ret (aOz (.inr rfl) rfl rfl rfl rfl () rfl trivial (fun _ _=>trivial) (fun _ _=>trivial))
theorem N3 (w_0:Sv bB) {r:bB} (hS:Sh.KY w_0.l=some r) :
 Ct Tryz.prog 126 [w_0.val] w_0.ok (Ow.emp) (X:=Unit) (fun _=>str r) (fun _=>True) (fun _=>Mo.tt) (fun _=>Ow.emp):=by
 refine Zo Tryz.func126 Tryz.ntmps126 fun c => ?_
 unfold Sh.KY at hS
 refine Zq (Zr ?_)
 refine Zy ?_
 refine Zq (Zq (Zr ?_))
 refine Zm ?_
 refine Zu (dX (s:=w_0) Tryz.underlying62 rfl) ?_
 refine Zu (gV rfl rfl) ?_
 refine Zl ?_
 refine Zc hS (fun h5 hS => ?_) (fun h5 hS => ?_)
 ·
  refine Zq ?_
  cases hS
 refine Zk ?_
 refine Zq (Zr ?_)
 refine Zm ?_
 obtain ⟨aNP,aKB,aJr,hS⟩:=c6 hS
 refine Zu (e8 (s:=w_0) Tryz.underlying62 vA rfl rfl aKB (bN aKB aJr)) ?_
 refine Zu (q9 (s:=w_0) dD rfl aJr rfl) ?_
 refine Zy ?_
 cases hS
 exact Ze
theorem aH3 (aA:bB) {r:Bool} (hS:Sh.aAE aA=some r) :
 Ct Tryz.prog 127 [str aA] Mo.tt (Ow.emp) (X:=Unit) (fun _ => .bool r) (fun _=>True) (fun _=>Mo.tt) (fun _=>Ow.emp):=by
 refine Zo Tryz.func127 Tryz.ntmps127 fun c => ?_
 unfold Sh.aAE at hS
 refine Zq (Zr ?_)
 refine Zy ?_
 refine Zq (Zr ?_)
 refine Zm ?_
 refine Zu (wZ rfl rfl) ?_
 refine Zm ?_
 refine OZ 5 hS (fun h5 hS => ?_) (fun h5 hS => ?_)
 ·
  refine Zg ?_
  obtain ⟨aNP,aKB,aJr,hS⟩:=c6 hS
  refine Zh (SC Tryz.underlying9 rfl rfl aKB aJr) ?_
  refine Zh (sK rfl rfl) ?_
  refine Zy ?_
  refine pL 10 hS (fun h10 hS => ?_) (fun h10 hS => ?_)
  ·
   refine Zg ?_
   obtain ⟨aO9,a1z,a1n,hS⟩:=c6 hS
   refine Zh (SC Tryz.underlying9 rfl rfl a1z a1n) ?_
   refine Zh (aAW rfl rfl) ?_
   refine Zy ?_
   refine VC.keep (ρ':=[(2,.bool (decide ((aO9.toNat:Int)≤57)))]) [2] rfl ?_
   cases hS
   exact Ze
  refine VL.runs 5 [(2,some false)] (by kernel_rfl) ?_
  refine Zl ?_
  cases hS
  exact Ze
 refine VL.runs 10 [(2,some false)] (by kernel_rfl) ?_
 refine Zl ?_
 cases hS
 exact Ze
theorem aH4 (sI:Nat) (cE:rT) (w_1:Sv bB) {r:Bool×qR} (hS:Sh.aAF cE.pl w_1.l=some r) :
 Ct Tryz.prog 89 [ptr sI 0,w_1.val] (cE.todo.ok.and w_1.ok) (bD sI [str cE.verb,str cE.name,i64 cE.n,str cE.text,.bool cE.force,cE.todo.val] 112) (X:=Bool×rT) (fun x => .bool x.1) (fun x=>r=(x.1,x.2.pl)) (fun x=>x.2.todo.ok) (fun x=>bD sI [str x.2.verb,str x.2.name,i64 x.2.n,str x.2.text,.bool x.2.force,x.2.todo.val] 112):=by
 refine Zo Tryz.func89 Tryz.ntmps89 fun c => ?_
 unfold Sh.aAF at hS
 refine Zq (Zr ?_)
 refine Zy ?_
 refine Zq (Zr ?_)
 refine Zy ?_
 refine VC.gK (S:=Unit) (fun (_:Unit)=>()) (fun (_:Unit)=>[(0,ptr sI 0),(1,w_1.val),(5,i64 0),(6,.bool true)]) (fun (_:Unit)=>Mo.tt) (fun (_:Unit)=>Ow.star (bD sI [str cE.verb,str cE.name,i64 cE.n,str cE.text,.bool cE.force,cE.todo.val] 112) (Ow.emp)) hS ?_ ?_
 ·
  clear hS
  intro k1 hS
  refine Zq (Zr ?_)
  refine Zm ?_
  refine Zu (aD rfl) ?_
  refine Zu (aB rX rfl) ?_
  refine Zu (aJ dD rfl rfl) ?_
  refine Zl ?_
  refine Zb ?_
  refine VC.gK (S:=Bool) (fun (i7:Bool)=>i7) (fun (i7:Bool)=>[(0,ptr sI 0),(1,w_1.val),(5,i64 0),(6,.bool true),(11,.bool i7)]) (fun (i7:Bool)=>Mo.tt) (fun (i7:Bool)=>Ow.star (bD sI [str cE.verb,str cE.name,i64 cE.n,str cE.text,.bool cE.force,cE.todo.val] 112) (Ow.emp)) hS ?_ ?_
  ·
   clear hS
   intro k3 hS
   refine Zq (Zr ?_)
   refine Zy ?_
   refine Zc hS (fun h11 hS => ?_) (fun h11 hS => ?_)
   ·
    refine VC.iC (decide (cE.verb=[114,109])) [0,1,5,6,11] (fun _ _ h=>h) hS rfl
   refine Zr ?_
   refine Zy ?_
   refine VL.mt (decide (cE.verb=[115,119,105,116,99,104])) [0,1,5,6,11] (fun _ _ h=>h) hS rfl
  clear hS
  rintro i7 hS
  refine iL hS (fun h11 hS => ?_) (fun h11 hS => ?_)
  ·
   refine VC.gK (S:=Bool) (fun (XG:Bool)=>XG) (fun (XG:Bool)=>[(0,ptr sI 0),(1,w_1.val),(5,i64 0),(6,.bool true),(25,.bool XG)]) (fun (XG:Bool)=>Mo.tt) (fun (XG:Bool)=>Ow.star (bD sI [str cE.verb,str cE.name,i64 cE.n,str cE.text,.bool cE.force,cE.todo.val] 112) (Ow.emp)) hS ?_ ?_
   ·
    clear hS
    intro k5 hS
    refine Zr ?_
    refine Zm ?_
    refine Zu (dX (s:=w_1) Tryz.underlying62 rfl) ?_
    refine Zu (iZ rfl rfl) ?_
    refine Zm ?_
    refine pL 17 hS (fun h17 hS => ?_) (fun h17 hS => ?_)
    ·
     refine Zy ?_
     refine Zh (dX (s:=w_1) Tryz.underlying62 rfl) ?_
     obtain ⟨b21,hS⟩:=bU hS
     refine Zh (qK rfl rfl b21) ?_
     obtain ⟨aOd,aQB,aPZ,hS⟩:=c6 hS
     refine Zh (e8 (s:=w_1) Tryz.underlying62 vA rfl rfl aQB (bN aQB aPZ)) ?_
     refine Zh (q9 (s:=w_1) dD rfl aPZ rfl) ?_
     refine Zh (IX rfl rfl) ?_
     refine Zt ?_
     refine VL.mt (decide (aOd=[45,102])) [0,1,5,6,25] (fun _ _ h=>h) hS rfl
    refine VL.runs 8 [(25,some false)] (by kernel_rfl) ?_
    refine VL.mt false [0,1,5,6,25] (fun _ _ h=>h) hS rfl
   clear hS
   rintro XG hS
   refine iL hS (fun h25 hS => ?_) (fun h25 hS => ?_)
   ·
    cases hS
   refine VC.iC () [0,1,5,6] (fun _ _ h=>h) hS rfl
  refine VC.iC () [0,1,5,6] (fun _ _ h=>h) hS rfl
 clear hS
 rintro _ hS
 refine VC.gK (S:=Int×Bool×bB) (fun sg=>(sg.1,sg.2.1,sg.2.2)) (fun sg=>[(1,w_1.val),(5,i64 sg.1),(6,.bool sg.2.1)]) (fun sg=>Mo.tt) (fun sg=>Ow.star (bD sI [str cE.verb,str sg.2.2,i64 cE.n,str cE.text,.bool cE.force,cE.todo.val] 112) (Ow.emp)) hS ?_ ?_
 ·
  clear hS
  intro k10 hS
  refine Zq (Zr ?_)
  refine Zm ?_
  refine Zu (aD rfl) ?_
  refine Zu (aB rX rfl) ?_
  refine Zu (aJ dD rfl rfl) ?_
  refine Zl ?_
  refine Zb ?_
  refine VC.gK (S:=Unit) (fun (_:Unit)=>()) (fun (_:Unit)=>[(0,ptr sI 0),(1,w_1.val)]) (fun (_:Unit)=>Mo.tt) (fun (_:Unit)=>Ow.star (bD sI [str cE.verb,str cE.name,i64 cE.n,str cE.text,.bool cE.force,cE.todo.val] 112) (Ow.emp)) hS ?_ ?_
  ·
   clear hS
   intro k11 hS
   refine Zb ?_
   refine VC.gK (S:=Unit) (fun (_:Unit)=>()) (fun (_:Unit)=>[(0,ptr sI 0),(1,w_1.val)]) (fun (_:Unit)=>Mo.tt) (fun (_:Unit)=>Ow.star (bD sI [str cE.verb,str cE.name,i64 cE.n,str cE.text,.bool cE.force,cE.todo.val] 112) (Ow.emp)) hS ?_ ?_
   ·
    clear hS
    intro k12 hS
    refine Zb ?_
    refine VC.gK (S:=Unit) (fun (_:Unit)=>()) (fun (_:Unit)=>[(0,ptr sI 0),(1,w_1.val)]) (fun (_:Unit)=>Mo.tt) (fun (_:Unit)=>Ow.star (bD sI [str cE.verb,str cE.name,i64 cE.n,str cE.text,.bool cE.force,cE.todo.val] 112) (Ow.emp)) hS ?_ ?_
    ·
     clear hS
     intro k13 hS
     refine Zb ?_
     refine VC.gK (S:=Unit) (fun (_:Unit)=>()) (fun (_:Unit)=>[(0,ptr sI 0),(1,w_1.val)]) (fun (_:Unit)=>Mo.tt) (fun (_:Unit)=>Ow.star (bD sI [str cE.verb,str cE.name,i64 cE.n,str cE.text,.bool cE.force,cE.todo.val] 112) (Ow.emp)) hS ?_ ?_
     ·
      clear hS
      intro k14 hS
      refine Zb (Zq (Zb (Zq (Zq (Zq (Zr ?_))))))
      refine Zy ?_
      refine Zc hS (fun h38 hS => ?_) (fun h38 hS => ?_)
      ·
       refine Zx ?_
       refine Zq (Zr ?_)
       refine Zm ?_
       refine Zu (dX (s:=w_1) Tryz.underlying62 rfl) ?_
       refine Zu (gV rfl rfl) ?_
       refine Zl ?_
       refine VC.keep (ρ':=[(0,ptr sI 0),(1,w_1.val),(5,i64 0),(6,.bool true),(58,.bool (decide ((w_1.l.length:Int)=0)))]) [0,1,5,6,58] rfl ?_
       refine Zc hS (fun h58 hS => ?_) (fun h58 hS => ?_)
       ·
        refine VC.eW (0,true,cE.name) [1,5,6] (fun _ _ h=>h) hS rfl
       refine VC.iC () [0,1] (fun _ _ h=>h) hS rfl
      refine Zk ?_
      refine VC.gK (S:=Unit) (fun (_:Unit)=>()) (fun (_:Unit)=>[(0,ptr sI 0),(1,w_1.val),(5,i64 0),(6,.bool true),(37,str cE.verb)]) (fun (_:Unit)=>Mo.tt) (fun (_:Unit)=>Ow.star (bD sI [str cE.verb,str cE.name,i64 cE.n,str cE.text,.bool cE.force,cE.todo.val] 112) (Ow.emp)) hS ?_ ?_
      ·
       clear hS
       intro k15 hS
       refine Zq (Zq (Zr ?_))
       refine Zy ?_
       refine Zc hS (fun h40 hS => ?_) (fun h40 hS => ?_)
       ·
        refine Zk ?_
        refine Zc hS (fun h40 hS => ?_) (fun h40 hS => ?_)
        ·
         refine VC.eW () [0,1] (fun _ _ h=>h) hS rfl
        refine VC.iC () [0,1,5,6,37] (fun _ _ h=>h) hS rfl
       refine Zq (Zr ?_)
       refine Zy ?_
       refine VC.keep (ρ':=[(0,ptr sI 0),(1,w_1.val),(5,i64 0),(6,.bool true),(37,str cE.verb),(40,.bool (decide (cE.verb=[98,114,97,110,99,104])))]) [0,1,5,6,37,40] rfl ?_
       refine Zc hS (fun h40 hS => ?_) (fun h40 hS => ?_)
       ·
        refine Zk ?_
        refine Zc hS (fun h40 hS => ?_) (fun h40 hS => ?_)
        ·
         refine VC.eW () [0,1] (fun _ _ h=>h) hS rfl
        refine VC.iC () [0,1,5,6,37] (fun _ _ h=>h) hS rfl
       refine Zq (Zr ?_)
       refine Zy ?_
       refine Zc hS (fun h40 hS => ?_) (fun h40 hS => ?_)
       ·
        refine Zk ?_
        refine Zc hS (fun h40 hS => ?_) (fun h40 hS => ?_)
        ·
         refine VC.eW () [0,1] (fun _ _ h=>h) hS rfl
        refine VC.iC () [0,1,5,6,37] (fun _ _ h=>h) hS rfl
       refine Zr ?_
       refine Zy ?_
       refine Zc hS (fun h40 hS => ?_) (fun h40 hS => ?_)
       ·
        refine VC.eW () [0,1] (fun _ _ h=>h) hS rfl
       refine VC.iC () [0,1,5,6,37] (fun _ _ h=>h) hS rfl
      clear hS
      rintro _ hS
      refine Zq (Zq (Zr ?_))
      refine Zy ?_
      refine Zc hS (fun h45 hS => ?_) (fun h45 hS => ?_)
      ·
       refine VC.eW () [0,1] (fun _ _ h=>h) hS rfl
      refine Zk ?_
      refine Zq (Zq (Zr ?_))
      refine Zy ?_
      refine Zc hS (fun h47 hS => ?_) (fun h47 hS => ?_)
      ·
       refine VC.eW () [0,1] (fun _ _ h=>h) hS rfl
      refine Zk ?_
      refine Zq (Zq (Zr ?_))
      refine Zy ?_
      refine Zc hS (fun h49 hS => ?_) (fun h49 hS => ?_)
      ·
       refine Zk ?_
       refine Zc hS (fun h49 hS => ?_) (fun h49 hS => ?_)
       ·
        refine VC.eW () [0,1] (fun _ _ h=>h) hS rfl
       refine Zk ?_
       refine VC.keep (ρ':=[(1,w_1.val),(5,i64 0),(6,.bool true)]) [1,5,6] rfl ?_
       refine VC.eW (0,true,cE.name) [1,5,6] (fun _ _ h=>h) hS rfl
      refine Zq (Zr ?_)
      refine Zy ?_
      refine Zc hS (fun h49 hS => ?_) (fun h49 hS => ?_)
      ·
       refine Zk ?_
       refine VC.keep (ρ':=[(0,ptr sI 0),(1,w_1.val),(5,i64 0),(6,.bool true),(49,.bool (decide (cE.verb=[114,101,118,101,114,116])))]) [0,1,5,6,49] rfl ?_
       refine Zc hS (fun h49 hS => ?_) (fun h49 hS => ?_)
       ·
        refine VC.eW () [0,1] (fun _ _ h=>h) hS rfl
       refine Zk ?_
       refine VC.eW (0,true,cE.name) [1,5,6] (fun _ _ h=>h) hS rfl
      refine Zq (Zr ?_)
      refine Zy ?_
      refine VC.keep (ρ':=[(0,ptr sI 0),(1,w_1.val),(5,i64 0),(6,.bool true),(37,str cE.verb),(49,.bool (decide (cE.verb=[112,111,112])))]) [0,1,5,6,37,49] rfl ?_
      refine Zc hS (fun h49 hS => ?_) (fun h49 hS => ?_)
      ·
       refine Zk ?_
       refine Zc hS (fun h49 hS => ?_) (fun h49 hS => ?_)
       ·
        refine VC.eW () [0,1] (fun _ _ h=>h) hS rfl
       refine Zk ?_
       refine VC.eW (0,true,cE.name) [1,5,6] (fun _ _ h=>h) hS rfl
      refine Zq (Zr ?_)
      refine Zy ?_
      refine Zc hS (fun h49 hS => ?_) (fun h49 hS => ?_)
      ·
       refine Zk ?_
       refine Zc hS (fun h49 hS => ?_) (fun h49 hS => ?_)
       ·
        refine VC.eW () [0,1] (fun _ _ h=>h) hS rfl
       refine Zk ?_
       refine VC.eW (0,true,cE.name) [1,5,6] (fun _ _ h=>h) hS rfl
      refine Zq (Zr ?_)
      refine Zy ?_
      refine Zc hS (fun h49 hS => ?_) (fun h49 hS => ?_)
      ·
       refine Zk ?_
       refine Zc hS (fun h49 hS => ?_) (fun h49 hS => ?_)
       ·
        refine VC.eW () [0,1] (fun _ _ h=>h) hS rfl
       refine Zk ?_
       refine VC.eW (0,true,cE.name) [1,5,6] (fun _ _ h=>h) hS rfl
      refine Zr ?_
      refine Zy ?_
      refine Zc hS (fun h49 hS => ?_) (fun h49 hS => ?_)
      ·
       refine VC.eW () [0,1] (fun _ _ h=>h) hS rfl
      refine Zk ?_
      refine VC.eW (0,true,cE.name) [1,5,6] (fun _ _ h=>h) hS rfl
     clear hS
     rintro _ hS
     refine Zq (Zq (Zr ?_))
     refine Zy ?_
     refine Zq (Zr ?_)
     refine Zy ?_
     obtain ⟨TE,aV0,hS⟩:=aK hS
     refine Zu (bZ (N3 w_1 aV0) rfl (fun _ _=>rfl)) ?_
     refine Zu (aD rfl) ?_
     refine Zu (aB qE rfl) ?_
     refine Zv (cs':=[str cE.verb,str TE,i64 cE.n,str cE.text,.bool cE.force,cE.todo.val]) rfl vA ?_
     refine Zl ?_
     refine Zr ?_
     refine Zm ?_
     refine Zu (aD rfl) ?_
     refine Zu (aB qE rfl) ?_
     refine Zu (aJ dD rfl rfl) ?_
     refine Zu (wZ rfl rfl) ?_
     refine Zy ?_
     refine VC.keep (ρ':=[(1,w_1.val),(5,i64 1),(6,.bool (!decide (TE=[])))]) [1,5,6] rfl ?_
     refine VC.eW (1,(!decide (TE=[])),TE) [1,5,6] (fun _ _ h=>h) hS rfl
    clear hS
    rintro _ hS
    refine Zq (Zq (Zr ?_))
    refine Zy ?_
    refine Zq (Zr ?_)
    refine Zm ?_
    obtain ⟨aKo,aVb,hS⟩:=aK hS
    refine Zu (bZ (N3 w_1 aVb) rfl (fun _ _=>rfl)) ?_
    obtain ⟨aRn,aVe,hS⟩:=aK hS
    refine Zu (bZ (aH3 aKo aVe) rfl (fun _ _=>rfl)) ?_
    refine Zl ?_
    refine iL hS (fun h71 hS => ?_) (fun h71 hS => ?_)
    ·
     cases hS
    refine Zq (Zr ?_)
    refine Zy ?_
    obtain ⟨Y1,aVt,hS⟩:=aK hS
    refine Zu (bZ (N3 w_1 aVt) rfl (fun _ _=>rfl)) ?_
    refine Zu (aD rfl) ?_
    refine Zu (aB qE rfl) ?_
    refine Zv (cs':=[str cE.verb,str Y1,i64 cE.n,str cE.text,.bool cE.force,cE.todo.val]) rfl vA ?_
    refine Zl ?_
    refine VC.keep (ρ':=[(0,ptr sI 0),(1,w_1.val),(5,i64 1)]) [0,1,5] rfl ?_
    refine Zr ?_
    refine Zm ?_
    refine Zu (aD rfl) ?_
    refine Zu (aB qE rfl) ?_
    refine Zu (aJ dD rfl rfl) ?_
    refine Zu (wZ rfl rfl) ?_
    refine Zy ?_
    refine VC.eW (1,(!decide (Y1=[])),Y1) [1,5,6] (fun _ _ h=>h) hS rfl
   clear hS
   rintro _ hS
   refine Zq (Zq ?_)
   cases hS
  clear hS
  rintro _ hS
  refine Zq (Zq ?_)
  cases hS
 clear hS
 rintro ⟨aCS,aXo,ES⟩ hS
 refine Zq (Zr ?_)
 refine Zy ?_
 refine vV 127 hS (fun h127 hS => ?_) (fun h127 hS => ?_)
 ·
  refine Zg ?_
  refine Zh (dX (s:=w_1) Tryz.underlying62 rfl) ?_
  refine Zg ?_
  refine Zh (gV rfl rfl) ?_
  refine Zy ?_
  refine VC.keep (ρ':=[(4,.bool (decide ((w_1.l.length:Int)=aCS)))]) [4] rfl ?_
  cases hS
  exact VC.ret (eB (.inr rfl) rfl rfl ((decide ((w_1.l.length:Int)=aCS)),⟨cE.verb,ES,cE.n,cE.text,cE.force,cE.todo⟩) rfl rfl (by (try dsimp only); exact cA.out) (by (try dsimp only); exact dJ.out))
 refine VL.runs 6 [(4,some false)] (by kernel_rfl) ?_
 refine Zl ?_
 cases hS
 exact VC.ret (eB (.inr rfl) rfl rfl (false,⟨cE.verb,ES,cE.n,cE.text,cE.force,cE.todo⟩) rfl rfl (by (try dsimp only); exact cA.out) (by (try dsimp only); exact dJ.out))
theorem aIy (aBc:bB) {r:qR×Bool} (hS:Sh.aCp aBc=some r) :
 Ct Tryz.prog 62 [str aBc] Mo.tt (Ow.emp) (X:=rT×Bool) (fun x => .tuple #[.agg (bM.enc x.1).toArray,.bool x.2]) (fun x=>r=(x.1.pl,x.2)) (fun x=>x.1.m) (fun x=>Ow.emp):=by
 refine Zo Tryz.func62 Tryz.ntmps62 fun c => ?_
 unfold Sh.aCp at hS
 refine Zq (Zr ?_)
 refine VL.alloc (cs:=[str [],str [],i64 0,str [],.bool false,.slice none 0 0]) (by kernel_rfl) (by decide) fun dQ => ?_
 refine Zy ?_
 refine Zq (Zr ?_)
 refine Zm ?_
 obtain ⟨fP,BD,hS⟩:=aK hS
 refine Zu (bZ (T8 aBc [32] BD) rfl (fun _ _=>rfl)) ?_
 refine Zm ?_
 refine Zu (aW rfl rfl) ?_
 refine Zu (aW rfl rfl) ?_
 refine Zu (aW rfl rfl) ?_
 refine Zy ?_
 refine VC.keep (ρ':=[(2,ptr dQ 0),(4,str fP.1),(5,str fP.2.1),(6,.bool fP.2.2)]) [2,4,5,6] rfl ?_
 refine Zq (Zr ?_)
 refine Zm ?_
 refine Zu (eN (vs:=[(0,str fP.1)]) (cs := #[str fP.1,str [],i64 0,str [],.bool false,.slice none 0 0]) rfl (by kernel_rfl)) ?_
 refine VL.alloc (cs:=[str [],str [],i64 0,str [],.bool false,.slice none 0 0]) (by kernel_rfl) (by decide) fun aHv => ?_
 refine Zv (cs':=[str fP.1,str [],i64 0,str [],.bool false,.slice none 0 0]) rfl RT ?_
 refine Zl ?_
 refine Zq ?_
 refine VC.gK (S:=Bool) (fun (XF:Bool)=>XF) (fun (XF:Bool)=>[(2,ptr dQ 0),(5,str fP.2.1),(6,.bool fP.2.2),(7,ptr aHv 0),(23,.bool XF)]) (fun (XF:Bool)=>Mo.tt) (fun (XF:Bool)=>Ow.star (bD aHv [str fP.1,str [],i64 0,str [],.bool false,.slice none 0 0] 112) (Ow.star (bD dQ [str [],str [],i64 0,str [],.bool false,.slice none 0 0] 112) (Ow.emp))) hS ?_ ?_
 ·
  clear hS
  intro k5 hS
  refine Zr ?_
  refine Zy ?_
  refine pL 20 hS (fun h20 hS => ?_) (fun h20 hS => ?_)
  ·
   refine VL.runs 3 [(23,some true)] (by kernel_rfl) ?_
   refine VL.mt true [2,5,6,7,23] (fun _ _ h=>h) hS rfl
  refine Zg ?_
  refine Zh (IX rfl rfl) ?_
  refine Zf ?_
  refine VL.mt (decide (fP.1=[115,116,97,115,104])) [2,5,6,7,23] (fun _ _ h=>h) hS rfl
 clear hS
 rintro XF hS
 refine iL hS (fun h23 hS => ?_) (fun h23 hS => ?_)
 ·
  refine Zq (Zr ?_)
  refine Zm ?_
  refine Zu (aB aCu rfl) ?_
  refine Zv (cs':=[str fP.1,str [],i64 0,str fP.2.1,.bool false,.slice none 0 0]) rfl vA ?_
  refine Zl ?_
  refine Zq (Zr ?_)
  refine Zu (cD rH rfl rfl) ?_
  refine Zm ?_
  refine Zu (lQ rfl) ?_
  refine Zm ?_
  refine vV 29 hS (fun h29 hS => ?_) (fun h29 hS => ?_)
  ·
   refine VL.runs 3 [(32,some true)] (by kernel_rfl) ?_
   refine Zv (cs':=[str fP.1,str [],i64 0,str fP.2.1,.bool false,.slice none 0 0]) rfl RT ?_
   refine Zy ?_
   refine VC.keep (ρ':=[(2,ptr dQ 0),(3,.bool true)]) [2,3] rfl ?_
   cases hS
   exact VC.ret (hG (vs:=[.agg #[str fP.1,str [],i64 0,str fP.2.1,.bool false,.slice none 0 0],.bool true]) (.inr rfl) rfl (dS.cell rH rfl rfl Rd.blk (dS.tmp rfl (dS.nil))) (⟨fP.1,[],0,fP.2.1,false,⟨none,0,[]⟩⟩,true) rfl rfl (by (try dsimp only); exact cA.out) (fun _ _=>trivial))
  refine Zg ?_
  refine Zh (wZ rfl rfl) ?_
  refine Zf ?_
  refine Zv (cs':=[str fP.1,str [],i64 0,str fP.2.1,.bool false,.slice none 0 0]) rfl RT ?_
  refine Zy ?_
  refine VC.keep (ρ':=[(2,ptr dQ 0),(3,.bool (!decide (fP.2.1=[])))]) [2,3] rfl ?_
  cases hS
  exact VC.ret (hG (vs:=[.agg #[str fP.1,str [],i64 0,str fP.2.1,.bool false,.slice none 0 0],.bool (!decide (fP.2.1=[]))]) (.inr rfl) rfl (dS.cell rH rfl rfl Rd.blk (dS.tmp rfl (dS.nil))) (⟨fP.1,[],0,fP.2.1,false,⟨none,0,[]⟩⟩,(!decide (fP.2.1=[]))) rfl rfl (by (try dsimp only); exact cA.out) (fun _ _=>trivial))
 refine Zk ?_
 refine Zq (Zr ?_)
 refine Zy ?_
 refine VC.gK (S:=Sv bB) (fun (ZP:Sv bB)=>ZP.l) (fun (ZP:Sv bB)=>[(2,ptr dQ 0),(7,ptr aHv 0),(8,ZP.val)]) (fun (ZP:Sv bB)=>ZP.ok) (fun (ZP:Sv bB)=>Ow.star (bD aHv [str fP.1,str [],i64 0,str [],.bool false,.slice none 0 0] 112) (Ow.star (bD dQ [str [],str [],i64 0,str [],.bool false,.slice none 0 0] 112) (Ow.emp))) hS ?_ ?_
 ·
  clear hS
  intro k7 hS
  refine Zq (Zr ?_)
  refine Zy ?_
  refine iL hS (fun h33 hS => ?_) (fun h33 hS => ?_)
  ·
   refine Zr ?_
   refine Zm ?_
   obtain ⟨aZU,a0c,hS⟩:=aK hS
   refine VL.cU (NL fP.2.1 [32] a0c) rfl (by decide) ?_
   rintro aYR rfl
   try dsimp only
   refine Za ?_
   refine VL.mt aYR [2,7,8] (fun _ _ h=>h) hS rfl
  refine VC.iC ⟨none,0,[]⟩ [2,7,8] (fun _ _ h=>h) hS rfl
 clear hS
 rintro ZP hS
 refine Zq (Zr ?_)
 refine Zm ?_
 refine VL.SD aHv (cs':=[str fP.1,str [],i64 0,str [],.bool false,(⟨none,0,[]⟩:Sv cZ).val]) rfl ?_
 obtain ⟨XX,a0h,hS⟩:=aK hS
 refine VL.bS (aH4 aHv (⟨fP.1,[],0,[],false,(⟨none,0,[]⟩:Sv cZ)⟩:rT) ZP a0h) rfl (by decide) ?_
 rintro ⟨aMm,qV⟩ rfl
 try dsimp only
 refine Zy ?_
 refine Zq (Zr ?_)
 refine Zu (cD rH rfl rfl) ?_
 refine Zm ?_
 refine Zv (cs':=[str qV.verb,str qV.name,i64 qV.n,str qV.text,.bool qV.force,qV.todo.val]) rfl RT ?_
 refine Zy ?_
 cases hS
 exact VC.ret (hG (vs:=[.agg #[str qV.verb,str qV.name,i64 qV.n,str qV.text,.bool qV.force,qV.todo.val],.bool aMm]) (.inr rfl) rfl (dS.cell rH rfl rfl Rd.blk (dS.tmp rfl (dS.nil))) (⟨qV.verb,qV.name,qV.n,qV.text,qV.force,qV.todo⟩,aMm) rfl rfl (by (try dsimp only); exact cA.out) (fun _ _=>trivial))
theorem aH2  {r:List bB} (hS:Sh.aAD=some r) :
 Ct Tryz.prog 70 [] Mo.tt (Ow.emp) (X:=Sv bB) (fun x=>x.val) (fun x=>r=x.l) (fun x=>x.ok) (fun x=>Ow.emp):=by
 refine Zo Tryz.func70 Tryz.ntmps70 fun c => ?_
 unfold Sh.aAD at hS
 refine Zq (Zr ?_)
 refine Zy ?_
 refine Zq (Zr ?_)
 refine VL.lit (α:=bB) (xs:=[.const (str [97,100,100]),.const (str [114,109]),.const (str [99,111,109,109,105,116]),.const (str [98,114,97,110,99,104]),.const (str [100,101,108,101,116,101]),.const (str [115,119,105,116,99,104]),.const (str [114,101,115,101,116]),.const (str [109,101,114,103,101]),.const (str [112,105,99,107]),.const (str [114,101,118,101,114,116]),.const (str [115,116,97,115,104]),.const (str [112,111,112]),.const (str [97,112,112,108,121]),.const (str [115,104,101,108,118,101]),.const (str [114,101,98,97,115,101]),.const (str [99,111,110,116,105,110,117,101]),.const (str [115,107,105,112]),.const (str [97,98,111,114,116]),.const (str [117,110,100,111]),.const (str [114,101,100,111])]) (vs:=[str [97,100,100],str [114,109],str [99,111,109,109,105,116],str [98,114,97,110,99,104],str [100,101,108,101,116,101],str [115,119,105,116,99,104],str [114,101,115,101,116],str [109,101,114,103,101],str [112,105,99,107],str [114,101,118,101,114,116],str [115,116,97,115,104],str [112,111,112],str [97,112,112,108,121],str [115,104,101,108,118,101],str [114,101,98,97,115,101],str [99,111,110,116,105,110,117,101],str [115,107,105,112],str [97,98,111,114,116],str [117,110,100,111],str [114,101,100,111]]) [[97,100,100],[114,109],[99,111,109,109,105,116],[98,114,97,110,99,104],[100,101,108,101,116,101],[115,119,105,116,99,104],[114,101,115,101,116],[109,101,114,103,101],[112,105,99,107],[114,101,118,101,114,116],[115,116,97,115,104],[112,111,112],[97,112,112,108,121],[115,104,101,108,118,101],[114,101,98,97,115,101],[99,111,110,116,105,110,117,101],[115,107,105,112],[97,98,111,114,116],[117,110,100,111],[114,101,100,111]] Tryz.underlying62 x4 (by decide) rfl rfl rfl rfl (by decide) (fun _ _ _ _=>trivial) (by decide) (fun a6p a5M => ?_) (by decide)
 replace hS:=bV a5M hS
 refine Zy ?_
 cases hS
 exact VC.ret (eB (.inr rfl) rfl rfl a6p rfl rfl (by (try dsimp only); exact cA.out) (fun _ _=>trivial))
theorem xG (aA:Sv bB) (v_1:bB) {r:Int} (hS:Sh.o7 aA.l v_1=some r) :
 Ct Tryz.prog 69 [aA.val,str v_1] aA.ok (Ow.emp) (X:=Unit) (fun _=>i64 r) (fun _=>True) (fun _=>Mo.tt) (fun _=>Ow.emp):=by
 refine Zo Tryz.func69 Tryz.ntmps69 fun c => ?_
 unfold Sh.o7 at hS
 refine Zq (Zr ?_)
 refine Zy ?_
 refine Zq (Zq (Zr ?_))
 refine Zm ?_
 refine Zu (dX (s:=aA) Tryz.underlying62 rfl) ?_
 refine Zy ?_
 refine Zb ?_
 refine VC.iter (S:=Int) (fun (cG:Int)=>cG) (fun (cG:Int)=>[(0,aA.val),(1,str v_1),(7,i64 (aA.l.length:Int)),(8,i64 cG)]) (fun (cG:Int)=>Mo.tt) (fun (cG:Int)=>Ow.emp) 0 [0,1,7,8] hS rfl ?_
 clear hS
 rintro cG m1 y1 hS hK1
 refine Zq (Zr ?_)
 refine Zu (c4 rfl rfl) ?_
 refine Zl ?_
 refine Zq ?_
 refine Zc hS (fun h9 hS => ?_) (fun h9 hS => ?_)
 ·
  refine Zk ?_
  refine Zq (Zb (Zq (Zr ?_)))
  refine Zy ?_
  refine Zq (Zr ?_)
  refine Zy ?_
  obtain ⟨fV,kV,kU,hS⟩:=c6 hS
  refine Zu (e8 (s:=aA) Tryz.underlying62 vA rfl rfl kV (bN kV kU)) ?_
  refine Zu (q9 (s:=aA) dD rfl kU rfl) ?_
  refine Zy ?_
  refine VC.keep (ρ':=[(0,aA.val),(1,str v_1),(7,i64 (aA.l.length:Int)),(8,i64 cG),(5,i64 cG),(16,.bool (decide (v_1=fV)))]) [0,1,7,8,5,16] rfl ?_
  refine Zc hS (fun h16 hS => ?_) (fun h16 hS => ?_)
  ·
   refine Zq (Zr ?_)
   refine Zy ?_
   replace hS:=gA hS hK1
   cases hS
   exact Ze
  refine Zk ?_
  refine Zr ?_
  obtain ⟨b18,hS⟩:=bU hS
  refine Zu (cR rfl rfl b18) ?_
  refine Zm ?_
  refine VL.iP (cG+1) [0,1,7,8] (fun _ _ h=>h) (go2 hS hK1) rfl
 replace hS:=gA hS hK1
 refine Zx ?_
 refine Zq (Zr ?_)
 refine Zy ?_
 cases hS
 exact Ze
theorem ZF (aCR:bB) {r:Int} (hS:Sh.RB aCR=some r) :
 Ct Tryz.prog 63 [str aCR] Mo.tt (Ow.emp) (X:=Unit) (fun _=>i64 r) (fun _=>True) (fun _=>Mo.tt) (fun _=>Ow.emp):=by
 refine Zo Tryz.func63 Tryz.ntmps63 fun c => ?_
 unfold Sh.RB at hS
 refine Zq (Zr ?_)
 refine Zy ?_
 refine Zq (Zr ?_)
 obtain ⟨a4g,a4s,hS⟩:=aK hS
 refine VL.cU (aH2 a4s) rfl (by decide) ?_
 rintro a2F rfl
 try dsimp only
 refine Zm ?_
 obtain ⟨tC,aNk,hS⟩:=aK hS
 refine Zu (bZ (xG a2F aCR aNk) rfl (fun _ _=>rfl)) ?_
 refine Zy ?_
 cases hS
 exact Ze
theorem VT (HN:bB) {r:Bool} (hS:Sh.NA HN=some r) :
 Ct Tryz.prog 137 [str HN] Mo.tt (Ow.emp) (X:=Unit) (fun _ => .bool r) (fun _=>True) (fun _=>Mo.tt) (fun _=>Ow.emp):=by
 refine Zo Tryz.func137 Tryz.ntmps137 fun c => ?_
 unfold Sh.NA at hS
 refine Zq (Zr ?_)
 refine Zy ?_
 refine Zq (Zq (Zr ?_))
 refine Zm ?_
 obtain ⟨b6,hS⟩:=bU hS
 refine VL.s2b Tryz.underlying9 Tryz.underlying30 Tryz.underlying5 rfl b6 (by decide) fun aGu a5N => ?_
 replace hS:=bV a5N hS
 refine Zu (dX (s:=aGu) Tryz.underlying30 rfl) ?_
 refine Zy ?_
 refine Zb ?_
 refine VC.iter (S:=Int) (fun (rP:Int)=>rP) (fun (rP:Int)=>[(0,str HN),(6,aGu.val),(7,i64 (aGu.l.length:Int)),(8,i64 rP)]) (fun (rP:Int)=>Mo.tt) (fun (rP:Int)=>Ow.emp) 0 [0,6,7,8] hS rfl ?_
 clear hS
 rintro rP m1 y1 hS hK1
 refine Zq (Zr ?_)
 refine Zu (c4 rfl rfl) ?_
 refine Zl ?_
 refine Zq ?_
 refine Zc hS (fun h9 hS => ?_) (fun h9 hS => ?_)
 ·
  refine Zk ?_
  refine Zq (Zb (Zq (Zr ?_)))
  refine Zm ?_
  obtain ⟨xP,aBf,YB,hS⟩:=c6 hS
  refine Zu (e8 (s:=aGu) Tryz.underlying30 AD rfl rfl aBf (bN aBf YB)) ?_
  refine Zu (q9 (s:=aGu) RS rfl YB rfl) ?_
  refine Zy ?_
  refine VC.gK (S:=Bool) (fun (XN:Bool)=>XN) (fun (XN:Bool)=>[(0,str HN),(6,aGu.val),(7,i64 (aGu.l.length:Int)),(8,i64 rP),(34,.bool XN)]) (fun (XN:Bool)=>Mo.tt) (fun (XN:Bool)=>Ow.emp) hS ?_ ?_
  ·
   clear hS
   intro k6 hS
   refine Zr ?_
   refine Zm ?_
   refine Zu (c4 rfl rfl) ?_
   refine Zm ?_
   refine pL 15 hS (fun h15 hS => ?_) (fun h15 hS => ?_)
   ·
    refine VL.runs 4 [(19,some true)] (by kernel_rfl) ?_
    refine Zg ?_
    refine Zh (gV rfl rfl) ?_
    refine Zg ?_
    refine pL 22 hS (fun h22 hS => ?_) (fun h22 hS => ?_)
    ·
     refine VL.runs 10 [(32,none)] (by kernel_rfl) ?_
     refine Zh (kE rfl rfl) ?_
     refine Zt ?_
     refine VL.mt true [0,6,7,8,34] (fun _ _ h=>h) hS rfl
    refine Zg ?_
    refine Zh (yY rfl rfl) ?_
    refine Zg ?_
    refine OZ 25 hS (fun h25 hS => ?_) (fun h25 hS => ?_)
    ·
     refine Zg ?_
     refine Zh (c4 rfl rfl) ?_
     refine Zg ?_
     refine pL 28 hS (fun h28 hS => ?_) (fun h28 hS => ?_)
     ·
      refine Zy ?_
      refine Zh (kE rfl rfl) ?_
      refine Zh (kE rfl rfl) ?_
      refine Zh (iX rfl rfl) ?_
      refine Zt ?_
      refine VL.mt true [0,6,7,8,34] (fun _ _ h=>h) hS rfl
     refine Zg ?_
     refine Zh (iZ rfl rfl) ?_
     refine Zh (iX rfl rfl) ?_
     refine Zh (kE rfl rfl) ?_
     refine Zh (iX rfl rfl) ?_
     refine Zt ?_
     refine VL.mt (decide (57 < (xP.toNat:Int))) [0,6,7,8,34] (fun _ _ h=>h) hS rfl
    refine VL.runs 6 [(31,none)] (by kernel_rfl) ?_
    refine Zh (iX rfl rfl) ?_
    refine Zh (iX rfl rfl) ?_
    refine Zt ?_
    refine VL.mt false [0,6,7,8,34] (fun _ _ h=>h) hS rfl
   refine Zg ?_
   refine Zh (iZ rfl rfl) ?_
   refine Zy ?_
   refine pL 19 hS (fun h19 hS => ?_) (fun h19 hS => ?_)
   ·
    refine Zg ?_
    refine Zh (gV rfl rfl) ?_
    refine Zg ?_
    refine pL 22 hS (fun h22 hS => ?_) (fun h22 hS => ?_)
    ·
     refine VL.runs 10 [(32,none)] (by kernel_rfl) ?_
     refine Zh (kE rfl rfl) ?_
     refine Zt ?_
     refine VL.mt true [0,6,7,8,34] (fun _ _ h=>h) hS rfl
    refine Zg ?_
    refine Zh (yY rfl rfl) ?_
    refine Zg ?_
    refine OZ 25 hS (fun h25 hS => ?_) (fun h25 hS => ?_)
    ·
     refine Zg ?_
     refine Zh (c4 rfl rfl) ?_
     refine Zg ?_
     refine pL 28 hS (fun h28 hS => ?_) (fun h28 hS => ?_)
     ·
      refine Zy ?_
      refine Zh (kE rfl rfl) ?_
      refine Zh (kE rfl rfl) ?_
      refine Zh (iX rfl rfl) ?_
      refine Zt ?_
      refine VL.mt true [0,6,7,8,34] (fun _ _ h=>h) hS rfl
     refine Zg ?_
     refine Zh (iZ rfl rfl) ?_
     refine Zh (iX rfl rfl) ?_
     refine Zh (kE rfl rfl) ?_
     refine Zh (iX rfl rfl) ?_
     refine Zt ?_
     refine VL.mt (decide (57 < (xP.toNat:Int))) [0,6,7,8,34] (fun _ _ h=>h) hS rfl
    refine VL.runs 6 [(31,none)] (by kernel_rfl) ?_
    refine Zh (iX rfl rfl) ?_
    refine Zh (iX rfl rfl) ?_
    refine Zt ?_
    refine VL.mt false [0,6,7,8,34] (fun _ _ h=>h) hS rfl
   refine VL.runs 15 [(34,some false)] (by kernel_rfl) ?_
   refine VL.mt false [0,6,7,8,34] (fun _ _ h=>h) hS rfl
  clear hS
  rintro XN hS
  refine iL hS (fun h34 hS => ?_) (fun h34 hS => ?_)
  ·
   refine Zq ?_
   cases hS
  refine Zk ?_
  refine Zr ?_
  obtain ⟨b35,hS⟩:=bU hS
  refine Zu (cR rfl rfl b35) ?_
  refine Zm ?_
  refine VL.iP (rP+1) [0,6,7,8] (fun _ _ h=>h) (go2 hS hK1) rfl
 replace hS:=gA hS hK1
 refine Zx ?_
 refine Zq (Zr ?_)
 refine Zm ?_
 refine Zu (pU Tryz.underlying9 rfl) ?_
 refine Zu (sK rfl rfl) ?_
 refine Zm ?_
 refine pL 39 hS (fun h39 hS => ?_) (fun h39 hS => ?_)
 ·
  refine Zg ?_
  refine Zh (pU Tryz.underlying9 rfl) ?_
  refine Zh (aAW rfl rfl) ?_
  refine Zy ?_
  refine VC.keep (ρ':=[(2,.bool (decide ((HN.length:Int)≤32)))]) [2] rfl ?_
  cases hS
  exact Ze
 refine VL.runs 5 [(2,some false)] (by kernel_rfl) ?_
 refine Zl ?_
 cases hS
 exact Ze
theorem aIx (cE:rT) {r:Int} (hS:Sh.aCo cE.pl=some r) :
 Ct Tryz.prog 93 [.agg #[str cE.verb,str cE.name,i64 cE.n,str cE.text,.bool cE.force,cE.todo.val]] cE.todo.ok (Ow.emp) (X:=Unit) (fun _=>i64 r) (fun _=>True) (fun _=>Mo.tt) (fun _=>Ow.emp):=by
 refine Zo Tryz.func93 Tryz.ntmps93 fun c => ?_
 unfold Sh.aCo at hS
 refine Zq (Zr ?_)
 refine VL.box (cs:=[str cE.verb,str cE.name,i64 cE.n,str cE.text,.bool cE.force,cE.todo.val]) rfl rfl (by decide) fun fE => ?_
 refine Zy ?_
 refine Zq (Zr ?_)
 refine Zy ?_
 refine VC.gK (S:=Bool) (fun (VW:Bool)=>VW) (fun (VW:Bool)=>[(3,.bool VW)]) (fun (VW:Bool)=>Mo.tt) (fun (VW:Bool)=>Ow.star (bD fE [str cE.verb,str cE.name,i64 cE.n,str cE.text,.bool cE.force,cE.todo.val] 112) (Ow.emp)) hS ?_ ?_
 ·
  clear hS
  intro k3 hS
  refine Zq (Zr ?_)
  refine Zu (aB rX rfl) ?_
  refine Zu (aJ dD rfl rfl) ?_
  refine Zl ?_
  refine Zb ?_
  refine VC.gK (S:=Unit) (fun (_:Unit)=>()) (fun (_:Unit)=>[(1,ptr fE 0)]) (fun (_:Unit)=>Mo.tt) (fun (_:Unit)=>Ow.star (bD fE [str cE.verb,str cE.name,i64 cE.n,str cE.text,.bool cE.force,cE.todo.val] 112) (Ow.emp)) hS ?_ ?_
  ·
   clear hS
   intro k4 hS
   refine Zb ?_
   refine VC.gK (S:=Unit) (fun (_:Unit)=>()) (fun (_:Unit)=>[(1,ptr fE 0)]) (fun (_:Unit)=>Mo.tt) (fun (_:Unit)=>Ow.star (bD fE [str cE.verb,str cE.name,i64 cE.n,str cE.text,.bool cE.force,cE.todo.val] 112) (Ow.emp)) hS ?_ ?_
   ·
    clear hS
    intro k5 hS
    refine Zb ?_
    refine VC.gK (S:=Unit) (fun (_:Unit)=>()) (fun (_:Unit)=>[(1,ptr fE 0)]) (fun (_:Unit)=>Mo.tt) (fun (_:Unit)=>Ow.star (bD fE [str cE.verb,str cE.name,i64 cE.n,str cE.text,.bool cE.force,cE.todo.val] 112) (Ow.emp)) hS ?_ ?_
    ·
     clear hS
     intro k6 hS
     refine Zb ?_
     refine VC.gK (S:=Unit) (fun (_:Unit)=>()) (fun (_:Unit)=>[(1,ptr fE 0)]) (fun (_:Unit)=>Mo.tt) (fun (_:Unit)=>Ow.star (bD fE [str cE.verb,str cE.name,i64 cE.n,str cE.text,.bool cE.force,cE.todo.val] 112) (Ow.emp)) hS ?_ ?_
     ·
      clear hS
      intro k7 hS
      refine Zb (Zq (Zb (Zq (Zq (Zq (Zr ?_))))))
      refine Zy ?_
      refine Zc hS (fun h6 hS => ?_) (fun h6 hS => ?_)
      ·
       refine Zx ?_
       refine Zq (Zr ?_)
       refine Zu (aB qE rfl) ?_
       refine Zu (aJ dD rfl rfl) ?_
       refine Zy ?_
       refine VC.keep (ρ':=[(1,ptr fE 0),(20,.bool (decide (cE.name=[])))]) [1,20] rfl ?_
       refine Zc hS (fun h20 hS => ?_) (fun h20 hS => ?_)
       ·
        refine Zq ?_
        cases hS
       refine VC.iC () [1] (fun _ _ h=>h) hS rfl
      refine Zk ?_
      refine Zq (Zq (Zr ?_))
      refine Zy ?_
      refine Zc hS (fun h8 hS => ?_) (fun h8 hS => ?_)
      ·
       refine VC.eW () [1] (fun _ _ h=>h) hS rfl
      refine Zk ?_
      refine VC.gK (S:=Unit) (fun (_:Unit)=>()) (fun (_:Unit)=>[(1,ptr fE 0),(3,.bool true),(5,str cE.verb)]) (fun (_:Unit)=>Mo.tt) (fun (_:Unit)=>Ow.star (bD fE [str cE.verb,str cE.name,i64 cE.n,str cE.text,.bool cE.force,cE.todo.val] 112) (Ow.emp)) hS ?_ ?_
      ·
       clear hS
       intro k8 hS
       refine Zq (Zq (Zr ?_))
       refine Zy ?_
       refine VC.keep (ρ':=[(1,ptr fE 0),(3,.bool true),(5,str cE.verb),(10,.bool (decide (cE.verb=[98,114,97,110,99,104])))]) [1,3,5,10] rfl ?_
       refine Zc hS (fun h10 hS => ?_) (fun h10 hS => ?_)
       ·
        refine Zk ?_
        refine Zc hS (fun h10 hS => ?_) (fun h10 hS => ?_)
        ·
         refine VC.eW () [1] (fun _ _ h=>h) hS rfl
        refine VC.iC () [1,3,5] (fun _ _ h=>h) hS rfl
       refine Zq (Zr ?_)
       refine Zy ?_
       refine Zc hS (fun h10 hS => ?_) (fun h10 hS => ?_)
       ·
        refine Zk ?_
        refine Zc hS (fun h10 hS => ?_) (fun h10 hS => ?_)
        ·
         refine VC.eW () [1] (fun _ _ h=>h) hS rfl
        refine VC.iC () [1,3,5] (fun _ _ h=>h) hS rfl
       refine Zr ?_
       refine Zy ?_
       refine Zc hS (fun h10 hS => ?_) (fun h10 hS => ?_)
       ·
        refine VC.eW () [1] (fun _ _ h=>h) hS rfl
       refine VC.iC () [1,3,5] (fun _ _ h=>h) hS rfl
      clear hS
      rintro _ hS
      refine Zq (Zq (Zr ?_))
      refine Zy ?_
      refine Zc hS (fun h14 hS => ?_) (fun h14 hS => ?_)
      ·
       refine VC.eW () [1] (fun _ _ h=>h) hS rfl
      refine Zk ?_
      refine Zq (Zr ?_)
      refine Zy ?_
      refine Zc hS (fun h16 hS => ?_) (fun h16 hS => ?_)
      ·
       refine VC.eW () [1] (fun _ _ h=>h) hS rfl
      refine Zk ?_
      refine VC.eW true [3] (fun _ _ h=>h) hS rfl
     clear hS
     rintro _ hS
     refine Zq (Zq (Zr ?_))
     refine Zu (aB qE rfl) ?_
     refine Zu (aJ dD rfl rfl) ?_
     obtain ⟨DZ,JN,hS⟩:=aK hS
     refine Zu (bZ (LM cE.name JN) rfl (fun _ _=>rfl)) ?_
     refine Zy ?_
     cases hS
     exact Ze
    clear hS
    rintro _ hS
    refine Zq (Zr ?_)
    refine Zu (aB qE rfl) ?_
    refine Zu (aJ dD rfl rfl) ?_
    obtain ⟨NW,K1,hS⟩:=aK hS
    refine Zu (bZ (VT cE.name K1) rfl (fun _ _=>rfl)) ?_
    refine Zy ?_
    refine VC.eW NW [3] (fun _ _ h=>h) hS rfl
   clear hS
   rintro _ hS
   refine Zq (Zr ?_)
   refine Zu (aB qE rfl) ?_
   refine Zu (aJ dD rfl rfl) ?_
   refine Zy ?_
   refine pL 30 hS (fun h30 hS => ?_) (fun h30 hS => ?_)
   ·
    refine VL.runs 5 [(3,some true)] (by kernel_rfl) ?_
    refine Zl ?_
    refine VC.eW true [3] (fun _ _ h=>h) hS rfl
   refine Zh (aB qE rfl) ?_
   refine Zh (aJ dD rfl rfl) ?_
   obtain ⟨aKa,aU9,hS⟩:=aK hS
   refine Zh (bZ (VT cE.name aU9) rfl (fun _ _=>rfl)) ?_
   refine Zy ?_
   refine VC.eW aKa [3] (fun _ _ h=>h) hS rfl
  clear hS
  rintro _ hS
  refine Zq ?_
  cases hS
 clear hS
 rintro VW hS
 refine Zq (Zq (Zr ?_))
 refine Zm ?_
 refine Zu (lQ rfl) ?_
 refine Zl ?_
 refine iL hS (fun h49 hS => ?_) (fun h49 hS => ?_)
 ·
  refine Zq ?_
  cases hS
 refine Zk ?_
 refine Zq (Zr ?_)
 refine Zy ?_
 cases hS
 exact Ze
theorem aFE (cE:rT) {r:Int} (hS:Sh.UN cE.pl=some r) :
 Ct Tryz.prog 94 [.agg #[str cE.verb,str cE.name,i64 cE.n,str cE.text,.bool cE.force,cE.todo.val]] cE.todo.ok (Ow.emp) (X:=Unit) (fun _=>i64 r) (fun _=>True) (fun _=>Mo.tt) (fun _=>Ow.emp):=by
 refine Zo Tryz.func94 Tryz.ntmps94 fun c => ?_
 unfold Sh.UN at hS
 refine Zq (Zr ?_)
 refine VL.box (cs:=[str cE.verb,str cE.name,i64 cE.n,str cE.text,.bool cE.force,cE.todo.val]) rfl rfl (by decide) fun fE => ?_
 refine Zy ?_
 refine Zq (Zr ?_)
 refine Zu (aB aIC rfl) ?_
 refine Zu (aJ eP rfl rfl) ?_
 refine Zy ?_
 refine VC.gK (S:=Unit) (fun (_:Unit)=>()) (fun (_:Unit)=>[(1,ptr fE 0),(3,i64 cE.n)]) (fun (_:Unit)=>Mo.tt) (fun (_:Unit)=>Ow.star (bD fE [str cE.verb,str cE.name,i64 cE.n,str cE.text,.bool cE.force,cE.todo.val] 112) (Ow.emp)) hS ?_ ?_
 ·
  clear hS
  intro k2 hS
  refine Zq (Zr ?_)
  refine Zu (aB rX rfl) ?_
  refine Zu (aJ dD rfl rfl) ?_
  refine Zl ?_
  refine Zb (Zq (Zb (Zq (Zb (Zq (Zb (Zq ?_)))))))
  refine VC.gK (S:=Unit) (fun (_:Unit)=>()) (fun (_:Unit)=>[(1,ptr fE 0),(3,i64 cE.n),(7,str cE.verb)]) (fun (_:Unit)=>Mo.tt) (fun (_:Unit)=>Ow.star (bD fE [str cE.verb,str cE.name,i64 cE.n,str cE.text,.bool cE.force,cE.todo.val] 112) (Ow.emp)) hS ?_ ?_
  ·
   clear hS
   intro k3 hS
   refine Zq (Zq (Zr ?_))
   refine Zy ?_
   refine Zc hS (fun h8 hS => ?_) (fun h8 hS => ?_)
   ·
    refine Zk ?_
    refine Zc hS (fun h8 hS => ?_) (fun h8 hS => ?_)
    ·
     refine Zx ?_
     refine Zq ?_
     cases hS
    refine VC.iC () [1,3,7] (fun _ _ h=>h) hS rfl
   refine Zq (Zr ?_)
   refine Zy ?_
   refine VC.keep (ρ':=[(1,ptr fE 0),(3,i64 cE.n),(7,str cE.verb),(8,.bool (decide (cE.verb=[97,112,112,108,121])))]) [1,3,7,8] rfl ?_
   refine Zc hS (fun h8 hS => ?_) (fun h8 hS => ?_)
   ·
    refine Zk ?_
    refine Zc hS (fun h8 hS => ?_) (fun h8 hS => ?_)
    ·
     refine Zx ?_
     refine Zq ?_
     cases hS
    refine VC.iC () [1,3,7] (fun _ _ h=>h) hS rfl
   refine Zr ?_
   refine Zy ?_
   refine Zc hS (fun h8 hS => ?_) (fun h8 hS => ?_)
   ·
    refine Zx ?_
    refine Zq ?_
    cases hS
   refine VC.iC () [1,3,7] (fun _ _ h=>h) hS rfl
  clear hS
  rintro _ hS
  refine Zq (Zq (Zr ?_))
  refine Zy ?_
  refine Zc hS (fun h12 hS => ?_) (fun h12 hS => ?_)
  ·
   refine Zx ?_
   refine Zq (Zr ?_)
   refine Zu (aB qE rfl) ?_
   refine Zu (aJ dD rfl rfl) ?_
   refine Zu (wZ rfl rfl) ?_
   refine Zl ?_
   refine rE hS (fun h21 hS => ?_) (fun h21 hS => ?_)
   ·
    refine VC.eW () [1,3] (fun _ _ h=>h) hS rfl
   refine Zk ?_
   refine Zq ?_
   cases hS
  refine Zk ?_
  refine Zq (Zq (Zr ?_))
  refine Zy ?_
  refine Zc hS (fun h14 hS => ?_) (fun h14 hS => ?_)
  ·
   refine Zk ?_
   refine Zc hS (fun h14 hS => ?_) (fun h14 hS => ?_)
   ·
    refine Zx ?_
    refine Zq ?_
    cases hS
   refine Zk ?_
   refine VC.eW () [1,3] (fun _ _ h=>h) hS rfl
  refine Zq (Zr ?_)
  refine Zy ?_
  refine Zc hS (fun h14 hS => ?_) (fun h14 hS => ?_)
  ·
   refine Zk ?_
   refine Zc hS (fun h14 hS => ?_) (fun h14 hS => ?_)
   ·
    refine Zx ?_
    refine Zq ?_
    cases hS
   refine Zk ?_
   refine VC.eW () [1,3] (fun _ _ h=>h) hS rfl
  refine Zq (Zr ?_)
  refine Zy ?_
  refine Zc hS (fun h14 hS => ?_) (fun h14 hS => ?_)
  ·
   refine Zk ?_
   refine Zc hS (fun h14 hS => ?_) (fun h14 hS => ?_)
   ·
    refine Zx ?_
    refine Zq ?_
    cases hS
   refine Zk ?_
   refine VC.eW () [1,3] (fun _ _ h=>h) hS rfl
  refine Zr ?_
  refine Zy ?_
  refine Zc hS (fun h14 hS => ?_) (fun h14 hS => ?_)
  ·
   refine Zx ?_
   refine Zq ?_
   cases hS
  refine Zk ?_
  refine VC.eW () [1,3] (fun _ _ h=>h) hS rfl
 clear hS
 rintro _ hS
 refine Zq (Zq (Zr ?_))
 refine Zu (aB aIC rfl) ?_
 refine Zu (aJ eP rfl rfl) ?_
 refine Zm ?_
 refine Zu (c4 rfl rfl) ?_
 refine Zl ?_
 refine Zc hS (fun h25 hS => ?_) (fun h25 hS => ?_)
 ·
  refine Zq ?_
  cases hS
 refine Zk ?_
 refine Zq (Zr ?_)
 refine Zy ?_
 cases hS
 exact Ze
theorem WY (aA:bB) (fO:bB) {r:Bool} (hS:Sh.F6 aA fO=some r) :
 Ct Tryz.prog 201 [str aA,str fO] Mo.tt (Ow.emp) (X:=Unit) (fun _ => .bool r) (fun _=>True) (fun _=>Mo.tt) (fun _=>Ow.emp):=by
 refine Zo Tryz.func201 Tryz.ntmps201 fun c => ?_
 unfold Sh.F6 at hS
 refine Zq (Zr ?_)
 refine Zy ?_
 refine Zq (Zr ?_)
 refine Zy ?_
 obtain ⟨iD,kL,hS⟩:=aK hS
 refine Zu (bZ (F7 aA fO kL) rfl (fun _ _=>rfl)) ?_
 refine Zu (sK rfl rfl) ?_
 refine Zy ?_
 cases hS
 exact Ze
theorem aIz (aA:bB) (aE0:Bool) {r:Int} (hS:Sh.aCq aA aE0=some r) :
 Ct Tryz.prog 138 [str aA,.bool aE0] Mo.tt (Ow.emp) (X:=Unit) (fun _=>i64 r) (fun _=>True) (fun _=>Mo.tt) (fun _=>Ow.emp):=by
 refine Zo Tryz.func138 Tryz.ntmps138 fun c => ?_
 unfold Sh.aCq at hS
 refine Zq (Zr ?_)
 refine Zy ?_
 refine Zq (Zb (Zq (Zr ?_)))
 refine Zm ?_
 refine Zu (pU Tryz.underlying9 rfl) ?_
 refine Zu (iZ rfl rfl) ?_
 refine Zy ?_
 refine Zc hS (fun h5 hS => ?_) (fun h5 hS => ?_)
 ·
  refine Zq ?_
  cases hS
 refine VC.gK (S:=Bool) (fun (uK:Bool)=>uK) (fun (uK:Bool)=>[(0,str aA),(9,.bool uK)]) (fun (uK:Bool)=>Mo.tt) (fun (uK:Bool)=>Ow.emp) hS ?_ ?_
 ·
  clear hS
  intro k2 hS
  refine Zr ?_
  refine Zy ?_
  refine vV 11 hS (fun h11 hS => ?_) (fun h11 hS => ?_)
  ·
   refine Zg ?_
   refine Zh (IX rfl rfl) ?_
   refine Zy ?_
   refine VL.mt (decide (aA=[])) [0,9] (fun _ _ h=>h) hS rfl
  refine VL.runs 4 [(9,some false)] (by kernel_rfl) ?_
  refine VL.mt false [0,9] (fun _ _ h=>h) hS rfl
 clear hS
 rintro uK hS
 refine iL hS (fun h9 hS => ?_) (fun h9 hS => ?_)
 ·
  refine Zq ?_
  cases hS
 refine Zq (Zr ?_)
 refine Zm ?_
 obtain ⟨zI,RG,hS⟩:=aK hS
 refine Zu (bZ (WY aA [10] RG) rfl (fun _ _=>rfl)) ?_
 refine Zy ?_
 refine iL hS (fun h15 hS => ?_) (fun h15 hS => ?_)
 ·
  refine Zq ?_
  cases hS
 refine Zk ?_
 refine Zq (Zr ?_)
 refine Zy ?_
 cases hS
 exact Ze
theorem aIw (cE:rT) {r:Int} (hS:Sh.aCn cE.pl=some r) :
 Ct Tryz.prog 95 [.agg #[str cE.verb,str cE.name,i64 cE.n,str cE.text,.bool cE.force,cE.todo.val]] cE.todo.ok (Ow.emp) (X:=Unit) (fun _=>i64 r) (fun _=>True) (fun _=>Mo.tt) (fun _=>Ow.emp):=by
 refine Zo Tryz.func95 Tryz.ntmps95 fun c => ?_
 unfold Sh.aCn at hS
 refine Zq (Zr ?_)
 refine VL.box (cs:=[str cE.verb,str cE.name,i64 cE.n,str cE.text,.bool cE.force,cE.todo.val]) rfl rfl (by decide) fun fE => ?_
 refine Zy ?_
 refine Zq (Zq (Zr ?_))
 refine Zu (aB rX rfl) ?_
 refine Zu (aJ dD rfl rfl) ?_
 refine Zl ?_
 refine Zb ?_
 refine VC.gK (S:=Bool) (fun (aEA:Bool)=>aEA) (fun (aEA:Bool)=>[(1,ptr fE 0),(4,str cE.verb),(5,.bool aEA)]) (fun (aEA:Bool)=>Mo.tt) (fun (aEA:Bool)=>Ow.star (bD fE [str cE.verb,str cE.name,i64 cE.n,str cE.text,.bool cE.force,cE.todo.val] 112) (Ow.emp)) hS ?_ ?_
 ·
  clear hS
  intro k3 hS
  refine Zq (Zr ?_)
  refine Zy ?_
  refine Zc hS (fun h5 hS => ?_) (fun h5 hS => ?_)
  ·
   refine VC.iC (decide (cE.verb=[99,111,109,109,105,116])) [1,4,5] (fun _ _ h=>h) hS rfl
  refine Zr ?_
  refine Zy ?_
  refine VL.mt (decide (cE.verb=[115,116,97,115,104])) [1,4,5] (fun _ _ h=>h) hS rfl
 clear hS
 rintro aEA hS
 refine iL hS (fun h5 hS => ?_) (fun h5 hS => ?_)
 ·
  refine Zq (Zr ?_)
  refine Zu (aB aCu rfl) ?_
  refine Zu (aJ dD rfl rfl) ?_
  refine Zu (aB rX rfl) ?_
  refine Zu (aJ dD rfl rfl) ?_
  refine Zs ?_
  obtain ⟨A4,aBD,hS⟩:=aK hS
  refine Zu (bZ (aIz cE.text (decide (cE.verb=[99,111,109,109,105,116])) aBD) rfl (fun _ _=>rfl)) ?_
  refine Zy ?_
  cases hS
  exact Ze
 refine Zq (Zr ?_)
 refine Zy ?_
 refine Zc hS (fun h14 hS => ?_) (fun h14 hS => ?_)
 ·
  refine Zq ?_
  cases hS
 refine Zk ?_
 refine Zq (Zr ?_)
 refine Zy ?_
 cases hS
 exact Ze
theorem ZE (cE:rT) {r:eY} (hS:Sh.RA cE.pl=some r) :
 Ct Tryz.prog 66 [.agg #[str cE.verb,str cE.name,i64 cE.n,str cE.text,.bool cE.force,cE.todo.val]] cE.todo.ok (Ow.emp) (X:=Er) (fun x=>x.val) (fun x=>r=x.pl) (fun x=>x.ok) (fun x=>Ow.emp):=by
 refine Zo Tryz.func66 Tryz.ntmps66 fun c => ?_
 unfold Sh.RA at hS
 refine Zq (Zr ?_)
 refine VL.box (cs:=[str cE.verb,str cE.name,i64 cE.n,str cE.text,.bool cE.force,cE.todo.val]) rfl rfl (by decide) fun fE => ?_
 refine Zy ?_
 refine Zq (Zq (Zr ?_))
 refine Zu (aB rX rfl) ?_
 refine Zu (aJ dD rfl rfl) ?_
 obtain ⟨xO,DG,hS⟩:=aK hS
 refine Zu (bZ (ZF cE.verb DG) rfl (fun _ _=>rfl)) ?_
 refine Zu (c4 rfl rfl) ?_
 refine Zl ?_
 refine Zc hS (fun h8 hS => ?_) (fun h8 hS => ?_)
 ·
  refine Zq ?_
  cases hS
 refine Zk ?_
 refine Zq (Zq ?_)
 refine VC.draw [(0,true),(1,true),(2,true),(3,true),(4,true),(5,true),(8,true),(6,false),(7,true)] mixed (by kernel_rfl) (by kernel_rfl) (by kernel_rfl) ?_
 refine Zw rfl (cD rH rfl rfl) ?_
 obtain ⟨uS,JL,hS⟩:=aK hS
 refine Zw rfl (bZ (aIx cE JL) rfl (fun _ _=>rfl)) ?_
 refine Zw rfl (cD rH rfl rfl) ?_
 obtain ⟨HF,aBG,hS⟩:=aK hS
 refine Zw rfl (bZ (aFE cE aBG) rfl (fun _ _=>rfl)) ?_
 refine Zw rfl (cD rH rfl rfl) ?_
 obtain ⟨HG,RI,hS⟩:=aK hS
 refine Zw rfl (bZ (aIw cE RI) rfl (fun _ _=>rfl)) ?_
 refine Zw rfl (bA rfl) ?_
 refine VD.one rfl ?_
 refine VL.lit (α:=Int) (xs:=[.tmp 13,.tmp 15,.tmp 17]) (vs:=[i64 uS,i64 HF,i64 HG]) [uS,HF,HG] Tryz.underlying178 a1H (by decide) rfl rfl rfl rfl (by decide) (fun _ _ _ _=>trivial) (by decide) (fun aA5 a1X => ?_) (by decide)
 replace hS:=bV a1X hS
 refine VL.back (D':=[]) (by kernel_rfl) (aF.nil) ?_
 refine Zw rfl (dX (s:=aA5) Tryz.underlying178 rfl) ?_
 refine VD.to (fun _ _ h=>h) ?_
 refine VC.keep (ρ':=[(1,ptr fE 0),(20,i64 0),(18,aA5.val),(19,i64 (aA5.l.length:Int))]) [1,20,18,19] rfl ?_
 refine Zb ?_
 refine VC.iter (S:=Int) (fun (I5:Int)=>I5) (fun (I5:Int)=>[(1,ptr fE 0),(18,aA5.val),(19,i64 (aA5.l.length:Int)),(20,i64 I5)]) (fun (I5:Int)=>Mo.tt) (fun (I5:Int)=>Ow.star (bD fE [str cE.verb,str cE.name,i64 cE.n,str cE.text,.bool cE.force,cE.todo.val] 112) (Ow.emp)) 0 [1,18,19,20] hS rfl ?_
 clear hS
 rintro I5 m1 y1 hS hK1
 refine Zq (Zr ?_)
 refine Zu (c4 rfl rfl) ?_
 refine Zl ?_
 refine Zq ?_
 refine Zc hS (fun h21 hS => ?_) (fun h21 hS => ?_)
 ·
  refine Zk ?_
  refine Zq (Zb (Zq (Zr ?_)))
  obtain ⟨aZd,aQD,aP0,hS⟩:=c6 hS
  refine Zu (e8 (s:=aA5) Tryz.underlying178 a5I rfl rfl aQD (bN aQD aP0)) ?_
  refine Zu (q9 (s:=aA5) a1I rfl aP0 rfl) ?_
  refine Zy ?_
  refine Zq (Zr ?_)
  refine Zm ?_
  refine Zu (yY rfl rfl) ?_
  refine Zl ?_
  refine rE hS (fun h25 hS => ?_) (fun h25 hS => ?_)
  ·
   refine Zq ?_
   cases hS
  refine Zk ?_
  refine Zr ?_
  obtain ⟨b30,hS⟩:=bU hS
  refine Zu (cR rfl rfl b30) ?_
  refine Zm ?_
  refine VL.iP (I5+1) [1,18,19,20] (fun _ _ h=>h) (go2 hS hK1) rfl
 replace hS:=gA hS hK1
 refine Zx ?_
 refine Zq (Zr ?_)
 refine Zy ?_
 cases hS
 exact VC.ret (eB (.inr rfl) rfl rfl .nil rfl rfl (by (try dsimp only); exact cA.out) (fun _ _=>trivial))
theorem aH1 (aA:bB) {r:qR×eY} (hS:Sh.aAC aA=some r) :
 Ct Tryz.prog 37 [str aA] Mo.tt (Ow.emp) (X:=rT×Er) (fun x => .tuple #[.agg (bM.enc x.1).toArray,x.2.val]) (fun x=>r=(x.1.pl,x.2.pl)) (fun x=>(x.1.m.and x.2.ok)) (fun x=>Ow.emp):=by
 refine Zo Tryz.func37 Tryz.ntmps37 fun c => ?_
 unfold Sh.aAC at hS
 refine Zq (Zr ?_)
 refine VL.alloc (cs:=[str [],str [],i64 0,str [],.bool false,.slice none 0 0]) (by kernel_rfl) (by decide) fun dQ => ?_
 refine Zy ?_
 refine Zq (Zr ?_)
 refine Zm ?_
 obtain ⟨GF,aJH,hS⟩:=aK hS
 refine Zu (bZ (T8 aA [10] aJH) rfl (fun _ _=>rfl)) ?_
 refine Zm ?_
 refine Zu (aW rfl rfl) ?_
 refine Zu (aW rfl rfl) ?_
 refine Zu (aW rfl rfl) ?_
 refine Zy ?_
 refine VC.keep (ρ':=[(2,ptr dQ 0),(4,str GF.1),(5,str GF.2.1),(6,.bool GF.2.2)]) [2,4,5,6] rfl ?_
 refine Zq (Zr ?_)
 refine Zm ?_
 obtain ⟨zJ,aBJ,hS⟩:=aK hS
 refine VL.cU (aIy GF.1 aBJ) rfl (by decide) ?_
 rintro ⟨fZ,aG2⟩ rfl
 try dsimp only
 refine Zm ?_
 refine Zu (aW rfl rfl) ?_
 refine Zu (aW rfl rfl) ?_
 refine VL.alloc (cs:=[str [],str [],i64 0,str [],.bool false,.slice none 0 0]) (by kernel_rfl) (by decide) fun aEv => ?_
 refine Zv (cs':=[str fZ.verb,str fZ.name,i64 fZ.n,str fZ.text,.bool fZ.force,fZ.todo.val]) rfl RT ?_
 refine Zy ?_
 refine Zq (Zb (Zq (Zr ?_)))
 refine Zu (aB rX rfl) ?_
 refine Zu (aJ dD rfl rfl) ?_
 obtain ⟨aOY,a0W,hS⟩:=aK hS
 refine Zu (bZ (ZF fZ.verb a0W) rfl (fun _ _=>rfl)) ?_
 refine Zu (c4 rfl rfl) ?_
 refine Zy ?_
 refine VC.keep (ρ':=[(2,ptr dQ 0),(5,str GF.2.1),(6,.bool GF.2.2),(7,ptr aEv 0),(8,.bool aG2),(23,.bool (decide (aOY < 0)))]) [2,5,6,7,8,23] rfl ?_
 refine Zc hS (fun h23 hS => ?_) (fun h23 hS => ?_)
 ·
  refine Zq ?_
  cases hS
 refine VC.gK (S:=Bool) (fun (XL:Bool)=>XL) (fun (XL:Bool)=>[(2,ptr dQ 0),(5,str GF.2.1),(7,ptr aEv 0),(32,.bool XL)]) (fun (XL:Bool)=>Mo.tt) (fun (XL:Bool)=>Ow.star (bD aEv [str fZ.verb,str fZ.name,i64 fZ.n,str fZ.text,.bool fZ.force,fZ.todo.val] 112) (Ow.star (bD dQ [str [],str [],i64 0,str [],.bool false,.slice none 0 0] 112) (Ow.emp))) hS ?_ ?_
 ·
  clear hS
  intro k7 hS
  refine Zr ?_
  refine Zm ?_
  refine Zu (lQ rfl) ?_
  refine Zm ?_
  refine vV 35 hS (fun h35 hS => ?_) (fun h35 hS => ?_)
  ·
   refine VL.runs 8 [(32,some true)] (by kernel_rfl) ?_
   refine VL.mt true [2,5,7,32] (fun _ _ h=>h) hS rfl
  refine Zy ?_
  refine vV 37 hS (fun h37 hS => ?_) (fun h37 hS => ?_)
  ·
   refine Zh (aB rX rfl) ?_
   refine Zh (aJ dD rfl rfl) ?_
   refine Zh (wZ rfl rfl) ?_
   refine Zh (kE rfl rfl) ?_
   refine Zy ?_
   refine VL.mt (!decide (fZ.verb=[114,101,98,97,115,101])) [2,5,7,32] (fun _ _ h=>h) hS rfl
  refine VL.runs 3 [(40,none)] (by kernel_rfl) ?_
  refine Zh (iX rfl rfl) ?_
  refine Zy ?_
  refine VL.mt false [2,5,7,32] (fun _ _ h=>h) hS rfl
 clear hS
 rintro XL hS
 refine iL hS (fun h32 hS => ?_) (fun h32 hS => ?_)
 ·
  refine Zq ?_
  cases hS
 refine Zq (Zr ?_)
 refine Zu (aB rX rfl) ?_
 refine Zu (aJ dD rfl rfl) ?_
 refine Zy ?_
 refine Zc hS (fun h47 hS => ?_) (fun h47 hS => ?_)
 ·
  refine Zq ?_
  cases hS
 refine Zk ?_
 refine Zq (Zq (Zr ?_))
 refine Zu (cD rH rfl rfl) ?_
 obtain ⟨aZ4,a0v,hS⟩:=aK hS
 refine VL.cU (ZE fZ a0v) rfl (by decide) ?_
 rintro aYV rfl
 try dsimp only
 refine Zy ?_
 refine VC.keep (ρ':=[(2,ptr dQ 0),(7,ptr aEv 0),(11,aYV.val)]) [2,7,11] rfl ?_
 refine Zq (Zr ?_)
 refine Zm ?_
 refine Zu (jM Tryz.underlying26 rfl) ?_
 refine Zl ?_
 refine rE hS (fun h67 hS => ?_) (fun h67 hS => ?_)
 ·
  refine Zq ?_
  cases hS
 refine Zk ?_
 refine Zq (Zr ?_)
 refine Zu (cD rH rfl rfl) ?_
 refine Zv (cs':=[str fZ.verb,str fZ.name,i64 fZ.n,str fZ.text,.bool fZ.force,fZ.todo.val]) rfl RT ?_
 refine Zy ?_
 cases hS
 exact VC.ret (hG (vs:=[.agg #[str fZ.verb,str fZ.name,i64 fZ.n,str fZ.text,.bool fZ.force,fZ.todo.val],.nilIface]) (.inr rfl) rfl (dS.cell rH rfl rfl Rd.blk (dS.tmp rfl (dS.nil))) (⟨fZ.verb,fZ.name,fZ.n,fZ.text,fZ.force,fZ.todo⟩,.nil) rfl rfl (by (try dsimp only); exact cA.out) (fun _ _=>trivial))
theorem aGi (gS:Sv aI) (p_1:bB) {r:Bool} (hS:Sh.WJ gS.l p_1=some r) :
 Ct Tryz.prog 144 [gS.val,str p_1] gS.ok (Ow.emp) (X:=Unit) (fun _ => .bool r) (fun _=>True) (fun _=>Mo.tt) (fun _=>Ow.emp):=by
 refine Zo Tryz.func144 Tryz.ntmps144 fun c => ?_
 unfold Sh.WJ at hS
 refine Zq (Zr ?_)
 refine VL.box (cs:=[str p_1]) rfl rfl (by decide) fun fX => ?_
 refine Zy ?_
 refine Zq ?_
 cases hS
theorem mH (aA:Sv aI) {r:List aI} (hS:Sh.iR aA.l=some r) :
 Ct Tryz.prog 219 [aA.val] aA.ok (Ow.emp) (X:=Sv aI) (fun x=>x.val) (fun x=>r=x.l) (fun x=>Mo.tt) (fun x=>Sv.own x 274):=by
 refine Zo Tryz.func219 Tryz.ntmps219 fun c => ?_
 unfold Sh.iR at hS
 refine Zq (Zr ?_)
 refine Zy ?_
 refine Zq (Zq (Zr ?_))
 refine Zm ?_
 refine Zu (ID (s:=aA) Tryz.underlying50 rfl) ?_
 refine Zl ?_
 refine VC.slnil (s:=aA) rfl (fun h4 => ?_) ?_
 ·
  have hS:(some [])=some r:=by
    simp [lt,gd,h4] at hS ⊢
    try exact hS
  refine Zq (Zr ?_)
  refine Zy ?_
  refine VC.kH (⟨none,0,[]⟩:Sv aI) 274 ⟨rfl,rfl⟩ ?_
  cases hS
  exact VC.ret (eB (.inr rfl) rfl rfl ⟨none,0,[]⟩ rfl rfl (by (try dsimp only); exact cA.out) (by (try dsimp only); exact dJ.out))
 refine Zk ?_
 refine Zq (Zr ?_)
 refine VL.aDz (α:=aI) Tryz.underlying50 aWR (by decide) (fun yN rK x7 => ?_)
 refine VL.kH yN 274 ⟨x7,rK⟩ ?_
 replace hS:=bV rK hS
 refine Zm ?_
 obtain ⟨b7,hS⟩:=bU hS
 refine VL.app (s:=yN) (r:=aA) Tryz.underlying50 UX (by decide) rfl Fo.out (sU b7) (sV b7 (by decide)) (by decide) (fun L7 B2 => ?_)
 replace hS:=bV B2 hS
 refine Zy ?_
 cases hS
 exact VC.ret (eB (.inr rfl) rfl rfl L7 rfl rfl (by (try dsimp only); exact cA.out) (by (try dsimp only); exact dJ.out))
theorem aEE (fL:aI) (e_1:aI) {r:Bool} (hS:Sh.RY fL e_1=some r) :
 Ct Tryz.prog 288 [.agg #[str fL.path,i64 fL.gY,i64 fL.mode,str fL.data,i64 fL.time,i64 fL.size],.agg #[str e_1.path,i64 e_1.gY,i64 e_1.mode,str e_1.data,i64 e_1.time,i64 e_1.size]] Mo.tt (Ow.emp) (X:=Unit) (fun _ => .bool r) (fun _=>True) (fun _=>Mo.tt) (fun _=>Ow.emp):=by
 refine Zo Tryz.func288 Tryz.ntmps288 fun c => ?_
 unfold Sh.RY at hS
 refine Zq (Zr ?_)
 refine VL.box (cs:=[str fL.path,i64 fL.gY,i64 fL.mode,str fL.data,i64 fL.time,i64 fL.size]) rfl rfl (by decide) fun dQ => ?_
 refine VL.box (cs:=[str e_1.path,i64 e_1.gY,i64 e_1.mode,str e_1.data,i64 e_1.time,i64 e_1.size]) rfl rfl (by decide) fun jQ => ?_
 refine Zy ?_
 refine Zq (Zb (Zq (Zr ?_)))
 refine Zu (aB wQ rfl) ?_
 refine Zu (aJ dD rfl rfl) ?_
 refine Zu (aB wQ rfl) ?_
 refine Zu (aJ dD rfl rfl) ?_
 obtain ⟨s4,JJ,hS⟩:=aK hS
 refine Zu (bZ (wV fL.path e_1.path JJ) rfl (fun _ _=>rfl)) ?_
 refine Zy ?_
 refine VC.keep (ρ':=[(2,ptr dQ 0),(3,ptr jQ 0),(5,.bool s4)]) [2,3,5] rfl ?_
 refine iL hS (fun h5 hS => ?_) (fun h5 hS => ?_)
 ·
  refine Zq ?_
  cases hS
 refine Zq (Zr ?_)
 refine Zu (aB wQ rfl) ?_
 refine Zu (aJ dD rfl rfl) ?_
 refine Zu (aB wQ rfl) ?_
 refine Zu (aJ dD rfl rfl) ?_
 refine Zu (wZ rfl rfl) ?_
 refine Zy ?_
 refine rE hS (fun h11 hS => ?_) (fun h11 hS => ?_)
 ·
  refine Zq (Zr ?_)
  refine Zy ?_
  cases hS
  exact Ze
 refine Zk ?_
 refine Zq (Zq ?_)
 cases hS
theorem T4 (fL:aI) (iB:Nat) (a_1:aI) {r:Bool} (hS:Sh.JT fL a_1=some r) :
 Ct Tryz.prog 287 [.agg #[str fL.path,i64 fL.gY,i64 fL.mode,str fL.data,i64 fL.time,i64 fL.size],ptr iB 0] (Cells iB 0 [str a_1.path,i64 a_1.gY,i64 a_1.mode,str a_1.data,i64 a_1.time,i64 a_1.size]) (Ow.emp) (X:=Unit) (fun _ => .bool r) (fun _=>True) (fun _=>Mo.tt) (fun _=>Ow.emp):=by
 refine Zo Tryz.func287 Tryz.ntmps287 fun c => ?_
 unfold Sh.JT at hS
 refine Zq (Zr ?_)
 refine VL.box (cs:=[str fL.path,i64 fL.gY,i64 fL.mode,str fL.data,i64 fL.time,i64 fL.size]) rfl rfl (by decide) fun dQ => ?_
 refine Zy ?_
 refine Zq (Zr ?_)
 refine Zu (cD oV rfl rfl) ?_
 refine Zu (a58 oV rfl rfl) ?_
 obtain ⟨NZ,aAH,hS⟩:=aK hS
 refine Zu (bZ (aEE fL a_1 aAH) rfl (fun _ _=>rfl)) ?_
 refine Zy ?_
 cases hS
 exact Ze
theorem xE (aA:Sv aI) (dV:Nat) (eA:aI) {r:Int} (hS:Sh.lX aA.l eA=some r) :
 Ct Tryz.prog 286 [aA.val,.func (.func 287) #[] #[ptr dV 0]] (aA.ok.and (Cells dV 0 [str eA.path,i64 eA.gY,i64 eA.mode,str eA.data,i64 eA.time,i64 eA.size])) (Ow.emp) (X:=Unit) (fun _=>i64 r) (fun _=>True) (fun _=>Mo.tt) (fun _=>Ow.emp):=by
 refine Zo Tryz.func286 Tryz.ntmps286 fun c => ?_
 unfold Sh.lX at hS
 refine Zq (Zr ?_)
 refine Zy ?_
 refine Zq (Zq (Zr ?_))
 refine Zm ?_
 refine Zu (dX (s:=aA) Tryz.underlying50 rfl) ?_
 refine Zy ?_
 refine Zb ?_
 refine VC.iter (S:=Int) (fun (cG:Int)=>cG) (fun (cG:Int)=>[(0,aA.val),(1,.func (.func 287) #[] #[ptr dV 0]),(7,i64 (aA.l.length:Int)),(8,i64 cG)]) (fun (cG:Int)=>Mo.tt) (fun (cG:Int)=>Ow.emp) 0 [0,1,7,8] hS rfl ?_
 clear hS
 rintro cG m1 y1 hS hK1
 refine Zq (Zr ?_)
 refine Zu (c4 rfl rfl) ?_
 refine Zl ?_
 refine Zq ?_
 refine Zc hS (fun h9 hS => ?_) (fun h9 hS => ?_)
 ·
  refine Zk ?_
  refine Zq (Zb (Zq (Zr ?_)))
  refine Zy ?_
  refine Zq (Zr ?_)
  refine Zy ?_
  obtain ⟨fV,kV,kU,hS⟩:=c6 hS
  refine Zu (e8 (s:=aA) Tryz.underlying50 iN rfl rfl kV (bN kV kU)) ?_
  refine Zu (nR (s:=aA) oV rfl rfl kU) ?_
  obtain ⟨kC,rB,hS⟩:=aK hS
  refine Zu (uX (vs:=[.agg #[str fV.path,i64 fV.gY,i64 fV.mode,str fV.data,i64 fV.time,i64 fV.size]]) (caps:=[ptr dV 0]) (T4 fV dV eA rB) rfl rfl (fun _ _=>rfl)) ?_
  refine Zl ?_
  refine VC.keep (ρ':=[(0,aA.val),(1,.func (.func 287) #[] #[ptr dV 0]),(7,i64 (aA.l.length:Int)),(8,i64 cG),(5,i64 cG),(16,.bool kC)]) [0,1,7,8,5,16] rfl ?_
  refine iL hS (fun h16 hS => ?_) (fun h16 hS => ?_)
  ·
   refine Zq (Zr ?_)
   refine Zy ?_
   replace hS:=gA hS hK1
   cases hS
   exact Ze
  refine Zk ?_
  refine Zr ?_
  obtain ⟨b18,hS⟩:=bU hS
  refine Zu (cR rfl rfl b18) ?_
  refine Zm ?_
  refine VL.iP (cG+1) [0,1,7,8] (fun _ _ h=>h) (go2 hS hK1) rfl
 replace hS:=gA hS hK1
 refine Zx ?_
 refine Zq (Zr ?_)
 refine Zy ?_
 cases hS
 exact Ze
theorem vX (aA:Sv aI) (dR:Nat) (eH:aI) {r:List aI} (hS:Sh.lM aA.l eH=some r) :
 Ct Tryz.prog 218 [aA.val,.func (.func 287) #[] #[ptr dR 0]] Mo.tt (Ow.star (Sv.own aA 274) (bD dR [str eH.path,i64 eH.gY,i64 eH.mode,str eH.data,i64 eH.time,i64 eH.size] 274)) (X:=Sv aI) (fun x=>x.val) (fun x=>r=x.l) (fun x=>Mo.tt) (fun x=>Ow.star (Sv.own x 274) (bD dR [str eH.path,i64 eH.gY,i64 eH.mode,str eH.data,i64 eH.time,i64 eH.size] 274)):=by
 refine Zo Tryz.func218 Tryz.ntmps218 fun c => ?_
 unfold Sh.lM at hS
 refine Zq (Zr ?_)
 refine Zy ?_
 refine Zq (Zr ?_)
 refine Zy ?_
 obtain ⟨c9,nF,hS⟩:=aK hS
 refine Zu (oB (xE aA dR eH nF) rfl (fun _ _=>rfl)) ?_
 refine Zy ?_
 refine Zq (Zq (Zr ?_))
 refine Zm ?_
 refine Zu (gV rfl rfl) ?_
 refine Zl ?_
 refine Zc hS (fun h12 hS => ?_) (fun h12 hS => ?_)
 ·
  refine Zq (Zr ?_)
  refine Zy ?_
  cases hS
  exact VC.ret (eB (.inr rfl) rfl rfl aA rfl rfl (by (try dsimp only); exact cA.out) (by (try dsimp only); exact dJ.out))
 refine Zk ?_
 refine Zq (Zq (Zr ?_))
 refine Zm ?_
 obtain ⟨b15,hS⟩:=bU hS
 refine Zu (cR rfl rfl b15) ?_
 refine Zy ?_
 refine VC.keep (ρ':=[(0,aA.val),(1,.func (.func 287) #[] #[ptr dR 0]),(5,i64 c9),(6,i64 (c9+1))]) [0,1,5,6] rfl ?_
 refine Zb ?_
 refine VC.iter (S:=Sv aI×Int×Int) (fun sg=>(sg.1.l,sg.2.1,sg.2.2)) (fun sg=>[(0,sg.1.val),(1,.func (.func 287) #[] #[ptr dR 0]),(5,i64 sg.2.1),(6,i64 sg.2.2)]) (fun sg=>Mo.tt) (fun sg=>Ow.star (bD dR [str eH.path,i64 eH.gY,i64 eH.mode,str eH.data,i64 eH.time,i64 eH.size] 274) (Ow.star (Sv.own sg.1 274) (Ow.emp))) (aA,c9,(c9+1)) [0,1,5,6] hS rfl ?_
 clear hS
 rintro ⟨fC,gU,mL⟩ m1 y1 hS hK1
 refine Zq (Zq (Zr ?_))
 refine Zy ?_
 refine Zu (dX (s:=fC) Tryz.underlying50 rfl) ?_
 refine Zu (c4 rfl rfl) ?_
 refine Zl ?_
 refine Zc hS (fun h19 hS => ?_) (fun h19 hS => ?_)
 ·
  refine Zk ?_
  refine VC.gK (S:=Sv aI×Int) (fun sg=>(sg.1.l,sg.2)) (fun sg=>[(0,sg.1.val),(1,.func (.func 287) #[] #[ptr dR 0]),(5,i64 sg.2),(6,i64 mL)]) (fun sg=>Mo.tt) (fun sg=>Ow.star (bD dR [str eH.path,i64 eH.gY,i64 eH.mode,str eH.data,i64 eH.time,i64 eH.size] 274) (Ow.star (Sv.own sg.1 274) (Ow.emp))) hS ?_ ?_
  ·
   clear hS
   intro k7 hS
   refine Zb (Zq (Zr ?_))
   refine Zy ?_
   obtain ⟨dN,zR,zN,hS⟩:=c6 hS
   refine Zu (lJ (s:=fC) Tryz.underlying50 iN rfl rfl zR (bN zR zN)) ?_
   refine Zu (R9 (s:=fC) oV rfl rfl zN) ?_
   refine VL.alloc (cs:=[str [],i64 0,i64 0,str [],i64 0,i64 0]) (by kernel_rfl) (by decide) fun aEw => ?_
   refine Zv (cs':=[str dN.path,i64 dN.gY,i64 dN.mode,str dN.data,i64 dN.time,i64 dN.size]) rfl iN ?_
   refine Zl ?_
   refine VC.keep (ρ':=[(0,fC.val),(1,.func (.func 287) #[] #[ptr dR 0]),(5,i64 gU),(6,i64 mL),(7,ptr aEw 0)]) [0,1,5,6,7] rfl ?_
   refine Zq (Zr ?_)
   refine Zm ?_
   refine Zu (cD oV rfl rfl) ?_
   obtain ⟨zX,EY,hS⟩:=aK hS
   refine Zu (uX (vs:=[.agg #[str dN.path,i64 dN.gY,i64 dN.mode,str dN.data,i64 dN.time,i64 dN.size]]) (caps:=[ptr dR 0]) (T4 dN dR eH EY) rfl rfl (fun _ _=>rfl)) ?_
   refine Zu (lQ rfl) ?_
   refine Zl ?_
   refine iL hS (fun h29 hS => ?_) (fun h29 hS => ?_)
   ·
    refine Zq (Zr ?_)
    refine Zy ?_
    refine Zu (cD oV rfl rfl) ?_
    obtain ⟨TN,AG,AE,hS⟩:=c6 hS
    refine Zu (lJ (s:=fC) Tryz.underlying50 iN rfl rfl AG (bN AG AE)) ?_
    refine VL.wD (s:=fC) (T:=274) (j:=0) (vc:=[str dN.path,i64 dN.gY,i64 dN.mode,str dN.data,i64 dN.time,i64 dN.size]) (⟨dN.path,dN.gY,dN.mode,dN.data,dN.time,dN.size⟩:aI) (by decide) rfl rfl AE rfl iN rfl rfl (Nat.le_of_ble_eq_true rfl) rfl (fun w12 hw12 haw12 hcw12 hvw12 hbw12 how12 => ?_)
    rw [← hvw12]
    replace hS:=bV hw12 hS
    refine Zl ?_
    refine VC.keep (ρ':=[(0,w12.val),(1,.func (.func 287) #[] #[ptr dR 0]),(5,i64 gU),(6,i64 mL)]) [0,1,5,6] rfl ?_
    refine Zr ?_
    refine Zm ?_
    obtain ⟨b35,hS⟩:=bU hS
    refine Zu (cR rfl rfl b35) ?_
    refine Za ?_
    refine VL.mt (w12,(gU+1)) [0,1,5,6] (fun _ _ h=>h) hS rfl
   refine VC.iC (fC,gU) [0,1,5,6] (fun _ _ h=>h) hS rfl
  clear hS
  rintro ⟨FW,FB⟩ hS
  refine Zr ?_
  refine Zm ?_
  obtain ⟨b21,hS⟩:=bU hS
  refine Zu (cR rfl rfl b21) ?_
  refine Za ?_
  refine VL.iP (FW,FB,(mL+1)) [0,1,5,6] (fun _ _ h=>h) (go2 hS hK1) rfl
 replace hS:=gA hS hK1
 refine Zx ?_
 refine Zq (Zr ?_)
 refine Zy ?_
 obtain ⟨b38,hS⟩:=bU hS
 refine VL.fits (s:=fC) (e:=274) Fo.out fun E0 => ?_
 refine Zu (NH (s:=fC) Tryz.underlying50 iN rfl rfl b38.1 b38.2 E0) ?_
 refine VL.aLL (s:=fC) (i:=gU.toNat) (.agg #[str [],i64 0,i64 0,str [],i64 0,i64 0]) Tryz.underlying50 aPI rfl rfl rfl (by have:=b38; dsimp only at this ⊢; omega) Fo.out fun FX LH MG => ?_
 replace hS:=bV LH hS
 refine Zl ?_
 refine VC.keep (ρ':=[(0,fC.val),(5,i64 gU)]) [0,5] rfl ?_
 refine Zq (Zr ?_)
 refine Zy ?_
 refine Zu (aCH (s:=fC) (q:=FX) Tryz.underlying50 iN rfl rfl b38.1 b38.2 E0 MG) ?_
 refine Zy ?_
 cases hS
 exact VC.ret (eB (.inr rfl) rfl rfl FX rfl rfl (by (try dsimp only); exact cA.out) (by (try dsimp only); exact dJ.out))
theorem MT (fL:Int) {r:Bool} (hS:Sh.cmp_isNaN_int fL=some r) :
 Ct Tryz.prog 356 [i64 fL] Mo.tt (Ow.emp) (X:=Unit) (fun _ => .bool r) (fun _=>True) (fun _=>Mo.tt) (fun _=>Ow.emp):=by
 refine Zo Tryz.func356 Tryz.ntmps356 fun c => ?_
 unfold Sh.cmp_isNaN_int at hS
 refine Zq (Zr ?_)
 refine Zy ?_
 refine Zq (Zr ?_)
 refine Zy ?_
 refine Zu (yY rfl rfl) ?_
 refine Zy ?_
 cases hS
 exact Ze
theorem Y7 (fL:Int) (yR:Int) {r:Int} (hS:Sh.GY fL yR=some r) :
 Ct Tryz.prog 328 [i64 fL,i64 yR] Mo.tt (Ow.emp) (X:=Unit) (fun _=>i64 r) (fun _=>True) (fun _=>Mo.tt) (fun _=>Ow.emp):=by
 refine Zo Tryz.func328 Tryz.ntmps328 fun c => ?_
 unfold Sh.GY at hS
 refine Zq (Zr ?_)
 refine Zy ?_
 refine Zq (Zr ?_)
 refine Zm ?_
 obtain ⟨sS,DH,hS⟩:=aK hS
 refine Zu (bZ (MT fL DH) rfl (fun _ _=>rfl)) ?_
 refine Zy ?_
 refine Zq (Zr ?_)
 refine Zm ?_
 obtain ⟨fW,JI,hS⟩:=aK hS
 refine Zu (bZ (MT yR JI) rfl (fun _ _=>rfl)) ?_
 refine Zy ?_
 refine Zq (Zq (Zr ?_))
 refine Zy ?_
 refine iL hS (fun h11 hS => ?_) (fun h11 hS => ?_)
 ·
  refine Zq (Zq (Zr ?_))
  refine Zy ?_
  refine VC.keep (ρ':=[(12,.bool fW)]) [12] rfl ?_
  refine iL hS (fun h12 hS => ?_) (fun h12 hS => ?_)
  ·
   refine Zq (Zr ?_)
   refine Zy ?_
   cases hS
   exact Ze
  refine Zk ?_
  refine Zq (Zr ?_)
  refine Zy ?_
  cases hS
  exact Ze
 refine Zk ?_
 refine Zq (Zq (Zr ?_))
 refine Zy ?_
 refine VC.keep (ρ':=[(0,i64 fL),(1,i64 yR),(13,.bool fW)]) [0,1,13] rfl ?_
 refine iL hS (fun h13 hS => ?_) (fun h13 hS => ?_)
 ·
  refine Zq (Zr ?_)
  refine Zy ?_
  cases hS
  exact Ze
 refine Zk ?_
 refine Zq (Zq (Zr ?_))
 refine Zy ?_
 refine Zu (c4 rfl rfl) ?_
 refine Zl ?_
 refine Zc hS (fun h16 hS => ?_) (fun h16 hS => ?_)
 ·
  refine Zq (Zr ?_)
  refine Zy ?_
  cases hS
  exact Ze
 refine Zk ?_
 refine Zq (Zq (Zr ?_))
 refine Zy ?_
 refine Zu (iZ rfl rfl) ?_
 refine Zl ?_
 refine Zc hS (fun h19 hS => ?_) (fun h19 hS => ?_)
 ·
  refine Zq (Zr ?_)
  refine Zy ?_
  cases hS
  exact Ze
 refine Zk ?_
 refine Zq (Zr ?_)
 refine Zy ?_
 cases hS
 exact Ze
theorem aFF (BT:Sv Int) {r:Int} (hS:Sh.UO BT.l=some r) :
 Ct Tryz.prog 327 [BT.val] BT.ok (Ow.emp) (X:=Unit) (fun _=>i64 r) (fun _=>True) (fun _=>Mo.tt) (fun _=>Ow.emp):=by
 refine Zo Tryz.func327 Tryz.ntmps327 fun c => ?_
 unfold Sh.UO at hS
 refine Zq (Zr ?_)
 refine Zy ?_
 refine Zq (Zr ?_)
 refine Zy ?_
 refine Zq (Zq (Zr ?_))
 refine Zm ?_
 refine Zu (dX (s:=BT) Tryz.underlying32 rfl) ?_
 refine Zy ?_
 refine Zb ?_
 refine VC.iter (S:=Int) (fun (cG:Int)=>cG) (fun (cG:Int)=>[(3,i64 0),(6,BT.val),(7,i64 (BT.l.length:Int)),(8,i64 cG)]) (fun (cG:Int)=>Mo.tt) (fun (cG:Int)=>Ow.emp) 0 [3,6,7,8] hS rfl ?_
 clear hS
 rintro cG m1 y1 hS hK1
 refine Zq (Zr ?_)
 refine Zu (c4 rfl rfl) ?_
 refine Zl ?_
 refine Zq ?_
 refine Zc hS (fun h9 hS => ?_) (fun h9 hS => ?_)
 ·
  refine Zk ?_
  refine Zq (Zb (Zq (Zr ?_)))
  obtain ⟨HK,aBe,aB1,hS⟩:=c6 hS
  refine Zu (e8 (s:=BT) Tryz.underlying32 u9 rfl rfl aBe (bN aBe aB1)) ?_
  refine Zu (q9 (s:=BT) eP rfl aB1 rfl) ?_
  refine Zy ?_
  refine Zq (Zr ?_)
  refine Zy ?_
  refine Zu (yY rfl rfl) ?_
  refine Zl ?_
  refine rE hS (fun h14 hS => ?_) (fun h14 hS => ?_)
  ·
   refine Zq (Zr ?_)
   refine Zy ?_
   refine VC.keep (ρ':=[(2,i64 HK)]) [2] rfl ?_
   replace hS:=gA hS hK1
   cases hS
   exact Ze
  refine Zk ?_
  refine VC.keep (ρ':=[(3,i64 0),(6,BT.val),(7,i64 (BT.l.length:Int)),(8,i64 cG)]) [3,6,7,8] rfl ?_
  refine Zr ?_
  obtain ⟨b16,hS⟩:=bU hS
  refine Zu (cR rfl rfl b16) ?_
  refine Zm ?_
  refine VL.iP (cG+1) [3,6,7,8] (fun _ _ h=>h) (go2 hS hK1) rfl
 replace hS:=gA hS hK1
 refine Zx ?_
 refine Zq (Zr ?_)
 refine Zy ?_
 cases hS
 exact Ze
theorem aB7 (cX:aI) (b_1:aI) {r:Int} (hS:Sh.LI cX b_1=some r) :
 Ct Tryz.prog 289 [.agg #[str cX.path,i64 cX.gY,i64 cX.mode,str cX.data,i64 cX.time,i64 cX.size],.agg #[str b_1.path,i64 b_1.gY,i64 b_1.mode,str b_1.data,i64 b_1.time,i64 b_1.size]] Mo.tt (Ow.emp) (X:=Unit) (fun _=>i64 r) (fun _=>True) (fun _=>Mo.tt) (fun _=>Ow.emp):=by
 refine Zo Tryz.func289 Tryz.ntmps289 fun c => ?_
 unfold Sh.LI at hS
 refine Zq (Zr ?_)
 refine VL.box (cs:=[str cX.path,i64 cX.gY,i64 cX.mode,str cX.data,i64 cX.time,i64 cX.size]) rfl rfl (by decide) fun dQ => ?_
 refine VL.box (cs:=[str b_1.path,i64 b_1.gY,i64 b_1.mode,str b_1.data,i64 b_1.time,i64 b_1.size]) rfl rfl (by decide) fun jQ => ?_
 refine Zy ?_
 refine Zq ?_
 refine VC.draw [(0,true),(1,true),(2,true),(3,true),(4,true),(5,true),(6,true),(7,true),(8,true),(9,true),(10,false),(11,true),(12,true)] mixed (by kernel_rfl) (by kernel_rfl) (by kernel_rfl) ?_
 refine Zw rfl (aB wQ rfl) ?_
 refine Zw rfl (aJ dD rfl rfl) ?_
 refine Zw rfl (aB wQ rfl) ?_
 refine Zw rfl (aJ dD rfl rfl) ?_
 obtain ⟨XZ,a4w,hS⟩:=aK hS
 refine Zw rfl (bZ (BN cX.path b_1.path a4w) rfl (fun _ _=>rfl)) ?_
 refine Zw rfl (aB G1 rfl) ?_
 refine Zw rfl (aJ eP rfl rfl) ?_
 refine Zw rfl (aB G1 rfl) ?_
 refine Zw rfl (aJ eP rfl rfl) ?_
 obtain ⟨aAf,aJI,hS⟩:=aK hS
 refine Zw rfl (bZ (Y7 cX.gY b_1.gY aJI) rfl (fun _ _=>rfl)) ?_
 refine VD.one rfl ?_
 refine VL.lit (α:=Int) (xs:=[.tmp 9,.tmp 14]) (vs:=[i64 XZ,i64 aAf]) [XZ,aAf] Tryz.underlying32 kI (by decide) rfl rfl rfl rfl (by decide) (fun _ _ _ _=>trivial) (by decide) (fun a5k a1R => ?_) (by decide)
 replace hS:=bV a1R hS
 refine VL.back (D':=[]) (by kernel_rfl) (aF.nil) ?_
 obtain ⟨aHG,a0A,hS⟩:=aK hS
 refine Zw rfl (bZ (aFF a5k a0A) rfl (fun _ _=>rfl)) ?_
 refine Zw rfl (eO rfl) ?_
 refine VD.to (fun _ _ h=>h) ?_
 refine VC.keep (ρ':=[(4,i64 aHG)]) [4] rfl ?_
 cases hS
 exact Ze
theorem aH9 (s v:Sv aI) (i:Int) (hi:0≤i∧i≤(s.l.length:Int)) (hv:v.l≠[]) (hb:s.l.length+v.l.length≤4294967296):Ct Tryz.prog 290 [s.val,i64 i,v.val] Mo.tt (Ow.star (s.own 274) (v.own 274)) (X:=Sv aI) (fun q=>q.val) (fun q=>q.l=s.l.take i.toNat++v.l++s.l.drop i.toNat) (fun _=>Mo.tt) (fun q=>q.own 274):=by
 refine Zo Tryz.func290 Tryz.ntmps290 fun c => ?_
 have hvp:0 < v.l.length:=List.length_pos_iff.2 hv
 have hK:bM.sz aI=6:=rfl
 refine Zq (Zr ?_)
 refine Zy ?_
 refine Zq (Zr ?_)
 refine Zy ?_
 refine VL.fits (s:=s) (e:=274) Fo.out fun hf => ?_
 refine Zu (NH (s:=s) Tryz.underlying50 iN rfl rfl hi.1 hi.2 hf) ?_
 refine Zl ?_
 refine Zq (Zr ?_)
 refine Zm ?_
 refine Zu (dX (s:=v) Tryz.underlying50 rfl) ?_
 refine Zy ?_
 refine Zq (Zq (Zr ?_))
 refine Zm ?_
 refine Zu (gV rfl rfl) ?_
 refine Zl ?_
 refine VC.yT rfl (fun h16=>absurd h16 (by omega)) (fun h16 => ?_)
 refine Zk ?_
 refine Zq (Zr ?_)
 refine Zm ?_
 refine Zu (dX (s:=s) Tryz.underlying50 rfl) ?_
 refine Zy ?_
 refine Zq (Zq (Zr ?_))
 refine Zy ?_
 refine Zu (gV rfl rfl) ?_
 refine Zl ?_
 refine VC.yT rfl (fun h22 => ?_) (fun h22 => ?_)
 ·
  refine Zq (Zr ?_)
  refine Zy ?_
  refine VL.shut v 274 (fun _ _ _ _=>trivial) ?_
  refine VL.aTt (s:=s) (r:=v) Tryz.underlying50 Tryz.underlying50 UX (by decide) rfl Fo.out (sU hb) (sV hb (by decide)) (by decide) (fun q hq => ?_)
  refine Zy ?_
  have e1:i.toNat=s.l.length:=by omega
  exact VC.ret (eB (.inr rfl) rfl rfl q rfl (by rw [hq,e1,List.take_length,List.drop_length,List.append_nil]) (fun _ _=>trivial) dJ.out)
 have hin:i < (s.l.length:Int):=by omega
 have hne:s.l≠[]:=fun h=>by rw [h] at hin; simp at hin; omega
 have hkq:(s.l.length:Int)+(v.l.length:Int) - i=((s.l.length+v.l.length - i.toNat:Nat):Int):=by omega
 have hLn:(s.l.take i.toNat++v.l++s.l.drop i.toNat).length=s.l.length+v.l.length:=by simp only [List.length_append,List.length_take,List.length_drop]; omega
 have hfl:(s.l.take i.toNat++v.l++s.l.drop i.toNat).flatMap bM.enc=(s.l.take i.toNat).flatMap bM.enc++v.l.flatMap bM.enc++(s.l.drop i.toNat).flatMap bM.enc:=by rw [List.flatMap_append,List.flatMap_append]
 have lA:((s.l.take i.toNat).flatMap bM.enc).length=i.toNat*6:=by rw [iG,List.length_take,hK,Nat.min_eq_left (by omega)]
 have lV:(v.l.flatMap bM.enc).length=v.l.length*6:=by rw [iG,hK]
 have lS:((s.l.drop i.toNat).flatMap bM.enc).length=(s.l.length - i.toNat)*6:=by rw [iG,List.length_drop,hK]
 refine Zk ?_
 refine Zq (Zq (Zr ?_))
 refine Zy ?_
 refine Zu (cR rfl rfl ⟨by omega,by omega⟩) ?_
 refine Zm ?_
 refine Zu (aKH (a0:=s.a) (L:=s.l.length) (C:=s.c) Tryz.underlying50 rfl) ?_
 refine Zu (iZ rfl rfl) ?_
 refine Zl ?_
 refine VC.yT rfl (fun h31 => ?_) (fun h31 => ?_)
 ·
  refine VC.shut s 274 (fun _ _ _ _=>trivial) ?_
  refine VC.shut v 274 (fun _ _ _ _=>trivial) ?_
  refine Zq (Zr ?_)
  refine VL.E3 (φ:=s.a=some ⟨s.b,s.o,none⟩) (fun h m=>(cA.out (X:=s.ok) h m).2.2.1 hne) fun hsa => ?_
  refine VL.E3 (φ:=v.a=some ⟨v.b,v.o,none⟩) (fun h m=>(cA.out (X:=v.ok) h m).2.2.1 hv) fun hva => ?_
  refine Zy ?_
  refine Zu (aD9 (a0:=s.a) (L:=s.l.length) (C:=s.c) (K:=6) Tryz.underlying50 iN rfl rfl hi.1 (by omega)) ?_
  refine Zy ?_
  refine Zu (cR rfl rfl ⟨by omega,by omega⟩) ?_
  refine Zm ?_
  refine Zu (qK rfl rfl ⟨by omega,by omega⟩) ?_
  refine VL.D9 39 rfl (congrArg (Value.int .i64) hkq) ?_
  refine VL.aNU (s:=s) (L:=i.toNat) (kq:=s.l.length+v.l.length - i.toNat) Tryz.underlying50 Tryz.underlying3 UX (by decide) rfl hne (by omega) (by omega) (by omega) (by omega) (by decide) (by decide) fun g cs cp hcl hcp hcm hct => ?_
  rw [hK] at hcl hct
  rw [show i.toNat+(s.l.length+v.l.length - i.toNat)=s.l.length+v.l.length by omega] at hcp ⊢
  have hfit:((s.l.take i.toNat).flatMap bM.enc).length+(v.l.flatMap bM.enc).length+((s.l.drop i.toNat).flatMap bM.enc).length≤cs.length:=by
    rw [lA,lV,lS,hcl,← Nat.add_mul,← Nat.add_mul]; exact Nat.mul_le_mul_right _ (by omega)
  have hic:=VP (V:=v.l.flatMap bM.enc) (S:=(s.l.drop i.toNat).flatMap bM.enc) (by rw [lA]; exact hct) hfit
  rw [← hfl,lA,lV,lS] at hic
  refine Zy ?_
  refine Zq (Zr ?_)
  refine Zy ?_
  refine Zu (oC (b:=g) (o:=0) (L:=s.l.length+v.l.length) (C:=cp) (K:=6) Tryz.underlying50 iN rfl rfl hi.1 (by omega) hcp (by omega) rfl) ?_
  refine Zm ?_
  refine VL.D9 44 rfl (show v.val = .slice (some ⟨v.b,v.o+0*bM.sz aI,none⟩) v.l.length v.c by unfold Sv.val; rw [hva,Nat.zero_mul]; rfl) ?_
  refine VL.IU (src:=v.l.flatMap bM.enc) Tryz.underlying50 iN sP.out rfl (by rw [lV]; congr 1; exact (Nat.min_eq_left (by omega)).symm) (PL (r:=v) (by decide) hv) (uU v.l) (by rw [lV,Nat.zero_add,hcl,← Nat.add_mul]; exact Nat.mul_le_mul_right _ (by omega)) (by decide) ?_
  rw [Nat.zero_add,lV]
  refine Zl ?_
  refine Zq ?_
  refine VC.draw [(0,true),(1,true),(2,true),(3,true),(4,true),(5,true),(6,true),(7,true),(8,false)] mixed (by kernel_rfl) (by kernel_rfl) (by kernel_rfl) ?_
  refine Zw rfl (bA rfl) ?_
  refine Zw rfl (bA rfl) ?_
  refine Zw rfl (bA rfl) ?_
  refine Zw rfl (cR rfl rfl ⟨by omega,by omega⟩) ?_
  refine Zw rfl (oC (b:=g) (o:=0) (L:=s.l.length+v.l.length) (C:=cp) (K:=6) Tryz.underlying50 iN rfl rfl (by omega) (by omega) hcp (by omega) rfl) ?_
  refine Zw rfl (bA rfl) ?_
  refine Zw rfl (bA rfl) ?_
  refine Zw rfl (oC (b:=s.b) (o:=s.o) (L:=s.l.length) (C:=s.c) (K:=6) Tryz.underlying50 iN (show some s.val=_ by unfold Sv.val; rw [hsa]) rfl hi.1 (by omega) hf (by omega) rfl) ?_
  refine VD.one rfl ?_
  rw [show (i+(v.l.length:Int)).toNat=i.toNat+v.l.length by omega]
  refine VL.IU (src:=(s.l.drop i.toNat).flatMap bM.enc) Tryz.underlying50 iN sP.out rfl (by rw [lS]; congr 1; exact (Nat.min_eq_left (by omega)).symm) (aBr (r:=s) (by decide) hne i.toNat) (uU _) (by rw [lS,Nat.zero_add,hic.1,hcl,← Nat.add_mul]; exact Nat.mul_le_mul_right _ (by omega)) (by decide) ?_
  rw [Nat.zero_add,lS,Nat.add_mul]
  refine VL.back (D':=[]) (by kernel_rfl) aF.nil ?_
  refine VD.to (fun _ _ h=>h) ?_
  refine Zq (Zr ?_)
  refine Zy ?_
  have ho:=fun F=>PN (F:=F) (e:=274) (b:=g) (l':=s.l.take i.toNat++v.l++s.l.drop i.toNat) (hic.2.1.trans hcl) (by rw [iG] at hic; exact hic.2.2) hLn hcp hcm
  exact VC.ret (eB (.inr rfl) rfl rfl ⟨some ⟨g,0,none⟩,cp,_⟩ (ho Ow.emp).1 rfl (fun _ _=>trivial) (ho _).2)
 refine Zk ?_
 refine Zq (Zr ?_)
 refine VL.open (s:=s) (e:=274) Fo.out (by omega) fun b cs hsa hcl hct _ hcm => ?_
 rw [hK] at hcl hct
 have hctA:cs.take ((s.l.take i.toNat).flatMap bM.enc).length=(s.l.take i.toNat).flatMap bM.enc:=by
   rw [lA]
   have:cs.take (i.toNat*6)=(cs.take (s.l.length*6)).take (i.toNat*6):=by rw [List.take_take,Nat.min_eq_left (Nat.mul_le_mul_right _ (by omega))]
   rw [this,hct]
   exact yU s.l i.toNat
 have hfit:((s.l.take i.toNat).flatMap bM.enc).length+(v.l.flatMap bM.enc).length+((s.l.drop i.toNat).flatMap bM.enc).length≤cs.length:=by
   rw [lA,lV,lS,hcl,← Nat.add_mul,← Nat.add_mul]; exact Nat.mul_le_mul_right _ (by omega)
 have hic:=VQ (V:=v.l.flatMap bM.enc) (S:=(s.l.drop i.toNat).flatMap bM.enc) hctA hfit
 rw [← hfl,lA,lV,lS] at hic
 refine Zy ?_
 refine Zu (cR rfl rfl ⟨by omega,by omega⟩) ?_
 refine Zu (aD9 (a0:=s.a) (L:=s.l.length) (C:=s.c) (K:=6) Tryz.underlying50 iN rfl rfl (by omega) (by omega)) ?_
 rw [show ((s.l.length:Int)+(v.l.length:Int)).toNat=s.l.length+v.l.length by omega,hsa]
 refine Zy ?_
 refine Zq (Zq (Zr ?_))
 refine Zy ?_
 refine Zu (cR rfl rfl ⟨by omega,by omega⟩) ?_
 refine Zu (oC (b:=b) (o:=0) (L:=s.l.length+v.l.length) (C:=s.c) (K:=6) Tryz.underlying50 iN rfl rfl (by omega) (by omega) (by omega) (by omega) rfl) ?_
 refine Zu (WD (tS:=50) (tR:=4) (s:=v) (b:=b) Tryz.func329 rfl rfl (by kernel_rfl) (by kernel_rfl) Tryz.underlying50 iN rfl sP.out (fun h=>by rw [h] at hcl; simp at hcl; omega) hv) ?_
 refine Zu (lQ rfl) ?_
 refine Zl ?_
 refine VC.RD rfl ?_
 refine VC.shut v 274 (fun _ _ _ _=>trivial) ?_
 refine Zq ?_
 refine VC.draw [(0,true),(1,true),(2,true),(3,true),(4,true),(5,true),(6,true),(7,true),(8,false)] mixed (by kernel_rfl) (by kernel_rfl) (by kernel_rfl) ?_
 refine Zw rfl (bA rfl) ?_
 refine Zw rfl (bA rfl) ?_
 refine Zw rfl (bA rfl) ?_
 refine Zw rfl (cR rfl rfl ⟨by omega,by omega⟩) ?_
 refine Zw rfl (oC (b:=b) (o:=0) (L:=s.l.length+v.l.length) (C:=s.c) (K:=6) Tryz.underlying50 iN rfl rfl (by omega) (by omega) (by omega) (by omega) rfl) ?_
 refine Zw rfl (bA rfl) ?_
 refine Zw rfl (bA rfl) ?_
 refine Zw rfl (oC (b:=b) (o:=0) (L:=s.l.length+v.l.length) (C:=s.c) (K:=6) Tryz.underlying50 iN rfl rfl hi.1 (by omega) (by omega) (by omega) rfl) ?_
 refine VD.one rfl ?_
 rw [show (i+(v.l.length:Int)).toNat=i.toNat+v.l.length by omega,Nat.zero_add,Nat.zero_add]
 refine VL.IU (src:=(s.l.drop i.toNat).flatMap bM.enc) Tryz.underlying50 iN sP.out rfl (by rw [lS]; congr 1; simp only [Nat.min_def]; split <;> omega) (aEy (n:=s.l.length) hct rfl) (uU _) (by rw [lS,hcl,← Nat.add_mul]; exact Nat.mul_le_mul_right _ (by omega)) (by decide) ?_
 rw [lS,Nat.add_mul]
 refine VL.back (D':=[]) (by kernel_rfl) aF.nil ?_
 refine VD.to (fun _ _ h=>h) ?_
 refine Zq (Zr ?_)
 refine Zy ?_
 refine Zu (oC (b:=b) (o:=0) (L:=s.l.length+v.l.length) (C:=s.c) (K:=6) Tryz.underlying50 iN rfl rfl hi.1 (by omega) (by omega) (by omega) rfl) ?_
 refine Zm ?_
 refine VL.E3 (φ:=v.a=some ⟨v.b,v.o,none⟩) (fun h m=>(cA.out (X:=v.ok) h m).2.2.1 hv) fun hva => ?_
 refine VL.D9 81 rfl (show v.val = .slice (some ⟨v.b,v.o+0*bM.sz aI,none⟩) v.l.length v.c by unfold Sv.val; rw [hva,Nat.zero_mul]; rfl) ?_
 rw [Nat.zero_add]
 refine VL.IU (src:=v.l.flatMap bM.enc) Tryz.underlying50 iN sP.out rfl (by rw [lV]; congr 1; exact (Nat.min_eq_left (by omega)).symm) (PL (r:=v) (by decide) hv) (uU v.l) (by rw [lV,hic.1,hcl,← Nat.add_mul]; exact Nat.mul_le_mul_right _ (by omega)) (by decide) ?_
 rw [lV]
 refine Zl ?_
 refine Zq (Zr ?_)
 refine Zy ?_
 have ho:=fun F=>PN (F:=F) (e:=274) (b:=b) (l':=s.l.take i.toNat++v.l++s.l.drop i.toNat) (hic.2.1.trans hcl) (by rw [iG] at hic; exact hic.2.2) hLn (by omega) hcm
 exact VC.ret (eB (.inr rfl) rfl rfl ⟨some ⟨b,0,none⟩,s.c,_⟩ (ho Ow.emp).1 rfl (fun _ _=>trivial) (ho _).2)
theorem ZI (gS:Sv aI) (e_1:aI) {r:List aI} (hS:Sh.RX gS.l e_1=some r) :
 Ct Tryz.prog 213 [gS.val,.agg #[str e_1.path,i64 e_1.gY,i64 e_1.mode,str e_1.data,i64 e_1.time,i64 e_1.size]] gS.ok (Ow.emp) (X:=Sv aI) (fun x=>x.val) (fun x=>r=x.l) (fun x=>x.ok) (fun x=>Ow.emp):=by
 refine Zo Tryz.func213 Tryz.ntmps213 fun c => ?_
 unfold Sh.RX at hS
 refine Zq (Zr ?_)
 refine VL.box (cs:=[str e_1.path,i64 e_1.gY,i64 e_1.mode,str e_1.data,i64 e_1.time,i64 e_1.size]) rfl rfl (by decide) fun fX => ?_
 refine Zy ?_
 refine Zq (Zr ?_)
 refine Zm ?_
 obtain ⟨iT,tG,hS⟩:=aK hS
 refine VL.bS (mH gS tG) rfl (by decide) ?_
 rintro jT rfl
 try dsimp only
 refine Zu (sE rfl) ?_
 obtain ⟨s4,JJ,hS⟩:=aK hS
 refine VL.bS (vX jT fX e_1 JJ) rfl (by decide) ?_
 rintro lB rfl
 try dsimp only
 refine Zy ?_
 refine Zq (Zr ?_)
 refine Zy ?_
 refine VC.gK (S:=Int) (fun (T3:Int)=>T3) (fun (T3:Int)=>[(3,ptr fX 0),(5,lB.val),(6,i64 T3)]) (fun (T3:Int)=>Mo.tt) (fun (T3:Int)=>Ow.star (bD fX [str e_1.path,i64 e_1.gY,i64 e_1.mode,str e_1.data,i64 e_1.time,i64 e_1.size] 274) (Ow.star (Sv.own lB 274) (Ow.emp))) hS ?_ ?_
 ·
  clear hS
  intro k5 hS
  refine Zb ?_
  refine VC.iter (S:=Int) (fun (GQ:Int)=>GQ) (fun (GQ:Int)=>[(3,ptr fX 0),(5,lB.val),(6,i64 GQ)]) (fun (GQ:Int)=>Mo.tt) (fun (GQ:Int)=>Ow.star (bD fX [str e_1.path,i64 e_1.gY,i64 e_1.mode,str e_1.data,i64 e_1.time,i64 e_1.size] 274) (Ow.star (Sv.own lB 274) (Ow.emp))) 0 [3,5,6] hS rfl ?_
  clear hS
  rintro GQ m1 y1 hS hK1
  refine Zq (Zq ?_)
  refine VC.draw ((List.range 13).map fun k=>(k,true)) mixed (by kernel_rfl) (by kernel_rfl) (by kernel_rfl) ?_
  refine Zw rfl (bA rfl) ?_
  refine Zw rfl (bA rfl) ?_
  refine Zw rfl (dX (s:=lB) Tryz.underlying50 rfl) ?_
  refine Zw rfl (c4 rfl rfl) ?_
  refine Zw rfl (bA rfl) ?_
  refine VD.vP 15 rfl (fun h15 => ?_) (fun h15 => ?_)
  ·
   replace hS:=M5 h15 hS
   refine Zi rfl (bA rfl) ?_
   refine Zi rfl (bA rfl) ?_
   obtain ⟨aOb,aPs,aPQ,hS⟩:=c6 hS
   refine Zi rfl (lJ (s:=lB) Tryz.underlying50 iN rfl rfl aPs (bN aPs aPQ)) ?_
   refine Zi rfl (R9 (s:=lB) oV rfl rfl aPQ) ?_
   refine Zi rfl (cD oV rfl rfl) ?_
   obtain ⟨aHK,a0L,hS⟩:=aK hS
   refine Zi rfl (bZ (aB7 aOb e_1 a0L) rfl (fun _ _=>rfl)) ?_
   refine Zi rfl (c4 rfl rfl) ?_
   refine Zw rfl (kE rfl rfl) ?_
   refine VD.to (fun _ _ h=>h) ?_
   refine VC.keep (ρ':=[(3,ptr fX 0),(5,lB.val),(6,i64 GQ),(23,.bool (decide (aHK < 0)))]) [3,5,6,23] rfl ?_
   refine Zc hS (fun h23 hS => ?_) (fun h23 hS => ?_)
   ·
    refine Zk ?_
    refine Zb (Zr ?_)
    refine Zm ?_
    obtain ⟨b25,hS⟩:=bU hS
    refine Zu (cR rfl rfl b25) ?_
    refine Za ?_
    refine VL.iP (GQ+1) [3,5,6] (fun _ _ h=>h) (go2 hS hK1) rfl
   replace hS:=gA hS hK1
   refine VC.eW GQ [3,5,6] (fun _ _ h=>h) hS rfl
  replace hS:=VR h15 hS
  refine Zd ?_
  refine Zd ?_
  refine Zd ?_
  refine Zd ?_
  refine Zd ?_
  refine Zd ?_
  refine Zd ?_
  refine Zw rfl (iX rfl rfl) ?_
  refine VD.to (fun _ _ h=>h) ?_
  refine VC.keep (ρ':=[(3,ptr fX 0),(5,lB.val),(6,i64 GQ),(23,.bool false)]) [3,5,6,23] rfl ?_
  refine VC.BB rfl ?_
  replace hS:=gA hS hK1
  refine VC.eW GQ [3,5,6] (fun _ _ h=>h) hS rfl
 clear hS
 rintro T3 hS
 refine Zq (Zr ?_)
 refine Zy ?_
 refine Zu (cD oV rfl rfl) ?_
 refine VL.aPj (α:=aI) (xs:=[.tmp 28]) (vs:=[.agg #[str e_1.path,i64 e_1.gY,i64 e_1.mode,str e_1.data,i64 e_1.time,i64 e_1.size]]) [⟨e_1.path,e_1.gY,e_1.mode,e_1.data,e_1.time,e_1.size⟩] Tryz.underlying50 aFe (by decide) rfl rfl rfl rfl (by decide) (by decide) (fun a6A a1e => ?_) (by decide)
 replace hS:=bV a1e hS
 obtain ⟨b30,hS⟩:=bU hS
 refine VL.bS (aH9 lB a6A T3 b30.1 b30.2.1 b30.2.2) rfl (by decide) ?_
 intro aQf aW7
 replace hS:=bV aW7 hS
 refine VL.shut aQf 274 (fun _ _ _ _=>trivial) ?_
 obtain ⟨aEd,aU5,hS⟩:=aK hS
 refine VL.cU (gI aQf aU5) rfl (by decide) ?_
 rintro aTC rfl
 try dsimp only
 refine Zy ?_
 cases hS
 exact VC.ret (eB (.inr rfl) rfl rfl aTC rfl rfl (by (try dsimp only); exact cA.out) (fun _ _=>trivial))
theorem aHj (gS:Sv aI) (YS:Sv aC) (p_2:bB) {r:List aI} (hS:Sh.aA3 gS.l YS.l p_2=some r) :
 Ct Tryz.prog 145 [gS.val,YS.val,str p_2] (gS.ok.and YS.ok) (Ow.emp) (X:=Sv aI) (fun x=>x.val) (fun x=>r=x.l) (fun x=>x.ok) (fun x=>Ow.emp):=by
 refine Zo Tryz.func145 Tryz.ntmps145 fun c => ?_
 unfold Sh.aA3 at hS
 refine Zq (Zr ?_)
 refine Zy ?_
 refine Zq (Zr ?_)
 refine Zy ?_
 obtain ⟨GD,aZu,hS⟩:=aK hS
 refine Zu (bZ (rW YS p_2 aZu) rfl (fun _ _=>rfl)) ?_
 refine Zm ?_
 refine Zu (aW rfl rfl) ?_
 refine Zu (aW rfl rfl) ?_
 refine VL.alloc (cs:=[str [],i64 0,str []]) (by kernel_rfl) (by decide) fun a60 => ?_
 refine Zv (cs':=[str GD.1.path,i64 GD.1.mode,str GD.1.data]) rfl fS ?_
 refine Zy ?_
 refine VC.keep (ρ':=[(0,gS.val),(2,str p_2),(7,ptr a60 0),(8,.bool GD.2)]) [0,2,7,8] rfl ?_
 refine Zq (Zq (Zr ?_))
 refine Zm ?_
 refine Zu (lQ rfl) ?_
 refine Zl ?_
 refine iL hS (fun h16 hS => ?_) (fun h16 hS => ?_)
 ·
  refine Zq ?_
  cases hS
 refine Zk ?_
 refine Zq (Zr ?_)
 refine Zy ?_
 refine Zu (aB LA rfl) ?_
 refine Zu (aJ eP rfl rfl) ?_
 refine Zu (aB E8 rfl) ?_
 refine Zu (aJ dD rfl rfl) ?_
 refine Zu (eN (vs:=[(0,str p_2),(2,i64 GD.1.mode),(3,str GD.1.data)]) (cs := #[str p_2,i64 0,i64 GD.1.mode,str GD.1.data,i64 0,i64 0]) rfl (by kernel_rfl)) ?_
 obtain ⟨aZN,a0Y,hS⟩:=aK hS
 refine VL.cU (ZI gS (⟨p_2,0,GD.1.mode,GD.1.data,0,0⟩:aI) a0Y) rfl (by decide) ?_
 rintro aMk rfl
 try dsimp only
 refine Zy ?_
 refine VC.keep (ρ':=[(6,aMk.val)]) [6] rfl ?_
 cases hS
 exact VC.ret (eB (.inr rfl) rfl rfl aMk rfl rfl (by (try dsimp only); exact cA.out) (fun _ _=>trivial))
theorem aDB (fL:aI) (yR:aI) {r:Bool} (hS:Sh.N6 fL yR=some r) :
 Ct Tryz.prog 215 [.agg #[str fL.path,i64 fL.gY,i64 fL.mode,str fL.data,i64 fL.time,i64 fL.size],.agg #[str yR.path,i64 yR.gY,i64 yR.mode,str yR.data,i64 yR.time,i64 yR.size]] Mo.tt (Ow.emp) (X:=Unit) (fun _ => .bool r) (fun _=>True) (fun _=>Mo.tt) (fun _=>Ow.emp):=by
 refine Zo Tryz.func215 Tryz.ntmps215 fun c => ?_
 unfold Sh.N6 at hS
 refine Zq (Zr ?_)
 refine VL.box (cs:=[str fL.path,i64 fL.gY,i64 fL.mode,str fL.data,i64 fL.time,i64 fL.size]) rfl rfl (by decide) fun dQ => ?_
 refine VL.box (cs:=[str yR.path,i64 yR.gY,i64 yR.mode,str yR.data,i64 yR.time,i64 yR.size]) rfl rfl (by decide) fun jQ => ?_
 refine Zy ?_
 refine Zq (Zr ?_)
 refine Zu (aB wQ rfl) ?_
 refine Zu (aJ dD rfl rfl) ?_
 refine Zu (aB wQ rfl) ?_
 refine Zu (aJ dD rfl rfl) ?_
 refine Zy ?_
 refine pL 10 hS (fun h10 hS => ?_) (fun h10 hS => ?_)
 ·
  refine Zh (aB G1 rfl) ?_
  refine Zh (aJ eP rfl rfl) ?_
  refine Zh (aB G1 rfl) ?_
  refine Zh (aJ eP rfl rfl) ?_
  refine Zh (gV rfl rfl) ?_
  refine Zy ?_
  refine pL 17 hS (fun h17 hS => ?_) (fun h17 hS => ?_)
  ·
   refine Zh (aB X7 rfl) ?_
   refine Zh (aJ eP rfl rfl) ?_
   refine Zh (aB X7 rfl) ?_
   refine Zh (aJ eP rfl rfl) ?_
   refine Zh (gV rfl rfl) ?_
   refine Zy ?_
   refine pL 24 hS (fun h24 hS => ?_) (fun h24 hS => ?_)
   ·
    refine Zh (aB X8 rfl) ?_
    refine Zh (aJ dD rfl rfl) ?_
    refine Zh (aB X8 rfl) ?_
    refine Zh (aJ dD rfl rfl) ?_
    refine Zh (IX rfl rfl) ?_
    refine Zy ?_
    refine VC.keep (ρ':=[(4,.bool (decide (fL.data=yR.data)))]) [4] rfl ?_
    cases hS
    exact Ze
   refine VL.runs 7 [(4,some false)] (by kernel_rfl) ?_
   refine Zl ?_
   refine VC.keep (ρ':=[(4,.bool false)]) [4] rfl ?_
   cases hS
   exact Ze
  refine VL.runs 14 [(4,some false)] (by kernel_rfl) ?_
  refine Zl ?_
  refine VC.keep (ρ':=[(4,.bool false)]) [4] rfl ?_
  cases hS
  exact Ze
 refine VL.runs 21 [(4,some false)] (by kernel_rfl) ?_
 refine Zl ?_
 refine VC.keep (ρ':=[(4,.bool false)]) [4] rfl ?_
 cases hS
 exact Ze
end Go.Proofs.YtcenmlklkpgmnabGreatDoor
end

section
set_option linter.unusedVariables false
namespace Go.Proofs.YtcenmlklkpgmnabGreatDoor
set_option maxHeartbeats 4000000
set_option maxRecDepth 100000
set_option synthInstance.maxSize 2000
set_option synthInstance.maxHeartbeats 1000000
open Go.RowKit Go.V
open Go.S hiding bB
theorem oF (qW:Sv aI) (xU:Sv aI) {r:Bool} (hS:Sh.gN qW.l xU.l=some r) :
 Ct Tryz.prog 214 [qW.val,xU.val,.func (.func 215) #[] #[]] (qW.ok.and xU.ok) (Ow.emp) (X:=Unit) (fun _ => .bool r) (fun _=>True) (fun _=>Mo.tt) (fun _=>Ow.emp):=by
 refine Zo Tryz.func214 Tryz.ntmps214 fun c => ?_
 unfold Sh.gN at hS
 refine Zq (Zr ?_)
 refine Zy ?_
 refine Zq (Zq (Zr ?_))
 refine Zm ?_
 refine Zu (dX (s:=qW) Tryz.underlying50 rfl) ?_
 refine Zm ?_
 refine Zu (dX (s:=xU) Tryz.underlying50 rfl) ?_
 refine Zu (yY rfl rfl) ?_
 refine Zl ?_
 refine rE hS (fun h14 hS => ?_) (fun h14 hS => ?_)
 ·
  refine Zq (Zr ?_)
  refine Zy ?_
  cases hS
  exact Ze
 refine Zk ?_
 refine Zq (Zq (Zr ?_))
 refine Zm ?_
 refine Zu (dX (s:=qW) Tryz.underlying50 rfl) ?_
 refine Zy ?_
 refine VC.keep (ρ':=[(1,xU.val),(2,.func (.func 215) #[] #[]),(15,qW.val),(16,i64 (qW.l.length:Int)),(17,i64 0)]) [1,2,15,16,17] rfl ?_
 refine Zb ?_
 refine VC.iter (S:=Int) (fun (DU:Int)=>DU) (fun (DU:Int)=>[(1,xU.val),(2,.func (.func 215) #[] #[]),(15,qW.val),(16,i64 (qW.l.length:Int)),(17,i64 DU)]) (fun (DU:Int)=>Mo.tt) (fun (DU:Int)=>Ow.emp) 0 [1,2,15,16,17] hS rfl ?_
 clear hS
 rintro DU m1 y1 hS hK1
 refine Zq (Zr ?_)
 refine Zu (c4 rfl rfl) ?_
 refine Zl ?_
 refine Zq ?_
 refine Zc hS (fun h18 hS => ?_) (fun h18 hS => ?_)
 ·
  refine Zk ?_
  refine Zq (Zb (Zq (Zr ?_)))
  refine Zm ?_
  obtain ⟨TK,aPx,aPV,hS⟩:=c6 hS
  refine Zu (e8 (s:=qW) Tryz.underlying50 iN rfl rfl aPx (bN aPx aPV)) ?_
  refine Zu (nR (s:=qW) oV rfl rfl aPV) ?_
  refine VL.alloc (cs:=[str [],i64 0,i64 0,str [],i64 0,i64 0]) (by kernel_rfl) (by decide) fun a61 => ?_
  refine Za ?_
  refine Zv (cs':=[str TK.path,i64 TK.gY,i64 TK.mode,str TK.data,i64 TK.time,i64 TK.size]) rfl iN ?_
  refine Zl ?_
  refine Zq (Zr ?_)
  refine Zy ?_
  obtain ⟨TL,aQG,aP2,hS⟩:=c6 hS
  refine Zu (e8 (s:=xU) Tryz.underlying50 iN rfl rfl aQG (bN aQG aP2)) ?_
  refine Zu (nR (s:=xU) oV rfl rfl aP2) ?_
  refine VL.alloc (cs:=[str [],i64 0,i64 0,str [],i64 0,i64 0]) (by kernel_rfl) (by decide) fun a65 => ?_
  refine Zv (cs':=[str TL.path,i64 TL.gY,i64 TL.mode,str TL.data,i64 TL.time,i64 TL.size]) rfl iN ?_
  refine Zl ?_
  refine VC.keep (ρ':=[(1,xU.val),(2,.func (.func 215) #[] #[]),(15,qW.val),(16,i64 (qW.l.length:Int)),(17,i64 DU),(8,ptr a61 0),(9,ptr a65 0)]) [1,2,15,16,17,8,9] rfl ?_
  refine Zq (Zr ?_)
  refine Zm ?_
  refine Zu (cD oV rfl rfl) ?_
  refine Zu (cD oV rfl rfl) ?_
  obtain ⟨aZQ,a02,hS⟩:=aK hS
  refine Zu (IC (aDB TK TL a02) rfl rfl (fun _ _=>rfl)) ?_
  refine Zu (lQ rfl) ?_
  refine Zl ?_
  refine iL hS (fun h30 hS => ?_) (fun h30 hS => ?_)
  ·
   refine Zq (Zr ?_)
   refine Zy ?_
   refine VC.keep (ρ':=[(6,.bool false)]) [6] rfl ?_
   replace hS:=gA hS hK1
   cases hS
   exact Ze
  refine Zk ?_
  refine VC.keep (ρ':=[(1,xU.val),(2,.func (.func 215) #[] #[]),(15,qW.val),(16,i64 (qW.l.length:Int)),(17,i64 DU)]) [1,2,15,16,17] rfl ?_
  refine Zr ?_
  obtain ⟨b31,hS⟩:=bU hS
  refine Zu (cR rfl rfl b31) ?_
  refine Zm ?_
  refine VL.iP (DU+1) [1,2,15,16,17] (fun _ _ h=>h) (go2 hS hK1) rfl
 replace hS:=gA hS hK1
 refine Zx ?_
 refine Zq (Zr ?_)
 refine Zy ?_
 cases hS
 exact Ze
theorem VO (cX:Sv aI) (b_1:Sv aI) {r:Bool} (hS:Sh.M4 cX.l b_1.l=some r) :
 Ct Tryz.prog 146 [cX.val,b_1.val] (cX.ok.and b_1.ok) (Ow.emp) (X:=Unit) (fun _ => .bool r) (fun _=>True) (fun _=>Mo.tt) (fun _=>Ow.emp):=by
 refine Zo Tryz.func146 Tryz.ntmps146 fun c => ?_
 unfold Sh.M4 at hS
 refine Zq (Zr ?_)
 refine Zy ?_
 refine Zq (Zr ?_)
 refine Zy ?_
 obtain ⟨iD,kL,hS⟩:=aK hS
 refine Zu (bZ (oF cX b_1 kL) rfl (fun _ _=>rfl)) ?_
 refine Zy ?_
 cases hS
 exact Ze
theorem aKJ (aA:cF) (fD:bB) {r:bR×eY} (hS:Sh.aDa aA.pl fD=some r) :
 Ct Tryz.prog 98 [.agg (aH aA).toArray,str fD] (aA.bH.ok.and (aA.aX.ok.and (aA.bQ.ok.and (aA.aN.ok.and (aA.aR.ok.and (aA.aO.ok.and (aA.aS.ok.and (aA.bC.ok.and (aA.bE.ok.and (aA.bT.ok.and aA.bJ.ok)))))))))) (Ow.emp) (X:=cF×Er) (fun x => .tuple #[.agg (bM.enc x.1).toArray,x.2.val]) (fun x=>r=(x.1.pl,x.2.pl)) (fun x=>(x.1.m.and x.2.ok)) (fun x=>Ow.emp):=by
 refine Zo Tryz.func98 Tryz.ntmps98 fun c => ?_
 unfold Sh.aDa at hS
 refine Zq (Zr ?_)
 refine VL.box (cs:=(aH aA)) rfl rfl (by decide) fun dQ => ?_
 refine VL.alloc (cs:=[.slice none 0 0,.slice none 0 0,.slice none 0 0,str [],i64 0,str [],i64 0,str [],.slice none 0 0,.slice none 0 0,i64 0,str [],str [],i64 0,.slice none 0 0,.slice none 0 0,.slice none 0 0,.slice none 0 0,.slice none 0 0,.slice none 0 0,i64 0]) (by kernel_rfl) (by decide) fun oS => ?_
 refine Zy ?_
 refine Zq (Zr ?_)
 refine Zm ?_
 refine VL.lit (α:=bB) (xs:=[.tmp 12]) (vs:=[str fD]) [fD] Tryz.underlying62 x4 (by decide) rfl rfl rfl rfl (by decide) (fun _ _ _ _=>trivial) (by decide) (fun L6 aJd => ?_) (by decide)
 replace hS:=bV aJd hS
 refine Zy ?_
 refine Zq (Zr ?_)
 refine Zu (aB eC rfl) ?_
 refine Zu (aB tI rfl) ?_
 refine Zu (aJ jS rfl rfl) ?_
 refine Zm ?_
 obtain ⟨mR,RK,hS⟩:=aK hS
 refine Zu (bZ (rW aA.bH fD RK) rfl (fun _ _=>rfl)) ?_
 refine Zm ?_
 refine Zu (aW rfl rfl) ?_
 refine Zu (aW rfl rfl) ?_
 refine VL.alloc (cs:=[str [],i64 0,str []]) (by kernel_rfl) (by decide) fun D5 => ?_
 refine Zv (cs':=[str mR.1.path,i64 mR.1.mode,str mR.1.data]) rfl fS ?_
 refine Zy ?_
 refine VC.keep (ρ':=[(1,str fD),(2,ptr dQ 0),(4,ptr oS 0),(6,L6.val),(8,.bool mR.2)]) [1,2,4,6,8] rfl ?_
 refine Zq (Zb (Zq (Zr ?_)))
 refine Zy ?_
 refine Zc hS (fun h22 hS => ?_) (fun h22 hS => ?_)
 ·
  cases hS
 refine VC.gK (S:=Bool) (fun (XM:Bool)=>XM) (fun (XM:Bool)=>[(2,ptr dQ 0),(4,ptr oS 0),(6,L6.val),(32,.bool XM)]) (fun (XM:Bool)=>Mo.tt) (fun (XM:Bool)=>Ow.star (bD D5 [str mR.1.path,i64 mR.1.mode,str mR.1.data] 36) (Ow.star (bD oS [.slice none 0 0,.slice none 0 0,.slice none 0 0,str [],i64 0,str [],i64 0,str [],.slice none 0 0,.slice none 0 0,i64 0,str [],str [],i64 0,.slice none 0 0,.slice none 0 0,.slice none 0 0,.slice none 0 0,.slice none 0 0,.slice none 0 0,i64 0] 66) (Ow.star (bD dQ (aH aA) 66) (Ow.emp)))) hS ?_ ?_
 ·
  clear hS
  intro k8 hS
  refine Zr ?_
  refine Zm ?_
  refine Zu (lQ rfl) ?_
  refine Zm ?_
  refine vV 35 hS (fun h35 hS => ?_) (fun h35 hS => ?_)
  ·
   refine Zh (aB eC rfl) ?_
   refine Zh (aB rI rfl) ?_
   refine Zh (aJ nG rfl rfl) ?_
   refine Zg ?_
   obtain ⟨aO7,a0m,hS⟩:=aK hS
   refine Zh (bZ (aGi aA.aX fD a0m) rfl (fun _ _=>rfl)) ?_
   refine Zh (lQ rfl) ?_
   refine Zy ?_
   refine VL.mt (!aO7) [2,4,6,32] (fun _ _ h=>h) hS rfl
  refine VL.runs 8 [(32,some false)] (by kernel_rfl) ?_
  refine VL.mt false [2,4,6,32] (fun _ _ h=>h) hS rfl
 clear hS
 rintro XM hS
 refine iL hS (fun h32 hS => ?_) (fun h32 hS => ?_)
 ·
  refine Zq ?_
  cases hS
 refine Zk ?_
 refine Zq (Zr ?_)
 refine Zu (cD cL rfl rfl) ?_
 refine VL.alloc (cs:=[.slice none 0 0,.slice none 0 0,.slice none 0 0,str [],i64 0,str [],i64 0,str [],.slice none 0 0,.slice none 0 0,i64 0,str [],str [],i64 0,.slice none 0 0,.slice none 0 0,.slice none 0 0,.slice none 0 0,.slice none 0 0,.slice none 0 0,i64 0]) (by kernel_rfl) (by decide) fun aIs => ?_
 refine Zv (cs':=(aH aA)) rfl gG ?_
 refine Zl ?_
 refine Zq (Zq (Zr ?_))
 refine Zm ?_
 refine Zu (dX (s:=L6) Tryz.underlying62 rfl) ?_
 refine Zy ?_
 refine Zb ?_
 refine VC.iter (S:=Int×Sv aI) (fun sg=>(sg.1,sg.2.l)) (fun sg=>[(2,ptr dQ 0),(4,ptr oS 0),(9,ptr aIs 0),(46,L6.val),(47,i64 (L6.l.length:Int)),(48,i64 sg.1)]) (fun sg=>sg.2.ok) (fun sg=>Ow.star (bD aIs [aA.bH.val,sg.2.val,aA.bQ.val,str aA.aQ,i64 aA.aG,str aA.bK,i64 aA.bI,str aA.bP,aA.aN.val,aA.aR.val,i64 aA.bO,str aA.aZ,str aA.aL,i64 aA.aM,aA.aO.val,aA.aS.val,aA.bC.val,aA.bE.val,aA.bT.val,aA.bJ.val,i64 aA.time] 66) (Ow.star (bD D5 [str mR.1.path,i64 mR.1.mode,str mR.1.data] 36) (Ow.star (bD oS [.slice none 0 0,.slice none 0 0,.slice none 0 0,str [],i64 0,str [],i64 0,str [],.slice none 0 0,.slice none 0 0,i64 0,str [],str [],i64 0,.slice none 0 0,.slice none 0 0,.slice none 0 0,.slice none 0 0,.slice none 0 0,.slice none 0 0,i64 0] 66) (Ow.star (bD dQ (aH aA) 66) (Ow.emp))))) (0,aA.aX) [2,4,9,46,47,48] hS rfl ?_
 clear hS
 rintro ⟨S1,KS⟩ m1 y1 hS hK1
 refine Zq (Zr ?_)
 refine Zu (c4 rfl rfl) ?_
 refine Zl ?_
 refine Zq ?_
 refine Zc hS (fun h49 hS => ?_) (fun h49 hS => ?_)
 ·
  refine Zk ?_
  refine Zq (Zb (Zq (Zr ?_)))
  obtain ⟨aKx,aMZ,aLj,hS⟩:=c6 hS
  refine Zu (e8 (s:=L6) Tryz.underlying62 vA rfl rfl aMZ (bN aMZ aLj)) ?_
  refine Zu (q9 (s:=L6) dD rfl aLj rfl) ?_
  refine Zy ?_
  refine Zr ?_
  refine Zu (aB eC rfl) ?_
  refine Zu (aB rI rfl) ?_
  refine Zu (aJ nG rfl rfl) ?_
  refine Zu (aB eC rfl) ?_
  refine Zu (aB tI rfl) ?_
  refine Zu (aJ jS rfl rfl) ?_
  refine Zm ?_
  obtain ⟨aRc,aVY,hS⟩:=aK hS
  refine VL.cU (aHj KS aA.bH aKx aVY) rfl (by decide) ?_
  rintro aI8 rfl
  try dsimp only
  refine Zu (aB eC rfl) ?_
  refine Zu (aB rI rfl) ?_
  refine Zv (cs':=[aA.bH.val,aI8.val,aA.bQ.val,str aA.aQ,i64 aA.aG,str aA.bK,i64 aA.bI,str aA.bP,aA.aN.val,aA.aR.val,i64 aA.bO,str aA.aZ,str aA.aL,i64 aA.aM,aA.aO.val,aA.aS.val,aA.bC.val,aA.bE.val,aA.bT.val,aA.bJ.val,i64 aA.time]) rfl aNo ?_
  refine Zl ?_
  refine VC.keep (ρ':=[(2,ptr dQ 0),(4,ptr oS 0),(9,ptr aIs 0),(46,L6.val),(47,i64 (L6.l.length:Int)),(48,i64 S1)]) [2,4,9,46,47,48] rfl ?_
  refine Zr ?_
  obtain ⟨b62,hS⟩:=bU hS
  refine Zu (cR rfl rfl b62) ?_
  refine Zm ?_
  refine VL.iP ((S1+1),aI8) [2,4,9,46,47,48] (fun _ _ h=>h) (go2 hS hK1) rfl
 replace hS:=gA hS hK1
 refine Zx ?_
 refine Zq (Zb (Zq (Zr ?_)))
 refine Zu (aB eC rfl) ?_
 refine Zu (aB rI rfl) ?_
 refine Zu (aJ nG rfl rfl) ?_
 refine Zu (aB eC rfl) ?_
 refine Zu (aB rI rfl) ?_
 refine Zu (aJ nG rfl rfl) ?_
 obtain ⟨aKn,aVa,hS⟩:=aK hS
 refine Zu (bZ (VO KS aA.aX aVa) rfl (fun _ _=>rfl)) ?_
 refine Zy ?_
 refine VC.keep (ρ':=[(2,ptr dQ 0),(4,ptr oS 0),(9,ptr aIs 0),(63,.bool aKn)]) [2,4,9,63] rfl ?_
 refine iL hS (fun h63 hS => ?_) (fun h63 hS => ?_)
 ·
  refine Zq ?_
  cases hS
 refine Zq (Zr ?_)
 refine Zu (aB eC rfl) ?_
 refine Zu (aB rI rfl) ?_
 refine Zu (aJ nG rfl rfl) ?_
 refine Zu (dX (s:=KS) Tryz.underlying50 rfl) ?_
 refine Zu (iZ rfl rfl) ?_
 refine Zy ?_
 refine Zc hS (fun h73 hS => ?_) (fun h73 hS => ?_)
 ·
  refine Zq ?_
  cases hS
 refine Zk ?_
 refine Zq (Zr ?_)
 refine Zu (cD cL rfl rfl) ?_
 refine Zv (cs':=[aA.bH.val,KS.val,aA.bQ.val,str aA.aQ,i64 aA.aG,str aA.bK,i64 aA.bI,str aA.bP,aA.aN.val,aA.aR.val,i64 aA.bO,str aA.aZ,str aA.aL,i64 aA.aM,aA.aO.val,aA.aS.val,aA.bC.val,aA.bE.val,aA.bT.val,aA.bJ.val,i64 aA.time]) rfl gG ?_
 refine Zy ?_
 refine VC.keep (ρ':=[(4,ptr oS 0),(5,.nilIface)]) [4,5] rfl ?_
 cases hS
 exact VC.ret (hG (vs:=[.agg #[aA.bH.val,KS.val,aA.bQ.val,str aA.aQ,i64 aA.aG,str aA.bK,i64 aA.bI,str aA.bP,aA.aN.val,aA.aR.val,i64 aA.bO,str aA.aZ,str aA.aL,i64 aA.aM,aA.aO.val,aA.aS.val,aA.bC.val,aA.bE.val,aA.bT.val,aA.bJ.val,i64 aA.time],.nilIface]) (.inr rfl) rfl (dS.cell cL rfl rfl Rd.blk (dS.tmp rfl (dS.nil))) (⟨aA.bH,KS,aA.bQ,aA.aQ,aA.aG,aA.bK,aA.bI,aA.bP,aA.aN,aA.aR,aA.bO,aA.aZ,aA.aL,aA.aM,aA.aO,aA.aS,aA.bC,aA.bE,aA.bT,aA.bJ,aA.time⟩,.nil) rfl rfl (by (try dsimp only); exact cA.out) (fun _ _=>trivial))
theorem T5 (gS:Sv aI) (n_1:Int) {r:List aC} (hS:Sh.JU gS.l n_1=some r) :
 Ct Tryz.prog 147 [gS.val,i64 n_1] gS.ok (Ow.emp) (X:=Sv aC) (fun x=>x.val) (fun x=>r=x.l) (fun x=>x.ok) (fun x=>Ow.emp):=by
 refine Zo Tryz.func147 Tryz.ntmps147 fun c => ?_
 unfold Sh.JU at hS
 refine Zq (Zr ?_)
 refine Zy ?_
 refine Zq (Zr ?_)
 refine Zy ?_
 refine Zq (Zq (Zr ?_))
 refine Zm ?_
 refine Zu (dX (s:=gS) Tryz.underlying50 rfl) ?_
 refine Zy ?_
 refine Zb ?_
 refine VC.kH (⟨none,0,[]⟩:Sv aC) 36 ⟨rfl,rfl⟩ ?_
 refine VC.iter (S:=Sv aC×Int) (fun sg=>(sg.1.l,sg.2)) (fun sg=>[(1,i64 n_1),(5,sg.1.val),(8,gS.val),(9,i64 (gS.l.length:Int)),(10,i64 sg.2)]) (fun sg=>Mo.tt) (fun sg=>Ow.star (Sv.own sg.1 36) (Ow.emp)) (⟨none,0,[]⟩,0) [1,5,8,9,10] hS rfl ?_
 clear hS
 rintro ⟨HO,MH⟩ m1 y1 hS hK1
 refine Zq (Zr ?_)
 refine Zu (c4 rfl rfl) ?_
 refine Zl ?_
 refine Zq ?_
 refine Zc hS (fun h11 hS => ?_) (fun h11 hS => ?_)
 ·
  refine Zk ?_
  refine Zq (Zb (Zq (Zr ?_)))
  obtain ⟨tZ,aPk,aPK,hS⟩:=c6 hS
  refine Zu (e8 (s:=gS) Tryz.underlying50 iN rfl rfl aPk (bN aPk aPK)) ?_
  refine Zu (nR (s:=gS) oV rfl rfl aPK) ?_
  refine VL.alloc (cs:=[str [],i64 0,i64 0,str [],i64 0,i64 0]) (by kernel_rfl) (by decide) fun aEv => ?_
  refine Zv (cs':=[str tZ.path,i64 tZ.gY,i64 tZ.mode,str tZ.data,i64 tZ.time,i64 tZ.size]) rfl iN ?_
  refine Zl ?_
  refine Zq (Zr ?_)
  refine Zu (aB G1 rfl) ?_
  refine Zu (aJ eP rfl rfl) ?_
  refine Zm ?_
  refine Zu (gV rfl rfl) ?_
  refine Zl ?_
  refine Zc hS (fun h17 hS => ?_) (fun h17 hS => ?_)
  ·
   refine Zr ?_
   refine Zm ?_
   refine Zu (aB wQ rfl) ?_
   refine Zu (aJ dD rfl rfl) ?_
   refine Zu (aB X7 rfl) ?_
   refine Zu (aJ eP rfl rfl) ?_
   refine Zu (aB X8 rfl) ?_
   refine Zu (aJ dD rfl rfl) ?_
   refine Zu (eN (vs:=[(0,str tZ.path),(1,i64 tZ.mode),(2,str tZ.data)]) (cs := #[str tZ.path,i64 tZ.mode,str tZ.data]) rfl (by kernel_rfl)) ?_
   refine VL.lit (α:=aC) (xs:=[.tmp 25]) (vs:=[.agg #[str tZ.path,i64 tZ.mode,str tZ.data]]) [⟨tZ.path,tZ.mode,tZ.data⟩] Tryz.underlying23 X9 (by decide) rfl rfl rfl rfl (by decide) (fun _ _ _ _=>trivial) (by decide) (fun a5x a1b => ?_) (by decide)
   replace hS:=bV a1b hS
   obtain ⟨b27,hS⟩:=bU hS
   refine VL.app (s:=HO) (r:=a5x) Tryz.underlying23 RO (by decide) rfl Fo.out (sU b27) (sV b27 (by decide)) (by decide) (fun OB aJi => ?_)
   replace hS:=bV aJi hS
   refine Zy ?_
   refine VC.keep (ρ':=[(1,i64 n_1),(5,OB.val),(8,gS.val),(9,i64 (gS.l.length:Int)),(10,i64 MH)]) [1,5,8,9,10] rfl ?_
   refine Zr ?_
   obtain ⟨b28,hS⟩:=bU hS
   refine Zu (cR rfl rfl b28) ?_
   refine Zm ?_
   refine VL.iP (OB,(MH+1)) [1,5,8,9,10] (fun _ _ h=>h) (go2 hS hK1) rfl
  refine Zk ?_
  refine VC.keep (ρ':=[(1,i64 n_1),(5,HO.val),(8,gS.val),(9,i64 (gS.l.length:Int)),(10,i64 MH)]) [1,5,8,9,10] rfl ?_
  refine Zr ?_
  obtain ⟨b28,hS⟩:=bU hS
  refine Zu (cR rfl rfl b28) ?_
  refine Zm ?_
  refine VL.iP (HO,(MH+1)) [1,5,8,9,10] (fun _ _ h=>h) (go2 hS hK1) rfl
 replace hS:=gA hS hK1
 refine Zx ?_
 refine Zq (Zr ?_)
 refine Zm ?_
 refine VL.shut HO 36 (fun _ _ _ _=>trivial) ?_
 obtain ⟨s5,xY,hS⟩:=aK hS
 refine VL.cU (e7 HO xY) rfl (by decide) ?_
 rintro nO rfl
 try dsimp only
 refine Zy ?_
 cases hS
 exact VC.ret (eB (.inr rfl) rfl rfl nO rfl rfl (by (try dsimp only); exact cA.out) (fun _ _=>trivial))
theorem WR (s:Sv bB) (hb:s.l.length≤4294967296):Ct Tryz.prog 222 [s.val] Mo.tt (s.own 9) (X:=Sv bB) (fun _ => .tuple #[]) (fun q=>q.l=Go.S.uR s.l∧q.val=s.val) (fun _=>Mo.tt) (fun q=>q.own 9) :=
  Ct.sort (O5 Tryz.func222 rfl (by kernel_rfl)) (fun blk off cap ss w hH hb hs=>Tryz.slices_Sort_string blk off cap ss w hH hb hs) (fun p cap w=>Tryz.slices_Sort_string_none p cap w) s 9 hb
theorem KZ (s:Sv bB) (hb:s.l.length≤4294967296):Ct Tryz.prog 223 [s.val] Mo.tt (s.own 9) (X:=Sv bB) (fun q=>q.val) (fun q=>q.l=Go.S.q5 s.l) (fun _=>Mo.tt) (fun q=>q.own 9) :=
  Ct.compact (O5 Tryz.func223 rfl (by kernel_rfl)) (fun blk off cap ss w hH hb hs=>Tryz.slices_Compact_string blk off cap ss w hH hb hs) (fun p cap w=>Tryz.slices_Compact_string_empty p cap w) s 9 hb
theorem B3 (gS:Sv aI) {r:List bB} (hS:Sh.wS gS.l=some r) :
 Ct Tryz.prog 152 [gS.val] gS.ok (Ow.emp) (X:=Sv bB) (fun x=>x.val) (fun x=>r=x.l) (fun x=>x.ok) (fun x=>Ow.emp):=by
 refine Zo Tryz.func152 Tryz.ntmps152 fun c => ?_
 unfold Sh.wS at hS
 refine Zq (Zr ?_)
 refine Zy ?_
 refine Zq (Zr ?_)
 refine Zy ?_
 refine Zq (Zq (Zr ?_))
 refine Zm ?_
 refine Zu (dX (s:=gS) Tryz.underlying50 rfl) ?_
 refine Zy ?_
 refine Zb ?_
 refine VC.iter (S:=Int) (fun (cG:Int)=>cG) (fun (cG:Int)=>[(3,.slice none 0 0),(6,gS.val),(7,i64 (gS.l.length:Int)),(8,i64 cG)]) (fun (cG:Int)=>Mo.tt) (fun (cG:Int)=>Ow.emp) 0 [3,6,7,8] hS rfl ?_
 clear hS
 rintro cG m1 y1 hS hK1
 refine Zq (Zr ?_)
 refine Zu (c4 rfl rfl) ?_
 refine Zl ?_
 refine Zq ?_
 refine Zc hS (fun h9 hS => ?_) (fun h9 hS => ?_)
 ·
  refine Zk ?_
  refine Zq (Zb (Zq (Zr ?_)))
  obtain ⟨HK,aBe,aB1,hS⟩:=c6 hS
  refine Zu (e8 (s:=gS) Tryz.underlying50 iN rfl rfl aBe (bN aBe aB1)) ?_
  refine Zu (nR (s:=gS) oV rfl rfl aB1) ?_
  refine VL.alloc (cs:=[str [],i64 0,i64 0,str [],i64 0,i64 0]) (by kernel_rfl) (by decide) fun wN => ?_
  refine Zv (cs':=[str HK.path,i64 HK.gY,i64 HK.mode,str HK.data,i64 HK.time,i64 HK.size]) rfl iN ?_
  refine Zl ?_
  refine Zq (Zr ?_)
  refine Zu (aB G1 rfl) ?_
  refine Zu (aJ eP rfl rfl) ?_
  refine Zu (yY rfl rfl) ?_
  refine Zl ?_
  refine rE hS (fun h14 hS => ?_) (fun h14 hS => ?_)
  ·
   cases hS
  refine Zk ?_
  refine VC.keep (ρ':=[(3,.slice none 0 0),(6,gS.val),(7,i64 (gS.l.length:Int)),(8,i64 cG)]) [3,6,7,8] rfl ?_
  refine Zr ?_
  obtain ⟨b20,hS⟩:=bU hS
  refine Zu (cR rfl rfl b20) ?_
  refine Zm ?_
  refine VL.iP (cG+1) [3,6,7,8] (fun _ _ h=>h) (go2 hS hK1) rfl
 replace hS:=gA hS hK1
 refine Zx ?_
 refine Zq (Zr ?_)
 refine Zm ?_
 refine VL.kH (⟨none,0,[]⟩:Sv bB) 9 ⟨rfl,rfl⟩ ?_
 obtain ⟨b22,hS⟩:=bU hS
 refine VL.bS (WR (⟨none,0,[]⟩:Sv bB) b22) rfl (by decide) ?_
 rintro a7C ⟨a1l,a6v⟩
 try dsimp only
 replace hS:=bV a1l hS
 refine Zl ?_
 refine Zq (Zr ?_)
 refine Zm ?_
 refine VL.kH (⟨none,0,[]⟩:Sv bB) 9 ⟨rfl,rfl⟩ ?_
 obtain ⟨b24,hS⟩:=bU hS
 refine VL.bS (KZ (⟨none,0,[]⟩:Sv bB) b24) rfl (by decide) ?_
 rintro aYx a1m
 try dsimp only
 replace hS:=bV a1m hS
 refine VL.shut aYx 9 (fun _ _ _ _=>trivial) ?_
 obtain ⟨aZL,a0V,hS⟩:=aK hS
 refine VL.cU (jO aYx a0V) rfl (by decide) ?_
 rintro aMi rfl
 try dsimp only
 refine Zy ?_
 refine VC.keep (ρ':=[(2,aMi.val)]) [2] rfl ?_
 cases hS
 exact VC.ret (eB (.inr rfl) rfl rfl aMi rfl rfl (by (try dsimp only); exact cA.out) (fun _ _=>trivial))
theorem aHo (aA:cF) (zQ:Int) {r:Bool} (hS:Sh.aA8 aA.pl zQ=some r) :
 Ct Tryz.prog 291 [.agg (aH aA).toArray,i64 zQ] (aA.bH.ok.and (aA.aX.ok.and (aA.bQ.ok.and (aA.aN.ok.and (aA.aR.ok.and (aA.aO.ok.and (aA.aS.ok.and (aA.bC.ok.and (aA.bE.ok.and (aA.bT.ok.and aA.bJ.ok)))))))))) (Ow.emp) (X:=Unit) (fun _ => .bool r) (fun _=>True) (fun _=>Mo.tt) (fun _=>Ow.emp):=by
 refine Zo Tryz.func291 Tryz.ntmps291 fun c => ?_
 unfold Sh.aA8 at hS
 refine Zq (Zr ?_)
 refine VL.box (cs:=(aH aA)) rfl rfl (by decide) fun dQ => ?_
 refine Zy ?_
 refine Zq (Zr ?_)
 refine Zm ?_
 refine Zu (sK rfl rfl) ?_
 refine Zm ?_
 refine pL 7 hS (fun h7 hS => ?_) (fun h7 hS => ?_)
 ·
  refine Zg ?_
  refine Zh (aB nA rfl) ?_
  refine Zh (aJ sW rfl rfl) ?_
  refine Zh (oN cI.pl (s:=aA.bE) Tryz.underlying61 rfl) ?_
  refine Zh (aAW rfl rfl) ?_
  refine Zy ?_
  refine VC.keep (ρ':=[(4,.bool (decide (zQ≤((aA.bE.l.map cI.pl).length:Int))))]) [4] rfl ?_
  cases hS
  exact Ze
 refine VL.runs 7 [(4,some false)] (by kernel_rfl) ?_
 refine Zl ?_
 cases hS
 exact Ze
theorem AR (aA:cF) (l6:Int) {r:List aC} (hS:Sh.EA aA.pl l6=some r) :
 Ct Tryz.prog 216 [.agg (aH aA).toArray,i64 l6] (aA.bH.ok.and (aA.aX.ok.and (aA.bQ.ok.and (aA.aN.ok.and (aA.aR.ok.and (aA.aO.ok.and (aA.aS.ok.and (aA.bC.ok.and (aA.bE.ok.and (aA.bT.ok.and aA.bJ.ok)))))))))) (Ow.emp) (X:=Sv aC) (fun x=>x.val) (fun x=>r=x.l) (fun x=>x.ok) (fun x=>Ow.emp):=by
 refine Zo Tryz.func216 Tryz.ntmps216 fun c => ?_
 unfold Sh.EA at hS
 refine Zq (Zr ?_)
 refine VL.box (cs:=(aH aA)) rfl rfl (by decide) fun dQ => ?_
 refine Zy ?_
 refine Zq (Zq (Zr ?_))
 refine Zu (cD cL rfl rfl) ?_
 refine Zm ?_
 obtain ⟨xO,DG,hS⟩:=aK hS
 refine Zu (bZ (aHo aA l6 DG) rfl (fun _ _=>rfl)) ?_
 refine Zu (lQ rfl) ?_
 refine Zl ?_
 refine iL hS (fun h8 hS => ?_) (fun h8 hS => ?_)
 ·
  refine Zq (Zr ?_)
  refine Zy ?_
  cases hS
  exact VC.ret (eB (.inr rfl) rfl rfl ⟨none,0,[]⟩ rfl rfl (by (try dsimp only); exact cA.out) (fun _ _=>trivial))
 refine Zk ?_
 refine Zq (Zr ?_)
 refine Zu (aB nA rfl) ?_
 refine Zu (aJ sW rfl rfl) ?_
 refine Zm ?_
 obtain ⟨b12,hS⟩:=bU hS
 refine Zu (qK rfl rfl b12) ?_
 obtain ⟨nW,FE,zM,hS⟩:=DD hS
 refine VL.deep nW.m zM (fun _ q=>q) ?_
 refine Zu (e8 (s:=aA.bE) Tryz.underlying61 aAO rfl rfl FE (bN FE zM)) ?_
 refine Zu (aB aL1 rfl) ?_
 refine Zu (FT (s:=aA.bE) jS rfl zM rfl) ?_
 obtain ⟨kS,BE,hS⟩:=aK hS
 refine VL.bS (iQ nW.tree BE) rfl (by decide) ?_
 rintro aMb rfl
 try dsimp only
 refine VL.shut aMb 36 (fun _ _ _ _=>trivial) ?_
 obtain ⟨HG,RI,hS⟩:=aK hS
 refine VL.cU (e7 aMb RI) rfl (by decide) ?_
 rintro LX rfl
 try dsimp only
 refine Zy ?_
 refine VC.keep (ρ':=[(4,LX.val)]) [4] rfl ?_
 cases hS
 exact VC.ret (eB (.inr rfl) rfl rfl LX rfl rfl (by (try dsimp only); exact cA.out) (fun _ _=>trivial))
theorem HR (aA:cF) {r:List aC} (hS:Sh.G8 aA.pl=some r) :
 Ct Tryz.prog 149 [.agg (aH aA).toArray] (aA.bH.ok.and (aA.aX.ok.and (aA.bQ.ok.and (aA.aN.ok.and (aA.aR.ok.and (aA.aO.ok.and (aA.aS.ok.and (aA.bC.ok.and (aA.bE.ok.and (aA.bT.ok.and aA.bJ.ok)))))))))) (Ow.emp) (X:=Sv aC) (fun x=>x.val) (fun x=>r=x.l) (fun x=>x.ok) (fun x=>Ow.emp):=by
 refine Zo Tryz.func149 Tryz.ntmps149 fun c => ?_
 unfold Sh.G8 at hS
 refine Zq (Zr ?_)
 refine VL.box (cs:=(aH aA)) rfl rfl (by decide) fun fE => ?_
 refine Zy ?_
 refine Zq (Zr ?_)
 refine Zu (cD cL rfl rfl) ?_
 refine Zu (aB eC rfl) ?_
 refine Zu (aB pO rfl) ?_
 refine Zu (aB E9 rfl) ?_
 refine Zu (aJ eP rfl rfl) ?_
 obtain ⟨iT,tG,hS⟩:=aK hS
 refine VL.cU (AR aA aA.aG tG) rfl (by decide) ?_
 rintro jT rfl
 try dsimp only
 refine Zy ?_
 cases hS
 exact VC.ret (eB (.inr rfl) rfl rfl jT rfl rfl (by (try dsimp only); exact cA.out) (fun _ _=>trivial))
theorem BR (qW:Sv aC) (xU:Sv aC) {r:Bool} (hS:Sh.jL qW.l xU.l=some r) :
 Ct Tryz.prog 35 [qW.val,xU.val] (qW.ok.and xU.ok) (Ow.emp) (X:=Unit) (fun _ => .bool r) (fun _=>True) (fun _=>Mo.tt) (fun _=>Ow.emp):=by
 refine Zo Tryz.func35 Tryz.ntmps35 fun c => ?_
 unfold Sh.jL at hS
 refine Zq (Zr ?_)
 refine Zy ?_
 refine Zq (Zq (Zr ?_))
 refine Zm ?_
 refine Zu (dX (s:=qW) Tryz.underlying23 rfl) ?_
 refine Zm ?_
 refine Zu (dX (s:=xU) Tryz.underlying23 rfl) ?_
 refine Zu (yY rfl rfl) ?_
 refine Zl ?_
 refine rE hS (fun h10 hS => ?_) (fun h10 hS => ?_)
 ·
  refine Zq (Zr ?_)
  refine Zy ?_
  cases hS
  exact Ze
 refine Zk ?_
 refine Zq (Zq (Zr ?_))
 refine Zm ?_
 refine Zu (dX (s:=qW) Tryz.underlying23 rfl) ?_
 refine Zy ?_
 refine VC.keep (ρ':=[(0,qW.val),(1,xU.val),(12,i64 (qW.l.length:Int)),(13,i64 0)]) [0,1,12,13] rfl ?_
 refine Zb ?_
 refine VC.iter (S:=Int) (fun (GA:Int)=>GA) (fun (GA:Int)=>[(0,qW.val),(1,xU.val),(12,i64 (qW.l.length:Int)),(13,i64 GA)]) (fun (GA:Int)=>Mo.tt) (fun (GA:Int)=>Ow.emp) 0 [0,1,12,13] hS rfl ?_
 clear hS
 rintro GA m1 y1 hS hK1
 refine Zq (Zr ?_)
 refine Zu (c4 rfl rfl) ?_
 refine Zl ?_
 refine Zq ?_
 refine Zc hS (fun h14 hS => ?_) (fun h14 hS => ?_)
 ·
  refine Zk ?_
  refine Zq (Zb (Zq (Zr ?_)))
  refine Zy ?_
  refine Zq ?_
  refine VC.draw ((List.range 9).map fun k=>(k,true)) mixed (by kernel_rfl) (by kernel_rfl) (by kernel_rfl) ?_
  refine Zw rfl (bA rfl) ?_
  refine Zw rfl (bA rfl) ?_
  obtain ⟨D1,aE1,aEY,hS⟩:=c6 hS
  refine Zw rfl (e8 (s:=qW) Tryz.underlying23 fS rfl rfl aE1 (bN aE1 aEY)) ?_
  refine Zw rfl (nR (s:=qW) jZ rfl rfl aEY) ?_
  refine Zw rfl (bA rfl) ?_
  refine Zw rfl (bA rfl) ?_
  obtain ⟨D2,aBi,YC,hS⟩:=c6 hS
  refine Zw rfl (e8 (s:=xU) Tryz.underlying23 fS rfl rfl aBi (bN aBi YC)) ?_
  refine Zw rfl (nR (s:=xU) jZ rfl rfl YC) ?_
  refine Zw rfl (aGe a0y (a1A D1.path D1.mode D1.data D2.path D2.mode D2.data) rfl rfl) ?_
  refine VD.to (fun _ _ h=>h) ?_
  refine VC.keep (ρ':=[(0,qW.val),(1,xU.val),(12,i64 (qW.l.length:Int)),(13,i64 GA),(24,.bool (!decide (D1.path=D2.path∧D1.mode=D2.mode∧D1.data=D2.data)))]) [0,1,12,13,24] rfl ?_
  refine rE hS (fun h24 hS => ?_) (fun h24 hS => ?_)
  ·
   refine Zq (Zr ?_)
   refine Zy ?_
   replace hS:=gA hS hK1
   cases hS
   exact Ze
  refine Zk ?_
  refine Zr ?_
  obtain ⟨b25,hS⟩:=bU hS
  refine Zu (cR rfl rfl b25) ?_
  refine Zm ?_
  refine VL.iP (GA+1) [0,1,12,13] (fun _ _ h=>h) (go2 hS hK1) rfl
 replace hS:=gA hS hK1
 refine Zx ?_
 refine Zq (Zr ?_)
 refine Zy ?_
 cases hS
 exact Ze
theorem K6 (cJ:Sv aC) (q_1:Sv aC) {r:Bool} (hS:Sh.uV cJ.l q_1.l=some r) :
 Ct Tryz.prog 12 [cJ.val,q_1.val] (cJ.ok.and q_1.ok) (Ow.emp) (X:=Unit) (fun _ => .bool r) (fun _=>True) (fun _=>Mo.tt) (fun _=>Ow.emp):=by
 refine Zo Tryz.func12 Tryz.ntmps12 fun c => ?_
 unfold Sh.uV at hS
 refine Zq (Zr ?_)
 refine Zy ?_
 refine Zq (Zr ?_)
 refine Zy ?_
 obtain ⟨iD,kL,hS⟩:=aK hS
 refine Zu (bZ (BR cJ q_1 kL) rfl (fun _ _=>rfl)) ?_
 refine Zy ?_
 cases hS
 exact Ze
theorem T6 (cJ:eV) (n_1:bB) {r:Int} (hS:Sh.JZ cJ n_1=some r) :
 Ct Tryz.prog 303 [.agg #[str cJ.name,i64 cJ.dO],str n_1] Mo.tt (Ow.emp) (X:=Unit) (fun _=>i64 r) (fun _=>True) (fun _=>Mo.tt) (fun _=>Ow.emp):=by
 refine Zo Tryz.func303 Tryz.ntmps303 fun c => ?_
 unfold Sh.JZ at hS
 refine Zq (Zr ?_)
 refine VL.box (cs:=[str cJ.name,i64 cJ.dO]) rfl rfl (by decide) fun dQ => ?_
 refine Zy ?_
 refine Zq (Zr ?_)
 refine Zu (aB aIE rfl) ?_
 refine Zu (aJ dD rfl rfl) ?_
 refine Zm ?_
 obtain ⟨iT,tG,hS⟩:=aK hS
 refine Zu (bZ (EV cJ.name n_1 tG) rfl (fun _ _=>rfl)) ?_
 refine Zy ?_
 cases hS
 exact Ze
theorem sL (fL:Sv eV) (mD:bB) {r:Int×Bool} (hS:Sh.jD fL.l mD=some r) :
 Ct Tryz.prog 302 [fL.val,str mD,.func (.func 303) #[] #[]] fL.ok (Ow.emp) (X:=Unit) (fun _ => .tuple #[i64 r.1,.bool r.2]) (fun _=>True) (fun _=>Mo.tt) (fun _=>Ow.emp):=by
 refine Zo Tryz.func302 Tryz.ntmps302 fun c => ?_
 unfold Sh.jD at hS
 refine Zq (Zr ?_)
 refine Zy ?_
 refine Zq (Zr ?_)
 refine Zm ?_
 refine Zu (dX (s:=fL) Tryz.underlying51 rfl) ?_
 refine Zy ?_
 refine Zq (Zr ?_)
 refine Zy ?_
 refine Zq (Zb ?_)
 refine VC.iter (S:=Int×Int) (fun sg=>(sg.1,sg.2)) (fun sg=>[(0,fL.val),(1,str mD),(2,.func (.func 303) #[] #[]),(8,i64 (fL.l.length:Int)),(9,i64 sg.1),(10,i64 sg.2)]) (fun sg=>Mo.tt) (fun sg=>Ow.emp) (0,(fL.l.length:Int)) [0,1,2,8,9,10] hS rfl ?_
 clear hS
 rintro ⟨n4,oL⟩ m1 y1 hS hK1
 refine Zq (Zq (Zr ?_))
 refine Zy ?_
 refine Zu (c4 rfl rfl) ?_
 refine Zl ?_
 refine Zc hS (fun h17 hS => ?_) (fun h17 hS => ?_)
 ·
  refine Zk ?_
  refine Zb (Zq (Zr ?_))
  refine Zy ?_
  obtain ⟨b20,hS⟩:=bU hS
  refine Zu (cR rfl rfl b20) ?_
  refine Zu (jK Tryz.underlying3 Tryz.underlying108 rfl) ?_
  refine Zu (yZ rfl rfl (by decide)) ?_
  refine Zu (jK Tryz.underlying108 Tryz.underlying3 rfl) ?_
  refine Zy ?_
  refine VC.keep (ρ':=[(0,fL.val),(1,str mD),(2,.func (.func 303) #[] #[]),(8,i64 (fL.l.length:Int)),(9,i64 n4),(10,i64 oL),(11,i64 (IntKind.wrap .i64 (nD .u64 (IntKind.wrap .u64 (n4+oL)) 1)))]) [0,1,2,8,9,10,11] rfl ?_
  refine Zq (Zr ?_)
  refine Zy ?_
  obtain ⟨aAn,aBj,aB5,hS⟩:=c6 hS
  refine Zu (e8 (s:=fL) Tryz.underlying51 pP rfl rfl aBj (bN aBj aB5)) ?_
  refine Zu (nR (s:=fL) aF6 rfl rfl aB5) ?_
  refine Zm ?_
  obtain ⟨MM,aBM,hS⟩:=aK hS
  refine Zu (IC (T6 aAn mD aBM) rfl rfl (fun _ _=>rfl)) ?_
  refine Zu (c4 rfl rfl) ?_
  refine Zl ?_
  refine VC.keep (ρ':=[(0,fL.val),(1,str mD),(2,.func (.func 303) #[] #[]),(8,i64 (fL.l.length:Int)),(9,i64 n4),(10,i64 oL),(11,i64 (IntKind.wrap .i64 (nD .u64 (IntKind.wrap .u64 (n4+oL)) 1))),(31,.bool (decide (MM < 0)))]) [0,1,2,8,9,10,11,31] rfl ?_
  refine Zc hS (fun h31 hS => ?_) (fun h31 hS => ?_)
  ·
   refine Zr ?_
   refine Zm ?_
   obtain ⟨b33,hS⟩:=bU hS
   refine Zu (cR rfl rfl b33) ?_
   refine Za ?_
   refine VL.iP (((IntKind.wrap .i64 (nD .u64 (IntKind.wrap .u64 (n4+oL)) 1))+1),oL) [0,1,2,8,9,10] (fun _ _ h=>h) (go2 hS hK1) rfl
  refine Zr ?_
  refine Zy ?_
  refine VL.iP (n4,(IntKind.wrap .i64 (nD .u64 (IntKind.wrap .u64 (n4+oL)) 1))) [0,1,2,8,9,10] (fun _ _ h=>h) (go2 hS hK1) rfl
 replace hS:=gA hS hK1
 refine Zx ?_
 refine Zq (Zr ?_)
 refine Zy ?_
 refine Zu (c4 rfl rfl) ?_
 refine Zm ?_
 refine pL 39 hS (fun h39 hS => ?_) (fun h39 hS => ?_)
 ·
  refine Zy ?_
  obtain ⟨aAo,aBk,aB6,hS⟩:=c6 hS
  refine Zh (e8 (s:=fL) Tryz.underlying51 pP rfl rfl aBk (bN aBk aB6)) ?_
  refine Zh (nR (s:=fL) aF6 rfl rfl aB6) ?_
  refine Zg ?_
  obtain ⟨aAk,aJ6,hS⟩:=aK hS
  refine Zh (IC (T6 aAo mD aJ6) rfl rfl (fun _ _=>rfl)) ?_
  refine Zh (gV rfl rfl) ?_
  refine Zy ?_
  refine VC.keep (ρ':=[(6,i64 n4),(7,.bool (decide (aAk=0)))]) [6,7] rfl ?_
  cases hS
  exact VC.ret (s6 (.inr rfl) rfl rfl rfl () rfl trivial (fun _ _=>trivial) (fun _ _=>trivial))
 refine VL.runs 9 [(48,some false)] (by kernel_rfl) ?_
 refine Zy ?_
 refine VC.keep (ρ':=[(6,i64 n4),(7,.bool false)]) [6,7] rfl ?_
 cases hS
 exact VC.ret (s6 (.inr rfl) rfl rfl rfl () rfl trivial (fun _ _=>trivial) (fun _ _=>trivial))
theorem CW (aA:cF) (fD:bB) {r:Int×Bool} (hS:Sh.DP aA.pl fD=some r) :
 Ct Tryz.prog 235 [.agg (aH aA).toArray,str fD] (aA.bH.ok.and (aA.aX.ok.and (aA.bQ.ok.and (aA.aN.ok.and (aA.aR.ok.and (aA.aO.ok.and (aA.aS.ok.and (aA.bC.ok.and (aA.bE.ok.and (aA.bT.ok.and aA.bJ.ok)))))))))) (Ow.emp) (X:=Unit) (fun _ => .tuple #[i64 r.1,.bool r.2]) (fun _=>True) (fun _=>Mo.tt) (fun _=>Ow.emp):=by
 refine Zo Tryz.func235 Tryz.ntmps235 fun c => ?_
 unfold Sh.DP at hS
 refine Zq (Zr ?_)
 refine VL.box (cs:=(aH aA)) rfl rfl (by decide) fun dQ => ?_
 refine Zy ?_
 refine Zq (Zr ?_)
 refine Zu (aB eC rfl) ?_
 refine Zu (aB kZ rfl) ?_
 refine Zu (aJ u6 rfl rfl) ?_
 refine Zm ?_
 obtain ⟨fW,JI,hS⟩:=aK hS
 refine Zu (bZ (sL aA.bQ fD JI) rfl (fun _ _=>rfl)) ?_
 refine Zu (aW rfl rfl) ?_
 refine Zu (aW rfl rfl) ?_
 refine Zy ?_
 refine VC.keep (ρ':=[(4,i64 fW.1),(5,.bool fW.2)]) [4,5] rfl ?_
 cases hS
 exact VC.ret (s6 (.inr rfl) rfl rfl rfl () rfl trivial (fun _ _=>trivial) (fun _ _=>trivial))
theorem aCI (aA:cF) {r:Bool} (hS:Sh.L4 aA.pl=some r) :
 Ct Tryz.prog 241 [.agg (aH aA).toArray] (aA.bH.ok.and (aA.aX.ok.and (aA.bQ.ok.and (aA.aN.ok.and (aA.aR.ok.and (aA.aO.ok.and (aA.aS.ok.and (aA.bC.ok.and (aA.bE.ok.and (aA.bT.ok.and aA.bJ.ok)))))))))) (Ow.emp) (X:=Unit) (fun _ => .bool r) (fun _=>True) (fun _=>Mo.tt) (fun _=>Ow.emp):=by
 refine Zo Tryz.func241 Tryz.ntmps241 fun c => ?_
 unfold Sh.L4 at hS
 refine Zq (Zr ?_)
 refine VL.box (cs:=(aH aA)) rfl rfl (by decide) fun fE => ?_
 refine Zy ?_
 refine Zq (Zr ?_)
 refine Zu (cD cL rfl rfl) ?_
 refine Zu (aB eC rfl) ?_
 refine Zu (aB pO rfl) ?_
 refine Zu (aB UY rfl) ?_
 refine Zu (aJ dD rfl rfl) ?_
 obtain ⟨xN,aBA,hS⟩:=aK hS
 refine Zu (bZ (CW aA aA.aQ aBA) rfl (fun _ _=>rfl)) ?_
 refine Zm ?_
 refine Zu (aW rfl rfl) ?_
 refine Zu (aW rfl rfl) ?_
 refine Zy ?_
 refine VC.keep (ρ':=[(1,ptr fE 0),(4,.bool xN.2)]) [1,4] rfl ?_
 refine Zq (Zr ?_)
 refine Zy ?_
 refine vV 15 hS (fun h15 hS => ?_) (fun h15 hS => ?_)
 ·
  refine VL.runs 14 [(2,some true)] (by kernel_rfl) ?_
  refine Zl ?_
  cases hS
  exact Ze
 refine Zh (aB eC rfl) ?_
 refine Zh (aB pO rfl) ?_
 refine Zh (aB UY rfl) ?_
 refine Zh (aJ dD rfl rfl) ?_
 refine Zh (IX rfl rfl) ?_
 refine Zy ?_
 refine pL 22 hS (fun h22 hS => ?_) (fun h22 hS => ?_)
 ·
  refine VL.runs 7 [(2,some true)] (by kernel_rfl) ?_
  refine Zl ?_
  refine VC.keep (ρ':=[(2,.bool true)]) [2] rfl ?_
  cases hS
  exact Ze
 refine Zh (aB eC rfl) ?_
 refine Zh (aB kZ rfl) ?_
 refine Zh (aJ u6 rfl rfl) ?_
 refine Zh (dX (s:=aA.bQ) Tryz.underlying51 rfl) ?_
 refine Zh (c4 rfl rfl) ?_
 refine Zy ?_
 refine VC.keep (ρ':=[(2,.bool (decide ((aA.bQ.l.length:Int) < 64)))]) [2] rfl ?_
 cases hS
 exact Ze
theorem HS (aA:cF) {r:Bool} (hS:Sh.SN aA.pl=some r) :
 Ct Tryz.prog 224 [.agg (aH aA).toArray] (aA.bH.ok.and (aA.aX.ok.and (aA.bQ.ok.and (aA.aN.ok.and (aA.aR.ok.and (aA.aO.ok.and (aA.aS.ok.and (aA.bC.ok.and (aA.bE.ok.and (aA.bT.ok.and aA.bJ.ok)))))))))) (Ow.emp) (X:=Unit) (fun _ => .bool r) (fun _=>True) (fun _=>Mo.tt) (fun _=>Ow.emp):=by
 refine Zo Tryz.func224 Tryz.ntmps224 fun c => ?_
 unfold Sh.SN at hS
 refine Zq (Zr ?_)
 refine VL.box (cs:=(aH aA)) rfl rfl (by decide) fun fE => ?_
 refine Zy ?_
 refine Zq (Zr ?_)
 refine Zu (aB nA rfl) ?_
 refine Zu (aJ sW rfl rfl) ?_
 refine Zu (oN cI.pl (s:=aA.bE) Tryz.underlying61 rfl) ?_
 refine Zu (c4 rfl rfl) ?_
 refine Zm ?_
 refine pL 7 hS (fun h7 hS => ?_) (fun h7 hS => ?_)
 ·
  refine Zh (cD cL rfl rfl) ?_
  obtain ⟨EE,aAJ,hS⟩:=aK hS
  refine Zh (bZ (aCI aA aAJ) rfl (fun _ _=>rfl)) ?_
  refine Zy ?_
  refine VC.keep (ρ':=[(2,.bool EE)]) [2] rfl ?_
  cases hS
  exact Ze
 refine VL.runs 4 [(2,some false)] (by kernel_rfl) ?_
 refine Zl ?_
 cases hS
 exact Ze
theorem L5 (JV:Int) {r:Bool} (hS:Sh.C8 JV=some r) :
 Ct Tryz.prog 296 [i64 JV] Mo.tt (Ow.emp) (X:=Unit) (fun _ => .bool r) (fun _=>True) (fun _=>Mo.tt) (fun _=>Ow.emp):=by
 refine Zo Tryz.func296 Tryz.ntmps296 fun c => ?_
 unfold Sh.C8 at hS
 refine Zq (Zr ?_)
 refine Zy ?_
 refine Zq (Zr ?_)
 refine Zm ?_
 refine Zu (c4 rfl rfl) ?_
 refine Zy ?_
 cases hS
 exact Ze
theorem I1 (aA:Sv Int) {r:Int} (hS:Sh.uQ aA.l=some r) :
 Ct Tryz.prog 264 [aA.val,.func (.func 296) #[] #[]] aA.ok (Ow.emp) (X:=Unit) (fun _=>i64 r) (fun _=>True) (fun _=>Mo.tt) (fun _=>Ow.emp):=by
 refine Zo Tryz.func264 Tryz.ntmps264 fun c => ?_
 unfold Sh.uQ at hS
 refine Zq (Zr ?_)
 refine Zy ?_
 refine Zq (Zq (Zr ?_))
 refine Zm ?_
 refine Zu (dX (s:=aA) Tryz.underlying32 rfl) ?_
 refine Zy ?_
 refine Zb ?_
 refine VC.iter (S:=Int) (fun (cG:Int)=>cG) (fun (cG:Int)=>[(0,aA.val),(1,.func (.func 296) #[] #[]),(7,i64 (aA.l.length:Int)),(8,i64 cG)]) (fun (cG:Int)=>Mo.tt) (fun (cG:Int)=>Ow.emp) 0 [0,1,7,8] hS rfl ?_
 clear hS
 rintro cG m1 y1 hS hK1
 refine Zq (Zr ?_)
 refine Zu (c4 rfl rfl) ?_
 refine Zl ?_
 refine Zq ?_
 refine Zc hS (fun h9 hS => ?_) (fun h9 hS => ?_)
 ·
  refine Zk ?_
  refine Zq (Zb (Zq (Zr ?_)))
  refine Zy ?_
  refine Zq (Zr ?_)
  refine Zy ?_
  obtain ⟨fV,kV,kU,hS⟩:=c6 hS
  refine Zu (e8 (s:=aA) Tryz.underlying32 u9 rfl rfl kV (bN kV kU)) ?_
  refine Zu (q9 (s:=aA) eP rfl kU rfl) ?_
  obtain ⟨kC,rB,hS⟩:=aK hS
  refine Zu (IC (L5 fV rB) rfl rfl (fun _ _=>rfl)) ?_
  refine Zl ?_
  refine VC.keep (ρ':=[(0,aA.val),(1,.func (.func 296) #[] #[]),(7,i64 (aA.l.length:Int)),(8,i64 cG),(5,i64 cG),(16,.bool kC)]) [0,1,7,8,5,16] rfl ?_
  refine iL hS (fun h16 hS => ?_) (fun h16 hS => ?_)
  ·
   refine Zq (Zr ?_)
   refine Zy ?_
   replace hS:=gA hS hK1
   cases hS
   exact Ze
  refine Zk ?_
  refine Zr ?_
  obtain ⟨b18,hS⟩:=bU hS
  refine Zu (cR rfl rfl b18) ?_
  refine Zm ?_
  refine VL.iP (cG+1) [0,1,7,8] (fun _ _ h=>h) (go2 hS hK1) rfl
 replace hS:=gA hS hK1
 refine Zx ?_
 refine Zq (Zr ?_)
 refine Zy ?_
 cases hS
 exact Ze
theorem IF (aA:Sv Int) {r:List Int} (hS:Sh.tQ aA.l=some r) :
 Ct Tryz.prog 295 [aA.val,.func (.func 296) #[] #[]] Mo.tt (Sv.own aA 3) (X:=Sv Int) (fun x=>x.val) (fun x=>r=x.l) (fun x=>Mo.tt) (fun x=>Sv.own x 3):=by
 refine Zo Tryz.func295 Tryz.ntmps295 fun c => ?_
 unfold Sh.tQ at hS
 refine Zq (Zr ?_)
 refine Zy ?_
 refine Zq (Zr ?_)
 refine Zy ?_
 obtain ⟨c9,nF,hS⟩:=aK hS
 refine Zu (oB (I1 aA nF) rfl (fun _ _=>rfl)) ?_
 refine Zy ?_
 refine Zq (Zq (Zr ?_))
 refine Zm ?_
 refine Zu (gV rfl rfl) ?_
 refine Zl ?_
 refine Zc hS (fun h12 hS => ?_) (fun h12 hS => ?_)
 ·
  refine Zq (Zr ?_)
  refine Zy ?_
  cases hS
  exact VC.ret (eB (.inr rfl) rfl rfl aA rfl rfl (by (try dsimp only); exact cA.out) (by (try dsimp only); exact dJ.out))
 refine Zk ?_
 refine Zq (Zq (Zr ?_))
 refine Zm ?_
 obtain ⟨b15,hS⟩:=bU hS
 refine Zu (cR rfl rfl b15) ?_
 refine Zy ?_
 refine VC.keep (ρ':=[(0,aA.val),(1,.func (.func 296) #[] #[]),(5,i64 c9),(6,i64 (c9+1))]) [0,1,5,6] rfl ?_
 refine Zb ?_
 refine VC.iter (S:=Sv Int×Int×Int) (fun sg=>(sg.1.l,sg.2.1,sg.2.2)) (fun sg=>[(0,sg.1.val),(1,.func (.func 296) #[] #[]),(5,i64 sg.2.1),(6,i64 sg.2.2)]) (fun sg=>Mo.tt) (fun sg=>Ow.star (Sv.own sg.1 3) (Ow.emp)) (aA,c9,(c9+1)) [0,1,5,6] hS rfl ?_
 clear hS
 rintro ⟨fC,gU,mL⟩ m1 y1 hS hK1
 refine Zq (Zq (Zr ?_))
 refine Zy ?_
 refine Zu (dX (s:=fC) Tryz.underlying32 rfl) ?_
 refine Zu (c4 rfl rfl) ?_
 refine Zl ?_
 refine Zc hS (fun h19 hS => ?_) (fun h19 hS => ?_)
 ·
  refine Zk ?_
  refine VC.gK (S:=Sv Int×Int) (fun sg=>(sg.1.l,sg.2)) (fun sg=>[(0,sg.1.val),(1,.func (.func 296) #[] #[]),(5,i64 sg.2),(6,i64 mL)]) (fun sg=>Mo.tt) (fun sg=>Ow.star (Sv.own sg.1 3) (Ow.emp)) hS ?_ ?_
  ·
   clear hS
   intro k7 hS
   refine Zb (Zq (Zr ?_))
   refine Zy ?_
   obtain ⟨dN,zR,zN,hS⟩:=c6 hS
   refine Zu (lJ (s:=fC) Tryz.underlying32 u9 rfl rfl zR (bN zR zN)) ?_
   refine Zu (DN (s:=fC) 3 eP rfl zN rfl) ?_
   refine Zy ?_
   refine VC.keep (ρ':=[(0,fC.val),(1,.func (.func 296) #[] #[]),(5,i64 gU),(6,i64 mL),(7,i64 dN)]) [0,1,5,6,7] rfl ?_
   refine Zq (Zr ?_)
   refine Zy ?_
   obtain ⟨aZP,a01,hS⟩:=aK hS
   refine Zu (IC (L5 dN a01) rfl rfl (fun _ _=>rfl)) ?_
   refine Zu (lQ rfl) ?_
   refine Zl ?_
   refine iL hS (fun h29 hS => ?_) (fun h29 hS => ?_)
   ·
    refine Zq (Zr ?_)
    refine Zy ?_
    obtain ⟨a4P,aMM,aL8,hS⟩:=c6 hS
    refine Zu (lJ (s:=fC) Tryz.underlying32 u9 rfl rfl aMM (bN aMM aL8)) ?_
    refine VL.wD (s:=fC) (T:=3) (j:=0) (vc:=[i64 dN]) (dN:Int) (by decide) rfl rfl aL8 rfl u9 rfl rfl (Nat.le_of_ble_eq_true rfl) rfl (fun w11 hw11 haw11 hcw11 hvw11 hbw11 how11 => ?_)
    rw [← hvw11]
    replace hS:=bV hw11 hS
    refine Zl ?_
    refine VC.keep (ρ':=[(0,w11.val),(1,.func (.func 296) #[] #[]),(5,i64 gU),(6,i64 mL)]) [0,1,5,6] rfl ?_
    refine Zr ?_
    refine Zm ?_
    obtain ⟨b35,hS⟩:=bU hS
    refine Zu (cR rfl rfl b35) ?_
    refine Za ?_
    refine VL.mt (w11,(gU+1)) [0,1,5,6] (fun _ _ h=>h) hS rfl
   refine VC.iC (fC,gU) [0,1,5,6] (fun _ _ h=>h) hS rfl
  clear hS
  rintro ⟨FW,FB⟩ hS
  refine Zr ?_
  refine Zm ?_
  obtain ⟨b21,hS⟩:=bU hS
  refine Zu (cR rfl rfl b21) ?_
  refine Za ?_
  refine VL.iP (FW,FB,(mL+1)) [0,1,5,6] (fun _ _ h=>h) (go2 hS hK1) rfl
 replace hS:=gA hS hK1
 refine Zx ?_
 refine Zq (Zr ?_)
 refine Zy ?_
 obtain ⟨b38,hS⟩:=bU hS
 refine VL.fits (s:=fC) (e:=3) Fo.out fun aOy => ?_
 refine Zu (NH (s:=fC) Tryz.underlying32 u9 rfl rfl b38.1 b38.2 aOy) ?_
 refine VL.aLL (s:=fC) (i:=gU.toNat) (i64 0) Tryz.underlying32 a6d rfl rfl rfl (by have:=b38; dsimp only at this ⊢; omega) Fo.out fun aQu aXT aYv => ?_
 replace hS:=bV aXT hS
 refine Zl ?_
 refine VC.keep (ρ':=[(0,fC.val),(5,i64 gU)]) [0,5] rfl ?_
 refine Zq (Zr ?_)
 refine Zy ?_
 refine Zu (aCH (s:=fC) (q:=aQu) Tryz.underlying32 u9 rfl rfl b38.1 b38.2 aOy aYv) ?_
 refine Zy ?_
 cases hS
 exact VC.ret (eB (.inr rfl) rfl rfl aQu rfl rfl (by (try dsimp only); exact cA.out) (by (try dsimp only); exact dJ.out))
theorem QA (aA:cF) (PM:Int) {r:List Int} (hS:Sh.OA aA.pl PM=some r) :
 Ct Tryz.prog 226 [.agg (aH aA).toArray,i64 PM] (aA.bH.ok.and (aA.aX.ok.and (aA.bQ.ok.and (aA.aN.ok.and (aA.aR.ok.and (aA.aO.ok.and (aA.aS.ok.and (aA.bC.ok.and (aA.bE.ok.and (aA.bT.ok.and aA.bJ.ok)))))))))) (Ow.emp) (X:=Sv Int) (fun x=>x.val) (fun x=>r=x.l) (fun x=>Mo.tt) (fun x=>Sv.own x 3):=by
 refine Zo Tryz.func226 Tryz.ntmps226 fun c => ?_
 unfold Sh.OA at hS
 refine Zq (Zr ?_)
 refine VL.box (cs:=(aH aA)) rfl rfl (by decide) fun dQ => ?_
 refine Zy ?_
 refine Zq (Zr ?_)
 refine Zu (aB eC rfl) ?_
 refine Zu (aB pO rfl) ?_
 refine Zu (aB E9 rfl) ?_
 refine Zu (aJ eP rfl rfl) ?_
 refine Zm ?_
 refine VL.aPj (α:=Int) (xs:=[.tmp 8,.tmp 9]) (vs:=[i64 aA.aG,i64 PM]) [aA.aG,PM] Tryz.underlying32 kI (by decide) rfl rfl rfl rfl (by decide) (by decide) (fun a5d a1J => ?_) (by decide)
 replace hS:=bV a1J hS
 obtain ⟨I6,MW,hS⟩:=aK hS
 refine VL.bS (IF a5d MW) rfl (by decide) ?_
 rintro V0 rfl
 try dsimp only
 refine Zy ?_
 refine VC.keep (ρ':=[(4,V0.val)]) [4] rfl ?_
 cases hS
 exact VC.ret (eB (.inr rfl) rfl rfl V0 rfl rfl (by (try dsimp only); exact cA.out) (by (try dsimp only); exact dJ.out))
theorem pZ (aA:Sv cI) {r:List l5} (hS:Sh.mP (aA.l.map cI.pl)=some r) :
 Ct Tryz.prog 294 [aA.val] aA.ok (Ow.emp) (X:=Sv cI) (fun x=>x.val) (fun x=>r=(x.l.map cI.pl)) (fun x=>(xW x.l)) (fun x=>Sv.own x 73):=by
 refine Zo Tryz.func294 Tryz.ntmps294 fun c => ?_
 unfold Sh.mP at hS
 refine Zq (Zr ?_)
 refine Zy ?_
 refine Zq (Zq (Zr ?_))
 refine Zm ?_
 refine Zu (ID (s:=aA) Tryz.underlying61 rfl) ?_
 refine Zl ?_
 refine VC.slnil (s:=aA) rfl (fun h4 => ?_) ?_
 ·
  have hS:(some [])=some r:=by
    simp [lt,gd,h4] at hS ⊢
    try exact hS
  refine Zq (Zr ?_)
  refine Zy ?_
  refine VC.kH (⟨none,0,[]⟩:Sv cI) 73 ⟨rfl,rfl⟩ ?_
  refine VC.RZ (s:=(⟨none,0,[]⟩:Sv cI)) rfl ?_
  cases hS
  exact VC.ret (eB (.inr rfl) rfl rfl ⟨none,0,[]⟩ rfl rfl (by (try dsimp only); exact cA.out) (by (try dsimp only); exact dJ.out))
 refine Zk ?_
 refine Zq (Zr ?_)
 refine VL.aDz (α:=cI) Tryz.underlying61 a1D (by decide) (fun yN rK x7 => ?_)
 refine VL.kH yN 73 ⟨x7,rK⟩ ?_
 refine VL.RZ rK ?_
 replace hS:=bV (congrArg (List.map cI.pl) rK) hS
 refine Zm ?_
 obtain ⟨b7,hS⟩:=bU hS
 refine VL.app (s:=yN) (r:=aA) Tryz.underlying61 aEU (by decide) rfl Fo.out (sU (apm b7)) (sV (apm b7) (by decide)) (by decide) (fun L7 B2 => ?_)
 replace hS:=bV ((congrArg (List.map cI.pl) B2).trans List.map_append) hS
 refine VL.aDD B2 ?_
 refine Zy ?_
 cases hS
 exact VC.ret (eB (.inr rfl) rfl rfl L7 rfl rfl (by (try dsimp only); exact cA.out) (by (try dsimp only); exact dJ.out))
theorem B5 (aA:Sv eV) {r:List eV} (hS:Sh.pE aA.l=some r) :
 Ct Tryz.prog 234 [aA.val] aA.ok (Ow.emp) (X:=Sv eV) (fun x=>x.val) (fun x=>r=x.l) (fun x=>Mo.tt) (fun x=>Sv.own x 241):=by
 refine Zo Tryz.func234 Tryz.ntmps234 fun c => ?_
 unfold Sh.pE at hS
 refine Zq (Zr ?_)
 refine Zy ?_
 refine Zq (Zq (Zr ?_))
 refine Zm ?_
 refine Zu (ID (s:=aA) Tryz.underlying51 rfl) ?_
 refine Zl ?_
 refine VC.slnil (s:=aA) rfl (fun h4 => ?_) ?_
 ·
  have hS:(some [])=some r:=by
    simp [lt,gd,h4] at hS ⊢
    try exact hS
  refine Zq (Zr ?_)
  refine Zy ?_
  refine VC.kH (⟨none,0,[]⟩:Sv eV) 241 ⟨rfl,rfl⟩ ?_
  cases hS
  exact VC.ret (eB (.inr rfl) rfl rfl ⟨none,0,[]⟩ rfl rfl (by (try dsimp only); exact cA.out) (by (try dsimp only); exact dJ.out))
 refine Zk ?_
 refine Zq (Zr ?_)
 refine VL.aDz (α:=eV) Tryz.underlying51 aWQ (by decide) (fun yN rK x7 => ?_)
 refine VL.kH yN 241 ⟨x7,rK⟩ ?_
 replace hS:=bV rK hS
 refine Zm ?_
 obtain ⟨b7,hS⟩:=bU hS
 refine VL.app (s:=yN) (r:=aA) Tryz.underlying51 aBS (by decide) rfl Fo.out (sU b7) (sV b7 (by decide)) (by decide) (fun L7 B2 => ?_)
 replace hS:=bV B2 hS
 refine Zy ?_
 cases hS
 exact VC.ret (eB (.inr rfl) rfl rfl L7 rfl rfl (by (try dsimp only); exact cA.out) (by (try dsimp only); exact dJ.out))
theorem aH8 (s v:Sv eV) (i:Int) (hi:0≤i∧i≤(s.l.length:Int)) (hv:v.l≠[]) (hb:s.l.length+v.l.length≤4294967296):Ct Tryz.prog 237 [s.val,i64 i,v.val] Mo.tt (Ow.star (s.own 241) (v.own 241)) (X:=Sv eV) (fun q=>q.val) (fun q=>q.l=s.l.take i.toNat++v.l++s.l.drop i.toNat) (fun _=>Mo.tt) (fun q=>q.own 241):=by
 refine Zo Tryz.func237 Tryz.ntmps237 fun c => ?_
 have hvp:0 < v.l.length:=List.length_pos_iff.2 hv
 have hK:bM.sz eV=2:=rfl
 refine Zq (Zr ?_)
 refine Zy ?_
 refine Zq (Zr ?_)
 refine Zy ?_
 refine VL.fits (s:=s) (e:=241) Fo.out fun hf => ?_
 refine Zu (NH (s:=s) Tryz.underlying51 pP rfl rfl hi.1 hi.2 hf) ?_
 refine Zl ?_
 refine Zq (Zr ?_)
 refine Zm ?_
 refine Zu (dX (s:=v) Tryz.underlying51 rfl) ?_
 refine Zy ?_
 refine Zq (Zq (Zr ?_))
 refine Zm ?_
 refine Zu (gV rfl rfl) ?_
 refine Zl ?_
 refine VC.yT rfl (fun h16=>absurd h16 (by omega)) (fun h16 => ?_)
 refine Zk ?_
 refine Zq (Zr ?_)
 refine Zm ?_
 refine Zu (dX (s:=s) Tryz.underlying51 rfl) ?_
 refine Zy ?_
 refine Zq (Zq (Zr ?_))
 refine Zy ?_
 refine Zu (gV rfl rfl) ?_
 refine Zl ?_
 refine VC.yT rfl (fun h22 => ?_) (fun h22 => ?_)
 ·
  refine Zq (Zr ?_)
  refine Zy ?_
  refine VL.shut v 241 (fun _ _ _ _=>trivial) ?_
  refine VL.aTt (s:=s) (r:=v) Tryz.underlying51 Tryz.underlying51 aBS (by decide) rfl Fo.out (sU hb) (sV hb (by decide)) (by decide) (fun q hq => ?_)
  refine Zy ?_
  have e1:i.toNat=s.l.length:=by omega
  exact VC.ret (eB (.inr rfl) rfl rfl q rfl (by rw [hq,e1,List.take_length,List.drop_length,List.append_nil]) (fun _ _=>trivial) dJ.out)
 have hin:i < (s.l.length:Int):=by omega
 have hne:s.l≠[]:=fun h=>by rw [h] at hin; simp at hin; omega
 have hkq:(s.l.length:Int)+(v.l.length:Int) - i=((s.l.length+v.l.length - i.toNat:Nat):Int):=by omega
 have hLn:(s.l.take i.toNat++v.l++s.l.drop i.toNat).length=s.l.length+v.l.length:=by simp only [List.length_append,List.length_take,List.length_drop]; omega
 have hfl:(s.l.take i.toNat++v.l++s.l.drop i.toNat).flatMap bM.enc=(s.l.take i.toNat).flatMap bM.enc++v.l.flatMap bM.enc++(s.l.drop i.toNat).flatMap bM.enc:=by rw [List.flatMap_append,List.flatMap_append]
 have lA:((s.l.take i.toNat).flatMap bM.enc).length=i.toNat*2:=by rw [iG,List.length_take,hK,Nat.min_eq_left (by omega)]
 have lV:(v.l.flatMap bM.enc).length=v.l.length*2:=by rw [iG,hK]
 have lS:((s.l.drop i.toNat).flatMap bM.enc).length=(s.l.length - i.toNat)*2:=by rw [iG,List.length_drop,hK]
 refine Zk ?_
 refine Zq (Zq (Zr ?_))
 refine Zy ?_
 refine Zu (cR rfl rfl ⟨by omega,by omega⟩) ?_
 refine Zm ?_
 refine Zu (aKH (a0:=s.a) (L:=s.l.length) (C:=s.c) Tryz.underlying51 rfl) ?_
 refine Zu (iZ rfl rfl) ?_
 refine Zl ?_
 refine VC.yT rfl (fun h31 => ?_) (fun h31 => ?_)
 ·
  refine VC.shut s 241 (fun _ _ _ _=>trivial) ?_
  refine VC.shut v 241 (fun _ _ _ _=>trivial) ?_
  refine Zq (Zr ?_)
  refine VL.E3 (φ:=s.a=some ⟨s.b,s.o,none⟩) (fun h m=>(cA.out (X:=s.ok) h m).2.2.1 hne) fun hsa => ?_
  refine VL.E3 (φ:=v.a=some ⟨v.b,v.o,none⟩) (fun h m=>(cA.out (X:=v.ok) h m).2.2.1 hv) fun hva => ?_
  refine Zy ?_
  refine Zu (aD9 (a0:=s.a) (L:=s.l.length) (C:=s.c) (K:=2) Tryz.underlying51 pP rfl rfl hi.1 (by omega)) ?_
  refine Zy ?_
  refine Zu (cR rfl rfl ⟨by omega,by omega⟩) ?_
  refine Zm ?_
  refine Zu (qK rfl rfl ⟨by omega,by omega⟩) ?_
  refine VL.D9 39 rfl (congrArg (Value.int .i64) hkq) ?_
  refine VL.aNU (s:=s) (L:=i.toNat) (kq:=s.l.length+v.l.length - i.toNat) Tryz.underlying51 Tryz.underlying3 aBS (by decide) rfl hne (by omega) (by omega) (by omega) (by omega) (by decide) (by decide) fun g cs cp hcl hcp hcm hct => ?_
  rw [hK] at hcl hct
  rw [show i.toNat+(s.l.length+v.l.length - i.toNat)=s.l.length+v.l.length by omega] at hcp ⊢
  have hfit:((s.l.take i.toNat).flatMap bM.enc).length+(v.l.flatMap bM.enc).length+((s.l.drop i.toNat).flatMap bM.enc).length≤cs.length:=by
    rw [lA,lV,lS,hcl,← Nat.add_mul,← Nat.add_mul]; exact Nat.mul_le_mul_right _ (by omega)
  have hic:=VP (V:=v.l.flatMap bM.enc) (S:=(s.l.drop i.toNat).flatMap bM.enc) (by rw [lA]; exact hct) hfit
  rw [← hfl,lA,lV,lS] at hic
  refine Zy ?_
  refine Zq (Zr ?_)
  refine Zy ?_
  refine Zu (oC (b:=g) (o:=0) (L:=s.l.length+v.l.length) (C:=cp) (K:=2) Tryz.underlying51 pP rfl rfl hi.1 (by omega) hcp (by omega) rfl) ?_
  refine Zm ?_
  refine VL.D9 44 rfl (show v.val = .slice (some ⟨v.b,v.o+0*bM.sz eV,none⟩) v.l.length v.c by unfold Sv.val; rw [hva,Nat.zero_mul]; rfl) ?_
  refine VL.IU (src:=v.l.flatMap bM.enc) Tryz.underlying51 pP sP.out rfl (by rw [lV]; congr 1; exact (Nat.min_eq_left (by omega)).symm) (PL (r:=v) (by decide) hv) (uU v.l) (by rw [lV,Nat.zero_add,hcl,← Nat.add_mul]; exact Nat.mul_le_mul_right _ (by omega)) (by decide) ?_
  rw [Nat.zero_add,lV]
  refine Zl ?_
  refine Zq ?_
  refine VC.draw [(0,true),(1,true),(2,true),(3,true),(4,true),(5,true),(6,true),(7,true),(8,false)] mixed (by kernel_rfl) (by kernel_rfl) (by kernel_rfl) ?_
  refine Zw rfl (bA rfl) ?_
  refine Zw rfl (bA rfl) ?_
  refine Zw rfl (bA rfl) ?_
  refine Zw rfl (cR rfl rfl ⟨by omega,by omega⟩) ?_
  refine Zw rfl (oC (b:=g) (o:=0) (L:=s.l.length+v.l.length) (C:=cp) (K:=2) Tryz.underlying51 pP rfl rfl (by omega) (by omega) hcp (by omega) rfl) ?_
  refine Zw rfl (bA rfl) ?_
  refine Zw rfl (bA rfl) ?_
  refine Zw rfl (oC (b:=s.b) (o:=s.o) (L:=s.l.length) (C:=s.c) (K:=2) Tryz.underlying51 pP (show some s.val=_ by unfold Sv.val; rw [hsa]) rfl hi.1 (by omega) hf (by omega) rfl) ?_
  refine VD.one rfl ?_
  rw [show (i+(v.l.length:Int)).toNat=i.toNat+v.l.length by omega]
  refine VL.IU (src:=(s.l.drop i.toNat).flatMap bM.enc) Tryz.underlying51 pP sP.out rfl (by rw [lS]; congr 1; exact (Nat.min_eq_left (by omega)).symm) (aBr (r:=s) (by decide) hne i.toNat) (uU _) (by rw [lS,Nat.zero_add,hic.1,hcl,← Nat.add_mul]; exact Nat.mul_le_mul_right _ (by omega)) (by decide) ?_
  rw [Nat.zero_add,lS,Nat.add_mul]
  refine VL.back (D':=[]) (by kernel_rfl) aF.nil ?_
  refine VD.to (fun _ _ h=>h) ?_
  refine Zq (Zr ?_)
  refine Zy ?_
  have ho:=fun F=>PN (F:=F) (e:=241) (b:=g) (l':=s.l.take i.toNat++v.l++s.l.drop i.toNat) (hic.2.1.trans hcl) (by rw [iG] at hic; exact hic.2.2) hLn hcp hcm
  exact VC.ret (eB (.inr rfl) rfl rfl ⟨some ⟨g,0,none⟩,cp,_⟩ (ho Ow.emp).1 rfl (fun _ _=>trivial) (ho _).2)
 refine Zk ?_
 refine Zq (Zr ?_)
 refine VL.open (s:=s) (e:=241) Fo.out (by omega) fun b cs hsa hcl hct _ hcm => ?_
 rw [hK] at hcl hct
 have hctA:cs.take ((s.l.take i.toNat).flatMap bM.enc).length=(s.l.take i.toNat).flatMap bM.enc:=by
   rw [lA]
   have:cs.take (i.toNat*2)=(cs.take (s.l.length*2)).take (i.toNat*2):=by rw [List.take_take,Nat.min_eq_left (Nat.mul_le_mul_right _ (by omega))]
   rw [this,hct]
   exact yU s.l i.toNat
 have hfit:((s.l.take i.toNat).flatMap bM.enc).length+(v.l.flatMap bM.enc).length+((s.l.drop i.toNat).flatMap bM.enc).length≤cs.length:=by
   rw [lA,lV,lS,hcl,← Nat.add_mul,← Nat.add_mul]; exact Nat.mul_le_mul_right _ (by omega)
 have hic:=VQ (V:=v.l.flatMap bM.enc) (S:=(s.l.drop i.toNat).flatMap bM.enc) hctA hfit
 rw [← hfl,lA,lV,lS] at hic
 refine Zy ?_
 refine Zu (cR rfl rfl ⟨by omega,by omega⟩) ?_
 refine Zu (aD9 (a0:=s.a) (L:=s.l.length) (C:=s.c) (K:=2) Tryz.underlying51 pP rfl rfl (by omega) (by omega)) ?_
 rw [show ((s.l.length:Int)+(v.l.length:Int)).toNat=s.l.length+v.l.length by omega,hsa]
 refine Zy ?_
 refine Zq (Zq (Zr ?_))
 refine Zy ?_
 refine Zu (cR rfl rfl ⟨by omega,by omega⟩) ?_
 refine Zu (oC (b:=b) (o:=0) (L:=s.l.length+v.l.length) (C:=s.c) (K:=2) Tryz.underlying51 pP rfl rfl (by omega) (by omega) (by omega) (by omega) rfl) ?_
 refine Zu (WD (tS:=51) (tR:=4) (s:=v) (b:=b) Tryz.func304 rfl rfl (by kernel_rfl) (by kernel_rfl) Tryz.underlying51 pP rfl sP.out (fun h=>by rw [h] at hcl; simp at hcl; omega) hv) ?_
 refine Zu (lQ rfl) ?_
 refine Zl ?_
 refine VC.RD rfl ?_
 refine VC.shut v 241 (fun _ _ _ _=>trivial) ?_
 refine Zq ?_
 refine VC.draw [(0,true),(1,true),(2,true),(3,true),(4,true),(5,true),(6,true),(7,true),(8,false)] mixed (by kernel_rfl) (by kernel_rfl) (by kernel_rfl) ?_
 refine Zw rfl (bA rfl) ?_
 refine Zw rfl (bA rfl) ?_
 refine Zw rfl (bA rfl) ?_
 refine Zw rfl (cR rfl rfl ⟨by omega,by omega⟩) ?_
 refine Zw rfl (oC (b:=b) (o:=0) (L:=s.l.length+v.l.length) (C:=s.c) (K:=2) Tryz.underlying51 pP rfl rfl (by omega) (by omega) (by omega) (by omega) rfl) ?_
 refine Zw rfl (bA rfl) ?_
 refine Zw rfl (bA rfl) ?_
 refine Zw rfl (oC (b:=b) (o:=0) (L:=s.l.length+v.l.length) (C:=s.c) (K:=2) Tryz.underlying51 pP rfl rfl hi.1 (by omega) (by omega) (by omega) rfl) ?_
 refine VD.one rfl ?_
 rw [show (i+(v.l.length:Int)).toNat=i.toNat+v.l.length by omega,Nat.zero_add,Nat.zero_add]
 refine VL.IU (src:=(s.l.drop i.toNat).flatMap bM.enc) Tryz.underlying51 pP sP.out rfl (by rw [lS]; congr 1; simp only [Nat.min_def]; split <;> omega) (aEy (n:=s.l.length) hct rfl) (uU _) (by rw [lS,hcl,← Nat.add_mul]; exact Nat.mul_le_mul_right _ (by omega)) (by decide) ?_
 rw [lS,Nat.add_mul]
 refine VL.back (D':=[]) (by kernel_rfl) aF.nil ?_
 refine VD.to (fun _ _ h=>h) ?_
 refine Zq (Zr ?_)
 refine Zy ?_
 refine Zu (oC (b:=b) (o:=0) (L:=s.l.length+v.l.length) (C:=s.c) (K:=2) Tryz.underlying51 pP rfl rfl hi.1 (by omega) (by omega) (by omega) rfl) ?_
 refine Zm ?_
 refine VL.E3 (φ:=v.a=some ⟨v.b,v.o,none⟩) (fun h m=>(cA.out (X:=v.ok) h m).2.2.1 hv) fun hva => ?_
 refine VL.D9 81 rfl (show v.val = .slice (some ⟨v.b,v.o+0*bM.sz eV,none⟩) v.l.length v.c by unfold Sv.val; rw [hva,Nat.zero_mul]; rfl) ?_
 rw [Nat.zero_add]
 refine VL.IU (src:=v.l.flatMap bM.enc) Tryz.underlying51 pP sP.out rfl (by rw [lV]; congr 1; exact (Nat.min_eq_left (by omega)).symm) (PL (r:=v) (by decide) hv) (uU v.l) (by rw [lV,hic.1,hcl,← Nat.add_mul]; exact Nat.mul_le_mul_right _ (by omega)) (by decide) ?_
 rw [lV]
 refine Zl ?_
 refine Zq (Zr ?_)
 refine Zy ?_
 have ho:=fun F=>PN (F:=F) (e:=241) (b:=b) (l':=s.l.take i.toNat++v.l++s.l.drop i.toNat) (hic.2.1.trans hcl) (by rw [iG] at hic; exact hic.2.2) hLn (by omega) hcm
 exact VC.ret (eB (.inr rfl) rfl rfl ⟨some ⟨b,0,none⟩,s.c,_⟩ (ho Ow.emp).1 rfl (fun _ _=>trivial) (ho _).2)
theorem aCJ (aA:cF) (fD:bB) (qD:Int) {r:bR} (hS:Sh.YP aA.pl fD qD=some r) :
 Ct Tryz.prog 158 [.agg (aH aA).toArray,str fD,i64 qD] (aA.bH.ok.and (aA.aX.ok.and (aA.bQ.ok.and (aA.aN.ok.and (aA.aR.ok.and (aA.aO.ok.and (aA.aS.ok.and (aA.bC.ok.and (aA.bE.ok.and (aA.bT.ok.and aA.bJ.ok)))))))))) (Ow.emp) (X:=cF) (fun x => .agg (bM.enc x).toArray) (fun x=>r=x.pl) (fun x=>x.m) (fun x=>Ow.emp):=by
 refine Zo Tryz.func158 Tryz.ntmps158 fun c => ?_
 unfold Sh.YP at hS
 refine Zq (Zr ?_)
 refine VL.box (cs:=(aH aA)) rfl rfl (by decide) fun fX => ?_
 refine VL.alloc (cs:=[.slice none 0 0,.slice none 0 0,.slice none 0 0,str [],i64 0,str [],i64 0,str [],.slice none 0 0,.slice none 0 0,i64 0,str [],str [],i64 0,.slice none 0 0,.slice none 0 0,.slice none 0 0,.slice none 0 0,.slice none 0 0,.slice none 0 0,i64 0]) (by kernel_rfl) (by decide) fun D4 => ?_
 refine Zl ?_
 refine Zq (Zr ?_)
 refine Zu (aB eC rfl) ?_
 refine Zu (aB kZ rfl) ?_
 refine Zu (aJ u6 rfl rfl) ?_
 obtain ⟨lY,uZ,hS⟩:=aK hS
 refine VL.bS (B5 aA.bQ uZ) rfl (by decide) ?_
 rintro gT rfl
 try dsimp only
 refine Zu (aB eC rfl) ?_
 refine Zu (aB kZ rfl) ?_
 refine Zv (cs':=[aA.bH.val,aA.aX.val,gT.val,str aA.aQ,i64 aA.aG,str aA.bK,i64 aA.bI,str aA.bP,aA.aN.val,aA.aR.val,i64 aA.bO,str aA.aZ,str aA.aL,i64 aA.aM,aA.aO.val,aA.aS.val,aA.bC.val,aA.bE.val,aA.bT.val,aA.bJ.val,i64 aA.time]) rfl aCy ?_
 refine Zl ?_
 refine VC.keep (ρ':=[(1,str fD),(2,i64 qD),(3,ptr fX 0),(6,ptr D4 0)]) [1,2,3,6] rfl ?_
 refine Zq (Zr ?_)
 refine Zu (cD cL rfl rfl) ?_
 refine Zm ?_
 obtain ⟨yF,aJN,hS⟩:=aK hS
 refine Zu (oB (CW (⟨aA.bH,aA.aX,gT,aA.aQ,aA.aG,aA.bK,aA.bI,aA.bP,aA.aN,aA.aR,aA.bO,aA.aZ,aA.aL,aA.aM,aA.aO,aA.aS,aA.bC,aA.bE,aA.bT,aA.bJ,aA.time⟩:cF) fD aJN) rfl (fun _ _=>rfl)) ?_
 refine Zm ?_
 refine Zu (aW rfl rfl) ?_
 refine Zu (aW rfl rfl) ?_
 refine Zy ?_
 refine Zq (Zb ?_)
 refine VC.gK (S:=Bool) (fun (XD:Bool)=>XD) (fun (XD:Bool)=>[(1,str fD),(2,i64 qD),(3,ptr fX 0),(6,ptr D4 0),(7,i64 yF.1),(8,.bool yF.2),(21,.bool XD)]) (fun (XD:Bool)=>Mo.tt) (fun (XD:Bool)=>Ow.star (bD fX [aA.bH.val,aA.aX.val,gT.val,str aA.aQ,i64 aA.aG,str aA.bK,i64 aA.bI,str aA.bP,aA.aN.val,aA.aR.val,i64 aA.bO,str aA.aZ,str aA.aL,i64 aA.aM,aA.aO.val,aA.aS.val,aA.bC.val,aA.bE.val,aA.bT.val,aA.bJ.val,i64 aA.time] 66) (Ow.star (bD D4 [.slice none 0 0,.slice none 0 0,.slice none 0 0,str [],i64 0,str [],i64 0,str [],.slice none 0 0,.slice none 0 0,i64 0,str [],str [],i64 0,.slice none 0 0,.slice none 0 0,.slice none 0 0,.slice none 0 0,.slice none 0 0,.slice none 0 0,i64 0] 66) (Ow.star (Sv.own gT 241) (Ow.emp)))) hS ?_ ?_
 ·
  clear hS
  intro k6 hS
  refine Zr ?_
  refine Zy ?_
  refine vV 23 hS (fun h23 hS => ?_) (fun h23 hS => ?_)
  ·
   refine Zg ?_
   refine Zh (gV rfl rfl) ?_
   refine Zy ?_
   refine VL.mt (decide (qD=0)) [1,2,3,6,7,8,21] (fun _ _ h=>h) hS rfl
  refine VL.runs 4 [(21,some false)] (by kernel_rfl) ?_
  refine VL.mt false [1,2,3,6,7,8,21] (fun _ _ h=>h) hS rfl
 clear hS
 rintro XD hS
 refine iL hS (fun h21 hS => ?_) (fun h21 hS => ?_)
 ·
  cases hS
 refine Zq (Zr ?_)
 refine Zy ?_
 refine iL hS (fun h36 hS => ?_) (fun h36 hS => ?_)
 ·
  refine Zr ?_
  refine Zu (aB eC rfl) ?_
  refine Zu (aB kZ rfl) ?_
  refine Zu (aJ u6 rfl rfl) ?_
  refine Zy ?_
  obtain ⟨aOk,aQU,aPe,hS⟩:=c6 hS
  refine Zu (lJ (s:=gT) Tryz.underlying51 pP rfl rfl aQU (bN aQU aPe)) ?_
  refine Zu (aB X6 rfl) ?_
  refine VL.wD (s:=gT) (T:=241) (j:=1) (vc:=[i64 qD]) (⟨aOk.name,qD⟩:eV) (by decide) rfl rfl aPe rfl u9 rfl rfl (Nat.le_of_ble_eq_true rfl) rfl (fun w8 hw8 haw8 hcw8 hvw8 hbw8 how8 => ?_)
  rw [← hvw8]
  replace hS:=bV hw8 hS
  refine Zl ?_
  refine VC.keep (ρ':=[(3,ptr fX 0),(6,ptr D4 0)]) [3,6] rfl ?_
  refine Zq (Zr ?_)
  refine Zu (cD cL rfl rfl) ?_
  refine Zv (cs':=[aA.bH.val,aA.aX.val,w8.val,str aA.aQ,i64 aA.aG,str aA.bK,i64 aA.bI,str aA.bP,aA.aN.val,aA.aR.val,i64 aA.bO,str aA.aZ,str aA.aL,i64 aA.aM,aA.aO.val,aA.aS.val,aA.bC.val,aA.bE.val,aA.bT.val,aA.bJ.val,i64 aA.time]) rfl gG ?_
  refine Zl ?_
  refine VC.shut w8 241 (fun _ _ _ _=>trivial) ?_
  cases hS
  exact VC.ret (hG (vs:=[.agg #[aA.bH.val,aA.aX.val,w8.val,str aA.aQ,i64 aA.aG,str aA.bK,i64 aA.bI,str aA.bP,aA.aN.val,aA.aR.val,i64 aA.bO,str aA.aZ,str aA.aL,i64 aA.aM,aA.aO.val,aA.aS.val,aA.bC.val,aA.bE.val,aA.bT.val,aA.bJ.val,i64 aA.time]]) (.inr rfl) rfl (dS.cell cL rfl rfl Rd.blk (dS.nil)) ⟨aA.bH,aA.aX,w8,aA.aQ,aA.aG,aA.bK,aA.bI,aA.bP,aA.aN,aA.aR,aA.bO,aA.aZ,aA.aL,aA.aM,aA.aO,aA.aS,aA.bC,aA.bE,aA.bT,aA.bJ,aA.time⟩ rfl rfl (by (try dsimp only); exact cA.out) (fun _ _=>trivial))
 refine Zq (Zr ?_)
 refine Zm ?_
 refine Zu (iZ rfl rfl) ?_
 refine Zy ?_
 refine Zc hS (fun h45 hS => ?_) (fun h45 hS => ?_)
 ·
  refine Zr ?_
  refine Zu (aB eC rfl) ?_
  refine Zu (aB kZ rfl) ?_
  refine Zu (aJ u6 rfl rfl) ?_
  refine Zy ?_
  refine Zu (eN (vs:=[(0,str fD),(1,i64 qD)]) (cs := #[str fD,i64 qD]) rfl (by kernel_rfl)) ?_
  refine VL.aPj (α:=eV) (xs:=[.tmp 54]) (vs:=[.agg #[str fD,i64 qD]]) [⟨fD,qD⟩] Tryz.underlying51 aL3 (by decide) rfl rfl rfl rfl (by decide) (by decide) (fun a3B aXF => ?_) (by decide)
  replace hS:=bV aXF hS
  obtain ⟨b56,hS⟩:=bU hS
  refine VL.bS (aH8 gT a3B yF.1 b56.1 b56.2.1 b56.2.2) rfl (by decide) ?_
  intro aCL aXH
  replace hS:=bV aXH hS
  refine Zu (aB eC rfl) ?_
  refine Zu (aB kZ rfl) ?_
  refine Zv (cs':=[aA.bH.val,aA.aX.val,aCL.val,str aA.aQ,i64 aA.aG,str aA.bK,i64 aA.bI,str aA.bP,aA.aN.val,aA.aR.val,i64 aA.bO,str aA.aZ,str aA.aL,i64 aA.aM,aA.aO.val,aA.aS.val,aA.bC.val,aA.bE.val,aA.bT.val,aA.bJ.val,i64 aA.time]) rfl aCy ?_
  refine Zl ?_
  refine VC.keep (ρ':=[(3,ptr fX 0),(6,ptr D4 0)]) [3,6] rfl ?_
  refine Zq (Zr ?_)
  refine Zu (cD cL rfl rfl) ?_
  refine Zv (cs':=[aA.bH.val,aA.aX.val,aCL.val,str aA.aQ,i64 aA.aG,str aA.bK,i64 aA.bI,str aA.bP,aA.aN.val,aA.aR.val,i64 aA.bO,str aA.aZ,str aA.aL,i64 aA.aM,aA.aO.val,aA.aS.val,aA.bC.val,aA.bE.val,aA.bT.val,aA.bJ.val,i64 aA.time]) rfl gG ?_
  refine Zl ?_
  refine VC.shut aCL 241 (fun _ _ _ _=>trivial) ?_
  cases hS
  exact VC.ret (hG (vs:=[.agg #[aA.bH.val,aA.aX.val,aCL.val,str aA.aQ,i64 aA.aG,str aA.bK,i64 aA.bI,str aA.bP,aA.aN.val,aA.aR.val,i64 aA.bO,str aA.aZ,str aA.aL,i64 aA.aM,aA.aO.val,aA.aS.val,aA.bC.val,aA.bE.val,aA.bT.val,aA.bJ.val,i64 aA.time]]) (.inr rfl) rfl (dS.cell cL rfl rfl Rd.blk (dS.nil)) ⟨aA.bH,aA.aX,aCL,aA.aQ,aA.aG,aA.bK,aA.bI,aA.bP,aA.aN,aA.aR,aA.bO,aA.aZ,aA.aL,aA.aM,aA.aO,aA.aS,aA.bC,aA.bE,aA.bT,aA.bJ,aA.time⟩ rfl rfl (by (try dsimp only); exact cA.out) (fun _ _=>trivial))
 refine Zk ?_
 refine VC.keep (ρ':=[(3,ptr fX 0),(6,ptr D4 0)]) [3,6] rfl ?_
 refine Zq (Zr ?_)
 refine Zu (cD cL rfl rfl) ?_
 refine Zv (cs':=[aA.bH.val,aA.aX.val,gT.val,str aA.aQ,i64 aA.aG,str aA.bK,i64 aA.bI,str aA.bP,aA.aN.val,aA.aR.val,i64 aA.bO,str aA.aZ,str aA.aL,i64 aA.aM,aA.aO.val,aA.aS.val,aA.bC.val,aA.bE.val,aA.bT.val,aA.bJ.val,i64 aA.time]) rfl gG ?_
 refine Zl ?_
 refine VC.shut gT 241 (fun _ _ _ _=>trivial) ?_
 cases hS
 exact VC.ret (hG (vs:=[.agg #[aA.bH.val,aA.aX.val,gT.val,str aA.aQ,i64 aA.aG,str aA.bK,i64 aA.bI,str aA.bP,aA.aN.val,aA.aR.val,i64 aA.bO,str aA.aZ,str aA.aL,i64 aA.aM,aA.aO.val,aA.aS.val,aA.bC.val,aA.bE.val,aA.bT.val,aA.bJ.val,i64 aA.time]]) (.inr rfl) rfl (dS.cell cL rfl rfl Rd.blk (dS.nil)) ⟨aA.bH,aA.aX,gT,aA.aQ,aA.aG,aA.bK,aA.bI,aA.bP,aA.aN,aA.aR,aA.bO,aA.aZ,aA.aL,aA.aM,aA.aO,aA.aS,aA.bC,aA.bE,aA.bT,aA.bJ,aA.time⟩ rfl rfl (by (try dsimp only); exact cA.out) (fun _ _=>trivial))
theorem ZM (aA:cF) (l6:Int) {r:bR} (hS:Sh.aA2 aA.pl l6=some r) :
 Ct Tryz.prog 243 [.agg (aH aA).toArray,i64 l6] (aA.bH.ok.and (aA.aX.ok.and (aA.bQ.ok.and (aA.aN.ok.and (aA.aR.ok.and (aA.aO.ok.and (aA.aS.ok.and (aA.bC.ok.and (aA.bE.ok.and (aA.bT.ok.and aA.bJ.ok)))))))))) (Ow.emp) (X:=cF) (fun x => .agg (bM.enc x).toArray) (fun x=>r=x.pl) (fun x=>x.m) (fun x=>Ow.emp):=by
 refine Zo Tryz.func243 Tryz.ntmps243 fun c => ?_
 unfold Sh.aA2 at hS
 refine Zq (Zr ?_)
 refine VL.box (cs:=(aH aA)) rfl rfl (by decide) fun dQ => ?_
 refine VL.alloc (cs:=[.slice none 0 0,.slice none 0 0,.slice none 0 0,str [],i64 0,str [],i64 0,str [],.slice none 0 0,.slice none 0 0,i64 0,str [],str [],i64 0,.slice none 0 0,.slice none 0 0,.slice none 0 0,.slice none 0 0,.slice none 0 0,.slice none 0 0,i64 0]) (by kernel_rfl) (by decide) fun oS => ?_
 refine Zl ?_
 refine Zq (Zr ?_)
 refine Zm ?_
 refine Zu (aB eC rfl) ?_
 refine Zu (aB pO rfl) ?_
 refine Zu (aB E9 rfl) ?_
 refine Zv (cs':=[aA.bH.val,aA.aX.val,aA.bQ.val,str aA.aQ,i64 l6,str aA.bK,i64 aA.bI,str aA.bP,aA.aN.val,aA.aR.val,i64 aA.bO,str aA.aZ,str aA.aL,i64 aA.aM,aA.aO.val,aA.aS.val,aA.bC.val,aA.bE.val,aA.bT.val,aA.bJ.val,i64 aA.time]) rfl u9 ?_
 refine Zl ?_
 refine Zq (Zq (Zr ?_))
 refine Zu (aB eC rfl) ?_
 refine Zu (aB pO rfl) ?_
 refine Zu (aB UY rfl) ?_
 refine Zu (aJ dD rfl rfl) ?_
 refine Zu (wZ rfl rfl) ?_
 refine Zl ?_
 refine VC.keep (ρ':=[(1,i64 l6),(2,ptr dQ 0),(4,ptr oS 0),(13,.bool (!decide (aA.aQ=[])))]) [1,2,4,13] rfl ?_
 refine rE hS (fun h13 hS => ?_) (fun h13 hS => ?_)
 ·
  refine Zr ?_
  refine Zu (cD cL rfl rfl) ?_
  refine Zu (aB eC rfl) ?_
  refine Zu (aB pO rfl) ?_
  refine Zu (aB UY rfl) ?_
  refine Zu (aJ dD rfl rfl) ?_
  refine Zm ?_
  obtain ⟨zJ,aBJ,hS⟩:=aK hS
  refine VL.cU (aCJ (⟨aA.bH,aA.aX,aA.bQ,aA.aQ,l6,aA.bK,aA.bI,aA.bP,aA.aN,aA.aR,aA.bO,aA.aZ,aA.aL,aA.aM,aA.aO,aA.aS,aA.bC,aA.bE,aA.bT,aA.bJ,aA.time⟩:cF) aA.aQ l6 aBJ) rfl (by decide) ?_
  rintro fZ rfl
  try dsimp only
  refine Zv (cs':=(aH fZ)) rfl gG ?_
  refine Zl ?_
  refine VC.keep (ρ':=[(2,ptr dQ 0),(4,ptr oS 0)]) [2,4] rfl ?_
  refine Zq (Zr ?_)
  refine Zu (cD cL rfl rfl) ?_
  refine Zv (cs':=(aH fZ)) rfl gG ?_
  refine Zl ?_
  cases hS
  exact VC.ret (hG (vs:=[.agg (aH fZ).toArray]) (.inr rfl) rfl (dS.cell cL rfl rfl Rd.blk (dS.nil)) fZ rfl rfl (by (try dsimp only); exact cA.out) (fun _ _=>trivial))
 refine Zk ?_
 refine Zq (Zr ?_)
 refine Zu (cD cL rfl rfl) ?_
 refine Zv (cs':=[aA.bH.val,aA.aX.val,aA.bQ.val,str aA.aQ,i64 l6,str aA.bK,i64 aA.bI,str aA.bP,aA.aN.val,aA.aR.val,i64 aA.bO,str aA.aZ,str aA.aL,i64 aA.aM,aA.aO.val,aA.aS.val,aA.bC.val,aA.bE.val,aA.bT.val,aA.bJ.val,i64 aA.time]) rfl gG ?_
 refine Zl ?_
 cases hS
 exact VC.ret (hG (vs:=[.agg #[aA.bH.val,aA.aX.val,aA.bQ.val,str aA.aQ,i64 l6,str aA.bK,i64 aA.bI,str aA.bP,aA.aN.val,aA.aR.val,i64 aA.bO,str aA.aZ,str aA.aL,i64 aA.aM,aA.aO.val,aA.aS.val,aA.bC.val,aA.bE.val,aA.bT.val,aA.bJ.val,i64 aA.time]]) (.inr rfl) rfl (dS.cell cL rfl rfl Rd.blk (dS.nil)) ⟨aA.bH,aA.aX,aA.bQ,aA.aQ,l6,aA.bK,aA.bI,aA.bP,aA.aN,aA.aR,aA.bO,aA.aZ,aA.aL,aA.aM,aA.aO,aA.aS,aA.bC,aA.bE,aA.bT,aA.bJ,aA.time⟩ rfl rfl (by (try dsimp only); exact cA.out) (fun _ _=>trivial))
theorem yW (aA:cF) (mM:Sv aC) (nQ:Sv Int) (sG:bB) {r:bR} (hS:Sh.SK aA.pl mM.l nQ.l sG=some r) :
 Ct Tryz.prog 225 [.agg (aH aA).toArray,mM.val,nQ.val,str sG] (aA.bH.ok.and (aA.aX.ok.and (aA.bQ.ok.and (aA.aN.ok.and (aA.aR.ok.and (aA.aO.ok.and (aA.aS.ok.and (aA.bC.ok.and (aA.bE.ok.and (aA.bT.ok.and (aA.bJ.ok.and (mM.ok.and nQ.ok)))))))))))) (Ow.emp) (X:=cF) (fun x => .agg (bM.enc x).toArray) (fun x=>r=x.pl) (fun x=>x.m) (fun x=>Ow.emp):=by
 refine Zo Tryz.func225 Tryz.ntmps225 fun c => ?_
 unfold Sh.SK at hS
 refine Zq (Zr ?_)
 refine VL.box (cs:=(aH aA)) rfl rfl (by decide) fun wM => ?_
 refine VL.alloc (cs:=[.slice none 0 0,.slice none 0 0,.slice none 0 0,str [],i64 0,str [],i64 0,str [],.slice none 0 0,.slice none 0 0,i64 0,str [],str [],i64 0,.slice none 0 0,.slice none 0 0,.slice none 0 0,.slice none 0 0,.slice none 0 0,.slice none 0 0,i64 0]) (by kernel_rfl) (by decide) fun HW => ?_
 refine Zl ?_
 refine Zq ?_
 refine VC.aFJ (n:=5) (listed := #[true,true,false,true,true,true,true,true,true,false,false,false,false]) [(0,true),(1,true),(3,true),(4,true),(5,true),(6,true),(7,true),(8,true)] mixed (by kernel_rfl) (by kernel_rfl) (by kernel_rfl) (by kernel_rfl) ?_
 refine VD.q rfl (aB nA rfl) (by decide) ?_
 refine VD.q rfl (aJ sW rfl rfl) (by decide) ?_
 refine VD.q rfl (bA rfl) (by decide) ?_
 refine VD.q rfl (bA rfl) (by decide) ?_
 refine VD.q rfl (aB aBV rfl) (by decide) ?_
 refine VD.q rfl (aJ eP rfl rfl) (by decide) ?_
 refine VD.q rfl (bA rfl) (by decide) ?_
 refine VD.q rfl (eN (vs:=[(0,mM.val),(1,nQ.val),(2,i64 aA.time),(3,str sG)]) (cs := #[mM.val,nQ.val,i64 aA.time,str sG]) rfl (by kernel_rfl)) (by decide) ?_
 obtain ⟨A5,aES,hS⟩:=qT hS
 obtain ⟨I6,MW,hS⟩:=aK hS
 refine VD.toG fun hcl => ?_
 refine VG.fork (l:=[2,9]) (n:=4) (by kernel_rfl) rfl fun i hi => ?_
 obtain rfl | rfl:i=2∨i=9:=by simpa using hi
 ·
  refine QL.of rfl ?_
  refine VL.bS (pZ aA.bE MW) rfl (by decide) ?_
  rintro V2 rfl
  try dsimp only
  refine VL.B0 (D':=[(8,.agg #[mM.val,nQ.val,i64 aA.time,str sG]),(6,i64 aA.time),(5,ptr wM 20)]) (listed' := #[true,true,true,true,true,true,true,true,true,false,false,false,false]) (aF.cons rfl (eN (vs:=[(0,mM.val),(1,nQ.val),(2,i64 aA.time),(3,str sG)]) (cs := #[mM.val,nQ.val,i64 aA.time,str sG]) rfl (by kernel_rfl)) (aF.cons rfl (aJ eP rfl rfl) (aF.cons rfl (aB aBV rfl) (aF.nil)))) (by kernel_rfl) (by kernel_rfl) ?_
  refine VG.ord [(9,false),(10,false),(11,true),(12,false)] (by kernel_rfl) (qZ (by kernel_rfl)) (by kernel_rfl) ?_
  refine VD.one rfl ?_
  refine VL.lit (α:=cI) (xs:=[.tmp 17]) (vs:=[.agg #[mM.val,nQ.val,i64 aA.time,str sG]]) [⟨mM,nQ,aA.time,sG⟩] Tryz.underlying61 aJ9 (by decide) rfl rfl rfl rfl (by decide) (fun h m=>List.forall_mem_cons.2 ⟨cA.out (X:=(mM.ok.and nQ.ok)) h m,fun _ h=>by cases h⟩) (by decide) (fun QB aAP => ?_) (by decide)
  obtain rfl:A5=QB.l.map cI.pl:=aES.symm.trans (congrArg (List.map cI.pl) aAP).symm
  refine VL.back (D':=[]) (by kernel_rfl) (aF.nil) ?_
  refine VD.one rfl ?_
  obtain ⟨b19,hS⟩:=bU hS
  refine VL.app (s:=V2) (r:=QB) Tryz.underlying61 aEU (by decide) rfl Fo.out (sU (apm b19)) (sV (apm b19) (by decide)) (by decide) (fun w9 JS => ?_)
  replace hS:=bV ((congrArg (List.map cI.pl) JS).trans List.map_append) hS
  refine VL.aDD JS ?_
  refine VL.back (D':=[]) (by kernel_rfl) (aF.nil) ?_
  refine Zw rfl (aB nA rfl) ?_
  refine VD.one rfl ?_
  refine Zv (cs':=[aA.bH.val,aA.aX.val,aA.bQ.val,str aA.aQ,i64 aA.aG,str aA.bK,i64 aA.bI,str aA.bP,aA.aN.val,aA.aR.val,i64 aA.bO,str aA.aZ,str aA.aL,i64 aA.aM,aA.aO.val,aA.aS.val,aA.bC.val,w9.val,aA.bT.val,aA.bJ.val,i64 aA.time]) rfl aJc ?_
  refine VL.back (D':=[]) (by kernel_rfl) (aF.nil) ?_
  refine VD.to (fun _ _ h=>h) ?_
  refine VC.keep (ρ':=[(4,ptr wM 0),(8,ptr HW 0)]) [4,8] rfl ?_
  refine Zq (Zr ?_)
  refine Zu (cD cL rfl rfl) ?_
  refine Zu (aB nA rfl) ?_
  refine Zu (aJ sW rfl rfl) ?_
  refine Zu (oN cI.pl (s:=w9) Tryz.underlying61 rfl) ?_
  refine VL.shut w9 73 (fun h m=>cA.out (X:=xW w9.l) h m) ?_
  obtain ⟨aOX,aJX,hS⟩:=aK hS
  refine VL.cU (ZM (⟨aA.bH,aA.aX,aA.bQ,aA.aQ,aA.aG,aA.bK,aA.bI,aA.bP,aA.aN,aA.aR,aA.bO,aA.aZ,aA.aL,aA.aM,aA.aO,aA.aS,aA.bC,w9,aA.bT,aA.bJ,aA.time⟩:cF) ((w9.l.map cI.pl).length:Int) aJX) rfl (by decide) ?_
  rintro L0 rfl
  try dsimp only
  refine Zv (cs':=(aH L0)) rfl gG ?_
  refine Zl ?_
  cases hS
  exact VC.ret (hG (vs:=[.agg (aH L0).toArray]) (.inr rfl) rfl (dS.cell cL rfl rfl Rd.blk (dS.nil)) L0 rfl rfl (by (try dsimp only); exact cA.out) (fun _ _=>trivial))
 refine QL.of rfl ?_
 refine VL.lit (α:=cI) (xs:=[.tmp 17]) (vs:=[.agg #[mM.val,nQ.val,i64 aA.time,str sG]]) [⟨mM,nQ,aA.time,sG⟩] Tryz.underlying61 aJ9 (by decide) rfl rfl rfl rfl (by decide) (fun h m=>List.forall_mem_cons.2 ⟨cA.out (X:=(mM.ok.and nQ.ok)) h m,fun _ h=>by cases h⟩) (by decide) (fun QB aAP => ?_) (by decide)
 obtain rfl:A5=QB.l.map cI.pl:=aES.symm.trans (congrArg (List.map cI.pl) aAP).symm
 refine VL.B0 (D':=[(1,aA.bE.val),(0,ptr wM 17)]) (listed' := #[true,true,false,true,true,true,true,true,true,true,false,false,false]) (aF.cons rfl (aJ sW rfl rfl) (aF.cons rfl (aB nA rfl) (aF.nil))) (by kernel_rfl) (by kernel_rfl) ?_
 refine VG.ord [(2,false),(10,false),(11,true),(12,false)] (by kernel_rfl) (qZ (by kernel_rfl)) (by kernel_rfl) ?_
 refine VD.one rfl ?_
 refine VL.bS (pZ aA.bE MW) rfl (by decide) ?_
 rintro V2 rfl
 try dsimp only
 refine VL.back (D':=[]) (by kernel_rfl) (aF.nil) ?_
 refine VD.one rfl ?_
 obtain ⟨b19,hS⟩:=bU hS
 refine VL.app (s:=V2) (r:=QB) Tryz.underlying61 aEU (by decide) rfl Fo.out (sU (apm b19)) (sV (apm b19) (by decide)) (by decide) (fun w9 JS => ?_)
 replace hS:=bV ((congrArg (List.map cI.pl) JS).trans List.map_append) hS
 refine VL.aDD JS ?_
 refine VL.back (D':=[]) (by kernel_rfl) (aF.nil) ?_
 refine Zw rfl (aB nA rfl) ?_
 refine VD.one rfl ?_
 refine Zv (cs':=[aA.bH.val,aA.aX.val,aA.bQ.val,str aA.aQ,i64 aA.aG,str aA.bK,i64 aA.bI,str aA.bP,aA.aN.val,aA.aR.val,i64 aA.bO,str aA.aZ,str aA.aL,i64 aA.aM,aA.aO.val,aA.aS.val,aA.bC.val,w9.val,aA.bT.val,aA.bJ.val,i64 aA.time]) rfl aJc ?_
 refine VL.back (D':=[]) (by kernel_rfl) (aF.nil) ?_
 refine VD.to (fun _ _ h=>h) ?_
 refine VC.keep (ρ':=[(4,ptr wM 0),(8,ptr HW 0)]) [4,8] rfl ?_
 refine Zq (Zr ?_)
 refine Zu (cD cL rfl rfl) ?_
 refine Zu (aB nA rfl) ?_
 refine Zu (aJ sW rfl rfl) ?_
 refine Zu (oN cI.pl (s:=w9) Tryz.underlying61 rfl) ?_
 refine VL.shut w9 73 (fun h m=>cA.out (X:=xW w9.l) h m) ?_
 obtain ⟨aOX,aJX,hS⟩:=aK hS
 refine VL.cU (ZM (⟨aA.bH,aA.aX,aA.bQ,aA.aQ,aA.aG,aA.bK,aA.bI,aA.bP,aA.aN,aA.aR,aA.bO,aA.aZ,aA.aL,aA.aM,aA.aO,aA.aS,aA.bC,w9,aA.bT,aA.bJ,aA.time⟩:cF) ((w9.l.map cI.pl).length:Int) aJX) rfl (by decide) ?_
 rintro L0 rfl
 try dsimp only
 refine Zv (cs':=(aH L0)) rfl gG ?_
 refine Zl ?_
 cases hS
 exact VC.ret (hG (vs:=[.agg (aH L0).toArray]) (.inr rfl) rfl (dS.cell cL rfl rfl Rd.blk (dS.nil)) L0 rfl rfl (by (try dsimp only); exact cA.out) (fun _ _=>trivial))
theorem aEM (aA:cF) (mM:Sv aC) (J3:bB) {r:bR×eY} (hS:Sh.SM aA.pl mM.l J3=some r) :
 Ct Tryz.prog 153 [.agg (aH aA).toArray,mM.val,str J3] (aA.bH.ok.and (aA.aX.ok.and (aA.bQ.ok.and (aA.aN.ok.and (aA.aR.ok.and (aA.aO.ok.and (aA.aS.ok.and (aA.bC.ok.and (aA.bE.ok.and (aA.bT.ok.and (aA.bJ.ok.and mM.ok))))))))))) (Ow.emp) (X:=cF×Er) (fun x => .tuple #[.agg (bM.enc x.1).toArray,x.2.val]) (fun x=>r=(x.1.pl,x.2.pl)) (fun x=>(x.1.m.and x.2.ok)) (fun x=>Ow.emp):=by
 refine Zo Tryz.func153 Tryz.ntmps153 fun c => ?_
 unfold Sh.SM at hS
 refine Zq (Zr ?_)
 refine VL.box (cs:=(aH aA)) rfl rfl (by decide) fun fX => ?_
 refine VL.alloc (cs:=[.slice none 0 0,.slice none 0 0,.slice none 0 0,str [],i64 0,str [],i64 0,str [],.slice none 0 0,.slice none 0 0,i64 0,str [],str [],i64 0,.slice none 0 0,.slice none 0 0,.slice none 0 0,.slice none 0 0,.slice none 0 0,.slice none 0 0,i64 0]) (by kernel_rfl) (by decide) fun D4 => ?_
 refine Zy ?_
 refine Zq (Zq (Zr ?_))
 refine Zm ?_
 obtain ⟨lY,uZ,hS⟩:=aK hS
 refine VL.cU (vY mM uZ) rfl (by decide) ?_
 rintro gT rfl
 try dsimp only
 refine Zy ?_
 refine Zq (Zr ?_)
 refine Zm ?_
 refine Zu (jM Tryz.underlying26 rfl) ?_
 refine Zl ?_
 refine rE hS (fun h14 hS => ?_) (fun h14 hS => ?_)
 ·
  refine Zq ?_
  cases hS
 refine Zk ?_
 refine VC.keep (ρ':=[(1,mM.val),(2,str J3),(3,ptr fX 0),(6,ptr D4 0)]) [1,2,3,6] rfl ?_
 refine Zq (Zq (Zr ?_))
 refine Zu (cD cL rfl rfl) ?_
 obtain ⟨MJ,aJO,hS⟩:=aK hS
 refine Zu (bZ (HS aA aJO) rfl (fun _ _=>rfl)) ?_
 refine Zu (lQ rfl) ?_
 refine Zl ?_
 refine iL hS (fun h20 hS => ?_) (fun h20 hS => ?_)
 ·
  refine Zq ?_
  cases hS
 refine Zk ?_
 refine Zq (Zr ?_)
 refine Zy ?_
 refine Zq (Zq (Zr ?_))
 refine Zu (aB eC rfl) ?_
 refine Zu (aB tJ rfl) ?_
 refine Zu (aB H6 rfl) ?_
 refine Zu (aJ dD rfl rfl) ?_
 refine Zy ?_
 refine VC.keep (ρ':=[(1,mM.val),(2,str J3),(3,ptr fX 0),(6,ptr D4 0),(9,i64 0),(27,.bool (decide (aA.bK=[109,101,114,103,101])))]) [1,2,3,6,9,27] rfl ?_
 refine Zc hS (fun h27 hS => ?_) (fun h27 hS => ?_)
 ·
  cases hS
 refine Zk ?_
 refine Zq ?_
 refine VC.aFJ (n:=4) (listed := #[true,true,true,true,false,true,false,false,false]) [(0,true),(1,true),(2,true),(3,true),(5,true)] mixed (by kernel_rfl) (by kernel_rfl) (by kernel_rfl) (by kernel_rfl) ?_
 refine VD.q rfl (cD cL rfl rfl) (by decide) ?_
 refine VD.q rfl (bA rfl) (by decide) ?_
 refine VD.q rfl (cD cL rfl rfl) (by decide) ?_
 refine VD.q rfl (bA rfl) (by decide) ?_
 refine VD.q rfl (bA rfl) (by decide) ?_
 obtain ⟨aZV,aOx,hS⟩:=aK hS
 obtain ⟨HJ,aJ4,hS⟩:=aK hS
 refine VD.toG fun hcl => ?_
 refine VG.fork (l:=[4,7]) (n:=3) (by kernel_rfl) rfl fun i hi => ?_
 obtain rfl | rfl:i=4∨i=7:=by simpa using hi
 ·
  refine QL.of rfl ?_
  refine VL.bS (QA aA 0 aOx) rfl (by decide) ?_
  rintro AQ rfl
  try dsimp only
  refine VL.B0 (D':=[(0,.agg (aH aA).toArray)]) (listed' := #[true,true,true,true,true,true,false,false,false]) (aF.cons rfl (cD cL rfl rfl) (aF.nil)) (by kernel_rfl) (by kernel_rfl) ?_
  refine VG.fork (l:=[6,7]) (n:=2) (by kernel_rfl) rfl fun i hi => ?_
  obtain rfl | rfl:i=6∨i=7:=by simpa using hi
  ·
   refine QL.of rfl ?_
   refine VL.shut AQ 3 (fun _ _ _ _=>trivial) ?_
   refine VL.cU (yW aA mM AQ J3 aJ4) rfl (by decide) ?_
   rintro aV rfl
   try dsimp only
   refine VL.B0 (D':=[]) (listed' := #[true,true,true,true,true,true,true,false,false]) (aF.nil) (by kernel_rfl) (by kernel_rfl) ?_
   refine VG.ord [(7,false),(8,false)] (by kernel_rfl) (qZ (by kernel_rfl)) (by kernel_rfl) ?_
   refine VD.one rfl ?_
   refine VL.alloc (cs:=[.slice none 0 0,.slice none 0 0,.slice none 0 0,str [],i64 0,str [],i64 0,str [],.slice none 0 0,.slice none 0 0,i64 0,str [],str [],i64 0,.slice none 0 0,.slice none 0 0,.slice none 0 0,.slice none 0 0,.slice none 0 0,.slice none 0 0,i64 0]) (by kernel_rfl) (by decide) fun O1 => ?_
   refine VL.back (D':=[]) (by kernel_rfl) (aF.nil) ?_
   refine VD.one rfl ?_
   refine Zv (cs':=(aH aV)) rfl gG ?_
   refine VL.back (D':=[]) (by kernel_rfl) (aF.nil) ?_
   refine VD.to (fun _ _ h=>h) ?_
   refine VC.keep (ρ':=[(6,ptr D4 0),(10,ptr O1 0)]) [6,10] rfl ?_
   refine Zq (Zq (Zr ?_))
   refine Zu (aB eC rfl) ?_
   refine Zu (aB tJ rfl) ?_
   refine Zu (aB H6 rfl) ?_
   refine Zu (aJ dD rfl rfl) ?_
   refine Zu (wZ rfl rfl) ?_
   refine Zl ?_
   refine rE hS (fun h43 hS => ?_) (fun h43 hS => ?_)
   ·
    refine Zr ?_
    refine Zu (eN (vs:=[]) (cs := #[str [],i64 0,str [],.slice none 0 0,.slice none 0 0,i64 0,str [],str [],i64 0,.slice none 0 0,.slice none 0 0]) rfl (by kernel_rfl)) ?_
    refine Zu (aB eC rfl) ?_
    refine Zu (aB tJ rfl) ?_
    refine Zv (cs':=[aV.bH.val,aV.aX.val,aV.bQ.val,str aV.aQ,i64 aV.aG,str [],i64 0,str [],.slice none 0 0,.slice none 0 0,i64 0,str [],str [],i64 0,.slice none 0 0,.slice none 0 0,aV.bC.val,aV.bE.val,aV.bT.val,aV.bJ.val,i64 aV.time]) rfl aAN ?_
    refine Zl ?_
    refine Zq (Zr ?_)
    refine Zu (cD cL rfl rfl) ?_
    refine Zv (cs':=[aV.bH.val,aV.aX.val,aV.bQ.val,str aV.aQ,i64 aV.aG,str [],i64 0,str [],.slice none 0 0,.slice none 0 0,i64 0,str [],str [],i64 0,.slice none 0 0,.slice none 0 0,aV.bC.val,aV.bE.val,aV.bT.val,aV.bJ.val,i64 aV.time]) rfl gG ?_
    refine Zy ?_
    refine VC.keep (ρ':=[(6,ptr D4 0),(7,.nilIface)]) [6,7] rfl ?_
    cases hS
    exact VC.ret (hG (vs:=[.agg #[aV.bH.val,aV.aX.val,aV.bQ.val,str aV.aQ,i64 aV.aG,str [],i64 0,str [],.slice none 0 0,.slice none 0 0,i64 0,str [],str [],i64 0,.slice none 0 0,.slice none 0 0,aV.bC.val,aV.bE.val,aV.bT.val,aV.bJ.val,i64 aV.time],.nilIface]) (.inr rfl) rfl (dS.cell cL rfl rfl Rd.blk (dS.tmp rfl (dS.nil))) (⟨aV.bH,aV.aX,aV.bQ,aV.aQ,aV.aG,[],0,[],⟨none,0,[]⟩,⟨none,0,[]⟩,0,[],[],0,⟨none,0,[]⟩,⟨none,0,[]⟩,aV.bC,aV.bE,aV.bT,aV.bJ,aV.time⟩,.nil) rfl rfl (by (try dsimp only); exact cA.out) (fun _ _=>trivial))
   refine Zk ?_
   refine Zq (Zr ?_)
   refine Zu (cD cL rfl rfl) ?_
   refine Zv (cs':=(aH aV)) rfl gG ?_
   refine Zy ?_
   cases hS
   exact VC.ret (hG (vs:=[.agg (aH aV).toArray,.nilIface]) (.inr rfl) rfl (dS.cell cL rfl rfl Rd.blk (dS.tmp rfl (dS.nil))) (aV,.nil) rfl rfl (by (try dsimp only); exact cA.out) (fun _ _=>trivial))
  refine QL.of rfl ?_
  refine VL.alloc (cs:=[.slice none 0 0,.slice none 0 0,.slice none 0 0,str [],i64 0,str [],i64 0,str [],.slice none 0 0,.slice none 0 0,i64 0,str [],str [],i64 0,.slice none 0 0,.slice none 0 0,.slice none 0 0,.slice none 0 0,.slice none 0 0,.slice none 0 0,i64 0]) (by kernel_rfl) (by decide) fun O1 => ?_
  refine VL.B0 (D':=[(0,.agg (aH aA).toArray)]) (listed' := #[true,true,true,true,true,true,false,true,false]) (aF.cons rfl (cD cL rfl rfl) (aF.nil)) (by kernel_rfl) (by kernel_rfl) ?_
  refine VG.ord [(6,false),(8,false)] (by kernel_rfl) (qZ (by kernel_rfl)) (by kernel_rfl) ?_
  refine VD.one rfl ?_
  refine VL.shut AQ 3 (fun _ _ _ _=>trivial) ?_
  refine VL.cU (yW aA mM AQ J3 aJ4) rfl (by decide) ?_
  rintro aV rfl
  try dsimp only
  refine VL.back (D':=[]) (by kernel_rfl) (aF.nil) ?_
  refine VD.one rfl ?_
  refine Zv (cs':=(aH aV)) rfl gG ?_
  refine VL.back (D':=[]) (by kernel_rfl) (aF.nil) ?_
  refine VD.to (fun _ _ h=>h) ?_
  refine VC.keep (ρ':=[(6,ptr D4 0),(10,ptr O1 0)]) [6,10] rfl ?_
  refine Zq (Zq (Zr ?_))
  refine Zu (aB eC rfl) ?_
  refine Zu (aB tJ rfl) ?_
  refine Zu (aB H6 rfl) ?_
  refine Zu (aJ dD rfl rfl) ?_
  refine Zu (wZ rfl rfl) ?_
  refine Zl ?_
  refine rE hS (fun h43 hS => ?_) (fun h43 hS => ?_)
  ·
   refine Zr ?_
   refine Zu (eN (vs:=[]) (cs := #[str [],i64 0,str [],.slice none 0 0,.slice none 0 0,i64 0,str [],str [],i64 0,.slice none 0 0,.slice none 0 0]) rfl (by kernel_rfl)) ?_
   refine Zu (aB eC rfl) ?_
   refine Zu (aB tJ rfl) ?_
   refine Zv (cs':=[aV.bH.val,aV.aX.val,aV.bQ.val,str aV.aQ,i64 aV.aG,str [],i64 0,str [],.slice none 0 0,.slice none 0 0,i64 0,str [],str [],i64 0,.slice none 0 0,.slice none 0 0,aV.bC.val,aV.bE.val,aV.bT.val,aV.bJ.val,i64 aV.time]) rfl aAN ?_
   refine Zl ?_
   refine Zq (Zr ?_)
   refine Zu (cD cL rfl rfl) ?_
   refine Zv (cs':=[aV.bH.val,aV.aX.val,aV.bQ.val,str aV.aQ,i64 aV.aG,str [],i64 0,str [],.slice none 0 0,.slice none 0 0,i64 0,str [],str [],i64 0,.slice none 0 0,.slice none 0 0,aV.bC.val,aV.bE.val,aV.bT.val,aV.bJ.val,i64 aV.time]) rfl gG ?_
   refine Zy ?_
   refine VC.keep (ρ':=[(6,ptr D4 0),(7,.nilIface)]) [6,7] rfl ?_
   cases hS
   exact VC.ret (hG (vs:=[.agg #[aV.bH.val,aV.aX.val,aV.bQ.val,str aV.aQ,i64 aV.aG,str [],i64 0,str [],.slice none 0 0,.slice none 0 0,i64 0,str [],str [],i64 0,.slice none 0 0,.slice none 0 0,aV.bC.val,aV.bE.val,aV.bT.val,aV.bJ.val,i64 aV.time],.nilIface]) (.inr rfl) rfl (dS.cell cL rfl rfl Rd.blk (dS.tmp rfl (dS.nil))) (⟨aV.bH,aV.aX,aV.bQ,aV.aQ,aV.aG,[],0,[],⟨none,0,[]⟩,⟨none,0,[]⟩,0,[],[],0,⟨none,0,[]⟩,⟨none,0,[]⟩,aV.bC,aV.bE,aV.bT,aV.bJ,aV.time⟩,.nil) rfl rfl (by (try dsimp only); exact cA.out) (fun _ _=>trivial))
  refine Zk ?_
  refine Zq (Zr ?_)
  refine Zu (cD cL rfl rfl) ?_
  refine Zv (cs':=(aH aV)) rfl gG ?_
  refine Zy ?_
  cases hS
  exact VC.ret (hG (vs:=[.agg (aH aV).toArray,.nilIface]) (.inr rfl) rfl (dS.cell cL rfl rfl Rd.blk (dS.tmp rfl (dS.nil))) (aV,.nil) rfl rfl (by (try dsimp only); exact cA.out) (fun _ _=>trivial))
 refine QL.of rfl ?_
 refine VL.alloc (cs:=[.slice none 0 0,.slice none 0 0,.slice none 0 0,str [],i64 0,str [],i64 0,str [],.slice none 0 0,.slice none 0 0,i64 0,str [],str [],i64 0,.slice none 0 0,.slice none 0 0,.slice none 0 0,.slice none 0 0,.slice none 0 0,.slice none 0 0,i64 0]) (by kernel_rfl) (by decide) fun O1 => ?_
 refine VL.B0 (D':=[(2,.agg (aH aA).toArray),(0,.agg (aH aA).toArray)]) (listed' := #[true,true,true,true,false,true,false,true,false]) (aF.cons rfl (cD cL rfl rfl) (aF.cons rfl (cD cL rfl rfl) (aF.nil))) (by kernel_rfl) (by kernel_rfl) ?_
 refine VG.ord [(4,false),(6,false),(8,false)] (by kernel_rfl) (qZ (by kernel_rfl)) (by kernel_rfl) ?_
 refine VD.one rfl ?_
 refine VL.bS (QA aA 0 aOx) rfl (by decide) ?_
 rintro AQ rfl
 try dsimp only
 refine VL.back (D':=[(0,.agg (aH aA).toArray)]) (by kernel_rfl) (aF.cons rfl (cD cL rfl rfl) (aF.nil)) ?_
 refine VD.one rfl ?_
 refine VL.shut AQ 3 (fun _ _ _ _=>trivial) ?_
 refine VL.cU (yW aA mM AQ J3 aJ4) rfl (by decide) ?_
 rintro aV rfl
 try dsimp only
 refine VL.back (D':=[]) (by kernel_rfl) (aF.nil) ?_
 refine VD.one rfl ?_
 refine Zv (cs':=(aH aV)) rfl gG ?_
 refine VL.back (D':=[]) (by kernel_rfl) (aF.nil) ?_
 refine VD.to (fun _ _ h=>h) ?_
 refine VC.keep (ρ':=[(6,ptr D4 0),(10,ptr O1 0)]) [6,10] rfl ?_
 refine Zq (Zq (Zr ?_))
 refine Zu (aB eC rfl) ?_
 refine Zu (aB tJ rfl) ?_
 refine Zu (aB H6 rfl) ?_
 refine Zu (aJ dD rfl rfl) ?_
 refine Zu (wZ rfl rfl) ?_
 refine Zl ?_
 refine rE hS (fun h43 hS => ?_) (fun h43 hS => ?_)
 ·
  refine Zr ?_
  refine Zu (eN (vs:=[]) (cs := #[str [],i64 0,str [],.slice none 0 0,.slice none 0 0,i64 0,str [],str [],i64 0,.slice none 0 0,.slice none 0 0]) rfl (by kernel_rfl)) ?_
  refine Zu (aB eC rfl) ?_
  refine Zu (aB tJ rfl) ?_
  refine Zv (cs':=[aV.bH.val,aV.aX.val,aV.bQ.val,str aV.aQ,i64 aV.aG,str [],i64 0,str [],.slice none 0 0,.slice none 0 0,i64 0,str [],str [],i64 0,.slice none 0 0,.slice none 0 0,aV.bC.val,aV.bE.val,aV.bT.val,aV.bJ.val,i64 aV.time]) rfl aAN ?_
  refine Zl ?_
  refine Zq (Zr ?_)
  refine Zu (cD cL rfl rfl) ?_
  refine Zv (cs':=[aV.bH.val,aV.aX.val,aV.bQ.val,str aV.aQ,i64 aV.aG,str [],i64 0,str [],.slice none 0 0,.slice none 0 0,i64 0,str [],str [],i64 0,.slice none 0 0,.slice none 0 0,aV.bC.val,aV.bE.val,aV.bT.val,aV.bJ.val,i64 aV.time]) rfl gG ?_
  refine Zy ?_
  refine VC.keep (ρ':=[(6,ptr D4 0),(7,.nilIface)]) [6,7] rfl ?_
  cases hS
  exact VC.ret (hG (vs:=[.agg #[aV.bH.val,aV.aX.val,aV.bQ.val,str aV.aQ,i64 aV.aG,str [],i64 0,str [],.slice none 0 0,.slice none 0 0,i64 0,str [],str [],i64 0,.slice none 0 0,.slice none 0 0,aV.bC.val,aV.bE.val,aV.bT.val,aV.bJ.val,i64 aV.time],.nilIface]) (.inr rfl) rfl (dS.cell cL rfl rfl Rd.blk (dS.tmp rfl (dS.nil))) (⟨aV.bH,aV.aX,aV.bQ,aV.aQ,aV.aG,[],0,[],⟨none,0,[]⟩,⟨none,0,[]⟩,0,[],[],0,⟨none,0,[]⟩,⟨none,0,[]⟩,aV.bC,aV.bE,aV.bT,aV.bJ,aV.time⟩,.nil) rfl rfl (by (try dsimp only); exact cA.out) (fun _ _=>trivial))
 refine Zk ?_
 refine Zq (Zr ?_)
 refine Zu (cD cL rfl rfl) ?_
 refine Zv (cs':=(aH aV)) rfl gG ?_
 refine Zy ?_
 cases hS
 exact VC.ret (hG (vs:=[.agg (aH aV).toArray,.nilIface]) (.inr rfl) rfl (dS.cell cL rfl rfl Rd.blk (dS.tmp rfl (dS.nil))) (aV,.nil) rfl rfl (by (try dsimp only); exact cA.out) (fun _ _=>trivial))
theorem aEL (aA:cF) (NM:bB) {r:bR×eY} (hS:Sh.SH aA.pl NM=some r) :
 Ct Tryz.prog 100 [.agg (aH aA).toArray,str NM] (aA.bH.ok.and (aA.aX.ok.and (aA.bQ.ok.and (aA.aN.ok.and (aA.aR.ok.and (aA.aO.ok.and (aA.aS.ok.and (aA.bC.ok.and (aA.bE.ok.and (aA.bT.ok.and aA.bJ.ok)))))))))) (Ow.emp) (X:=cF×Er) (fun x => .tuple #[.agg (bM.enc x.1).toArray,x.2.val]) (fun x=>r=(x.1.pl,x.2.pl)) (fun x=>(x.1.m.and x.2.ok)) (fun x=>Ow.emp):=by
 refine Zo Tryz.func100 Tryz.ntmps100 fun c => ?_
 unfold Sh.SH at hS
 refine Zq (Zr ?_)
 refine VL.box (cs:=(aH aA)) rfl rfl (by decide) fun dQ => ?_
 refine VL.alloc (cs:=[.slice none 0 0,.slice none 0 0,.slice none 0 0,str [],i64 0,str [],i64 0,str [],.slice none 0 0,.slice none 0 0,i64 0,str [],str [],i64 0,.slice none 0 0,.slice none 0 0,.slice none 0 0,.slice none 0 0,.slice none 0 0,.slice none 0 0,i64 0]) (by kernel_rfl) (by decide) fun oS => ?_
 refine Zy ?_
 refine Zq (Zr ?_)
 refine Zu (aB eC rfl) ?_
 refine Zu (aB rI rfl) ?_
 refine Zu (aJ nG rfl rfl) ?_
 obtain ⟨s4,JJ,hS⟩:=aK hS
 refine VL.cU (T5 aA.aX 0 JJ) rfl (by decide) ?_
 rintro lB rfl
 try dsimp only
 refine Zy ?_
 refine Zq (Zb (Zq (Zr ?_)))
 refine Zu (aB eC rfl) ?_
 refine Zu (aB rI rfl) ?_
 refine Zu (aJ nG rfl rfl) ?_
 obtain ⟨HF,aBG,hS⟩:=aK hS
 refine VL.cU (B3 aA.aX aBG) rfl (by decide) ?_
 rintro aBt rfl
 try dsimp only
 refine Zu (dX (s:=aBt) Tryz.underlying62 rfl) ?_
 refine Zu (iZ rfl rfl) ?_
 refine Zy ?_
 refine VC.keep (ρ':=[(1,str NM),(2,ptr dQ 0),(4,ptr oS 0),(6,lB.val),(11,.bool (decide (0 < (aBt.l.length:Int))))]) [1,2,4,6,11] rfl ?_
 refine Zc hS (fun h11 hS => ?_) (fun h11 hS => ?_)
 ·
  refine Zq ?_
  cases hS
 refine VC.gK (S:=Bool) (fun (CC:Bool)=>CC) (fun (CC:Bool)=>[(1,str NM),(2,ptr dQ 0),(4,ptr oS 0),(6,lB.val),(20,.bool CC)]) (fun (CC:Bool)=>Mo.tt) (fun (CC:Bool)=>Ow.star (bD oS [.slice none 0 0,.slice none 0 0,.slice none 0 0,str [],i64 0,str [],i64 0,str [],.slice none 0 0,.slice none 0 0,i64 0,str [],str [],i64 0,.slice none 0 0,.slice none 0 0,.slice none 0 0,.slice none 0 0,.slice none 0 0,.slice none 0 0,i64 0] 66) (Ow.star (bD dQ (aH aA) 66) (Ow.emp))) hS ?_ ?_
 ·
  clear hS
  intro k6 hS
  refine Zr ?_
  refine Zu (aB eC rfl) ?_
  refine Zu (aB tJ rfl) ?_
  refine Zu (aB H6 rfl) ?_
  refine Zu (aJ dD rfl rfl) ?_
  refine Zy ?_
  refine pL 26 hS (fun h26 hS => ?_) (fun h26 hS => ?_)
  ·
   refine Zh (aB eC rfl) ?_
   refine Zh (aB tJ rfl) ?_
   refine Zh (aB aLZ rfl) ?_
   refine Zh (aJ JQ rfl rfl) ?_
   refine Zh (dX (s:=aA.aN) Tryz.underlying54 rfl) ?_
   refine Zh (iZ rfl rfl) ?_
   refine Zy ?_
   refine VL.mt (decide (0 < (aA.aN.l.length:Int))) [1,2,4,6,20] (fun _ _ h=>h) hS rfl
  refine VL.runs 8 [(20,some false)] (by kernel_rfl) ?_
  refine VL.mt false [1,2,4,6,20] (fun _ _ h=>h) hS rfl
 clear hS
 rintro CC hS
 refine iL hS (fun h20 hS => ?_) (fun h20 hS => ?_)
 ·
  refine Zq ?_
  cases hS
 refine VC.gK (S:=Bool) (fun (XO:Bool)=>XO) (fun (XO:Bool)=>[(1,str NM),(2,ptr dQ 0),(4,ptr oS 0),(6,lB.val),(36,.bool XO)]) (fun (XO:Bool)=>Mo.tt) (fun (XO:Bool)=>Ow.star (bD oS [.slice none 0 0,.slice none 0 0,.slice none 0 0,str [],i64 0,str [],i64 0,str [],.slice none 0 0,.slice none 0 0,i64 0,str [],str [],i64 0,.slice none 0 0,.slice none 0 0,.slice none 0 0,.slice none 0 0,.slice none 0 0,.slice none 0 0,i64 0] 66) (Ow.star (bD dQ (aH aA) 66) (Ow.emp))) hS ?_ ?_
 ·
  clear hS
  intro k8 hS
  refine Zr ?_
  refine Zu (aB eC rfl) ?_
  refine Zu (aB tJ rfl) ?_
  refine Zu (aB H6 rfl) ?_
  refine Zu (aJ dD rfl rfl) ?_
  refine Zu (wZ rfl rfl) ?_
  refine Zm ?_
  refine OZ 42 hS (fun h42 hS => ?_) (fun h42 hS => ?_)
  ·
   refine Zg ?_
   refine Zh (cD cL rfl rfl) ?_
   refine VL.guard rfl rfl ?_
   obtain ⟨aDr,aJ5,hS⟩:=aK hS
   refine VL.cU (HR aA aJ5) rfl (by decide) ?_
   rintro aYU rfl
   try dsimp only
   obtain ⟨aKg,aVA,hS⟩:=aK hS
   refine Zh (bZ (K6 lB aYU aVA) rfl (fun _ _=>rfl)) ?_
   refine Zy ?_
   refine VL.mt aKg [1,2,4,6,36] (fun _ _ h=>h) hS rfl
  refine VL.runs 6 [(36,some false)] (by kernel_rfl) ?_
  refine VL.mt false [1,2,4,6,36] (fun _ _ h=>h) hS rfl
 clear hS
 rintro XO hS
 refine iL hS (fun h36 hS => ?_) (fun h36 hS => ?_)
 ·
  refine Zq ?_
  cases hS
 refine Zk ?_
 refine Zq (Zr ?_)
 refine Zu (cD cL rfl rfl) ?_
 refine Zy ?_
 obtain ⟨aKj,aVP,hS⟩:=aK hS
 refine VL.cU (aEM aA lB NM aVP) rfl (by decide) ?_
 rintro ⟨aDZ,aD0⟩ rfl
 try dsimp only
 refine Zu (aW rfl rfl) ?_
 refine Zu (aW rfl rfl) ?_
 refine Zv (cs':=(aH aDZ)) rfl gG ?_
 refine Zy ?_
 refine VC.keep (ρ':=[(4,ptr oS 0),(5,aD0.val)]) [4,5] rfl ?_
 cases hS
 exact VC.ret (hG (vs:=[.agg (aH aDZ).toArray,aD0.val]) (.inr rfl) rfl (dS.cell cL rfl rfl Rd.blk (dS.tmp rfl (dS.nil))) (aDZ,aD0) rfl rfl (by (try dsimp only); exact cA.out) (fun _ _=>trivial))
theorem aEJ (aA:cF) (fD:bB) {r:bR×eY} (hS:Sh.SF aA.pl fD=some r) :
 Ct Tryz.prog 162 [.agg (aH aA).toArray,str fD] (aA.bH.ok.and (aA.aX.ok.and (aA.bQ.ok.and (aA.aN.ok.and (aA.aR.ok.and (aA.aO.ok.and (aA.aS.ok.and (aA.bC.ok.and (aA.bE.ok.and (aA.bT.ok.and aA.bJ.ok)))))))))) (Ow.emp) (X:=cF×Er) (fun x => .tuple #[.agg (bM.enc x.1).toArray,x.2.val]) (fun x=>r=(x.1.pl,x.2.pl)) (fun x=>(x.1.m.and x.2.ok)) (fun x=>Ow.emp):=by
 refine Zo Tryz.func162 Tryz.ntmps162 fun c => ?_
 unfold Sh.SF at hS
 refine Zq (Zr ?_)
 refine VL.box (cs:=(aH aA)) rfl rfl (by decide) fun dQ => ?_
 refine VL.alloc (cs:=[.slice none 0 0,.slice none 0 0,.slice none 0 0,str [],i64 0,str [],i64 0,str [],.slice none 0 0,.slice none 0 0,i64 0,str [],str [],i64 0,.slice none 0 0,.slice none 0 0,.slice none 0 0,.slice none 0 0,.slice none 0 0,.slice none 0 0,i64 0]) (by kernel_rfl) (by decide) fun oS => ?_
 refine Zy ?_
 refine Zq (Zr ?_)
 refine Zu (cD cL rfl rfl) ?_
 refine Zm ?_
 obtain ⟨S3,aJE,hS⟩:=aK hS
 refine Zu (bZ (CW aA fD aJE) rfl (fun _ _=>rfl)) ?_
 refine Zm ?_
 refine Zu (aW rfl rfl) ?_
 refine Zu (aW rfl rfl) ?_
 refine Zy ?_
 refine VC.keep (ρ':=[(1,str fD),(2,ptr dQ 0),(4,ptr oS 0),(7,.bool S3.2)]) [1,2,4,7] rfl ?_
 refine Zq (Zb (Zq (Zr ?_)))
 refine Zu (aB eC rfl) ?_
 refine Zu (aB pO rfl) ?_
 refine Zu (aB E9 rfl) ?_
 refine Zu (aJ eP rfl rfl) ?_
 refine Zu (gV rfl rfl) ?_
 refine Zy ?_
 refine Zc hS (fun h14 hS => ?_) (fun h14 hS => ?_)
 ·
  refine Zq ?_
  cases hS
 refine Zq (Zr ?_)
 refine Zy ?_
 refine VC.keep (ρ':=[(1,str fD),(2,ptr dQ 0),(4,ptr oS 0),(22,.bool S3.2)]) [1,2,4,22] rfl ?_
 refine iL hS (fun h22 hS => ?_) (fun h22 hS => ?_)
 ·
  refine Zq ?_
  cases hS
 refine Zq (Zr ?_)
 refine Zu (aB eC rfl) ?_
 refine Zu (aB kZ rfl) ?_
 refine Zu (aJ u6 rfl rfl) ?_
 refine Zu (dX (s:=aA.bQ) Tryz.underlying51 rfl) ?_
 refine Zu (sK rfl rfl) ?_
 refine Zy ?_
 refine Zc hS (fun h26 hS => ?_) (fun h26 hS => ?_)
 ·
  refine Zq ?_
  cases hS
 refine Zk ?_
 refine Zq (Zr ?_)
 refine Zu (cD cL rfl rfl) ?_
 refine Zm ?_
 refine Zu (aB eC rfl) ?_
 refine Zu (aB pO rfl) ?_
 refine Zu (aB E9 rfl) ?_
 refine Zu (aJ eP rfl rfl) ?_
 obtain ⟨aZW,a0l,hS⟩:=aK hS
 refine VL.cU (aCJ aA fD aA.aG a0l) rfl (by decide) ?_
 rintro aGc rfl
 try dsimp only
 refine Zv (cs':=(aH aGc)) rfl gG ?_
 refine Zy ?_
 refine VC.keep (ρ':=[(4,ptr oS 0),(5,.nilIface)]) [4,5] rfl ?_
 cases hS
 exact VC.ret (hG (vs:=[.agg (aH aGc).toArray,.nilIface]) (.inr rfl) rfl (dS.cell cL rfl rfl Rd.blk (dS.tmp rfl (dS.nil))) (aGc,.nil) rfl rfl (by (try dsimp only); exact cA.out) (fun _ _=>trivial))
theorem aMu (aA:cF) (eF:rT) {r:pJ×eY} (hS:Sh.aGk aA.pl eF.pl=some r) :
 Ct Tryz.prog 239 [.agg (aH aA).toArray,.agg #[str eF.verb,str eF.name,i64 eF.n,str eF.text,.bool eF.force,eF.todo.val]] (aA.bH.ok.and (aA.aX.ok.and (aA.bQ.ok.and (aA.aN.ok.and (aA.aR.ok.and (aA.aO.ok.and (aA.aS.ok.and (aA.bC.ok.and (aA.bE.ok.and (aA.bT.ok.and (aA.bJ.ok.and eF.todo.ok))))))))))) (Ow.emp) (X:=pJ×Er) (fun x => .tuple #[.agg #[str x.1.branch,i64 x.1.dO],x.2.val]) (fun x=>r=(x.1,x.2.pl)) (fun x=>x.2.ok) (fun x=>Ow.emp):=by
 refine Zo Tryz.func239 Tryz.ntmps239 fun c => ?_
 unfold Sh.aGk at hS
 refine Zq (Zr ?_)
 refine VL.box (cs:=(aH aA)) rfl rfl (by decide) fun dQ => ?_
 refine VL.box (cs:=[str eF.verb,str eF.name,i64 eF.n,str eF.text,.bool eF.force,eF.todo.val]) rfl rfl (by decide) fun jQ => ?_
 refine VL.alloc (cs:=[str [],i64 0]) (by kernel_rfl) (by decide) fun oI => ?_
 refine Zy ?_
 refine Zq (Zq (Zr ?_))
 refine Zu (aB qE rfl) ?_
 refine Zu (aJ dD rfl rfl) ?_
 refine Zy ?_
 refine Zc hS (fun h12 hS => ?_) (fun h12 hS => ?_)
 ·
  refine Zq (Zq ?_)
  cases hS
 refine Zk ?_
 refine Zq (Zr ?_)
 refine Zu (cD cL rfl rfl) ?_
 refine Zu (aB qE rfl) ?_
 refine Zu (aJ dD rfl rfl) ?_
 obtain ⟨aHN,a06,hS⟩:=aK hS
 refine Zu (bZ (CW aA eF.name a06) rfl (fun _ _=>rfl)) ?_
 refine Zm ?_
 refine Zu (aW rfl rfl) ?_
 refine Zu (aW rfl rfl) ?_
 refine Zy ?_
 refine VC.keep (ρ':=[(2,ptr dQ 0),(3,ptr jQ 0),(4,ptr oI 0),(8,i64 aHN.1),(9,.bool aHN.2)]) [2,3,4,8,9] rfl ?_
 refine Zq (Zq (Zr ?_))
 refine Zm ?_
 refine Zu (lQ rfl) ?_
 refine Zl ?_
 refine iL hS (fun h35 hS => ?_) (fun h35 hS => ?_)
 ·
  refine Zq ?_
  cases hS
 refine Zk ?_
 refine Zq ?_
 refine VC.draw [(0,true),(1,true),(2,true),(3,true),(4,true),(5,true),(6,true),(7,true),(8,true),(9,true),(10,false),(11,true)] mixed (by kernel_rfl) (by kernel_rfl) (by kernel_rfl) ?_
 refine Zw rfl (aB qE rfl) ?_
 refine Zw rfl (aJ dD rfl rfl) ?_
 refine Zw rfl (aB eC rfl) ?_
 refine Zw rfl (aB kZ rfl) ?_
 refine Zw rfl (aJ u6 rfl rfl) ?_
 refine Zw rfl (bA rfl) ?_
 obtain ⟨aAp,aQV,aPf,hS⟩:=c6 hS
 refine Zw rfl (e8 (s:=aA.bQ) Tryz.underlying51 pP rfl rfl aQV (bN aQV aPf)) ?_
 refine Zw rfl (aB X6 rfl) ?_
 refine Zw rfl (FT (s:=aA.bQ) eP rfl aPf rfl) ?_
 refine Zw rfl (eN (vs:=[(0,str eF.name),(1,i64 aAp.dO)]) (cs := #[str eF.name,i64 aAp.dO]) rfl (by kernel_rfl)) ?_
 refine VD.one rfl ?_
 refine Zv (cs':=[str eF.name,i64 aAp.dO]) rfl aAM ?_
 refine VL.back (D':=[]) (by kernel_rfl) (aF.nil) ?_
 refine Zw rfl (eO rfl) ?_
 refine VD.to (fun _ _ h=>h) ?_
 refine VC.keep (ρ':=[(4,ptr oI 0),(5,.nilIface)]) [4,5] rfl ?_
 cases hS
 exact VC.ret (hG (vs:=[.agg #[str eF.name,i64 aAp.dO],.nilIface]) (.inr rfl) rfl (dS.cell aBR rfl rfl Rd.blk (dS.tmp rfl (dS.nil))) (⟨eF.name,aAp.dO⟩,.nil) rfl rfl (by (try dsimp only); exact cA.out) (fun _ _=>trivial))
theorem T0 (gS:Sv (Sv aC)) {r:List bB} (hS:Sh.JO (gS.l.map Sv.l)=some r) :
 Ct Tryz.prog 210 [gS.val] gS.ok (Ow.emp) (X:=Sv bB) (fun x=>x.val) (fun x=>r=x.l) (fun x=>x.ok) (fun x=>Ow.emp):=by
 refine Zo Tryz.func210 Tryz.ntmps210 fun c => ?_
 unfold Sh.JO at hS
 refine Zq (Zr ?_)
 refine Zy ?_
 refine Zq (Zr ?_)
 refine VL.a5S (k:=9) (e:=4) (by decide) fun aAu => ?_
 refine Zy ?_
 refine Zq (Zq (Zr ?_))
 refine Zm ?_
 refine Zu (oN Sv.l (s:=gS) Tryz.underlying347 rfl) ?_
 refine Zy ?_
 refine Zb ?_
 refine VC.iter (S:=Int×List bB) (fun sg=>(sg.1,sg.2)) (fun sg=>[(3,.map (some aAu)),(9,gS.val),(10,i64 ((gS.l.map Sv.l).length:Int)),(11,i64 sg.1)]) (fun sg=>Mo.tt) (fun sg=>Ow.star (MpK Tryz.prog 9 4 aAu sg.2) (Ow.emp)) (0,([]:List bB)) [3,9,10,11] hS rfl ?_
 clear hS
 rintro ⟨i7,aCj⟩ m1 y1 hS hK1
 refine Zq (Zr ?_)
 refine Zu (c4 rfl rfl) ?_
 refine Zl ?_
 refine Zq ?_
 refine Zc hS (fun h12 hS => ?_) (fun h12 hS => ?_)
 ·
  refine Zk ?_
  refine Zq (Zb (Zq (Zr ?_)))
  obtain ⟨MN,aPl,aJl,hS⟩:=DD hS
  refine VL.deep MN.ok aJl (fun _ q=>q) ?_
  refine Zu (e8 (s:=gS) Tryz.underlying347 aCw rfl rfl aPl (bN aPl aJl)) ?_
  refine Zu (q9 (s:=gS) jS rfl aJl rfl) ?_
  refine Zy ?_
  refine Zq (Zr ?_)
  refine Zm ?_
  refine Zu (dX (s:=MN) Tryz.underlying23 rfl) ?_
  refine Zy ?_
  refine Zb ?_
  refine VC.iter (S:=Int×List bB) (fun sg=>(sg.1,sg.2)) (fun sg=>[(3,.map (some aAu)),(9,gS.val),(10,i64 ((gS.l.map Sv.l).length:Int)),(11,i64 i7),(15,MN.val),(16,i64 (MN.l.length:Int)),(17,i64 sg.1)]) (fun sg=>Mo.tt) (fun sg=>Ow.star (MpK Tryz.prog 9 4 aAu sg.2) (Ow.emp)) (0,aCj) [3,9,10,11,15,16,17] hS rfl ?_
  clear hS
  rintro ⟨AZ,aCk⟩ m2 y2 hS hK2
  refine Zq (Zr ?_)
  refine Zu (c4 rfl rfl) ?_
  refine Zl ?_
  refine Zq ?_
  refine Zc hS (fun h18 hS => ?_) (fun h18 hS => ?_)
  ·
   refine Zk ?_
   refine Zq (Zb (Zq (Zr ?_)))
   obtain ⟨aAm,aPw,aPU,hS⟩:=c6 hS
   refine Zu (e8 (s:=MN) Tryz.underlying23 fS rfl rfl aPw (bN aPw aPU)) ?_
   refine Zu (nR (s:=MN) jZ rfl rfl aPU) ?_
   refine VL.alloc (cs:=[str [],i64 0,str []]) (by kernel_rfl) (by decide) fun a7F => ?_
   refine Zv (cs':=[str aAm.path,i64 aAm.mode,str aAm.data]) rfl fS ?_
   refine Zl ?_
   refine Zr ?_
   refine Zm ?_
   refine Zu (aB qS rfl) ?_
   refine Zu (aJ dD rfl rfl) ?_
   obtain ⟨bs3,hS⟩:=bU hS
   refine VL.a1w (b:=aAu) (l:=aCk) (s:=aAm.path) Tryz.underlying9 Tryz.underlying4 Tryz.underlying348 Fo.out rfl rfl rfl bs3 ?_
   obtain ⟨aEr,aSV,hS⟩:=qT hS
   rw [aSV]
   refine Zl ?_
   refine VC.keep (ρ':=[(3,.map (some aAu)),(9,gS.val),(10,i64 ((gS.l.map Sv.l).length:Int)),(11,i64 i7),(15,MN.val),(16,i64 (MN.l.length:Int)),(17,i64 AZ)]) [3,9,10,11,15,16,17] rfl ?_
   refine Zr ?_
   obtain ⟨b24,hS⟩:=bU hS
   refine Zu (cR rfl rfl b24) ?_
   refine Zm ?_
   refine VL.iP ((AZ+1),aEr) [3,9,10,11,15,16,17] (fun _ _ h=>h) (go2 hS hK2) rfl
  replace hS:=gA hS hK2
  refine Zx ?_
  refine Zr ?_
  obtain ⟨b25,hS⟩:=bU hS
  refine Zu (cR rfl rfl b25) ?_
  refine Zm ?_
  refine VL.iP ((i7+1),aCk) [3,9,10,11] (fun _ _ h=>h) (go2 hS hK1) rfl
 replace hS:=gA hS hK1
 refine Zx ?_
 refine Zq (Zr ?_)
 refine Zm ?_
 refine VL.bS (Ct.mapKeys (b:=aAu) (O5 Tryz.func285 rfl (by kernel_rfl)) Tryz.aHb) rfl (by decide) ?_
 intro B27_10 _
 try dsimp only
 obtain ⟨b28,hS⟩:=bU hS
 refine VL.bS (Ct.aNC (it:=326) (T:=348) (b:=aAu) (B:=B27_10) (e:=4) (l:=aCj) (O5 Tryz.func284 rfl (by kernel_rfl)) Tryz.underlying9 (fun D0 nn W h1 h2 h3 h4 h5=>Tryz.sortedKeys_284_285 B27_10 aAu nn D0 _ W h1 h2 h3 h4 h5) b28) rfl (by decide) ?_
 intro aQe aW5
 try dsimp only
 replace hS:=bV aW5 hS
 refine VL.shut aQe 9 (fun _ _ _ _=>trivial) ?_
 obtain ⟨aEc,aU0,hS⟩:=aK hS
 refine VL.cU (jO aQe aU0) rfl (by decide) ?_
 rintro aSy rfl
 try dsimp only
 refine Zy ?_
 cases hS
 exact VC.ret (eB (.inr rfl) rfl rfl aSy rfl rfl (by (try dsimp only); exact cA.out) (fun _ _=>trivial))
theorem vB (cJ:Sv aC) (p_1:bB) {r:aAq} (hS:Sh.AL cJ.l p_1=some r) :
 Ct Tryz.prog 298 [cJ.val,str p_1] cJ.ok (Ow.emp) (X:=Unit) (fun _ => .agg #[str r.dW,i64 r.dI,str r.dH,.bool r.is]) (fun _=>True) (fun _=>Mo.tt) (fun _=>Ow.emp):=by
 refine Zo Tryz.func298 Tryz.ntmps298 fun c => ?_
 unfold Sh.AL at hS
 refine Zq (Zr ?_)
 refine VL.alloc (cs:=[str [],i64 0,str [],.bool false]) (by kernel_rfl) (by decide) fun wM => ?_
 refine Zl ?_
 refine Zq (Zr ?_)
 refine Zy ?_
 obtain ⟨fW,JI,hS⟩:=aK hS
 refine Zu (bZ (rW cJ p_1 JI) rfl (fun _ _=>rfl)) ?_
 refine Zm ?_
 refine Zu (aW rfl rfl) ?_
 refine Zu (aW rfl rfl) ?_
 refine VL.alloc (cs:=[str [],i64 0,str []]) (by kernel_rfl) (by decide) fun wN => ?_
 refine Zv (cs':=[str fW.1.path,i64 fW.1.mode,str fW.1.data]) rfl fS ?_
 refine Zy ?_
 refine VC.keep (ρ':=[(4,ptr wM 0),(5,ptr wN 0),(6,.bool fW.2)]) [4,5,6] rfl ?_
 refine Zq (Zr ?_)
 refine Zu (cD jZ rfl rfl) ?_
 refine Zm ?_
 refine Zu (eN (vs:=[(0,.agg #[str fW.1.path,i64 fW.1.mode,str fW.1.data]),(1,.bool fW.2)]) (cs := #[str fW.1.path,i64 fW.1.mode,str fW.1.data,.bool fW.2]) rfl (by kernel_rfl)) ?_
 refine Zv (cs':=[str fW.1.path,i64 fW.1.mode,str fW.1.data,.bool fW.2]) rfl aEW ?_
 refine Zl ?_
 cases hS
 exact VC.ret (hG (vs:=[.agg #[str fW.1.path,i64 fW.1.mode,str fW.1.data,.bool fW.2]]) (.inr rfl) rfl (dS.cell aF7 rfl rfl Rd.blk (dS.nil)) () rfl trivial (by (try dsimp only); exact cA.out) (fun _ _=>trivial))
theorem PR (iV:Sv aC) (r_1:jA) {r:List bB} (hS:Sh.HQ iV.l r_1.pl=some r) :
 Ct Tryz.prog 349 [iV.val,.agg #[r_1.files.val,r_1.entries.val,r_1.conflicts.val]] (iV.ok.and (r_1.files.ok.and (r_1.entries.ok.and r_1.conflicts.ok))) (Ow.emp) (X:=Sv bB) (fun x=>x.val) (fun x=>r=x.l) (fun x=>Mo.tt) (fun x=>Sv.own x 9):=by
 refine Zo Tryz.func349 Tryz.ntmps349 fun c => ?_
 unfold Sh.HQ at hS
 refine Zq (Zr ?_)
 refine VL.box (cs:=[r_1.files.val,r_1.entries.val,r_1.conflicts.val]) rfl rfl (by decide) fun fX => ?_
 refine Zy ?_
 refine Zq (Zr ?_)
 refine Zy ?_
 refine Zq (Zq (Zr ?_))
 refine Zm ?_
 refine Zu (aB tE rfl) ?_
 refine Zu (aJ jS rfl rfl) ?_
 refine VL.lit (α:=Sv aC) (xs:=[.tmp 8,.tmp 10]) (vs:=[iV.val,r_1.files.val]) [iV,r_1.files] Tryz.underlying347 aJ8 (by decide) rfl rfl rfl rfl (by decide) (fun h m=>List.forall_mem_cons.2 ⟨cA.out (X:=iV.ok) h m,List.forall_mem_cons.2 ⟨cA.out (X:=r_1.files.ok) h m,fun _ h=>by cases h⟩⟩) (by decide) (fun a5e a1L => ?_) (by decide)
 replace hS:=bV (congrArg (List.map Sv.l) a1L) hS
 obtain ⟨XQ,aJF,hS⟩:=aK hS
 refine VL.cU (T0 a5e aJF) rfl (by decide) ?_
 rintro yJ rfl
 try dsimp only
 refine Zu (dX (s:=yJ) Tryz.underlying62 rfl) ?_
 refine Zy ?_
 refine Zb ?_
 refine VC.kH (⟨none,0,[]⟩:Sv bB) 9 ⟨rfl,rfl⟩ ?_
 refine VC.iter (S:=Sv bB×Int) (fun sg=>(sg.1.l,sg.2)) (fun sg=>[(0,iV.val),(3,ptr fX 0),(5,sg.1.val),(12,yJ.val),(13,i64 (yJ.l.length:Int)),(14,i64 sg.2)]) (fun sg=>Mo.tt) (fun sg=>Ow.star (bD fX [r_1.files.val,r_1.entries.val,r_1.conflicts.val] 293) (Ow.star (Sv.own sg.1 9) (Ow.emp))) (⟨none,0,[]⟩,0) [0,3,5,12,13,14] hS rfl ?_
 clear hS
 rintro ⟨HP,OT⟩ m1 y1 hS hK1
 refine Zq (Zr ?_)
 refine Zu (c4 rfl rfl) ?_
 refine Zl ?_
 refine Zq ?_
 refine Zc hS (fun h15 hS => ?_) (fun h15 hS => ?_)
 ·
  refine Zk ?_
  refine Zq (Zb (Zq (Zr ?_)))
  obtain ⟨TJ,aPn,aPM,hS⟩:=c6 hS
  refine Zu (e8 (s:=yJ) Tryz.underlying62 vA rfl rfl aPn (bN aPn aPM)) ?_
  refine Zu (q9 (s:=yJ) dD rfl aPM rfl) ?_
  refine Zy ?_
  refine Zq ?_
  refine VC.draw ((List.range 8).map fun k=>(k,true)) mixed (by kernel_rfl) (by kernel_rfl) (by kernel_rfl) ?_
  refine Zw rfl (bA rfl) ?_
  refine Zw rfl (bA rfl) ?_
  obtain ⟨rQ,JM,hS⟩:=aK hS
  refine Zw rfl (bZ (vB iV TJ JM) rfl (fun _ _=>rfl)) ?_
  refine Zw rfl (aB tE rfl) ?_
  refine Zw rfl (aJ jS rfl rfl) ?_
  refine Zw rfl (bA rfl) ?_
  obtain ⟨rR,aBL,hS⟩:=aK hS
  refine Zw rfl (bZ (vB r_1.files TJ aBL) rfl (fun _ _=>rfl)) ?_
  refine Zw rfl (aGe aF9 (aFb rQ.dW rQ.dI rQ.dH rQ.is rR.dW rR.dI rR.dH rR.is) rfl rfl) ?_
  refine VD.to (fun _ _ h=>h) ?_
  refine VC.keep (ρ':=[(0,iV.val),(3,ptr fX 0),(5,HP.val),(12,yJ.val),(13,i64 (yJ.l.length:Int)),(14,i64 OT),(7,str TJ),(25,.bool (!decide (rQ.dW=rR.dW∧rQ.dI=rR.dI∧rQ.dH=rR.dH∧rQ.is=rR.is)))]) [0,3,5,12,13,14,7,25] rfl ?_
  refine rE hS (fun h25 hS => ?_) (fun h25 hS => ?_)
  ·
   refine Zr ?_
   refine Zy ?_
   refine VL.lit (α:=bB) (xs:=[.tmp 27]) (vs:=[str TJ]) [TJ] Tryz.underlying62 x4 (by decide) rfl rfl rfl rfl (by decide) (fun _ _ _ _=>trivial) (by decide) (fun aE5 aFi => ?_) (by decide)
   replace hS:=bV aFi hS
   obtain ⟨b29,hS⟩:=bU hS
   refine VL.app (s:=HP) (r:=aE5) Tryz.underlying62 aF8 (by decide) rfl Fo.out (sU b29) (sV b29 (by decide)) (by decide) (fun a2b aW6 => ?_)
   replace hS:=bV aW6 hS
   refine Zy ?_
   refine Zr ?_
   obtain ⟨b30,hS⟩:=bU hS
   refine Zu (cR rfl rfl b30) ?_
   refine Zm ?_
   refine VL.iP (a2b,(OT+1)) [0,3,5,12,13,14] (fun _ _ h=>h) (go2 hS hK1) rfl
  refine Zk ?_
  refine Zr ?_
  obtain ⟨b30,hS⟩:=bU hS
  refine Zu (cR rfl rfl b30) ?_
  refine Zm ?_
  refine VL.iP (HP,(OT+1)) [0,3,5,12,13,14] (fun _ _ h=>h) (go2 hS hK1) rfl
 replace hS:=gA hS hK1
 refine Zx ?_
 refine Zq (Zr ?_)
 refine Zm ?_
 refine Zu (aB D7 rfl) ?_
 refine Zu (aJ x6 rfl rfl) ?_
 obtain ⟨b34,hS⟩:=bU hS
 refine VL.app (s:=HP) (r:=r_1.conflicts) Tryz.underlying62 aF8 (by decide) rfl Fo.out (sU b34) (sV b34 (by decide)) (by decide) (fun aQg aWe => ?_)
 replace hS:=bV aWe hS
 refine Zy ?_
 refine VC.keep (ρ':=[(5,aQg.val)]) [5] rfl ?_
 refine Zq (Zr ?_)
 refine Zm ?_
 obtain ⟨b36,hS⟩:=bU hS
 refine VL.bS (WR aQg b36) rfl (by decide) ?_
 rintro a3Q ⟨aXU,aYw⟩
 try dsimp only
 rw [← aYw]
 replace hS:=bV aXU hS
 refine Zl ?_
 refine Zq (Zr ?_)
 refine Zm ?_
 obtain ⟨b38,hS⟩:=bU hS
 refine VL.bS (KZ a3Q b38) rfl (by decide) ?_
 rintro a3R aXV
 try dsimp only
 replace hS:=bV aXV hS
 refine Zy ?_
 cases hS
 exact VC.ret (eB (.inr rfl) rfl rfl a3R rfl rfl (by (try dsimp only); exact cA.out) (by (try dsimp only); exact dJ.out))
theorem pF (aA:Sv bB) (v_1:bB) {r:Bool} (hS:Sh.kQ aA.l v_1=some r) :
 Ct Tryz.prog 255 [aA.val,str v_1] aA.ok (Ow.emp) (X:=Unit) (fun _ => .bool r) (fun _=>True) (fun _=>Mo.tt) (fun _=>Ow.emp):=by
 refine Zo Tryz.func255 Tryz.ntmps255 fun c => ?_
 unfold Sh.kQ at hS
 refine Zq (Zr ?_)
 refine Zy ?_
 refine Zq (Zr ?_)
 refine Zy ?_
 obtain ⟨iD,kL,hS⟩:=aK hS
 refine Zu (bZ (xG aA v_1 kL) rfl (fun _ _=>rfl)) ?_
 refine Zu (sK rfl rfl) ?_
 refine Zy ?_
 cases hS
 exact Ze
theorem aHg (iV:Sv aC) (GR:Sv aI) (YT:Sv aC) (p_3:bB) {r:Bool} (hS:Sh.aAV iV.l GR.l YT.l p_3=some r) :
 Ct Tryz.prog 371 [iV.val,GR.val,YT.val,str p_3] (iV.ok.and (GR.ok.and YT.ok)) (Ow.emp) (X:=Unit) (fun _ => .bool r) (fun _=>True) (fun _=>Mo.tt) (fun _=>Ow.emp):=by
 refine Zo Tryz.func371 Tryz.ntmps371 fun c => ?_
 unfold Sh.aAV at hS
 refine Zq (Zr ?_)
 refine Zy ?_
 refine Zq (Zr ?_)
 refine Zm ?_
 obtain ⟨iJ,JK,hS⟩:=aK hS
 refine VL.cU (T5 GR 0 JK) rfl (by decide) ?_
 rintro tL rfl
 try dsimp only
 refine Zm ?_
 obtain ⟨pG,aBC,hS⟩:=aK hS
 refine Zu (bZ (vB tL p_3 aBC) rfl (fun _ _=>rfl)) ?_
 refine VL.alloc (cs:=[str [],i64 0,str [],.bool false]) (by kernel_rfl) (by decide) fun aUC => ?_
 refine Zv (cs':=[str pG.dW,i64 pG.dI,str pG.dH,.bool pG.is]) rfl aEW ?_
 refine Zl ?_
 refine Zq ?_
 refine VC.draw [(0,true),(1,true),(2,true),(3,true),(4,true),(5,true),(6,true),(7,true),(8,true),(9,true),(10,true),(11,true),(12,true),(13,true),(15,true),(14,false),(16,true),(17,true),(18,true),(19,true)] mixed (by kernel_rfl) (by kernel_rfl) (by kernel_rfl) ?_
 refine Zw rfl (bA rfl) ?_
 refine Zw rfl (bA rfl) ?_
 obtain ⟨kS,BE,hS⟩:=aK hS
 refine Zw rfl (bZ (vB YT p_3 BE) rfl (fun _ _=>rfl)) ?_
 refine Zw rfl (cD aF7 rfl rfl) ?_
 refine Zw rfl (WE aF9 (aFb kS.dW kS.dI kS.dH kS.is pG.dW pG.dI pG.dH pG.is) rfl rfl) ?_
 refine Zw rfl (bA rfl) ?_
 refine VD.vP 19 rfl (fun h19 => ?_) (fun h19 => ?_)
 ·
  replace hS:=M5 h19 hS
  refine Zi rfl (cD aF7 rfl rfl) ?_
  refine Zi rfl (bA rfl) ?_
  refine Zi rfl (bA rfl) ?_
  obtain ⟨S9,a0R,hS⟩:=aK hS
  refine Zi rfl (bZ (vB iV p_3 a0R) rfl (fun _ _=>rfl)) ?_
  refine Zi rfl (WE aF9 (aFb pG.dW pG.dI pG.dH pG.is S9.dW S9.dI S9.dH S9.is) rfl rfl) ?_
  refine Zw rfl (kE rfl rfl) ?_
  refine Zw rfl (bA rfl) ?_
  refine VD.vP 26 rfl (fun h26 => ?_) (fun h26 => ?_)
  ·
   replace hS:=M5 h26 hS
   refine Zi rfl (bA rfl) ?_
   refine Zi rfl (bA rfl) ?_
   refine VD.a4d rfl rfl rfl ?_
   refine VL.guard rfl rfl ?_
   obtain ⟨aZO,a00,hS⟩:=aK hS
   refine VL.cU (B3 GR a00) rfl (by decide) ?_
   rintro aYL rfl
   try dsimp only
   refine VL.back (D':=[(15,str p_3)]) (by kernel_rfl) (aF.aJB rfl rfl rfl (bA rfl) (aF.nil)) ?_
   obtain ⟨aO2,a05,hS⟩:=aK hS
   refine Zi rfl (bZ (pF aYL p_3 a05) rfl (fun _ _=>rfl)) ?_
   refine Zi rfl (lQ rfl) ?_
   refine Zw rfl (kE rfl rfl) ?_
   refine Zw rfl (eO rfl) ?_
   refine VD.to (fun _ _ h=>h) ?_
   refine VC.keep (ρ':=[(8,.bool (!aO2))]) [8] rfl ?_
   cases hS
   exact Ze
  replace hS:=VR h26 hS
  refine Zd ?_
  refine Zd ?_
  refine VD.aXp (D':=[(15,undef)]) rfl rfl rfl (by decide) (by decide) (by kernel_rfl) (aF.aFG rfl rfl rfl rfl (aF.nil)) ?_
  refine Zd ?_
  refine Zd ?_
  refine Zw rfl (iX rfl rfl) ?_
  refine Zw rfl (eO rfl) ?_
  refine VD.to (fun _ _ h=>h) ?_
  refine VC.keep (ρ':=[(8,.bool false)]) [8] rfl ?_
  cases hS
  exact Ze
 replace hS:=VR h19 hS
 refine Zd ?_
 refine Zd ?_
 refine Zd ?_
 refine Zd ?_
 refine Zd ?_
 refine Zw rfl (iX rfl rfl) ?_
 refine Zw rfl (bA rfl) ?_
 refine Zd ?_
 refine Zd ?_
 refine VD.aXp (D':=[(15,undef)]) rfl rfl rfl (by decide) (by decide) (by kernel_rfl) (aF.aFG rfl rfl rfl rfl (aF.nil)) ?_
 refine Zd ?_
 refine Zd ?_
 refine Zw rfl (iX rfl rfl) ?_
 refine Zw rfl (eO rfl) ?_
 refine VD.to (fun _ _ h=>h) ?_
 refine VC.keep (ρ':=[(8,.bool false)]) [8] rfl ?_
 cases hS
 exact Ze
end Go.Proofs.YtcenmlklkpgmnabGreatDoor
end
