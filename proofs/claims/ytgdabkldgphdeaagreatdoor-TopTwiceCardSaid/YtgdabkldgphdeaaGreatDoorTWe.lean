/- Part of the proofs of: the law TopTwice: the same play leads to the same, each time (any acts) -/
import Derived.Test.YtgdabkldgphdeaaGreatDoorTWd
set_option linter.unusedVariables false
set_option linter.unusedSimpArgs false
set_option linter.unusedSectionVars false
section
set_option linter.unusedVariables false
namespace Go.Proofs.YtgdabkldgphdeaaGreatDoor
set_option maxHeartbeats 4000000
set_option maxRecDepth 100000
set_option synthInstance.maxSize 2000
set_option synthInstance.maxHeartbeats 1000000
open Go.RowKit Go.V
open Go.S
attribute [local irreducible] Go.V.Qt Go.V.VL Go.V.VC Go.V.I0 Go.S.gd Go.S.at_ Go.S.lt Go.S.jn Go.S.go Go.S.up Go.S.iter Sh.iN Sh.oG Sh.mT Sh.fN Sh.wQ Sh.G9 Sh.GO Sh.JM Sh.uQ Sh.wT Sh.wK Sh.pI Sh.xM Sh.vW Sh.qY Sh.BM Sh.jU Sh.HG Sh.xN Sh.qO Sh.xO Sh.uI Sh.rM Sh.xP Sh.yE Sh.AS Sh.uX Sh.bQ Sh.cK Sh.cE Sh.eP Sh.zJ
instance aXR (iL:Sv aC) (r_1:cT) (E4:Sv aH) (nS:Sv aC) :
 jZ Tryz.prog 306 [iL.val,.agg #[r_1.files.val,r_1.entries.val,r_1.conflicts.val],E4.val,nS.val] (Sh.G9 iL.l r_1.pl E4.l nS.l) (iL.ok.and (r_1.m.and (E4.ok.and nS.ok))) (X:=Sv aH×Sv aC×Er) (fun x => .tuple #[x.1.val,x.2.1.val,x.2.2.val]) (fun x=>(x.1.l,x.2.1.l,x.2.2.pl)) (fun x=>(x.1.ok.and (x.2.1.ok.and x.2.2.ok))):=by
 refine j6 Tryz.func306 Tryz.ntmps306 fun r hS c => ?_
 unfold Sh.G9 at hS
 refine cI (kU fun UW=>ZX ?_)
 refine Zq (ZX ?_)
 refine fM hS rfl fun aGQ hS=>Za ?_
 refine Zl ?_
 refine VC.aV [0,2,3,5,11] (ZX ?_)
 refine Zc hS (fun h25 hS => ?_) (fun h25 hS => ?_)
 ·
  refine ZX ?_
  refine fM hS rfl fun aXj hS => ?_
  refine VL.shut aXj 80 (fun _ _ _ _=>trivial) ?_
  refine fR hS rfl fun aM4 hS=>Zm ?_
  refine fM hS rfl fun aXp hS => ?_
  refine VL.shut aXp 78 (fun _ _ _ _=>trivial) ?_
  refine fR hS rfl fun aXq hS=>ZX ?_
  refine Zu (cG (vs:=[(0,str [112,97,116,104]),(1,i64 (aGQ.l.length:Int)),(2,(Er.no 8).val)]) (cs := #[str [112,97,116,104],i64 (aGQ.l.length:Int),(Er.no 8).val]) rfl (by kernel_rfl)) ?_
  refine kU fun aUg => ?_
  refine VL.FB aUg ?_
  refine ZX ?_
  cases hS
  exact VC.ret (aF0 (.inr rfl) rfl rfl rfl rfl (aM4,aXq,(Er.fault aUg [112,97,116,104] (aGQ.l.length:Int) (Er.no 8))) rfl rfl (by (try dsimp only); exact dV.out) (fun _ _=>trivial))
 refine ZX ?_
 refine fM hS rfl fun LB hS=>Za ?_
 refine Zl ?_
 refine VC.aV [2,3,5,12] (ZX ?_)
 refine fM hS rfl fun aM6 hS=>Zm ?_
 refine fM hS rfl fun aHx hS=>ZX ?_
 refine Zq (ZX ?_)
 refine Zb ?_
 refine VC.shut aM6 80 (fun _ _ _ _=>trivial) ?_
 refine VC.shut aHx 78 (fun _ _ _ _=>trivial) ?_
 refine VC.iter (S:=Sv aH×Sv aC×Int) (fun sg=>(sg.1.l,sg.2.1.l,sg.2.2)) (fun sg=>[(2,sg.1.val),(3,sg.2.1.val),(5,ptr UW 0),(12,LB.val),(45,LB.val),(46,i64 (LB.l.length:Int)),(47,i64 sg.2.2)]) (fun sg=>(sg.1.ok.and sg.2.1.ok)) (fun sg=>Ow.star (bN UW [r_1.files.val,r_1.entries.val,r_1.conflicts.val] 300) (Ow.star (Sv.own LB 9) (Ow.emp))) (aM6,aHx,0) [2,3,5,12,45,46,47] hS rfl ?_
 rintro ⟨aE3,X0,EY⟩ m1 y1 hS hK1
 refine ZX ?_
 refine Zq (Zc hS (fun h48 hS => ?_) (fun h48 hS => ?_))
 ·
  refine Zk ?_
  refine Zq (Zb (cI ?_))
  obtain ⟨aKT,aMD,aL1,hS⟩:=gP hS
  refine Zu (lK (s:=LB) Tryz.underlying39 xE rfl rfl aMD (bR aMD aL1)) (Zu (II (s:=LB) 9 mF rfl aL1 rfl) ?_)
  refine ZX ?_
  refine Zr (ZX ?_)
  refine fR hS rfl fun aTL hS=>ZX ?_
  refine fR hS rfl fun aTO hS=>ZO ?_
  refine Zl ?_
  refine VC.aV [2,3,5,12,45,46,47] ?_
  obtain ⟨b57,hS⟩:=bM hS
  refine Zr (ZX ?_)
  refine VL.kL (aTL,aTO,(EY+1)) [2,3,5,12,45,46,47] (fun _ _ h=>h) (go2 hS hK1) rfl
 replace hS:=kS hS hK1
 refine Zx ?_
 refine Zq (ZX ?_)
 refine Zb ?_
 refine VC.iJm [5,58,59] (fun (sg:Sv aH×Sv aC×Int)=>(sg.1.l,sg.2.1.l,sg.2.2)) (fun sg ρ=>(2,sg.1.val)::(3,sg.2.1.val)::(60,i64 sg.2.2)::ρ) (fun sg=>(sg.1.ok.and sg.2.1.ok)) (aE3,X0,0) [2,3,60,5,58,59] hS ?_
 rintro ⟨aJH,M5,MR⟩ m1 y1 hS hK1
 refine ZX ?_
 refine Zq (Zc hS (fun h61 hS => ?_) (fun h61 hS => ?_))
 ·
  refine Zk ?_
  refine Zq (Zb (cI ?_))
  obtain ⟨aKW,aMH,aL4,hS⟩:=gP hS
  refine Zu (lK (s:=LB) Tryz.underlying39 xE rfl rfl aMH (bR aMH aL4)) (Zu (II (s:=LB) 9 mF rfl aL4 rfl) ?_)
  refine ZX ?_
  refine fR hS rfl fun aIC hS=>Za ?_
  refine Zl ?_
  refine VC.aV [2,3,5,58,59,60,16] (ZX ?_)
  refine jK hS rfl fun PI hS=>dJ fun bBf=>ZX ?_
  refine iZ hS (fun h73 hS => ?_) (fun h73 hS => ?_)
  ·
   refine Zr (ZX ?_)
   refine Zu (mG (j:=0) (n:=3) BD rfl rfl rfl) ?_
   refine I1 hS (OT M5 (⟨PI.cH,PI.cN,PI.bZ⟩:aC)).out fun aT9 hS=>Za ?_
   refine Zl ?_
   refine VC.aV [2,3,5,58,59,60] ?_
   obtain ⟨b78,hS⟩:=bM hS
   refine Zr (ZX ?_)
   refine VL.kL (aIC,aT9,(MR+1)) [2,3,60,5,58,59] (fun _ _ h=>h) (go2 hS hK1) rfl
  refine Zk ?_
  refine VC.aV [2,3,5,58,59,60] ?_
  obtain ⟨b78,hS⟩:=bM hS
  refine Zr (ZX ?_)
  refine VL.kL (aIC,M5,(MR+1)) [2,3,60,5,58,59] (fun _ _ h=>h) (go2 hS hK1) rfl
 replace hS:=kS hS hK1
 refine Zx ?_
 refine ZX ?_
 refine fR hS rfl fun aTd hS=>Zm ?_
 refine fR hS rfl fun aTg hS=>ZX ?_
 cases hS
 exact VC.ret (aF0 (.inr rfl) rfl rfl rfl rfl (aTd,aTg,.nil) rfl rfl (by (try dsimp only); exact dV.out) (fun _ _=>trivial))
instance aH9 (aA:aM) :
 gF Tryz.prog 163 [.agg (aJ aA).toArray] (Sh.vW aA.pl) aA.m (fun r => .bool r):=by
 refine gM Tryz.func163 Tryz.ntmps163 fun r hS c => ?_
 unfold Sh.vW at hS
 exact ZE hS
instance PY (aA:aM) (r_1:cT) :
 jZ Tryz.prog 249 [.agg (aJ aA).toArray,.agg #[r_1.files.val,r_1.entries.val,r_1.conflicts.val]] (Sh.xN aA.pl r_1.pl) (aA.m.and r_1.m) (X:=aM×Er) (fun x => .tuple #[.agg (bD.enc x.1).toArray,x.2.val]) (fun x=>(x.1.pl,x.2.pl)) (fun x=>(x.1.m.and x.2.ok)):=by
 refine j6 Tryz.func249 Tryz.ntmps249 fun r hS c => ?_
 unfold Sh.xN at hS
 refine cI ?_
 refine qA (aJ aA) fun iV => ?_
 refine kU fun gL=>dJ fun CW=>ZX ?_
 refine Zq ?_
 refine iB [(0,true),(2,true),(3,true),(4,true),(5,true),(6,true),(7,true),(8,true),(1,false),(9,false),(10,true),(11,true),(12,true),(13,true),(14,true),(15,true),(16,true)] ?_
 refine ZX ?_
 refine VD.one rfl (fR hS rfl fun aMS hS=>eO (Pk 8 (Pk 7 (Pk 6 (Pk 5 (Pk 4 (Pk 3 (Pk 2 Pz))))))) ?_)
 refine VD.one rfl (fR hS rfl fun ⟨NX,VW,aM0⟩ hS => ?_)
 try dsimp only
 refine eV ?_
 refine ZD ?_
 refine uD ?_
 refine VC.aV [2,4,6,7,8] (Zq (ZX ?_))
 refine oD hS (fun _ hS=>ZE hS) fun h24 hS=>Zk ?_
 refine cI (ZO ?_)
 refine Zl ?_
 refine VC.aV [2,4] (Zq (ZX ?_))
 refine Zcq hS (aH9 (⟨VW,NX,aA.bA,aA.aI,aA.aG,aA.aS,aA.aO,aA.aT,aA.aN,aA.aP,aA.aQ,aA.aK,aA.aD,aA.aE,aA.aL,aA.aR,aA.aX,aA.bC,aA.bE,aA.aZ,aA.time⟩:aM)).out fun aZ0 hS=>Zl ?_
 refine iZ hS (fun h34 hS => ?_) (fun h34 hS => ?_)
 ·
  refine ZX ?_
  cases hS
  exact VC.ret (Z4 (⟨VW,NX,aA.bA,aA.aI,aA.aG,aA.aS,aA.aO,aA.aT,aA.aN,aA.aP,aA.aQ,aA.aK,aA.aD,aA.aE,aA.aL,aA.aR,aA.aX,aA.bC,aA.bE,aA.aZ,aA.time⟩,(Er.no 4)) rfl)
 refine ZX ?_
 cases hS
 exact VC.ret (Z4 (⟨VW,NX,aA.bA,aA.aI,aA.aG,aA.aS,aA.aO,aA.aT,aA.aN,aA.aP,aA.aQ,aA.aK,aA.aD,aA.aE,aA.aL,aA.aR,aA.aX,aA.bC,aA.bE,aA.aZ,aA.time⟩,.nil) rfl)
instance iF (aA:aM) (HN:Sv aC) (dD:Sv aC) (name_3:bH) :
 jZ Tryz.prog 241 [.agg (aJ aA).toArray,HN.val,dD.val,str name_3] (Sh.uI aA.pl HN.l dD.l name_3) (aA.m.and (HN.ok.and dD.ok)) (X:=aM×cT×Er) (fun x => .tuple #[.agg (bD.enc x.1).toArray,.agg (bD.enc x.2.1).toArray,x.2.2.val]) (fun x=>(x.1.pl,x.2.1.pl,x.2.2.pl)) (fun x=>(x.1.m.and (x.2.1.m.and x.2.2.ok))):=by
 refine j6 Tryz.func241 Tryz.ntmps241 fun r hS c => ?_
 unfold Sh.uI at hS
 refine cI ?_
 refine qA (aJ aA) fun Y5 => ?_
 refine dJ fun aKc=>dJ fun bAI=>ZX ?_
 refine fR hS rfl fun mV hS=>ZX ?_
 refine fR hS rfl fun ⟨RJ,aXd⟩ hS => ?_
 try dsimp only
 refine ZX ?_
 refine dJ fun bC3=>ZO ?_
 refine Zl ?_
 refine VC.aV [4,8,9,11,12] (Zq (ZX ?_))
 refine oD hS (fun h24 hS => ?_) (fun h24 hS => ?_)
 ·
  refine Zq ?_
  refine iB [(0,true),(1,true),(2,true),(3,false),(4,false),(5,true)] ?_
  refine ZX ?_
  refine VD.one rfl (ZX ?_)
  refine eO (Pk 1 Pz) ?_
  refine VD.one rfl (ZX ?_)
  refine eV ?_
  refine ZX ?_
  cases hS
  exact VC.ret (Z4 (aA,⟨RJ.files,RJ.entries,RJ.conflicts⟩,aXd) rfl)
 refine ZX ?_
 refine fR hS rfl fun ⟨aXr,aXs⟩ hS => ?_
 try dsimp only
 refine ZX ?_
 refine dJ fun aFE=>ZO ?_
 refine Zl ?_
 refine VC.aV [8,9,11,12,13] (Zq ?_)
 refine iB [(0,true),(1,true),(2,true),(3,false),(4,false),(5,true)] ?_
 refine ZX ?_
 refine VD.one rfl (ZX ?_)
 refine eO (Pk 1 Pz) ?_
 refine VD.one rfl (ZX ?_)
 refine eV ?_
 refine ZX ?_
 cases hS
 exact VC.ret (Z4 (aXr,⟨RJ.files,RJ.entries,RJ.conflicts⟩,aXs) rfl)
instance aYU (aA:aM) (x_1:bK) :
 gF Tryz.prog 298 [.agg (aJ aA).toArray,.agg #[str x_1.verb,i64 x_1.cC,str x_1.text]] (Sh.HG aA.pl x_1) aA.m (fun r => .bool r):=by
 refine gM Tryz.func298 Tryz.ntmps298 fun r hS c => ?_
 unfold Sh.HG at hS
 refine cI ?_
 refine qA (aJ aA) fun iV => ?_
 refine kU fun gL=>ZX ?_
 refine Zq (ZX ?_)
 refine Zb ?_
 exact VC.cJ [2] (fun (_:Unit)=>()) (fun _ ρ=>ρ) hS (fun _ hS=>ZE hS) fun _ hS=>ZE hS
instance aYX (BR:bH) :
 gF Tryz.prog 262 [str BR] (Sh.AS BR) Mo.tt (fun r=>str r):=by
 refine gM Tryz.func262 Tryz.ntmps262 fun r hS c => ?_
 unfold Sh.AS at hS
 refine ZX ?_
 refine Zu (aYJ rfl) ?_
 obtain ⟨b7,hS⟩:=bM hS
 obtain ⟨kI,GJ,hS⟩:=mB hS
 refine Zu (PB Tryz.underlying9 rfl rfl b7.1 b7.2 GJ) ?_
 exact ZE hS
instance aQD (aA:aM) (x_1:bK) (PF:Sv aC) :
 jZ Tryz.prog 238 [.agg (aJ aA).toArray,.agg #[str x_1.verb,i64 x_1.cC,str x_1.text],PF.val] (Sh.xM aA.pl x_1 PF.l) (aA.m.and PF.ok) (X:=aM×Bool) (fun x => .tuple #[.agg (bD.enc x.1).toArray,.bool x.2]) (fun x=>(x.1.pl,x.2)) (fun x=>x.1.m):=by
 refine j6 Tryz.func238 Tryz.ntmps238 fun r hS c => ?_
 unfold Sh.xM at hS
 refine cI ?_
 refine qA (aJ aA) fun uO => ?_
 refine kU fun AM=>dJ fun a6S=>ZX ?_
 refine fR hS rfl fun ⟨xJ,aMY⟩ hS => ?_
 try dsimp only
 refine ZX ?_
 refine dJ fun a6W=>ZO ?_
 refine Zl ?_
 refine VC.aV [2,3,4,6,8] (ZX ?_)
 refine fR hS rfl fun ⟨NZ,bBB⟩ hS => ?_
 try dsimp only
 refine ZX ?_
 refine dJ fun a6t=>ZO ?_
 refine Zl ?_
 refine VC.aV [2,3,4,6,8,10] (Zq ?_)
 refine iB [(0,true),(1,true),(2,true),(3,false),(4,true),(5,true)] ?_
 refine ZX ?_
 refine VD.one rfl (fM hS rfl fun aBa hS=>eO (Pk 1 (Pk 0 Pz)) ?_)
 refine ZD ?_
 refine uD ?_
 refine VC.u5 (S:=bH×Sv Int) (fun sg=>(sg.1,sg.2.l)) (fun sg=>[(2,PF.val),(3,ptr uO 0),(6,ptr a6S 0),(12,str sg.1),(13,sg.2.val)]) (fun sg=>sg.2.ok) (fun sg=>Ow.star (bN a6t [NZ.tree.val,NZ.parents.val,i64 NZ.time,str NZ.text] 59) (Ow.star (bN a6W [xJ.tree.val,xJ.parents.val,i64 xJ.time,str xJ.text] 59) (Ow.star (bN a6S [.slice none 0 0,.slice none 0 0,.slice none 0 0,str [],i64 0,str [],i64 0,str [],.slice none 0 0,.slice none 0 0,i64 0,str [],str [],i64 0,.slice none 0 0,.slice none 0 0,.slice none 0 0,.slice none 0 0,.slice none 0 0,.slice none 0 0,i64 0] 43) (Ow.star (bN AM [str x_1.verb,i64 x_1.cC,str x_1.text] 139) (Ow.star (bN uO (aJ aA) 43) (Ow.emp)))))) hS ?_ ?_
 ·
  intro k11 hS
  refine Zb (ZX ?_)
  refine jK hS rfl fun MS hS=>ZX ?_
  refine VC.aV [2,3,4,6,8,10,12,13,34] (iZ hS (fun h34 hS => ?_) (fun h34 hS => ?_))
  ·
   refine ZX ?_
   refine VC.aV [2,3,6,8,10,12,13,44] (Zc hS (fun h44 hS => ?_) (fun h44 hS => ?_))
   ·
    obtain ⟨b47,hS⟩:=bM hS
    refine Zr (ZX ?_)
    obtain ⟨YL,aFX,hS⟩:=mB hS
    refine Zu (nO rfl rfl b47 aFX) ?_
    obtain ⟨b50,hS⟩:=bM hS
    refine ZX ?_
    obtain ⟨aCJ,aVU,hS⟩:=mB hS
    refine Zu (nO rfl rfl b50 aVU) ?_
    refine jK hS rfl fun aCK hS=>Za ?_
    refine VL.mt (aCK,NZ.parents) [2,3,6,12,13] (fun _ _ h=>h) hS rfl
   refine VC.rY (NZ.text,NZ.parents) [2,3,6,12,13] (fun _ _ h=>h) hS rfl
  refine ZX ?_
  refine fR hS rfl fun a9b hS=>jK hS rfl fun IX hS=>ZX ?_
  refine VC.aV [2,3,4,6,12,13,52] ?_
  refine iZ hS (fun _ hS=>ZE hS) fun h52 hS=>ZX ?_
  refine Zc hS (fun h58 hS => ?_) (fun h58 hS => ?_)
  ·
   refine Zr (ZX ?_)
   refine VL.shut aBa 3 (fun _ _ _ _=>trivial) ?_
   refine VL.mt (x_1.text,aBa) [2,3,6,12,13] (fun _ _ h=>h) hS rfl
  refine VC.shut aBa 3 (fun _ _ _ _=>trivial) ?_
  refine VC.rY (xJ.text,aBa) [2,3,6,12,13] (fun _ _ h=>h) hS rfl
 rintro ⟨aDI,aAB⟩ hS
 refine Zq (ZX ?_)
 refine jK hS rfl fun aRB hS=>ZX ?_
 refine iZ hS (fun _ hS=>ZE hS) fun h66 hS => ?_
 obtain ⟨b72,hS⟩:=bM hS
 refine Zk ?_
 refine cI (ZO ?_)
 refine Zl ?_
 refine VC.aV [2,3,6,12,13] (ZX ?_)
 exact I1 hS (KK (⟨aA.aY,aA.aU,aA.bA,aA.aI,aA.aG,aA.aS,aA.aO,aA.aT,aA.aN,aA.aP,(aA.aQ+1),aA.aK,aA.aD,aA.aE,aA.aL,aA.aR,aA.aX,aA.bC,aA.bE,aA.aZ,aA.time⟩:aM) PF aAB aDI).out fun a9q hS=>ZE hS
instance N8 (aA:aM) :
 jZ Tryz.prog 164 [.agg (aJ aA).toArray] (Sh.uX aA.pl) (aA.m.and Gl) (X:=aM×Bool×Er) (fun x => .tuple #[.agg (bD.enc x.1).toArray,.bool x.2.1,x.2.2.val]) (fun x=>(x.1.pl,x.2.1,x.2.2.pl)) (fun x=>(x.1.m.and x.2.2.ok)):=by
 refine j6 Tryz.func164 Tryz.ntmps164 fun r hS c => ?_
 unfold Sh.uX at hS
 refine cI ?_
 refine qA (aJ aA) fun hG => ?_
 refine dJ fun C4=>ZX ?_
 refine Zq (Zb ?_)
 refine VC.iJb [1,2] (fun (w_3:aM)=>w_3.pl) (fun w_3 ρ=>ρ) (fun (w_3:aM)=>w_3.m) hG (fun (w_3:aM)=>(aJ w_3)) (aA:aM) [1,2] hS ?_
 rintro w_3 m1 y1 hS hK1
 refine Zq (ZX ?_)
 refine Zc hS (fun h19 hS => ?_) (fun h19 hS => ?_)
 ·
  refine Zk ?_
  refine Zb (Zq ?_)
  refine iB [(0,true),(1,true),(2,true),(3,true),(4,true),(5,true),(6,true),(7,true),(8,true),(9,true),(10,true),(11,false),(12,false),(13,true)] ?_
  refine ZX ?_
  obtain ⟨eY,KH,EL,hS⟩:=gP hS
  refine Zw rfl (jA (s:=w_3.aP) Tryz.underlying31 KE rfl rfl KH (bR KH EL)) ?_
  refine Zw rfl (nF  (s:=w_3.aP) NK rfl rfl EL) ?_
  obtain ⟨b30,hS⟩:=bM hS
  refine ZX ?_
  refine VD.a3r rfl Tryz.underlying31 KE rfl rfl b30.1 (b30.2) (by decide) fun LX a2F Qs30_5 => ?_
  replace hS:=dZ a2F hS
  refine VD.one rfl (dJ fun QX => ?_)
  refine QT [(10,LX.val),(9,w_3.aP.val),(8,ptr hG 9),(7,ptr hG 5),(6,ptr hG 0),(5,.agg #[str eY.verb,i64 eY.cC,str eY.text]),(4,ptr w_3.aP.b (w_3.aP.o+(0:Int).toNat*bD.sz bK+0)),(3,w_3.aP.val),(2,ptr hG 9),(1,ptr hG 5),(0,ptr hG 0)] (bT.cons rfl ((Qs30_5 rfl rfl)) (bT.cons rfl (lB aEX rfl rfl) (bT.cons rfl (bU U8 rfl) (bT.cons rfl (bU B4 rfl) (bT.cons rfl (bU oY rfl) (bT.cons rfl (nF (s:=w_3.aP) NK rfl rfl EL) (bT.cons rfl (jA (s:=w_3.aP) Tryz.underlying31 KE rfl rfl KH (bR KH EL)) (bT.cons rfl (lB aEX rfl rfl) (bT.cons rfl (bU U8 rfl) (bT.cons rfl (bU B4 rfl) (bT.cons rfl (bU oY rfl) bT.nil))))))))))) ?_
  refine VD.one rfl ?_
  refine Zv  (vc:=[str eY.verb,i64 eY.cC,str eY.text]) (cs':=[str eY.verb,i64 eY.cC,str eY.text]) rfl KE ?_
  refine QT [(10,LX.val),(9,w_3.aP.val),(8,ptr hG 9),(7,ptr hG 5),(6,ptr hG 0)] (bT.cons rfl ((Qs30_5 rfl rfl)) (bT.cons rfl (lB aEX rfl rfl) (bT.cons rfl (bU U8 rfl) (bT.cons rfl (bU B4 rfl) (bT.cons rfl (bU oY rfl) bT.nil))))) ?_
  refine ZD ?_
  refine uD ?_
  refine VC.aV [1,2,5,6] (Zq (ZX ?_))
  refine Zc hS (fun h33 hS => ?_) (fun h33 hS => ?_)
  ·
   refine cI (ZO ?_)
   refine Zl ?_
   refine VC.aV [1,2] ?_
   refine VC.XD (⟨w_3.aY,w_3.aU,w_3.bA,w_3.aI,w_3.aG,w_3.aS,w_3.aO,w_3.aT,w_3.aN,LX,w_3.aQ,w_3.aK,w_3.aD,w_3.aE,w_3.aL,w_3.aR,w_3.aX,w_3.bC,w_3.bE,w_3.aZ,w_3.time⟩:aM) [1,2] (fun _ _ h=>h) (go2 hS hK1) rfl
  refine ZX ?_
  refine fR hS rfl fun ⟨p6,bBF⟩ hS => ?_
  try dsimp only
  refine ZX ?_
  refine dJ fun T0=>ZO ?_
  refine Zl ?_
  refine VC.aV [1,2,5,6,7] ?_
  refine VC.u5 (S:=Nat×Nat×Er×aM×cT) (fun sg=>((),(),sg.2.2.1.pl,sg.2.2.2.1.pl,sg.2.2.2.2.pl)) (fun sg=>[(1,ptr hG 0),(2,ptr C4 0),(5,ptr QX 0),(6,LX.val),(9,ptr sg.1 0),(10,ptr sg.2.1 0),(11,sg.2.2.1.val)]) (fun sg=>(sg.2.2.1.ok.and (sg.2.2.2.1.m.and sg.2.2.2.2.m))) (fun sg=>Ow.star (bN T0 [p6.tree.val,p6.parents.val,i64 p6.time,str p6.text] 59) (Ow.star (bN QX [str eY.verb,i64 eY.cC,str eY.text] 139) (Ow.star (bN C4 [.slice none 0 0,.slice none 0 0,.slice none 0 0,str [],i64 0,str [],i64 0,str [],.slice none 0 0,.slice none 0 0,i64 0,str [],str [],i64 0,.slice none 0 0,.slice none 0 0,.slice none 0 0,.slice none 0 0,.slice none 0 0,.slice none 0 0,i64 0] 43) (Ow.star (bN hG (aJ w_3) 43) (Ow.star (bN sg.1 (aJ sg.2.2.2.1) 43) (Ow.star (bN sg.2.1 [sg.2.2.2.2.files.val,sg.2.2.2.2.entries.val,sg.2.2.2.2.conflicts.val] 300) (Ow.emp))))))) hS ?_ ?_
  ·
   intro k15 hS
   refine VC.GH (n:=12) (listed:=bl 20 495) [(0,true),(1,true),(2,true),(3,true),(5,true),(6,true),(7,true),(8,true)] mixed (by kernel_rfl) (by kernel_rfl) (by kernel_rfl) (by kernel_rfl) ?_
   refine VD.q rfl (rA qC rfl rfl) (by decide) ?_
   refine VD.q rfl (rA qC rfl rfl) (by decide) ?_
   refine VD.q rfl (bU CG rfl) (by decide) ?_
   refine VD.q rfl (lB o5 rfl rfl) (by decide) ?_
   refine VD.q rfl (bU K2 rfl) (by decide) ?_
   refine VD.q rfl (lB BE rfl rfl) (by decide) ?_
   refine VD.q rfl (bU CG rfl) (by decide) ?_
   refine VD.q rfl (lB o5 rfl rfl) (by decide) ?_
   obtain ⟨aQf,U4,hS⟩:=cS hS
   obtain ⟨b55,hS⟩:=bM hS
   obtain ⟨IX,DC,hS⟩:=cS hS
   refine VD.TB fun hcl => ?_
   refine VG.fork (l:=[4,15,16]) (n:=11) (by kernel_rfl) rfl fun i hi => ?_
   obtain rfl | rfl | rfl:i=4∨i=15∨i=16:=by simpa using hi
   ·
    refine qG.of rfl ?_
    refine VL.jN ((B8 w_3 eY.cC).out U4) rfl (by decide) ?_
    rintro oK rfl
    try dsimp only
    refine zU (bl 20 511) (Pk 8 (Pk 7 (Pk 6 (Pk 5 (Pk 0 Pz))))) ?_
    refine VG.first (n:=10) (listed' := #[true,true,true,true,true,true,true,true,true,true,false,false,false,false,false,false,false,false,false,false]) [(9,true)] (by kernel_rfl) (eL (by kernel_rfl)) (by kernel_rfl) (by kernel_rfl) ?_
    refine VD.q rfl (dU (lP eY.cC b55) rfl (fun _ _=>rfl)) (by decide) ?_
    refine VD.TB fun hcl => ?_
    refine VG.fork (l:=[10,15,16]) (n:=9) (by kernel_rfl) rfl fun i hi => ?_
    obtain rfl | rfl | rfl:i=10∨i=15∨i=16:=by simpa using hi
    ·
     refine qG.of rfl ?_
     refine VL.jN ((iF w_3 oK p6.tree (kO eY.cC)).out DC) rfl (by decide) ?_
     rintro ⟨dW,bI,j5⟩ rfl
     try dsimp only
     refine zU (bl 20 2047) Pz ?_
     refine VG.first (n:=5) (listed' := #[true,true,true,true,true,true,true,true,true,true,true,true,true,true,true,false,false,false,false,false]) [(11,true),(12,true),(13,true),(14,true)] (by kernel_rfl) (eL (by kernel_rfl)) (by kernel_rfl) (by kernel_rfl) ?_
     refine VD.q rfl (fQ rfl) (by decide) ?_
     refine VD.q rfl (JO rfl rfl) (by decide) ?_
     refine VD.q rfl (JO rfl rfl) (by decide) ?_
     refine VD.q rfl (JO rfl rfl) (by decide) ?_
     refine VD.TB fun hcl => ?_
     refine VG.fork (l:=[15,16]) (n:=4) (by kernel_rfl) rfl fun i hi => ?_
     obtain rfl | rfl:i=15∨i=16:=by simpa using hi
     ·
      refine qG.of rfl ?_
      refine dJ fun qS => ?_
      refine zU (bl 20 65535) (Pk 14 (Pk 13 (Pk 12 (Pk 11 Pz)))) ?_
      refine VG.ord [(16,false),(17,false),(18,false),(19,true)] (by kernel_rfl) (eL (by kernel_rfl)) (by kernel_rfl) ?_
      refine VD.one rfl (dJ fun nU=>eO (Pk 14 (Pk 13 (Pk 12 (Pk 11 Pz)))) ?_)
      refine VD.one rfl ?_
      refine Zv  (vc:=(aJ dW)) (cs':=(aJ dW)) rfl qL ?_
      refine eO (Pk 14 (Pk 13 Pz)) ?_
      refine VD.one rfl ?_
      refine Zv  (vc:=[bI.files.val,bI.entries.val,bI.conflicts.val]) (cs':=[bI.files.val,bI.entries.val,bI.conflicts.val]) rfl uF ?_
      refine eO (Pk 14 Pz) ?_
      refine ZX ?_
      refine VD.mt (qS,nU,j5,(dW:aM),(⟨bI.files,bI.entries,bI.conflicts⟩:cT)) [1,2,5,6,9,10,11] (fun _ _ h=>h) hS rfl
     refine qG.of rfl ?_
     refine dJ fun nU => ?_
     refine zU (bl 20 98303) (Pk 14 (Pk 13 (Pk 12 (Pk 11 Pz)))) ?_
     refine VG.ord [(15,false),(17,false),(18,false),(19,true)] (by kernel_rfl) (eL (by kernel_rfl)) (by kernel_rfl) ?_
     refine VD.one rfl (dJ fun qS=>eO (Pk 14 (Pk 13 (Pk 12 (Pk 11 Pz)))) ?_)
     refine VD.one rfl ?_
     refine Zv  (vc:=(aJ dW)) (cs':=(aJ dW)) rfl qL ?_
     refine eO (Pk 14 (Pk 13 Pz)) ?_
     refine VD.one rfl ?_
     refine Zv  (vc:=[bI.files.val,bI.entries.val,bI.conflicts.val]) (cs':=[bI.files.val,bI.entries.val,bI.conflicts.val]) rfl uF ?_
     refine eO (Pk 14 Pz) ?_
     refine ZX ?_
     refine VD.mt (qS,nU,j5,(dW:aM),(⟨bI.files,bI.entries,bI.conflicts⟩:cT)) [1,2,5,6,9,10,11] (fun _ _ h=>h) hS rfl
    ·
     refine qG.of rfl ?_
     refine dJ fun qS => ?_
     refine VL.E8 (D':=[(9,str (kO eY.cC)),(8,i64 eY.cC),(7,ptr QX 1),(6,p6.tree.val),(5,ptr T0 0),(0,.agg (aJ w_3).toArray)]) (listed' := #[true,true,true,true,true,true,true,true,true,true,false,false,false,false,false,true,false,false,false,false]) (bT.cons rfl (dU (lP eY.cC b55) rfl (fun _ _=>rfl)) (bT.cons rfl (lB o5 rfl rfl) (bT.cons rfl (bU CG rfl) (bT.cons rfl (lB BE rfl rfl) (bT.cons rfl (bU K2 rfl) (bT.cons rfl (rA qC rfl rfl) (bT.nil))))))) (by kernel_rfl) (by kernel_rfl) ?_
     refine VG.fork (l:=[10,16]) (n:=8) (by kernel_rfl) rfl fun i hi => ?_
     obtain rfl | rfl:i=10∨i=16:=by simpa using hi
     ·
      refine qG.of rfl ?_
      refine VL.jN ((iF w_3 oK p6.tree (kO eY.cC)).out DC) rfl (by decide) ?_
      rintro ⟨dW,bI,j5⟩ rfl
      try dsimp only
      refine zU (bl 20 34815) Pz ?_
      refine VG.ord [(11,true),(12,true),(13,true),(14,true),(16,false),(17,false),(18,false),(19,true)] (by kernel_rfl) (eL (by kernel_rfl)) (by kernel_rfl) ?_
      refine ZX ?_
      refine VD.one rfl (dJ fun nU=>eO (Pk 14 (Pk 13 (Pk 12 (Pk 11 Pz)))) ?_)
      refine VD.one rfl ?_
      refine Zv  (vc:=(aJ dW)) (cs':=(aJ dW)) rfl qL ?_
      refine eO (Pk 14 (Pk 13 Pz)) ?_
      refine VD.one rfl ?_
      refine Zv  (vc:=[bI.files.val,bI.entries.val,bI.conflicts.val]) (cs':=[bI.files.val,bI.entries.val,bI.conflicts.val]) rfl uF ?_
      refine eO (Pk 14 Pz) ?_
      refine ZX ?_
      refine VD.mt (qS,nU,j5,(dW:aM),(⟨bI.files,bI.entries,bI.conflicts⟩:cT)) [1,2,5,6,9,10,11] (fun _ _ h=>h) hS rfl
     refine qG.of rfl ?_
     refine dJ fun nU => ?_
     refine VL.E8 (D':=[(9,str (kO eY.cC)),(8,i64 eY.cC),(7,ptr QX 1),(6,p6.tree.val),(5,ptr T0 0),(0,.agg (aJ w_3).toArray)]) (listed' := #[true,true,true,true,true,true,true,true,true,true,false,false,false,false,false,true,true,false,false,false]) (bT.cons rfl (dU (lP eY.cC b55) rfl (fun _ _=>rfl)) (bT.cons rfl (lB o5 rfl rfl) (bT.cons rfl (bU CG rfl) (bT.cons rfl (lB BE rfl rfl) (bT.cons rfl (bU K2 rfl) (bT.cons rfl (rA qC rfl rfl) (bT.nil))))))) (by kernel_rfl) (by kernel_rfl) ?_
     refine VG.ord [(10,false),(11,true),(12,true),(13,true),(14,true),(17,false),(18,false),(19,true)] (by kernel_rfl) (eL (by kernel_rfl)) (by kernel_rfl) ?_
     refine VD.one rfl ?_
     refine VL.jN ((iF w_3 oK p6.tree (kO eY.cC)).out DC) rfl (by decide) ?_
     rintro ⟨dW,bI,j5⟩ rfl
     try dsimp only
     refine eV ?_
     refine ZX ?_
     refine VD.one rfl ?_
     refine Zv  (vc:=(aJ dW)) (cs':=(aJ dW)) rfl qL ?_
     refine eO (Pk 14 (Pk 13 Pz)) ?_
     refine VD.one rfl ?_
     refine Zv  (vc:=[bI.files.val,bI.entries.val,bI.conflicts.val]) (cs':=[bI.files.val,bI.entries.val,bI.conflicts.val]) rfl uF ?_
     refine eO (Pk 14 Pz) ?_
     refine ZX ?_
     refine VD.mt (qS,nU,j5,(dW:aM),(⟨bI.files,bI.entries,bI.conflicts⟩:cT)) [1,2,5,6,9,10,11] (fun _ _ h=>h) hS rfl
    refine qG.of rfl ?_
    refine dJ fun nU => ?_
    refine VL.E8 (D':=[(9,str (kO eY.cC)),(8,i64 eY.cC),(7,ptr QX 1),(6,p6.tree.val),(5,ptr T0 0),(0,.agg (aJ w_3).toArray)]) (listed' := #[true,true,true,true,true,true,true,true,true,true,false,false,false,false,false,false,true,false,false,false]) (bT.cons rfl (dU (lP eY.cC b55) rfl (fun _ _=>rfl)) (bT.cons rfl (lB o5 rfl rfl) (bT.cons rfl (bU CG rfl) (bT.cons rfl (lB BE rfl rfl) (bT.cons rfl (bU K2 rfl) (bT.cons rfl (rA qC rfl rfl) (bT.nil))))))) (by kernel_rfl) (by kernel_rfl) ?_
    refine VG.fork (l:=[10,15]) (n:=8) (by kernel_rfl) rfl fun i hi => ?_
    obtain rfl | rfl:i=10∨i=15:=by simpa using hi
    ·
     refine qG.of rfl ?_
     refine VL.jN ((iF w_3 oK p6.tree (kO eY.cC)).out DC) rfl (by decide) ?_
     rintro ⟨dW,bI,j5⟩ rfl
     try dsimp only
     refine zU (bl 20 67583) Pz ?_
     refine VG.ord [(11,true),(12,true),(13,true),(14,true),(15,false),(17,false),(18,false),(19,true)] (by kernel_rfl) (eL (by kernel_rfl)) (by kernel_rfl) ?_
     refine ZX ?_
     refine VD.one rfl (dJ fun qS=>eO (Pk 14 (Pk 13 (Pk 12 (Pk 11 Pz)))) ?_)
     refine VD.one rfl ?_
     refine Zv  (vc:=(aJ dW)) (cs':=(aJ dW)) rfl qL ?_
     refine eO (Pk 14 (Pk 13 Pz)) ?_
     refine VD.one rfl ?_
     refine Zv  (vc:=[bI.files.val,bI.entries.val,bI.conflicts.val]) (cs':=[bI.files.val,bI.entries.val,bI.conflicts.val]) rfl uF ?_
     refine eO (Pk 14 Pz) ?_
     refine ZX ?_
     refine VD.mt (qS,nU,j5,(dW:aM),(⟨bI.files,bI.entries,bI.conflicts⟩:cT)) [1,2,5,6,9,10,11] (fun _ _ h=>h) hS rfl
    refine qG.of rfl ?_
    refine dJ fun qS => ?_
    refine VL.E8 (D':=[(9,str (kO eY.cC)),(8,i64 eY.cC),(7,ptr QX 1),(6,p6.tree.val),(5,ptr T0 0),(0,.agg (aJ w_3).toArray)]) (listed' := #[true,true,true,true,true,true,true,true,true,true,false,false,false,false,false,true,true,false,false,false]) (bT.cons rfl (dU (lP eY.cC b55) rfl (fun _ _=>rfl)) (bT.cons rfl (lB o5 rfl rfl) (bT.cons rfl (bU CG rfl) (bT.cons rfl (lB BE rfl rfl) (bT.cons rfl (bU K2 rfl) (bT.cons rfl (rA qC rfl rfl) (bT.nil))))))) (by kernel_rfl) (by kernel_rfl) ?_
    refine VG.ord [(10,false),(11,true),(12,true),(13,true),(14,true),(17,false),(18,false),(19,true)] (by kernel_rfl) (eL (by kernel_rfl)) (by kernel_rfl) ?_
    refine VD.one rfl ?_
    refine VL.jN ((iF w_3 oK p6.tree (kO eY.cC)).out DC) rfl (by decide) ?_
    rintro ⟨dW,bI,j5⟩ rfl
    try dsimp only
    refine eV ?_
    refine ZX ?_
    refine VD.one rfl ?_
    refine Zv  (vc:=(aJ dW)) (cs':=(aJ dW)) rfl qL ?_
    refine eO (Pk 14 (Pk 13 Pz)) ?_
    refine VD.one rfl ?_
    refine Zv  (vc:=[bI.files.val,bI.entries.val,bI.conflicts.val]) (cs':=[bI.files.val,bI.entries.val,bI.conflicts.val]) rfl uF ?_
    refine eO (Pk 14 Pz) ?_
    refine ZX ?_
    refine VD.mt (qS,nU,j5,(dW:aM),(⟨bI.files,bI.entries,bI.conflicts⟩:cT)) [1,2,5,6,9,10,11] (fun _ _ h=>h) hS rfl
   ·
    refine qG.of rfl ?_
    refine dJ fun qS => ?_
    refine zU (bl 20 33263) (Pk 8 (Pk 7 (Pk 6 (Pk 5 (Pk 3 (Pk 2 (Pk 1 (Pk 0 Pz)))))))) ?_
    refine VG.fork (l:=[4,16]) (n:=10) (by kernel_rfl) rfl fun i hi => ?_
    obtain rfl | rfl:i=4∨i=16:=by simpa using hi
    ·
     refine qG.of rfl ?_
     refine VL.jN ((B8 w_3 eY.cC).out U4) rfl (by decide) ?_
     rintro oK rfl
     try dsimp only
     refine zU (bl 20 33279) (Pk 8 (Pk 7 (Pk 6 (Pk 5 (Pk 0 Pz))))) ?_
     refine VG.first (n:=9) (listed' := #[true,true,true,true,true,true,true,true,true,true,false,false,false,false,false,true,false,false,false,false]) [(9,true)] (by kernel_rfl) (eL (by kernel_rfl)) (by kernel_rfl) (by kernel_rfl) ?_
     refine VD.q rfl (dU (lP eY.cC b55) rfl (fun _ _=>rfl)) (by decide) ?_
     refine VD.TB fun hcl => ?_
     refine VG.fork (l:=[10,16]) (n:=8) (by kernel_rfl) rfl fun i hi => ?_
     obtain rfl | rfl:i=10∨i=16:=by simpa using hi
     ·
      refine qG.of rfl ?_
      refine VL.jN ((iF w_3 oK p6.tree (kO eY.cC)).out DC) rfl (by decide) ?_
      rintro ⟨dW,bI,j5⟩ rfl
      try dsimp only
      refine zU (bl 20 34815) Pz ?_
      refine VG.ord [(11,true),(12,true),(13,true),(14,true),(16,false),(17,false),(18,false),(19,true)] (by kernel_rfl) (eL (by kernel_rfl)) (by kernel_rfl) ?_
      refine ZX ?_
      refine VD.one rfl (dJ fun nU=>eO (Pk 14 (Pk 13 (Pk 12 (Pk 11 Pz)))) ?_)
      refine VD.one rfl ?_
      refine Zv  (vc:=(aJ dW)) (cs':=(aJ dW)) rfl qL ?_
      refine eO (Pk 14 (Pk 13 Pz)) ?_
      refine VD.one rfl ?_
      refine Zv  (vc:=[bI.files.val,bI.entries.val,bI.conflicts.val]) (cs':=[bI.files.val,bI.entries.val,bI.conflicts.val]) rfl uF ?_
      refine eO (Pk 14 Pz) ?_
      refine ZX ?_
      refine VD.mt (qS,nU,j5,(dW:aM),(⟨bI.files,bI.entries,bI.conflicts⟩:cT)) [1,2,5,6,9,10,11] (fun _ _ h=>h) hS rfl
     refine qG.of rfl ?_
     refine dJ fun nU => ?_
     refine VL.E8 (D':=[(9,str (kO eY.cC)),(8,i64 eY.cC),(7,ptr QX 1),(6,p6.tree.val),(5,ptr T0 0),(0,.agg (aJ w_3).toArray)]) (listed' := #[true,true,true,true,true,true,true,true,true,true,false,false,false,false,false,true,true,false,false,false]) (bT.cons rfl (dU (lP eY.cC b55) rfl (fun _ _=>rfl)) (bT.cons rfl (lB o5 rfl rfl) (bT.cons rfl (bU CG rfl) (bT.cons rfl (lB BE rfl rfl) (bT.cons rfl (bU K2 rfl) (bT.cons rfl (rA qC rfl rfl) (bT.nil))))))) (by kernel_rfl) (by kernel_rfl) ?_
     refine VG.ord [(10,false),(11,true),(12,true),(13,true),(14,true),(17,false),(18,false),(19,true)] (by kernel_rfl) (eL (by kernel_rfl)) (by kernel_rfl) ?_
     refine VD.one rfl ?_
     refine VL.jN ((iF w_3 oK p6.tree (kO eY.cC)).out DC) rfl (by decide) ?_
     rintro ⟨dW,bI,j5⟩ rfl
     try dsimp only
     refine eV ?_
     refine ZX ?_
     refine VD.one rfl ?_
     refine Zv  (vc:=(aJ dW)) (cs':=(aJ dW)) rfl qL ?_
     refine eO (Pk 14 (Pk 13 Pz)) ?_
     refine VD.one rfl ?_
     refine Zv  (vc:=[bI.files.val,bI.entries.val,bI.conflicts.val]) (cs':=[bI.files.val,bI.entries.val,bI.conflicts.val]) rfl uF ?_
     refine eO (Pk 14 Pz) ?_
     refine ZX ?_
     refine VD.mt (qS,nU,j5,(dW:aM),(⟨bI.files,bI.entries,bI.conflicts⟩:cT)) [1,2,5,6,9,10,11] (fun _ _ h=>h) hS rfl
    refine qG.of rfl ?_
    refine dJ fun nU => ?_
    refine zU (bl 20 98799) (Pk 8 (Pk 7 (Pk 6 (Pk 5 (Pk 3 (Pk 2 (Pk 1 (Pk 0 Pz)))))))) ?_
    refine VG.ord [(4,false),(9,true),(10,false),(11,true),(12,true),(13,true),(14,true),(17,false),(18,false),(19,true)] (by kernel_rfl) (eL (by kernel_rfl)) (by kernel_rfl) ?_
    refine VD.one rfl ?_
    refine VL.jN ((B8 w_3 eY.cC).out U4) rfl (by decide) ?_
    rintro oK rfl
    try dsimp only
    refine eO (Pk 8 (Pk 7 (Pk 6 (Pk 5 (Pk 0 Pz))))) ?_
    refine Zw rfl (dU (lP eY.cC b55) rfl (fun _ _=>rfl)) ?_
    refine VD.one rfl ?_
    refine VL.jN ((iF w_3 oK p6.tree (kO eY.cC)).out DC) rfl (by decide) ?_
    rintro ⟨dW,bI,j5⟩ rfl
    try dsimp only
    refine eV ?_
    refine ZX ?_
    refine VD.one rfl ?_
    refine Zv  (vc:=(aJ dW)) (cs':=(aJ dW)) rfl qL ?_
    refine eO (Pk 14 (Pk 13 Pz)) ?_
    refine VD.one rfl ?_
    refine Zv  (vc:=[bI.files.val,bI.entries.val,bI.conflicts.val]) (cs':=[bI.files.val,bI.entries.val,bI.conflicts.val]) rfl uF ?_
    refine eO (Pk 14 Pz) ?_
    refine ZX ?_
    refine VD.mt (qS,nU,j5,(dW:aM),(⟨bI.files,bI.entries,bI.conflicts⟩:cT)) [1,2,5,6,9,10,11] (fun _ _ h=>h) hS rfl
   refine qG.of rfl ?_
   refine dJ fun nU => ?_
   refine zU (bl 20 66031) (Pk 8 (Pk 7 (Pk 6 (Pk 5 (Pk 3 (Pk 2 (Pk 1 (Pk 0 Pz)))))))) ?_
   refine VG.fork (l:=[4,15]) (n:=10) (by kernel_rfl) rfl fun i hi => ?_
   obtain rfl | rfl:i=4∨i=15:=by simpa using hi
   ·
    refine qG.of rfl ?_
    refine VL.jN ((B8 w_3 eY.cC).out U4) rfl (by decide) ?_
    rintro oK rfl
    try dsimp only
    refine zU (bl 20 66047) (Pk 8 (Pk 7 (Pk 6 (Pk 5 (Pk 0 Pz))))) ?_
    refine VG.first (n:=9) (listed' := #[true,true,true,true,true,true,true,true,true,true,false,false,false,false,false,false,true,false,false,false]) [(9,true)] (by kernel_rfl) (eL (by kernel_rfl)) (by kernel_rfl) (by kernel_rfl) ?_
    refine VD.q rfl (dU (lP eY.cC b55) rfl (fun _ _=>rfl)) (by decide) ?_
    refine VD.TB fun hcl => ?_
    refine VG.fork (l:=[10,15]) (n:=8) (by kernel_rfl) rfl fun i hi => ?_
    obtain rfl | rfl:i=10∨i=15:=by simpa using hi
    ·
     refine qG.of rfl ?_
     refine VL.jN ((iF w_3 oK p6.tree (kO eY.cC)).out DC) rfl (by decide) ?_
     rintro ⟨dW,bI,j5⟩ rfl
     try dsimp only
     refine zU (bl 20 67583) Pz ?_
     refine VG.ord [(11,true),(12,true),(13,true),(14,true),(15,false),(17,false),(18,false),(19,true)] (by kernel_rfl) (eL (by kernel_rfl)) (by kernel_rfl) ?_
     refine ZX ?_
     refine VD.one rfl (dJ fun qS=>eO (Pk 14 (Pk 13 (Pk 12 (Pk 11 Pz)))) ?_)
     refine VD.one rfl ?_
     refine Zv  (vc:=(aJ dW)) (cs':=(aJ dW)) rfl qL ?_
     refine eO (Pk 14 (Pk 13 Pz)) ?_
     refine VD.one rfl ?_
     refine Zv  (vc:=[bI.files.val,bI.entries.val,bI.conflicts.val]) (cs':=[bI.files.val,bI.entries.val,bI.conflicts.val]) rfl uF ?_
     refine eO (Pk 14 Pz) ?_
     refine ZX ?_
     refine VD.mt (qS,nU,j5,(dW:aM),(⟨bI.files,bI.entries,bI.conflicts⟩:cT)) [1,2,5,6,9,10,11] (fun _ _ h=>h) hS rfl
    refine qG.of rfl ?_
    refine dJ fun qS => ?_
    refine VL.E8 (D':=[(9,str (kO eY.cC)),(8,i64 eY.cC),(7,ptr QX 1),(6,p6.tree.val),(5,ptr T0 0),(0,.agg (aJ w_3).toArray)]) (listed' := #[true,true,true,true,true,true,true,true,true,true,false,false,false,false,false,true,true,false,false,false]) (bT.cons rfl (dU (lP eY.cC b55) rfl (fun _ _=>rfl)) (bT.cons rfl (lB o5 rfl rfl) (bT.cons rfl (bU CG rfl) (bT.cons rfl (lB BE rfl rfl) (bT.cons rfl (bU K2 rfl) (bT.cons rfl (rA qC rfl rfl) (bT.nil))))))) (by kernel_rfl) (by kernel_rfl) ?_
    refine VG.ord [(10,false),(11,true),(12,true),(13,true),(14,true),(17,false),(18,false),(19,true)] (by kernel_rfl) (eL (by kernel_rfl)) (by kernel_rfl) ?_
    refine VD.one rfl ?_
    refine VL.jN ((iF w_3 oK p6.tree (kO eY.cC)).out DC) rfl (by decide) ?_
    rintro ⟨dW,bI,j5⟩ rfl
    try dsimp only
    refine eV ?_
    refine ZX ?_
    refine VD.one rfl ?_
    refine Zv  (vc:=(aJ dW)) (cs':=(aJ dW)) rfl qL ?_
    refine eO (Pk 14 (Pk 13 Pz)) ?_
    refine VD.one rfl ?_
    refine Zv  (vc:=[bI.files.val,bI.entries.val,bI.conflicts.val]) (cs':=[bI.files.val,bI.entries.val,bI.conflicts.val]) rfl uF ?_
    refine eO (Pk 14 Pz) ?_
    refine ZX ?_
    refine VD.mt (qS,nU,j5,(dW:aM),(⟨bI.files,bI.entries,bI.conflicts⟩:cT)) [1,2,5,6,9,10,11] (fun _ _ h=>h) hS rfl
   refine qG.of rfl ?_
   refine dJ fun qS => ?_
   refine zU (bl 20 98799) (Pk 8 (Pk 7 (Pk 6 (Pk 5 (Pk 3 (Pk 2 (Pk 1 (Pk 0 Pz)))))))) ?_
   refine VG.ord [(4,false),(9,true),(10,false),(11,true),(12,true),(13,true),(14,true),(17,false),(18,false),(19,true)] (by kernel_rfl) (eL (by kernel_rfl)) (by kernel_rfl) ?_
   refine VD.one rfl ?_
   refine VL.jN ((B8 w_3 eY.cC).out U4) rfl (by decide) ?_
   rintro oK rfl
   try dsimp only
   refine eO (Pk 8 (Pk 7 (Pk 6 (Pk 5 (Pk 0 Pz))))) ?_
   refine Zw rfl (dU (lP eY.cC b55) rfl (fun _ _=>rfl)) ?_
   refine VD.one rfl ?_
   refine VL.jN ((iF w_3 oK p6.tree (kO eY.cC)).out DC) rfl (by decide) ?_
   rintro ⟨dW,bI,j5⟩ rfl
   try dsimp only
   refine eV ?_
   refine ZX ?_
   refine VD.one rfl ?_
   refine Zv  (vc:=(aJ dW)) (cs':=(aJ dW)) rfl qL ?_
   refine eO (Pk 14 (Pk 13 Pz)) ?_
   refine VD.one rfl ?_
   refine Zv  (vc:=[bI.files.val,bI.entries.val,bI.conflicts.val]) (cs':=[bI.files.val,bI.entries.val,bI.conflicts.val]) rfl uF ?_
   refine eO (Pk 14 Pz) ?_
   refine ZX ?_
   refine VD.mt (qS,nU,j5,(dW:aM),(⟨bI.files,bI.entries,bI.conflicts⟩:cT)) [1,2,5,6,9,10,11] (fun _ _ h=>h) hS rfl
  rintro ⟨aYi,a3P,aC9,eZ,aEE⟩ hS
  refine Zq (ZX ?_)
  refine oD hS (fun _ hS=>ZE hS) fun h61 hS=>Zk ?_
  refine Zq (ZX ?_)
  refine Zc hS (fun h67 hS => ?_) (fun h67 hS => ?_)
  ·
   refine VC.OM [2,9] (fun (sg:Sv bK×Sv bK)=>(sg.1.l,sg.2.l)) (fun sg ρ=>ρ) (fun sg=>(sg.1.ok.and sg.2.ok)) aYi (fun sg=>[eZ.aY.val,eZ.aU.val,eZ.bA.val,str eZ.aI,i64 eZ.aG,str eZ.aS,i64 eZ.aO,str eZ.aT,sg.1.val,sg.2.val,i64 eZ.aQ,str eZ.aK,str eZ.aD,i64 eZ.aE,eZ.aL.val,eZ.aR.val,eZ.aX.val,eZ.bC.val,eZ.bE.val,eZ.aZ.val,i64 eZ.time]) hS ?_ ?_
   ·
    intro k20 hS
    refine VC.GH (n:=6) (listed:=bl 11 59) [(0,true),(1,true),(3,true),(4,true),(5,true)] mixed (by kernel_rfl) (by kernel_rfl) (by kernel_rfl) (by kernel_rfl) ?_
    refine VD.q rfl (fQ rfl) (by decide) ?_
    refine VD.q rfl (rA NK rfl rfl) (by decide) ?_
    refine VD.q rfl (bU oY rfl) (by decide) ?_
    refine VD.q rfl (bU B4 rfl) (by decide) ?_
    refine VD.q rfl (bU U8 rfl) (by decide) ?_
    obtain ⟨aEq,aKu,hS⟩:=mB hS
    refine VD.TB fun hcl => ?_
    refine VG.fork (l:=[2,6]) (n:=5) (by kernel_rfl) rfl fun i hi => ?_
    obtain rfl | rfl:i=2∨i=6:=by simpa using hi
    ·
     refine qG.of rfl ?_
     refine VL.lit (α:=bK) (xs:=[.tmp 69]) (vs:=[.agg #[str eY.verb,i64 eY.cC,str eY.text]]) [⟨eY.verb,eY.cC,eY.text⟩] Tryz.underlying31 aFh (by decide) rfl rfl rfl rfl (by decide) (fun _ _ _ _=>trivial) (by decide) (fun MM aFq => ?_) (by decide)
     obtain rfl:aEq=MM.l:=aKu.symm.trans aFq.symm
     refine zU (bl 11 63) (Pk 5 (Pk 4 (Pk 3 Pz))) ?_
     refine VG.ord [(6,false),(7,true),(8,true),(9,true),(10,false)] (by kernel_rfl) (eL (by kernel_rfl)) (by kernel_rfl) ?_
     refine VD.one rfl ?_
     refine Zv  (vc:=[LX.val]) (cs':=[eZ.aY.val,eZ.aU.val,eZ.bA.val,str eZ.aI,i64 eZ.aG,str eZ.aS,i64 eZ.aO,str eZ.aT,eZ.aN.val,LX.val,i64 eZ.aQ,str eZ.aK,str eZ.aD,i64 eZ.aE,eZ.aL.val,eZ.aR.val,eZ.aX.val,eZ.bC.val,eZ.bE.val,eZ.aZ.val,i64 eZ.time]) rfl aIr ?_
     refine eV ?_
     refine ZX ?_
     refine VD.one rfl ?_
     refine Zv  (vc:=[MM.val]) (cs':=[eZ.aY.val,eZ.aU.val,eZ.bA.val,str eZ.aI,i64 eZ.aG,str eZ.aS,i64 eZ.aO,str eZ.aT,MM.val,LX.val,i64 eZ.aQ,str eZ.aK,str eZ.aD,i64 eZ.aE,eZ.aL.val,eZ.aR.val,eZ.aX.val,eZ.bC.val,eZ.bE.val,eZ.aZ.val,i64 eZ.time]) rfl aIr ?_
     refine eV ?_
     refine VD.mt (MM,LX) [2,9] (fun _ _ h=>h) hS rfl
    refine qG.of rfl ?_
    refine ZX ?_
    refine zU (bl 11 123) (Pk 1 Pz) ?_
    refine VG.ord [(2,false),(7,true),(8,true),(9,true),(10,false)] (by kernel_rfl) (eL (by kernel_rfl)) (by kernel_rfl) ?_
    refine VD.one rfl ?_
    refine VL.lit (α:=bK) (xs:=[.tmp 69]) (vs:=[.agg #[str eY.verb,i64 eY.cC,str eY.text]]) [⟨eY.verb,eY.cC,eY.text⟩] Tryz.underlying31 aFh (by decide) rfl rfl rfl rfl (by decide) (fun _ _ _ _=>trivial) (by decide) (fun MM aFq => ?_) (by decide)
    obtain rfl:aEq=MM.l:=aKu.symm.trans aFq.symm
    refine eV ?_
    refine ZX ?_
    refine VD.one rfl ?_
    refine Zv  (vc:=[MM.val]) (cs':=[eZ.aY.val,eZ.aU.val,eZ.bA.val,str eZ.aI,i64 eZ.aG,str eZ.aS,i64 eZ.aO,str eZ.aT,MM.val,LX.val,i64 eZ.aQ,str eZ.aK,str eZ.aD,i64 eZ.aE,eZ.aL.val,eZ.aR.val,eZ.aX.val,eZ.bC.val,eZ.bE.val,eZ.aZ.val,i64 eZ.time]) rfl aIr ?_
    refine eV ?_
    refine VD.mt (MM,LX) [2,9] (fun _ _ h=>h) hS rfl
   rintro ⟨aNT,aNV⟩ hS
   refine ZX ?_
   replace hS:=kS hS hK1
   cases hS
   exact VC.ret (Z4 (⟨eZ.aY,eZ.aU,eZ.bA,eZ.aI,eZ.aG,eZ.aS,eZ.aO,eZ.aT,aNT,aNV,eZ.aQ,eZ.aK,eZ.aD,eZ.aE,eZ.aL,eZ.aR,eZ.aX,eZ.bC,eZ.bE,eZ.aZ,eZ.time⟩,true,(Er.no 9)) rfl)
  refine Zk ?_
  refine VC.aV [1,2,5,6,9,10] (ZX ?_)
  refine fR hS rfl fun ⟨gC,a9s⟩ hS => ?_
  try dsimp only
  refine ZO ?_
  refine Zl ?_
  refine VC.aV [1,2,5,6,9,12] (Zq (ZX ?_))
  refine iZ hS (fun h88 hS => ?_) (fun h88 hS => ?_)
  ·
   refine ZX ?_
   replace hS:=kS hS hK1
   cases hS
   exact VC.ret (Z4 (w_3,true,(Er.no 4)) rfl)
  refine Zk ?_
  refine cI (ZO ?_)
  refine Zl ?_
  refine cI (ZO ?_)
  refine Zl ?_
  refine VC.aV [1,2,5] (ZX ?_)
  refine Zc hS (fun h98 hS => ?_) (fun h98 hS => ?_)
  ·
   refine ZX ?_
   replace hS:=kS hS hK1
   cases hS
   exact VC.ret (Z4 (⟨gC.aY,gC.aU,gC.bA,gC.aI,gC.aG,gC.aS,gC.aO,gC.aT,gC.aN,LX,gC.aQ,gC.aK,gC.aD,gC.aE,gC.aL,gC.aR,gC.aX,gC.bC,gC.bE,gC.aZ,gC.time⟩,false,.nil) rfl)
  refine VC.aTu (⟨gC.aY,gC.aU,gC.bA,gC.aI,gC.aG,gC.aS,gC.aO,gC.aT,gC.aN,LX,gC.aQ,gC.aK,gC.aD,gC.aE,gC.aL,gC.aR,gC.aX,gC.bC,gC.bE,gC.aZ,gC.time⟩:aM) [1,2] (fun _ _ h=>h) (go2 hS hK1) rfl
 replace hS:=kS hS hK1
 refine Zx ?_
 refine VC.OM [1,2] (fun (zL:aM)=>zL.pl) (fun zL ρ=>ρ) (fun (zL:aM)=>zL.m) hG (fun (zL:aM)=>(aJ zL)) hS ?_ ?_
 ·
  intro k25 hS
  refine cI (ZO ?_)
  refine Zl ?_
  refine VC.aV [1,2,13] (ZX ?_)
  refine oD hS (fun h105 hS => ?_) (fun h105 hS => ?_)
  ·
   refine ZX ?_
   refine fR hS rfl fun lY hS=>ZO ?_
   refine Zl ?_
   refine VC.aV [1,2,13] (Zr (ZX ?_))
   refine VL.mt (⟨lY.aY,lY.aU,lY.bA,w_3.aK,lY.aG,lY.aS,lY.aO,lY.aT,lY.aN,lY.aP,lY.aQ,lY.aK,lY.aD,lY.aE,lY.aL,lY.aR,lY.aX,lY.bC,lY.bE,lY.aZ,lY.time⟩:aM) [1,2] (fun _ _ h=>h) hS rfl
  refine VC.rY (w_3:aM) [1,2] (fun _ _ h=>h) hS rfl
 rintro zL hS
 refine cI ?_
 refine Zu (cG (vs:=[]) (cs := #[str [],i64 0,str [],.slice none 0 0,.slice none 0 0,i64 0,str [],str [],i64 0,.slice none 0 0,.slice none 0 0]) rfl (by kernel_rfl)) ?_
 refine ZX ?_
 cases hS
 exact VC.ret (Z4 (⟨zL.aY,zL.aU,zL.bA,zL.aI,zL.aG,[],0,[],⟨none,0,[]⟩,⟨none,0,[]⟩,0,[],[],0,⟨none,0,[]⟩,⟨none,0,[]⟩,zL.aX,zL.bC,zL.bE,zL.aZ,zL.time⟩,false,.nil) rfl)
instance aUT (aA:aM) (YQ:Sv aC) :
 jZ Tryz.prog 161 [.agg (aJ aA).toArray,YQ.val] (Sh.BM aA.pl YQ.l) (aA.m.and (YQ.ok.and Gl)) (X:=aM×Bool×Er) (fun x => .tuple #[.agg (bD.enc x.1).toArray,.bool x.2.1,x.2.2.val]) (fun x=>(x.1.pl,x.2.1,x.2.2.pl)) (fun x=>(x.1.m.and x.2.2.ok)):=by
 refine j6 Tryz.func161 Tryz.ntmps161 fun r hS c => ?_
 unfold Sh.BM at hS
 refine cI ?_
 refine qA (aJ aA) fun iV => ?_
 refine dJ fun AM=>ZX ?_
 refine Zq (ZX ?_)
 refine VC.aV [1,2,4,15] (Zc hS (fun h15 hS => ?_) (fun h15 hS => ?_))
 ·
  refine Zq (ZX ?_)
  refine jK hS rfl fun xW hS=>ZX ?_
  refine iZ hS (fun h18 hS => ?_) (fun h18 hS => ?_)
  ·
   refine ZX ?_
   cases hS
   exact VC.ret (Z4 (aA,false,(Er.no 8)) rfl)
  exact ZE hS
 refine Zk ?_
 refine Zq (ZX ?_)
 refine fR hS rfl fun aGV hS=>ZX ?_
 refine oD hS (fun h29 hS => ?_) (fun h29 hS => ?_)
 ·
  refine Zq ?_
  refine iB [(0,true),(1,true),(2,false),(3,false),(4,true),(5,true)] ?_
  refine ZX ?_
  refine VD.one rfl (fR hS rfl fun V2 hS=>eO (Pk 0 Pz) ?_)
  refine VD.one rfl (ZX ?_)
  refine eV ?_
  exact ZE hS
 refine ZX ?_
 refine yH hS rfl fun aOn bBx hS=>ZX ?_
 refine dJ fun bDP=>ZO ?_
 refine Zl ?_
 refine VC.aV [1,2,4,8] (ZX ?_)
 refine fR hS rfl fun ⟨iW,bBG⟩ hS => ?_
 try dsimp only
 refine ZO ?_
 refine Zl ?_
 refine VC.aV [2,4,8,9] (Zq (ZX ?_))
 refine iZ hS (fun h47 hS => ?_) (fun h47 hS => ?_)
 ·
  refine ZX ?_
  cases hS
  exact VC.ret (Z4 (aA,false,(Er.no 4)) rfl)
 refine ZX ?_
 refine Zq (ZX ?_)
 refine VC.aV [4,55] (Zc hS (fun h55 hS => ?_) (fun h55 hS => ?_))
 ·
  refine ZX ?_
  cases hS
  exact VC.ret (Z4 (⟨iW.aY,iW.aU,iW.bA,iW.aI,iW.aG,iW.aS,iW.aO,iW.aT,⟨none,0,[]⟩,iW.aP,iW.aQ,iW.aK,iW.aD,iW.aE,iW.aL,iW.aR,iW.aX,iW.bC,iW.bE,iW.aZ,iW.time⟩,false,.nil) rfl)
 refine ZX ?_
 exact I1 hS (N8 (⟨iW.aY,iW.aU,iW.bA,iW.aI,iW.aG,iW.aS,iW.aO,iW.aT,⟨none,0,[]⟩,iW.aP,iW.aQ,iW.aK,iW.aD,iW.aE,iW.aL,iW.aR,iW.aX,iW.bC,iW.bE,iW.aZ,iW.time⟩:aM)).out fun ⟨a9e,a9f,a9g⟩ hS=>ZE hS
end Go.Proofs.YtgdabkldgphdeaaGreatDoor
end

section
set_option linter.unusedVariables false
namespace Go.Proofs.YtgdabkldgphdeaaGreatDoor
set_option maxHeartbeats 4000000
set_option maxRecDepth 100000
set_option synthInstance.maxSize 2000
set_option synthInstance.maxHeartbeats 1000000
open Go.RowKit Go.V
open Go.S
attribute [local irreducible] Go.V.Qt Go.V.VL Go.V.VC Go.V.I0 Go.S.gd Go.S.at_ Go.S.lt Go.S.jn Go.S.go Go.S.up Go.S.iter Sh.qT Sh.EH Sh.oS Sh.mT Sh.fN Sh.kK Sh.CH Sh.mO Sh.yA Sh.yB Sh.GN Sh.AP Sh.HA Sh.HB Sh.CK Sh.uQ Sh.DW Sh.BI Sh.JR Sh.tV Sh.uH Sh.vW Sh.qY Sh.BM Sh.jU Sh.BN Sh.yT Sh.DZ Sh.yE Sh.GQ Sh.uX Sh.N9 Sh.D4 Sh.bQ Sh.cX Sh.jW Sh.gR Sh.fL Sh.fX Sh.qZ Sh.mZ Sh.pJ Sh.nP Sh.nQ
instance aUU (aA:aM) :
 jZ Tryz.prog 92 [.agg (aJ aA).toArray] (Sh.BN aA.pl) (aA.m.and Gl) (X:=aM×Bool×Er) (fun x => .tuple #[.agg (bD.enc x.1).toArray,.bool x.2.1,x.2.2.val]) (fun x=>(x.1.pl,x.2.1,x.2.2.pl)) (fun x=>(x.1.m.and x.2.2.ok)):=by
 refine j6 Tryz.func92 Tryz.ntmps92 fun r hS c => ?_
 unfold Sh.BN at hS
 refine cI ?_
 refine qA (aJ aA) fun hG => ?_
 refine dJ fun C4=>ZO ?_
 refine Zl ?_
 refine VC.u5 (S:=Nat×Sv aC×pN) (fun sg=>((),sg.2.1.l,sg.2.2.pl)) (fun sg=>[(1,ptr hG 0),(2,ptr C4 0),(5,ptr sg.1 0),(6,sg.2.1.val)]) (fun sg=>(sg.2.1.ok.and sg.2.2.m)) (fun sg=>Ow.star (bN C4 [.slice none 0 0,.slice none 0 0,.slice none 0 0,str [],i64 0,str [],i64 0,str [],.slice none 0 0,.slice none 0 0,i64 0,str [],str [],i64 0,.slice none 0 0,.slice none 0 0,.slice none 0 0,.slice none 0 0,.slice none 0 0,.slice none 0 0,i64 0] 43) (Ow.star (bN hG (aJ aA) 43) (Ow.star (bN sg.1 (EG sg.2.2) 33) (Ow.emp)))) hS ?_ ?_
 ·
  intro k6 hS
  refine VC.GH (n:=4) (listed:=bl 10 63) [(0,true),(1,true),(2,true),(3,true),(4,true),(5,true)] mixed (by kernel_rfl) (by kernel_rfl) (by kernel_rfl) (by kernel_rfl) ?_
  refine VD.q rfl (bU oY rfl) (by decide) ?_
  refine VD.q rfl (bU B4 rfl) (by decide) ?_
  refine VD.q rfl (mG (j:=5) (n:=11) HZ rfl rfl rfl) (by decide) ?_
  refine VD.q rfl (bU oY rfl) (by decide) ?_
  refine VD.q rfl (bU aBB rfl) (by decide) ?_
  refine VD.q rfl (lB aBE rfl rfl) (by decide) ?_
  obtain ⟨aZJ,aPJ,hS⟩:=cS hS
  refine VD.TB fun hcl => ?_
  refine VG.fork (l:=[6,7]) (n:=3) (by kernel_rfl) rfl fun i hi => ?_
  obtain rfl | rfl:i=6∨i=7:=by simpa using hi
  ·
   refine qG.of rfl ?_
   refine VL.jN ((T5 aA.aU 0).out aPJ) rfl (by decide) ?_
   rintro VU rfl
   try dsimp only
   refine VL.E8 (D':=[(2,.agg #[str aA.aS,i64 aA.aO,str aA.aT,aA.aN.val,aA.aP.val,i64 aA.aQ,str aA.aK,str aA.aD,i64 aA.aE,aA.aL.val,aA.aR.val]),(1,ptr hG 5),(0,ptr hG 0)]) (listed' := #[true,true,true,true,true,true,true,false,false,false]) (bT.cons rfl (mG (j:=5) (n:=11) HZ rfl rfl rfl) (bT.cons rfl (bU B4 rfl) (bT.cons rfl (bU oY rfl) (bT.nil)))) (by kernel_rfl) (by kernel_rfl) ?_
   refine VG.ord [(7,false),(8,false),(9,true)] (by kernel_rfl) (eL (by kernel_rfl)) (by kernel_rfl) ?_
   refine VD.one rfl (dJ fun aFH => ?_)
   refine QT [(2,.agg #[str aA.aS,i64 aA.aO,str aA.aT,aA.aN.val,aA.aP.val,i64 aA.aQ,str aA.aK,str aA.aD,i64 aA.aE,aA.aL.val,aA.aR.val]),(1,ptr hG 5),(0,ptr hG 0)] (bT.cons rfl (mG (j:=5) (n:=11) HZ rfl rfl rfl) (bT.cons rfl (bU B4 rfl) (bT.cons rfl (bU oY rfl) bT.nil))) ?_
   refine VD.one rfl ?_
   refine Zv  (vc:=[str aA.aS,i64 aA.aO,str aA.aT,aA.aN.val,aA.aP.val,i64 aA.aQ,str aA.aK,str aA.aD,i64 aA.aE,aA.aL.val,aA.aR.val]) (cs':=[str aA.aS,i64 aA.aO,str aA.aT,aA.aN.val,aA.aP.val,i64 aA.aQ,str aA.aK,str aA.aD,i64 aA.aE,aA.aL.val,aA.aR.val]) rfl aFl ?_
   refine eV ?_
   refine ZX ?_
   refine VD.mt (aFH,VU,(⟨aA.aS,aA.aO,aA.aT,aA.aN,aA.aP,aA.aQ,aA.aK,aA.aD,aA.aE,aA.aL,aA.aR⟩:pN)) [1,2,5,6] (fun _ _ h=>h) hS rfl
  refine qG.of rfl ?_
  refine dJ fun aFH => ?_
  refine VL.E8 (D':=[(5,aA.aU.val),(4,ptr hG 1),(3,ptr hG 0),(2,.agg #[str aA.aS,i64 aA.aO,str aA.aT,aA.aN.val,aA.aP.val,i64 aA.aQ,str aA.aK,str aA.aD,i64 aA.aE,aA.aL.val,aA.aR.val]),(1,ptr hG 5),(0,ptr hG 0)]) (listed' := #[true,true,true,true,true,true,false,true,false,false]) (bT.cons rfl (lB aBE rfl rfl) (bT.cons rfl (bU aBB rfl) (bT.cons rfl (bU oY rfl) (bT.cons rfl (mG (j:=5) (n:=11) HZ rfl rfl rfl) (bT.cons rfl (bU B4 rfl) (bT.cons rfl (bU oY rfl) (bT.nil))))))) (by kernel_rfl) (by kernel_rfl) ?_
  refine VG.ord [(6,false),(8,false),(9,true)] (by kernel_rfl) (eL (by kernel_rfl)) (by kernel_rfl) ?_
  refine VD.one rfl ?_
  refine VL.jN ((T5 aA.aU 0).out aPJ) rfl (by decide) ?_
  rintro VU rfl
  try dsimp only
  refine QT [(2,.agg #[str aA.aS,i64 aA.aO,str aA.aT,aA.aN.val,aA.aP.val,i64 aA.aQ,str aA.aK,str aA.aD,i64 aA.aE,aA.aL.val,aA.aR.val]),(1,ptr hG 5),(0,ptr hG 0)] (bT.cons rfl (mG (j:=5) (n:=11) HZ rfl rfl rfl) (bT.cons rfl (bU B4 rfl) (bT.cons rfl (bU oY rfl) bT.nil))) ?_
  refine VD.one rfl ?_
  refine Zv  (vc:=[str aA.aS,i64 aA.aO,str aA.aT,aA.aN.val,aA.aP.val,i64 aA.aQ,str aA.aK,str aA.aD,i64 aA.aE,aA.aL.val,aA.aR.val]) (cs':=[str aA.aS,i64 aA.aO,str aA.aT,aA.aN.val,aA.aP.val,i64 aA.aQ,str aA.aK,str aA.aD,i64 aA.aE,aA.aL.val,aA.aR.val]) rfl aFl ?_
  refine eV ?_
  refine ZX ?_
  refine VD.mt (aFH,VU,(⟨aA.aS,aA.aO,aA.aT,aA.aN,aA.aP,aA.aQ,aA.aK,aA.aD,aA.aE,aA.aL,aA.aR⟩:pN)) [1,2,5,6] (fun _ _ h=>h) hS rfl
 rintro ⟨aYC,RW,fS⟩ hS
 refine Zq (Zb (ZX ?_))
 refine Zc hS (fun h14 hS => ?_) (fun h14 hS => ?_)
 ·
  refine ZX ?_
  cases hS
  exact VC.ret (Z4 (aA,false,(Er.no 7)) rfl)
 refine ZX ?_
 refine fM hS rfl fun bAu hS=>ZX ?_
 refine VC.aV [1,2,5,6,20] (Zc hS (fun h20 hS => ?_) (fun h20 hS => ?_))
 ·
  refine ZX ?_
  cases hS
  exact VC.ret (Z4 (aA,false,(Er.no 9)) rfl)
 refine ZX ?_
 refine Zc hS (fun _ hS=>ZE hS) fun h29 hS => ?_
 refine VC.u5 (S:=Bool) (fun (PG:Bool)=>PG) (fun (PG:Bool)=>[(1,ptr hG 0),(2,ptr C4 0),(5,ptr aYC 0),(6,RW.val),(39,.bool PG)]) (fun (PG:Bool)=>Mo.tt) (fun (PG:Bool)=>Ow.star (bN C4 [.slice none 0 0,.slice none 0 0,.slice none 0 0,str [],i64 0,str [],i64 0,str [],.slice none 0 0,.slice none 0 0,i64 0,str [],str [],i64 0,.slice none 0 0,.slice none 0 0,.slice none 0 0,.slice none 0 0,.slice none 0 0,.slice none 0 0,i64 0] 43) (Ow.star (bN hG (aJ aA) 43) (Ow.star (bN aYC (EG fS) 33) (Ow.emp)))) hS ?_ ?_
 ·
  intro k11 hS
  refine Zr (Zu (bU Q5 rfl) (Zu (lB mF rfl rfl) (Zu (N3 rfl rfl) (Zm ?_))))
  refine UR 43 hS (fun h43 hS => ?_) (fun h43 hS => ?_)
  ·
   refine ZX ?_
   refine VL.guard rfl rfl ?_
   refine fR hS rfl fun aTC hS => ?_
   obtain ⟨YL,aFX,hS⟩:=cS hS
   refine Zh (dU ((qK RW aTC).out aFX) rfl (fun _ _=>rfl)) ?_
   exact ZE hS
  exact ZE hS
 rintro PG hS
 refine iZ hS (fun h39 hS => ?_) (fun h39 hS => ?_)
 ·
  refine cI ?_
  refine Zu (cG (vs:=[]) (cs := #[str [],i64 0,str [],.slice none 0 0,.slice none 0 0,i64 0,str [],str [],i64 0,.slice none 0 0,.slice none 0 0]) rfl (by kernel_rfl)) ?_
  refine ZX ?_
  cases hS
  exact VC.ret (Z4 (⟨aA.aY,aA.aU,aA.bA,aA.aI,aA.aG,[],0,[],⟨none,0,[]⟩,⟨none,0,[]⟩,0,[],[],0,⟨none,0,[]⟩,⟨none,0,[]⟩,aA.aX,aA.bC,aA.bE,aA.aZ,aA.time⟩,false,.nil) rfl)
 exact ZE hS
instance aCo (q9:aH) (iC:Nat) (a_1:bH) :
 gF Tryz.prog 339 [.agg #[str q9.path,i64 q9.iK,i64 q9.mode,str q9.data,i64 q9.time,i64 q9.size],ptr iC 0] (Sh.CK q9 a_1) (Cells iC 0 [str a_1]) (fun r => .bool r):=by
 refine gM Tryz.func339 Tryz.ntmps339 fun r hS c => ?_
 unfold Sh.CK at hS
 refine cI (kU fun iV=>ZX ?_)
 refine Zu (z8 mF rfl rfl) ?_
 exact ZE hS
instance yY (aA:Sv aH) (dY:Nat) (dP:bH) :
 gF Tryz.prog 287 [aA.val,.func (.func 339) #[] #[ptr dY 0]] (Sh.fX aA.l dP) (aA.ok.and (Cells dY 0 [str dP])) (fun r=>i64 r):=by
 refine gM Tryz.func287 Tryz.ntmps287 fun r hS c => ?_
 unfold Sh.fX at hS
 refine ZX ?_
 refine Zq (ZX ?_)
 refine Zb ?_
 refine VC.iJ [0,1,7] (fun (dL:Int)=>dL) (fun dL ρ=>(8,i64 dL)::ρ) 0 [8,0,1,7] hS ?_
 rintro dL m1 y1 hS hK1
 refine ZX ?_
 refine Zq (Zc hS (fun h9 hS => ?_) (fun h9 hS => ?_))
 ·
  refine Zk ?_
  refine Zq (Zb (ZX ?_))
  refine yH hS rfl fun fD pF hS=>ZX ?_
  obtain ⟨mW,uE,hS⟩:=cS hS
  refine Zu (tU (vs:=[.agg #[str fD.path,i64 fD.iK,i64 fD.mode,str fD.data,i64 fD.time,i64 fD.size]]) (caps:=[ptr dY 0]) ((aCo fD dY dP).out uE) rfl rfl (fun _ _=>rfl)) ?_
  exact ZE hS
 exact ZE hS
instance xQ (aA:Sv aH) (dY:Nat) (dP:bH) :
 gF Tryz.prog 225 [aA.val,.func (.func 339) #[] #[ptr dY 0]] (Sh.fL aA.l dP) (aA.ok.and (Cells dY 0 [str dP])) (fun r => .bool r):=by
 refine gM Tryz.func225 Tryz.ntmps225 fun r hS c => ?_
 unfold Sh.fL at hS
 refine ZX ?_
 obtain ⟨kI,GJ,hS⟩:=cS hS
 refine Zu (l6 ((yY aA dY dP).out GJ) rfl (fun _ _=>rfl)) ?_
 exact ZE hS
instance aGL (aHp:Sv aH) (p_1:bH) :
 gF Tryz.prog 300 [aHp.val,str p_1] (Sh.HB aHp.l p_1) aHp.ok (fun r => .bool r):=by
 refine gM Tryz.func300 Tryz.ntmps300 fun r hS c => ?_
 unfold Sh.HB at hS
 refine cI (kU fun uO=>ZX ?_)
 obtain ⟨rJ,aNa,hS⟩:=cS hS
 refine Zu (l6 ((xQ aHp uO p_1).out aNa) rfl (fun _ _=>rfl)) ?_
 exact ZE hS
instance aXS (iL:Sv aC) (PE:Sv aC) (E4:Sv aH) (nS:Sv aC) :
 jZ Tryz.prog 239 [iL.val,PE.val,E4.val,nS.val] (Sh.HA iL.l PE.l E4.l nS.l) (iL.ok.and (PE.ok.and (E4.ok.and nS.ok))) (X:=Sv aH×Sv aC) (fun x => .tuple #[x.1.val,x.2.val]) (fun x=>(x.1.l,x.2.l)) (fun x=>(x.1.ok.and x.2.ok)):=by
 refine j6 Tryz.func239 Tryz.ntmps239 fun r hS c => ?_
 unfold Sh.HA at hS
 refine ZX ?_
 refine Zq (ZX ?_)
 refine Zb ?_
 refine VC.mR (⟨none,0,[]⟩:Sv aC) 78 ⟨rfl,rfl⟩ ?_
 refine VC.iter (S:=Sv aC×Int) (fun sg=>(sg.1.l,sg.2)) (fun sg=>[(0,iL.val),(1,PE.val),(2,E4.val),(10,sg.1.val),(15,nS.val),(16,i64 (nS.l.length:Int)),(17,i64 sg.2)]) (fun sg=>Mo.tt) (fun sg=>Ow.star (Sv.own sg.1 78) (Ow.emp)) (⟨none,0,[]⟩,0) [0,1,2,10,15,16,17] hS rfl ?_
 rintro ⟨K6,TF⟩ m1 y1 hS hK1
 refine ZX ?_
 refine Zq (Zc hS (fun h18 hS => ?_) (fun h18 hS => ?_))
 ·
  refine Zk ?_
  refine Zq (Zb (cI (yH hS rfl fun OI bBj hS=>ZX ?_)))
  refine dJ fun bC5=>ZO ?_
  refine Zl ?_
  refine VC.cJ [0,1,2,10,12,15,16,17] (fun (GV:Bool)=>GV) (fun GV ρ=>(33,.bool GV)::ρ) hS ?_ ?_
  ·
   intro k6 hS
   refine Zr (ZX ?_)
   refine jK hS rfl fun aJb hS => ?_
   refine Zu (aNx Tryz.underlying349 rfl LU rfl rfl) (Zu (N2 rfl) (Zm ?_))
   refine xZ 27 hS (fun h27 hS => ?_) (fun h27 hS => ?_)
   ·
    refine ZX ?_
    obtain ⟨QH,a1I,hS⟩:=cS hS
    refine Zh (dU ((aGL E4 OI.path).out a1I) rfl (fun _ _=>rfl)) ?_
    exact ZE hS
   exact ZE hS
  rintro GV hS
  refine iZ hS (fun h33 hS => ?_) (fun h33 hS => ?_)
  ·
   refine Zr (ZX ?_)
   refine mS hS fun bDH hS=>HM hS fun a3a hS => ?_
   obtain ⟨b38,hS⟩:=bM hS
   refine ZX ?_
   refine Zr (ZX ?_)
   refine VL.kL (a3a,(TF+1)) [0,1,2,10,15,16,17] (fun _ _ h=>h) (go2 hS hK1) rfl
  obtain ⟨b38,hS⟩:=bM hS
  refine Zk ?_
  refine Zr (ZX ?_)
  refine VL.kL (K6,(TF+1)) [0,1,2,10,15,16,17] (fun _ _ h=>h) (go2 hS hK1) rfl
 replace hS:=kS hS hK1
 refine Zx ?_
 refine Zq (ZX ?_)
 refine Zb ?_
 refine VC.shut K6 78 (fun _ _ _ _=>trivial) ?_
 refine VC.iJm [1,39,40] (fun (sg:Sv aC×Int)=>(sg.1.l,sg.2)) (fun sg ρ=>(10,sg.1.val)::(41,i64 sg.2)::ρ) (fun sg=>sg.1.ok) (K6,0) [10,41,1,39,40] hS ?_
 rintro ⟨aCn,X4⟩ m1 y1 hS hK1
 refine ZX ?_
 refine Zq (Zc hS (fun h42 hS => ?_) (fun h42 hS => ?_))
 ·
  refine Zk ?_
  refine Zq (Zb (cI (yH hS rfl fun aKR bA2 hS=>ZX ?_)))
  refine dJ fun bBd=>ZX ?_
  refine iB [(0,true),(1,true),(2,true),(4,true),(3,false),(5,false),(6,true)] ?_
  refine ZX ?_
  refine VD.one rfl (fR hS rfl fun a90 hS=>eO (Pk 4 Pz) ?_)
  refine VD.one rfl (fR hS rfl fun aTI hS=>eV ?_)
  refine ZD ?_
  refine uD ?_
  refine VC.aV [1,10,39,40,41] ?_
  obtain ⟨b51,hS⟩:=bM hS
  refine Zr (ZX ?_)
  refine VL.kL (aTI,(X4+1)) [10,41,1,39,40] (fun _ _ h=>h) (go2 hS hK1) rfl
 exact ZE hS
instance LW (aA:aM) (PE:Sv aC) :
 jZ Tryz.prog 162 [.agg (aJ aA).toArray,PE.val] (Sh.uH aA.pl PE.l) (aA.m.and PE.ok) (X:=aM) (fun x => .agg (bD.enc x).toArray) (fun x=>x.pl) (fun x=>x.m):=by
 refine j6 Tryz.func162 Tryz.ntmps162 fun r hS c => ?_
 unfold Sh.uH at hS
 refine cI ?_
 refine qA (aJ aA) fun iV => ?_
 refine dJ fun AM=>Zl ?_
 refine Zq ?_
 refine iB [(0,true),(2,true),(3,true),(4,true),(5,true),(6,true),(7,true),(8,true),(1,false),(9,false),(10,true),(11,true),(12,true),(13,true),(14,true),(15,false),(16,true),(17,true),(18,false)] ?_
 refine ZX ?_
 refine VD.one rfl (fR hS rfl fun a3E hS=>eO (Pk 8 (Pk 7 (Pk 6 (Pk 5 (Pk 4 (Pk 3 Pz)))))) ?_)
 refine VD.one rfl (fR hS rfl fun ⟨FT,aX6⟩ hS => ?_)
 try dsimp only
 refine eV ?_
 refine ZX ?_
 refine VD.one rfl (ZX ?_)
 refine eO (Pk 12 Pz) ?_
 refine ZX ?_
 refine VD.one rfl (ZX ?_)
 refine eV ?_
 refine uD ?_
 refine VC.aV [2,4] (ZX ?_)
 cases hS
 exact VC.ret (Z4 ⟨aX6,FT,aA.bA,aA.aI,aA.aG,aA.aS,aA.aO,aA.aT,aA.aN,aA.aP,aA.aQ,aA.aK,aA.aD,aA.aE,aA.aL,aA.aR,aA.aX,aA.bC,aA.bE,aA.aZ,aA.time⟩ rfl)
instance a0N (aA:aM) :
 jZ Tryz.prog 93 [.agg (aJ aA).toArray] (Sh.GQ aA.pl) (aA.m.and Gl) (X:=aM×Bool×Er) (fun x => .tuple #[.agg (bD.enc x.1).toArray,.bool x.2.1,x.2.2.val]) (fun x=>(x.1.pl,x.2.1,x.2.2.pl)) (fun x=>(x.1.m.and x.2.2.ok)):=by
 refine j6 Tryz.func93 Tryz.ntmps93 fun r hS c => ?_
 unfold Sh.GQ at hS
 refine cI ?_
 refine qA (aJ aA) fun hG => ?_
 refine dJ fun C4=>ZX ?_
 refine Zu (mG (j:=5) (n:=11) HZ rfl rfl rfl) ?_
 refine dJ fun aKa => ?_
 refine Zv  (vc:=[str aA.aS,i64 aA.aO,str aA.aT,aA.aN.val,aA.aP.val,i64 aA.aQ,str aA.aK,str aA.aD,i64 aA.aE,aA.aL.val,aA.aR.val]) (cs':=[str aA.aS,i64 aA.aO,str aA.aT,aA.aN.val,aA.aP.val,i64 aA.aQ,str aA.aK,str aA.aD,i64 aA.aE,aA.aL.val,aA.aR.val]) rfl aFl ?_
 refine Zl ?_
 refine Zq ?_
 refine VC.cJ [1,2,5] (fun (aDS:Bool)=>aDS) (fun aDS ρ=>(16,.bool aDS)::ρ) hS (fun _ hS=>ZE hS) ?_
 rintro aDS hS
 refine iZ hS (fun h16 hS => ?_) (fun h16 hS => ?_)
 ·
  refine ZX ?_
  cases hS
  exact VC.ret (Z4 (aA,false,(Er.no 7)) rfl)
 refine Zk ?_
 refine Zq ?_
 refine iB [(0,true),(1,true),(2,false),(3,false),(4,false)] ?_
 refine ZX ?_
 refine VD.one rfl (fR hS rfl fun aB5 hS=>eO (Pk 0 Pz) ?_)
 refine VD.one rfl (fR hS rfl fun dQ hS=>eV ?_)
 refine VD.one rfl (ZX ?_)
 refine eV ?_
 refine ZX ?_
 refine Zq (ZX ?_)
 refine jK hS rfl fun aJc hS=>Zl ?_
 refine iZ hS (fun h24 hS => ?_) (fun h24 hS => ?_)
 ·
  refine ZX ?_
  cases hS
  exact VC.ret (Z4 (aA,false,(Er.no 4)) rfl)
 refine Zk ?_
 refine VC.OM [2] (fun (sg:Sv bK×Sv bK)=>(sg.1.l,sg.2.l)) (fun sg ρ=>ρ) (fun sg=>(sg.1.ok.and sg.2.ok)) C4 (fun sg=>[dQ.aY.val,dQ.aU.val,dQ.bA.val,str dQ.aI,i64 dQ.aG,str dQ.aS,i64 dQ.aO,str dQ.aT,sg.1.val,sg.2.val,i64 dQ.aQ,str dQ.aK,str dQ.aD,i64 dQ.aE,dQ.aL.val,dQ.aR.val,dQ.aX.val,dQ.bC.val,dQ.bE.val,dQ.aZ.val,i64 dQ.time]) hS ?_ ?_
 ·
  intro k11 hS
  refine Zb (ZX ?_)
  refine VC.aV [2,5,27] (oD hS (fun h27 hS => ?_) (fun h27 hS => ?_))
  ·
   refine cI ?_
   refine Zu (cG (vs:=[]) (cs := #[str [],i64 0,str [],.slice none 0 0,.slice none 0 0,i64 0,str [],str [],i64 0,.slice none 0 0,.slice none 0 0]) rfl (by kernel_rfl)) ?_
   refine ZX ?_
   cases hS
   exact VC.ret (Z4 (⟨dQ.aY,dQ.aU,dQ.bA,dQ.aI,dQ.aG,[],0,[],⟨none,0,[]⟩,⟨none,0,[]⟩,0,[],[],0,⟨none,0,[]⟩,⟨none,0,[]⟩,dQ.aX,dQ.bC,dQ.bE,dQ.aZ,dQ.time⟩,false,.nil) rfl)
  refine ZX ?_
  refine Zc hS (fun h35 hS => ?_) (fun h35 hS => ?_)
  ·
   refine Zr (ZX ?_)
   refine VL.YW C4 (cs':=[dQ.aY.val,dQ.aU.val,dQ.bA.val,str dQ.aI,i64 dQ.aG,str dQ.aS,i64 dQ.aO,str dQ.aT,(⟨none,0,[]⟩:Sv bK).val,dQ.aP.val,i64 dQ.aQ,str dQ.aK,str dQ.aD,i64 dQ.aE,dQ.aL.val,dQ.aR.val,dQ.aX.val,dQ.bC.val,dQ.bE.val,dQ.aZ.val,i64 dQ.time]) rfl ?_
   refine VL.mt ((⟨none,0,[]⟩:Sv bK),dQ.aP) [2] (fun _ _ h=>h) hS rfl
  refine ZX ?_
  refine VC.aV [2,5,43] (Zc hS (fun h43 hS => ?_) (fun h43 hS => ?_))
  ·
   obtain ⟨b50,hS⟩:=bM hS
   refine Zr (ZX ?_)
   refine VL.aYe Tryz.underlying31 KE rfl rfl b50.1 (b50.2) (by decide) fun a3g aWg => ?_
   replace hS:=dZ aWg hS
   refine ZX ?_
   refine VL.mt (dQ.aN,a3g) [2] (fun _ _ h=>h) hS rfl
  refine VC.rY (dQ.aN,dQ.aP) [2] (fun _ _ h=>h) hS rfl
 rintro ⟨aUp,aNU⟩ hS
 refine ZX ?_
 exact I1 hS (N8 (⟨dQ.aY,dQ.aU,dQ.bA,dQ.aI,dQ.aG,dQ.aS,dQ.aO,dQ.aT,aUp,aNU,dQ.aQ,dQ.aK,dQ.aD,dQ.aE,dQ.aL,dQ.aR,dQ.aX,dQ.bC,dQ.bE,dQ.aZ,dQ.time⟩:aM)).out fun ⟨a98,a99,a9a⟩ hS=>ZE hS
instance aYR (aA:aM) :
 jZ Tryz.prog 94 [.agg (aJ aA).toArray] (Sh.DW aA.pl) aA.m (X:=aM×Er) (fun x => .tuple #[.agg (bD.enc x.1).toArray,x.2.val]) (fun x=>(x.1.pl,x.2.pl)) (fun x=>(x.1.m.and x.2.ok)):=by
 refine j6 Tryz.func94 Tryz.ntmps94 fun r hS c => ?_
 unfold Sh.DW at hS
 refine cI ?_
 refine qA (aJ aA) fun hG => ?_
 refine dJ fun C4=>ZX ?_
 refine Zu (mG (j:=5) (n:=11) HZ rfl rfl rfl) ?_
 refine dJ fun CW => ?_
 refine Zv  (vc:=[str aA.aS,i64 aA.aO,str aA.aT,aA.aN.val,aA.aP.val,i64 aA.aQ,str aA.aK,str aA.aD,i64 aA.aE,aA.aL.val,aA.aR.val]) (cs':=[str aA.aS,i64 aA.aO,str aA.aT,aA.aN.val,aA.aP.val,i64 aA.aQ,str aA.aK,str aA.aD,i64 aA.aE,aA.aL.val,aA.aR.val]) rfl aFl ?_
 refine Zl ?_
 refine Zq (ZX ?_)
 refine VC.aV [1,2,4,10] (Zc hS (fun h10 hS => ?_) (fun h10 hS => ?_))
 ·
  refine ZX ?_
  cases hS
  exact VC.ret (Z4 (aA,(Er.no 7)) rfl)
 refine Zk ?_
 refine Zq ?_
 refine iB [(0,true),(1,true),(2,true),(3,true),(4,true),(5,true),(6,true),(7,true),(8,false),(9,true),(10,true),(11,false),(12,true),(13,true),(14,false)] ?_
 refine ZX ?_
 refine Zw rfl (mG (j:=7) (n:=2) EK rfl rfl rfl) ?_
 refine ZX ?_
 refine VD.one rfl ?_
 refine Zv  (vc:=[aA.aR.val]) (cs':=[aA.aR.val,aA.aU.val,aA.bA.val,str aA.aI,i64 aA.aG,str aA.aS,i64 aA.aO,str aA.aT,aA.aN.val,aA.aP.val,i64 aA.aQ,str aA.aK,str aA.aD,i64 aA.aE,aA.aL.val,aA.aR.val,aA.aX.val,aA.bC.val,aA.bE.val,aA.aZ.val,i64 aA.time]) rfl aFk ?_
 refine QT [(5,.agg #[str aA.aD,i64 aA.aE]),(4,ptr CW 7),(3,aA.aL.val),(2,ptr CW 9)] (bT.cons rfl (mG (j:=7) (n:=2) EK rfl rfl rfl) (bT.cons rfl (bU aFd rfl) (bT.cons rfl (lB aBE rfl rfl) (bT.cons rfl (bU aLF rfl) bT.nil)))) ?_
 refine ZX ?_
 refine VD.one rfl ?_
 refine Zv  (vc:=[aA.aL.val]) (cs':=[aA.aR.val,aA.aL.val,aA.bA.val,str aA.aI,i64 aA.aG,str aA.aS,i64 aA.aO,str aA.aT,aA.aN.val,aA.aP.val,i64 aA.aQ,str aA.aK,str aA.aD,i64 aA.aE,aA.aL.val,aA.aR.val,aA.aX.val,aA.bC.val,aA.bE.val,aA.aZ.val,i64 aA.time]) rfl aW8 ?_
 refine QT [(5,.agg #[str aA.aD,i64 aA.aE]),(4,ptr CW 7)] (bT.cons rfl (mG (j:=7) (n:=2) EK rfl rfl rfl) (bT.cons rfl (bU aFd rfl) bT.nil)) ?_
 refine ZX ?_
 refine VD.one rfl ?_
 refine Zv  (vc:=[str aA.aD,i64 aA.aE]) (cs':=[aA.aR.val,aA.aL.val,aA.bA.val,str aA.aD,i64 aA.aE,str aA.aS,i64 aA.aO,str aA.aT,aA.aN.val,aA.aP.val,i64 aA.aQ,str aA.aK,str aA.aD,i64 aA.aE,aA.aL.val,aA.aR.val,aA.aX.val,aA.bC.val,aA.bE.val,aA.aZ.val,i64 aA.time]) rfl aW9 ?_
 refine eV ?_
 refine uD ?_
 refine VC.aV [1,2,4] ?_
 refine VC.OM [1,2] (fun (FZ:aM)=>FZ.pl) (fun FZ ρ=>ρ) (fun (FZ:aM)=>FZ.m) hG (fun (FZ:aM)=>(aJ FZ)) hS ?_ ?_
 ·
  intro k5 hS
  refine ZX ?_
  refine oD hS (fun h28 hS => ?_) (fun h28 hS => ?_)
  ·
   refine Zr (ZX ?_)
   refine I1 hS (aBn (⟨aA.aR,aA.aL,aA.bA,aA.aD,aA.aE,aA.aS,aA.aO,aA.aT,aA.aN,aA.aP,aA.aQ,aA.aK,aA.aD,aA.aE,aA.aL,aA.aR,aA.aX,aA.bC,aA.bE,aA.aZ,aA.time⟩:aM) aA.aD aA.aE).out fun aXy hS=>ZX ?_
   refine VL.mt (aXy:aM) [1,2] (fun _ _ h=>h) hS rfl
  refine VC.rY (⟨aA.aR,aA.aL,aA.bA,aA.aD,aA.aE,aA.aS,aA.aO,aA.aT,aA.aN,aA.aP,aA.aQ,aA.aK,aA.aD,aA.aE,aA.aL,aA.aR,aA.aX,aA.bC,aA.bE,aA.aZ,aA.time⟩:aM) [1,2] (fun _ _ h=>h) hS rfl
 rintro FZ hS
 refine cI ?_
 refine Zu (cG (vs:=[]) (cs := #[str [],i64 0,str [],.slice none 0 0,.slice none 0 0,i64 0,str [],str [],i64 0,.slice none 0 0,.slice none 0 0]) rfl (by kernel_rfl)) ?_
 refine ZX ?_
 cases hS
 exact VC.ret (Z4 (⟨FZ.aY,FZ.aU,FZ.bA,FZ.aI,FZ.aG,[],0,[],⟨none,0,[]⟩,⟨none,0,[]⟩,0,[],[],0,⟨none,0,[]⟩,⟨none,0,[]⟩,FZ.aX,FZ.bC,FZ.bE,FZ.aZ,FZ.time⟩,.nil) rfl)
instance D6 (n_0:iY) :
 gF Tryz.prog 55 [.agg (mQ n_0).toArray] (Sh.qZ n_0.pl) n_0.m (fun r=>str r):=by
 refine gM Tryz.func55 Tryz.ntmps55 fun r hS c => ?_
 unfold Sh.qZ at hS
 refine cI ?_
 refine qA (mQ n_0) fun hG => ?_
 refine ZX ?_
 refine dJ fun gL=>ZX ?_
 refine VL.mR (⟨none,0,[]⟩:Sv UInt8) 5 ⟨rfl,rfl⟩ ?_
 refine VL.YW gL (cs':=[(⟨none,0,[]⟩:Sv UInt8).val]) rfl ?_
 refine y7 hS (LK gL (⟨(⟨none,0,[]⟩:Sv UInt8)⟩:eF) n_0).out fun gE hS=>ZX ?_
 refine fM hS rfl fun a3F hS => ?_
 refine Zu (aYF (s:=a3F) Tryz.underlying67 Tryz.underlying5 Tryz.underlying9 rfl) ?_
 exact ZE hS
instance a0D (dR:Sv bH) :
 vL Tryz.prog 247 [dR.val] (Sh.GN dR.l) dR.ok (Ow.emp) (X:=Sv bH×bH) (fun x => .tuple #[x.1.val,str x.2]) (fun x=>(x.1.l,x.2)) (fun x=>Mo.tt) (fun x=>Sv.own x.1 9):=by
 refine v8 Tryz.func247 Tryz.ntmps247 fun r hS c => ?_
 unfold Sh.GN at hS
 obtain ⟨b7,hS⟩:=bM hS
 refine ZX ?_
 refine Zq ?_
 refine iB [(0,true),(1,true),(2,true),(5,true),(6,true),(7,true),(8,true),(3,false),(4,false),(9,true),(10,true)] ?_
 obtain ⟨b10,hS⟩:=bM hS
 refine ZX ?_
 refine VD.a6i rfl Tryz.underlying39 xE rfl rfl b10.1 (b10.2) (by decide) fun bCj a1l Qs10_1 => ?_
 replace hS:=dZ a1l hS
 refine ZX ?_
 obtain ⟨W7,MK,KG,hS⟩:=gP hS
 refine Zw rfl (jA (s:=dR) Tryz.underlying39 xE rfl rfl MK (bR MK KG)) ?_
 refine Zw rfl (I4  (s:=dR) mF rfl KG rfl) ?_
 refine VD.one rfl (fM hS rfl fun aMS hS => ?_)
 refine QT [(8,str W7),(7,ptr dR.b (dR.o+(((dR.l.length:Int) - 1)).toNat*bD.sz bH+0))] (bT.cons rfl (I4 (s:=dR) mF rfl KG rfl) (bT.cons rfl (jA (s:=dR) Tryz.underlying39 xE rfl rfl MK (bR MK KG)) bT.nil)) ?_
 refine VD.one rfl (fM hS rfl fun bAh hS => ?_)
 refine QT [(8,str W7),(7,ptr dR.b (dR.o+(((dR.l.length:Int) - 1)).toNat*bD.sz bH+0))] (bT.cons rfl (I4 (s:=dR) mF rfl KG rfl) (bT.cons rfl (jA (s:=dR) Tryz.underlying39 xE rfl rfl MK (bR MK KG)) bT.nil)) ?_
 exact ZE hS
instance NS (dR:pM) (IC:bH) :
 jZ Tryz.prog 166 [.agg #[dR.back.val,dR.kY.val],str IC] (Sh.yB dR.pl IC) (dR.back.ok.and dR.kY.ok) (X:=pM×bH×Int) (fun x => .tuple #[.agg (bD.enc x.1).toArray,str x.2.1,i64 x.2.2]) (fun x=>(x.1.pl,x.2.1,x.2.2)) (fun x=>x.1.m):=by
 refine j6 Tryz.func166 Tryz.ntmps166 fun r hS c => ?_
 unfold Sh.yB at hS
 refine cI (kU fun iV=>dJ fun AM=>ZX ?_)
 refine Zq (ZX ?_)
 refine Zc hS (fun h12 hS => ?_) (fun h12 hS => ?_)
 ·
  refine cI ?_
  refine Zu (cG (vs:=[]) (cs := #[.slice none 0 0,.slice none 0 0]) rfl (by kernel_rfl)) ?_
  refine ZX ?_
  cases hS
  exact VC.ret (Z4 (⟨⟨none,0,[]⟩,⟨none,0,[]⟩⟩,[],10) rfl)
 refine ZX ?_
 refine fM hS rfl fun ⟨tK,B6⟩ hS => ?_
 try dsimp only
 refine ZO ?_
 refine Zl ?_
 refine VC.aV [1,2,4,7,8] (ZX ?_)
 refine fM hS rfl fun aB6 hS=>Zm ?_
 refine mS hS fun bCz hS=>HM hS fun bDB hS => ?_
 refine fM hS rfl fun aB8 hS => ?_
 refine Zu (cG (vs:=[(0,tK.val),(1,aB8.val)]) (cs := #[tK.val,aB8.val]) rfl (by kernel_rfl)) ?_
 refine ZO ?_
 refine Zl ?_
 refine VC.aV [4,5,6] ?_
 refine VC.shut tK 9 (fun _ _ _ _=>trivial) ?_
 refine VC.shut aB8 9 (fun _ _ _ _=>trivial) ?_
 cases hS
 exact VC.ret (Z4 (⟨tK,aB8⟩,B6,0) rfl)
instance aTy (aA:bH) :
 jZ Tryz.prog 41 [str aA] (Sh.mZ aA) Mo.tt (X:=iY×Er) (fun x => .tuple #[.agg (bD.enc x.1).toArray,x.2.val]) (fun x=>(x.1.pl,x.2.pl)) (fun x=>(x.1.m.and x.2.ok)):=by
 refine j6 Tryz.func41 Tryz.ntmps41 fun r hS c => ?_
 unfold Sh.mZ at hS
 refine cI (dJ fun iV => ?_)
 obtain ⟨b8,hS⟩:=bM hS
 refine ZX ?_
 refine VL.s2b Tryz.underlying9 Tryz.underlying67 Tryz.underlying5 rfl b8 (by decide) fun a6g a78 => ?_
 replace hS:=dZ a78 hS
 refine fM hS rfl fun ⟨aEa,a3H⟩ hS => ?_
 try dsimp only
 refine Zu (cG (vs:=[(0,ptr aEa 0)]) (cs := #[ptr aEa 0,.bool false]) rfl (by kernel_rfl)) ?_
 refine kU fun aNS=>ZX ?_
 refine y7 hS (LJ aNS (⟨false⟩:aW) aEa a3H) fun ⟨aXZ,aX0,aX1⟩ hS => ?_
 try dsimp only
 refine dJ fun QX=>ZO ?_
 refine Zl ?_
 refine VC.aV [2,4,5] (Zq (ZX ?_))
 refine y7 hS (LI aNS aX1 aEa aX0) fun aB1 hS=>ZX ?_
 refine oD hS (fun h17 hS => ?_) (fun h17 hS => ?_)
 ·
  refine cI ?_
  refine Zu (cG (vs:=[]) (cs := #[.slice none 0 0,.slice none 0 0,.slice none 0 0,str [],i64 0,str [],i64 0,str [],.slice none 0 0,.slice none 0 0,i64 0,str [],str [],i64 0,.slice none 0 0,.slice none 0 0,.slice none 0 0]) rfl (by kernel_rfl)) ?_
  refine ZX ?_
  cases hS
  exact VC.ret (Z4 (⟨⟨none,0,[]⟩,⟨none,0,[]⟩,⟨none,0,[]⟩,[],0,[],0,[],⟨none,0,[]⟩,⟨none,0,[]⟩,0,[],[],0,⟨none,0,[]⟩,⟨none,0,[]⟩,⟨none,0,[]⟩⟩,aB1) rfl)
 refine ZX ?_
 cases hS
 exact VC.ret (Z4 (aXZ,.nil) rfl)
instance a0O (aA:aM) :
 jZ Tryz.prog 95 [.agg (aJ aA).toArray] (Sh.D4 aA.pl) aA.m (X:=aM×Er) (fun x => .tuple #[.agg (bD.enc x.1).toArray,x.2.val]) (fun x=>(x.1.pl,x.2.pl)) (fun x=>(x.1.m.and x.2.ok)):=by
 refine j6 Tryz.func95 Tryz.ntmps95 fun r hS c => ?_
 unfold Sh.D4 at hS
 refine cI ?_
 refine qA (aJ aA) fun hG => ?_
 refine dJ fun C4=>Za ?_
 refine Zl ?_
 refine VC.u5 (S:=Nat×bH×Int×Sv bH×Sv bH) (fun sg=>((),sg.2.1,sg.2.2.1,sg.2.2.2.1.l,sg.2.2.2.2.l)) (fun sg=>[(1,ptr hG 0),(2,ptr C4 0),(4,ptr sg.1 0),(5,str sg.2.1),(6,i64 sg.2.2.1)]) (fun sg=>(sg.2.2.2.1.ok.and sg.2.2.2.2.ok)) (fun sg=>Ow.star (bN C4 [.slice none 0 0,.slice none 0 0,.slice none 0 0,str [],i64 0,str [],i64 0,str [],.slice none 0 0,.slice none 0 0,i64 0,str [],str [],i64 0,.slice none 0 0,.slice none 0 0,.slice none 0 0,.slice none 0 0,.slice none 0 0,.slice none 0 0,i64 0] 43) (Ow.star (bN hG (aJ aA) 43) (Ow.star (bN sg.1 [sg.2.2.2.1.val,sg.2.2.2.2.val] 41) (Ow.emp)))) hS ?_ ?_
 ·
  intro k8 hS
  refine VC.GH (n:=9) (listed:=bl 14 31) [(0,true),(1,true),(2,true),(3,true),(4,true)] mixed (by kernel_rfl) (by kernel_rfl) (by kernel_rfl) (by kernel_rfl) ?_
  refine VD.q rfl (bU U9 rfl) (by decide) ?_
  refine VD.q rfl (mG (j:=18) (n:=2) XF rfl rfl rfl) (by decide) ?_
  refine VD.q rfl (bU oY rfl) (by decide) ?_
  refine VD.q rfl (mG (j:=0) (n:=17) MJ rfl rfl rfl) (by decide) ?_
  obtain ⟨OE,aAr,hS⟩:=cS hS
  refine VD.q rfl (dU ((D6 (⟨aA.aY,aA.aU,aA.bA,aA.aI,aA.aG,aA.aS,aA.aO,aA.aT,aA.aN,aA.aP,aA.aQ,aA.aK,aA.aD,aA.aE,aA.aL,aA.aR,aA.aX⟩:iY)).out aAr) rfl (fun _ _=>rfl)) (by decide) ?_
  obtain ⟨IU,U3,hS⟩:=cS hS
  refine VD.TB fun hcl => ?_
  refine VG.fork (l:=[5,10]) (n:=8) (by kernel_rfl) rfl fun i hi => ?_
  obtain rfl | rfl:i=5∨i=10:=by simpa using hi
  ·
   refine qG.of rfl ?_
   refine VL.jN ((NS (⟨aA.bE,aA.aZ⟩:pM) OE).out U3) rfl (by decide) ?_
   rintro ⟨iO,DM,DN⟩ rfl
   try dsimp only
   refine zU (bl 14 63) Pz ?_
   refine VG.ord [(6,true),(7,true),(8,true),(9,true),(10,false),(11,false),(12,true),(13,true)] (by kernel_rfl) (eL (by kernel_rfl)) (by kernel_rfl) ?_
   refine ZX ?_
   refine VD.one rfl (dJ fun NA=>eO (Pk 9 (Pk 8 (Pk 7 (Pk 6 Pz)))) ?_)
   refine VD.one rfl ?_
   refine Zv  (vc:=[iO.back.val,iO.kY.val]) (cs':=[iO.back.val,iO.kY.val]) rfl aCe ?_
   refine eO (Pk 9 (Pk 8 Pz)) ?_
   refine ZX ?_
   refine VD.mt (NA,DM,DN,iO.back,iO.kY) [1,2,4,5,6] (fun _ _ h=>h) hS rfl
  refine qG.of rfl ?_
  refine dJ fun NA => ?_
  refine VL.E8 (D':=[(4,str OE),(3,.agg #[aA.aY.val,aA.aU.val,aA.bA.val,str aA.aI,i64 aA.aG,str aA.aS,i64 aA.aO,str aA.aT,aA.aN.val,aA.aP.val,i64 aA.aQ,str aA.aK,str aA.aD,i64 aA.aE,aA.aL.val,aA.aR.val,aA.aX.val]),(2,ptr hG 0),(1,.agg #[aA.bE.val,aA.aZ.val]),(0,ptr hG 18)]) (listed' := #[true,true,true,true,true,false,false,false,false,false,true,false,false,false]) (bT.cons rfl (dU ((D6 (⟨aA.aY,aA.aU,aA.bA,aA.aI,aA.aG,aA.aS,aA.aO,aA.aT,aA.aN,aA.aP,aA.aQ,aA.aK,aA.aD,aA.aE,aA.aL,aA.aR,aA.aX⟩:iY)).out aAr) rfl (fun _ _=>rfl)) (bT.cons rfl (mG (j:=0) (n:=17) MJ rfl rfl rfl) (bT.cons rfl (bU oY rfl) (bT.cons rfl (mG (j:=18) (n:=2) XF rfl rfl rfl) (bT.cons rfl (bU U9 rfl) (bT.nil)))))) (by kernel_rfl) (by kernel_rfl) ?_
  refine VG.ord [(5,false),(6,true),(7,true),(8,true),(9,true),(11,false),(12,true),(13,true)] (by kernel_rfl) (eL (by kernel_rfl)) (by kernel_rfl) ?_
  refine VD.one rfl ?_
  refine VL.jN ((NS (⟨aA.bE,aA.aZ⟩:pM) OE).out U3) rfl (by decide) ?_
  rintro ⟨iO,DM,DN⟩ rfl
  try dsimp only
  refine eV ?_
  refine ZX ?_
  refine VD.one rfl ?_
  refine Zv  (vc:=[iO.back.val,iO.kY.val]) (cs':=[iO.back.val,iO.kY.val]) rfl aCe ?_
  refine eO (Pk 9 (Pk 8 Pz)) ?_
  refine ZX ?_
  refine VD.mt (NA,DM,DN,iO.back,iO.kY) [1,2,4,5,6] (fun _ _ h=>h) hS rfl
 rintro ⟨aXA,aBx,aAo,kZ,G3⟩ hS
 refine Zq (ZX ?_)
 refine oD hS (fun h20 hS => ?_) (fun h20 hS => ?_)
 ·
  refine ZX ?_
  cases hS
  exact VC.ret (Z4 (aA,(Er.no aAo)) rfl)
 refine ZX ?_
 refine fR hS rfl fun ⟨iP,aSp⟩ hS => ?_
 try dsimp only
 refine ZX ?_
 refine dJ fun a6u=>ZO ?_
 refine Zl ?_
 refine VC.aV [1,2,4,7,8] (Zq (ZX ?_))
 refine oD hS (fun _ hS=>ZE hS) fun h30 hS=>Zk ?_
 refine Zq ?_
 refine iB [(0,true),(1,true),(2,true),(3,false),(4,true),(5,false)] ?_
 refine ZX ?_
 refine VD.one rfl (ZX ?_)
 refine eO (Pk 1 Pz) ?_
 refine ZX ?_
 refine VD.one rfl (ZX ?_)
 refine eV ?_
 refine uD ?_
 refine VC.aV [1,2] (ZX ?_)
 cases hS
 exact VC.ret (Z4 (⟨iP.work,iP.index,iP.refs,iP.cB,iP.cA,iP.fE,iP.eM,iP.fF,iP.cZ,iP.eA,iP.eX,iP.dM,iP.bW,iP.bX,iP.dB,iP.eC,iP.gB,aA.bC,kZ,G3,aA.time⟩,.nil) rfl)
instance aXO (dR:Sv bH) (s_1:bH) :
 jZ Tryz.prog 98 [dR.val,str s_1] (Sh.AP dR.l s_1) dR.ok (X:=Sv bH) (fun x=>x.val) (fun x=>x.l) (fun x=>x.ok):=by
 refine j6 Tryz.func98 Tryz.ntmps98 fun r hS c => ?_
 unfold Sh.AP at hS
 refine ZX ?_
 refine fM hS rfl fun ES hS=>Zm ?_
 refine mS hS fun a6h hS=>HM hS fun a8A hS => ?_
 obtain ⟨b14,hS⟩:=bM hS
 refine ZX ?_
 refine Zu (aYI rfl) ?_
 refine VL.shut a8A 9 (fun _ _ _ _=>trivial) ?_
 obtain ⟨b16,hS⟩:=bM hS
 refine VL.aYe Tryz.underlying39 xE rfl rfl b16.1 (b16.2) (by decide) fun bCq a1t => ?_
 replace hS:=dZ a1t hS
 exact ZE hS
instance NR (dR:pM) (IC:bH) :
 jZ Tryz.prog 167 [.agg #[dR.back.val,dR.kY.val],str IC] (Sh.yA dR.pl IC) (dR.back.ok.and dR.kY.ok) (X:=pM×bH×Int) (fun x => .tuple #[.agg (bD.enc x.1).toArray,str x.2.1,i64 x.2.2]) (fun x=>(x.1.pl,x.2.1,x.2.2)) (fun x=>x.1.m):=by
 refine j6 Tryz.func167 Tryz.ntmps167 fun r hS c => ?_
 unfold Sh.yA at hS
 refine cI (kU fun iV=>dJ fun AM=>ZX ?_)
 refine Zq (ZX ?_)
 refine Zc hS (fun h12 hS => ?_) (fun h12 hS => ?_)
 ·
  refine cI ?_
  refine Zu (cG (vs:=[]) (cs := #[.slice none 0 0,.slice none 0 0]) rfl (by kernel_rfl)) ?_
  refine ZX ?_
  cases hS
  exact VC.ret (Z4 (⟨⟨none,0,[]⟩,⟨none,0,[]⟩⟩,[],10) rfl)
 refine ZX ?_
 refine fM hS rfl fun ⟨tK,B6⟩ hS => ?_
 try dsimp only
 refine ZO ?_
 refine Zl ?_
 refine VC.aV [1,2,4,7,8] (ZX ?_)
 refine fR hS rfl fun aB6 hS=>Zm ?_
 refine Zu (cG (vs:=[(0,aB6.val),(1,tK.val)]) (cs := #[aB6.val,tK.val]) rfl (by kernel_rfl)) ?_
 refine ZO ?_
 refine Zl ?_
 refine VC.aV [4,5,6] ?_
 refine VC.shut tK 9 (fun _ _ _ _=>trivial) ?_
 cases hS
 exact VC.ret (Z4 (⟨aB6,tK⟩,B6,0) rfl)
instance a0L (aA:aM) :
 jZ Tryz.prog 96 [.agg (aJ aA).toArray] (Sh.DZ aA.pl) aA.m (X:=aM×Er) (fun x => .tuple #[.agg (bD.enc x.1).toArray,x.2.val]) (fun x=>(x.1.pl,x.2.pl)) (fun x=>(x.1.m.and x.2.ok)):=by
 refine j6 Tryz.func96 Tryz.ntmps96 fun r hS c => ?_
 unfold Sh.DZ at hS
 refine cI ?_
 refine qA (aJ aA) fun hG => ?_
 refine dJ fun C4=>Za ?_
 refine Zl ?_
 refine VC.u5 (S:=Nat×bH×Int×Sv bH×Sv bH) (fun sg=>((),sg.2.1,sg.2.2.1,sg.2.2.2.1.l,sg.2.2.2.2.l)) (fun sg=>[(1,ptr hG 0),(2,ptr C4 0),(4,ptr sg.1 0),(5,str sg.2.1),(6,i64 sg.2.2.1)]) (fun sg=>(sg.2.2.2.1.ok.and sg.2.2.2.2.ok)) (fun sg=>Ow.star (bN C4 [.slice none 0 0,.slice none 0 0,.slice none 0 0,str [],i64 0,str [],i64 0,str [],.slice none 0 0,.slice none 0 0,i64 0,str [],str [],i64 0,.slice none 0 0,.slice none 0 0,.slice none 0 0,.slice none 0 0,.slice none 0 0,.slice none 0 0,i64 0] 43) (Ow.star (bN hG (aJ aA) 43) (Ow.star (bN sg.1 [sg.2.2.2.1.val,sg.2.2.2.2.val] 41) (Ow.emp)))) hS ?_ ?_
 ·
  intro k8 hS
  refine VC.GH (n:=9) (listed:=bl 14 31) [(0,true),(1,true),(2,true),(3,true),(4,true)] mixed (by kernel_rfl) (by kernel_rfl) (by kernel_rfl) (by kernel_rfl) ?_
  refine VD.q rfl (bU U9 rfl) (by decide) ?_
  refine VD.q rfl (mG (j:=18) (n:=2) XF rfl rfl rfl) (by decide) ?_
  refine VD.q rfl (bU oY rfl) (by decide) ?_
  refine VD.q rfl (mG (j:=0) (n:=17) MJ rfl rfl rfl) (by decide) ?_
  obtain ⟨OE,aAr,hS⟩:=cS hS
  refine VD.q rfl (dU ((D6 (⟨aA.aY,aA.aU,aA.bA,aA.aI,aA.aG,aA.aS,aA.aO,aA.aT,aA.aN,aA.aP,aA.aQ,aA.aK,aA.aD,aA.aE,aA.aL,aA.aR,aA.aX⟩:iY)).out aAr) rfl (fun _ _=>rfl)) (by decide) ?_
  obtain ⟨IU,U3,hS⟩:=cS hS
  refine VD.TB fun hcl => ?_
  refine VG.fork (l:=[5,10]) (n:=8) (by kernel_rfl) rfl fun i hi => ?_
  obtain rfl | rfl:i=5∨i=10:=by simpa using hi
  ·
   refine qG.of rfl ?_
   refine VL.jN ((NR (⟨aA.bE,aA.aZ⟩:pM) OE).out U3) rfl (by decide) ?_
   rintro ⟨iO,DM,DN⟩ rfl
   try dsimp only
   refine zU (bl 14 63) Pz ?_
   refine VG.ord [(6,true),(7,true),(8,true),(9,true),(10,false),(11,false),(12,true),(13,true)] (by kernel_rfl) (eL (by kernel_rfl)) (by kernel_rfl) ?_
   refine ZX ?_
   refine VD.one rfl (dJ fun NA=>eO (Pk 9 (Pk 8 (Pk 7 (Pk 6 Pz)))) ?_)
   refine VD.one rfl ?_
   refine Zv  (vc:=[iO.back.val,iO.kY.val]) (cs':=[iO.back.val,iO.kY.val]) rfl aCe ?_
   refine eO (Pk 9 (Pk 8 Pz)) ?_
   refine ZX ?_
   refine VD.mt (NA,DM,DN,iO.back,iO.kY) [1,2,4,5,6] (fun _ _ h=>h) hS rfl
  refine qG.of rfl ?_
  refine dJ fun NA => ?_
  refine VL.E8 (D':=[(4,str OE),(3,.agg #[aA.aY.val,aA.aU.val,aA.bA.val,str aA.aI,i64 aA.aG,str aA.aS,i64 aA.aO,str aA.aT,aA.aN.val,aA.aP.val,i64 aA.aQ,str aA.aK,str aA.aD,i64 aA.aE,aA.aL.val,aA.aR.val,aA.aX.val]),(2,ptr hG 0),(1,.agg #[aA.bE.val,aA.aZ.val]),(0,ptr hG 18)]) (listed' := #[true,true,true,true,true,false,false,false,false,false,true,false,false,false]) (bT.cons rfl (dU ((D6 (⟨aA.aY,aA.aU,aA.bA,aA.aI,aA.aG,aA.aS,aA.aO,aA.aT,aA.aN,aA.aP,aA.aQ,aA.aK,aA.aD,aA.aE,aA.aL,aA.aR,aA.aX⟩:iY)).out aAr) rfl (fun _ _=>rfl)) (bT.cons rfl (mG (j:=0) (n:=17) MJ rfl rfl rfl) (bT.cons rfl (bU oY rfl) (bT.cons rfl (mG (j:=18) (n:=2) XF rfl rfl rfl) (bT.cons rfl (bU U9 rfl) (bT.nil)))))) (by kernel_rfl) (by kernel_rfl) ?_
  refine VG.ord [(5,false),(6,true),(7,true),(8,true),(9,true),(11,false),(12,true),(13,true)] (by kernel_rfl) (eL (by kernel_rfl)) (by kernel_rfl) ?_
  refine VD.one rfl ?_
  refine VL.jN ((NR (⟨aA.bE,aA.aZ⟩:pM) OE).out U3) rfl (by decide) ?_
  rintro ⟨iO,DM,DN⟩ rfl
  try dsimp only
  refine eV ?_
  refine ZX ?_
  refine VD.one rfl ?_
  refine Zv  (vc:=[iO.back.val,iO.kY.val]) (cs':=[iO.back.val,iO.kY.val]) rfl aCe ?_
  refine eO (Pk 9 (Pk 8 Pz)) ?_
  refine ZX ?_
  refine VD.mt (NA,DM,DN,iO.back,iO.kY) [1,2,4,5,6] (fun _ _ h=>h) hS rfl
 rintro ⟨aXA,aBx,aAo,kZ,G3⟩ hS
 refine Zq (ZX ?_)
 refine oD hS (fun h20 hS => ?_) (fun h20 hS => ?_)
 ·
  refine ZX ?_
  cases hS
  exact VC.ret (Z4 (aA,(Er.no aAo)) rfl)
 refine ZX ?_
 refine fR hS rfl fun ⟨iP,aSp⟩ hS => ?_
 try dsimp only
 refine ZX ?_
 refine dJ fun a6u=>ZO ?_
 refine Zl ?_
 refine VC.aV [1,2,4,7,8] (Zq (ZX ?_))
 refine oD hS (fun _ hS=>ZE hS) fun h30 hS=>Zk ?_
 refine Zq ?_
 refine iB [(0,true),(1,true),(2,true),(3,false),(4,true),(5,false)] ?_
 refine ZX ?_
 refine VD.one rfl (ZX ?_)
 refine eO (Pk 1 Pz) ?_
 refine ZX ?_
 refine VD.one rfl (ZX ?_)
 refine eV ?_
 refine uD ?_
 refine VC.aV [1,2] (ZX ?_)
 cases hS
 exact VC.ret (Z4 (⟨iP.work,iP.index,iP.refs,iP.cB,iP.cA,iP.fE,iP.eM,iP.fF,iP.cZ,iP.eA,iP.eX,iP.dM,iP.bW,iP.bX,iP.dB,iP.eC,iP.gB,aA.bC,kZ,G3,aA.time⟩,.nil) rfl)
instance aUQ (aA:aM) (iS:bH) :
 jZ Tryz.prog 168 [.agg (aJ aA).toArray,str iS] (Sh.BI aA.pl iS) aA.m (X:=aM×Er) (fun x => .tuple #[.agg (bD.enc x.1).toArray,x.2.val]) (fun x=>(x.1.pl,x.2.pl)) (fun x=>(x.1.m.and x.2.ok)):=by
 refine j6 Tryz.func168 Tryz.ntmps168 fun r hS c => ?_
 unfold Sh.BI at hS
 refine cI ?_
 refine qA (aJ aA) fun iV => ?_
 refine dJ fun AM=>ZX ?_
 refine jK hS rfl fun GX hS=>ZO ?_
 refine Zl ?_
 refine VC.aV [1,2,4,7] (Zq (Zb (ZX ?_)))
 refine Zc hS (fun h14 hS => ?_) (fun h14 hS => ?_)
 ·
  refine ZX ?_
  cases hS
  exact VC.ret (Z4 (aA,(Er.no 7)) rfl)
 refine ZX ?_
 refine VC.aV [1,2,4,22] (iZ hS (fun h22 hS => ?_) (fun h22 hS => ?_))
 ·
  refine ZX ?_
  cases hS
  exact VC.ret (Z4 (aA,(Er.no 6)) rfl)
 refine ZX ?_
 refine Zc hS (fun h26 hS => ?_) (fun h26 hS => ?_)
 ·
  refine ZX ?_
  cases hS
  exact VC.ret (Z4 (aA,(Er.no 4)) rfl)
 refine ZX ?_
 refine fR hS rfl fun aYA hS=>ZX ?_
 cases hS
 exact VC.ret (Z4 (aYA,.nil) rfl)
instance a3U (aA:aM) (iS:bH) :
 jZ Tryz.prog 169 [.agg (aJ aA).toArray,str iS] (Sh.JR aA.pl iS) aA.m (X:=aM×Er) (fun x => .tuple #[.agg (bD.enc x.1).toArray,x.2.val]) (fun x=>(x.1.pl,x.2.pl)) (fun x=>(x.1.m.and x.2.ok)):=by
 refine j6 Tryz.func169 Tryz.ntmps169 fun r hS c => ?_
 unfold Sh.JR at hS
 refine cI ?_
 refine qA (aJ aA) fun iV => ?_
 refine dJ fun AM=>ZX ?_
 refine jK hS rfl fun GX hS=>ZO ?_
 refine Zl ?_
 refine VC.aV [1,2,4,7] (Zq (Zb (ZX ?_)))
 refine iZ hS (fun h14 hS => ?_) (fun h14 hS => ?_)
 ·
  refine ZX ?_
  cases hS
  exact VC.ret (Z4 (aA,(Er.no 5)) rfl)
 refine ZX ?_
 refine VC.aV [1,2,4,19] (Zc hS (fun h19 hS => ?_) (fun h19 hS => ?_))
 ·
  refine ZX ?_
  cases hS
  exact VC.ret (Z4 (aA,(Er.no 7)) rfl)
 refine ZX ?_
 refine fR hS rfl fun aXo hS=>ZX ?_
 cases hS
 exact VC.ret (Z4 (aXo,.nil) rfl)
instance a6f (aA:aM) (dI:n4) :
 jZ Tryz.prog 248 [.agg (aJ aA).toArray,.agg #[str dI.verb,str dI.name,i64 dI.n,str dI.text,.bool dI.force,dI.todo.val]] (Sh.N9 aA.pl dI.pl) (aA.m.and dI.todo.ok) (X:=mM×Er) (fun x => .tuple #[.agg #[str x.1.branch,i64 x.1.cC],x.2.val]) (fun x=>(x.1,x.2.pl)) (fun x=>x.2.ok):=by
 refine j6 Tryz.func248 Tryz.ntmps248 fun r hS c => ?_
 unfold Sh.N9 at hS
 refine cI ?_
 refine qA (aJ aA) fun iV => ?_
 refine kU fun gL=>dJ fun CW=>ZX ?_
 refine Zq (ZX ?_)
 refine Zc hS (fun h12 hS => ?_) (fun h12 hS => ?_)
 ·
  refine Zq (ZX ?_)
  refine fR hS rfl fun ⟨mV,DP⟩ hS => ?_
  try dsimp only
  refine ZX ?_
  refine dJ fun a6T=>ZO ?_
  refine Zl ?_
  refine VC.aV [3,4,7] (ZX ?_)
  refine iZ hS (fun h21 hS => ?_) (fun h21 hS => ?_)
  ·
   refine cI ?_
   refine Zu (cG (vs:=[]) (cs := #[str [],i64 0]) rfl (by kernel_rfl)) ?_
   refine ZX ?_
   cases hS
   exact VC.ret (Z4 (⟨[],0⟩,(Er.no 1)) rfl)
  refine ZX ?_
  refine Zu (cG (vs:=[(1,i64 dI.n)]) (cs := #[str [],i64 dI.n]) rfl (by kernel_rfl)) ?_
  refine ZX ?_
  cases hS
  exact VC.ret (Z4 (⟨[],dI.n⟩,.nil) rfl)
 refine ZX ?_
 refine jK hS rfl fun aA8 hS=>ZO ?_
 refine Zl ?_
 refine VC.aV [2,3,4,8,9] (Zq (ZX ?_))
 refine iZ hS (fun h35 hS => ?_) (fun h35 hS => ?_)
 ·
  refine cI ?_
  refine Zu (cG (vs:=[]) (cs := #[str [],i64 0]) rfl (by kernel_rfl)) ?_
  refine ZX ?_
  cases hS
  exact VC.ret (Z4 (⟨[],0⟩,(Er.no 5)) rfl)
 refine Zk ?_
 refine Zq ?_
 refine iB [(0,true),(1,true),(2,true),(3,true),(4,true),(5,true),(6,true),(7,true),(8,true),(9,true),(10,false),(11,true)] ?_
 refine ZX ?_
 refine aDt hS rfl fun aHP bBz hS => ?_
 refine ZX ?_
 refine Zw rfl (cG (vs:=[(0,str dI.name),(1,i64 aHP.cC)]) (cs := #[str dI.name,i64 aHP.cC]) rfl (by kernel_rfl)) ?_
 refine VD.one rfl (ZX ?_)
 refine eV ?_
 refine ZX ?_
 cases hS
 exact VC.ret (Z4 (⟨dI.name,aHP.cC⟩,.nil) rfl)
end Go.Proofs.YtgdabkldgphdeaaGreatDoor
end
