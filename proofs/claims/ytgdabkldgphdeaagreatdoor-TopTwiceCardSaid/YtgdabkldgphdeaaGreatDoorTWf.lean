/- Part of the proofs of: the law TopTwice: the same play leads to the same, each time (any acts) -/
import Derived.Test.YtgdabkldgphdeaaGreatDoorTWe
set_option linter.unusedVariables false
set_option linter.unusedSimpArgs false
set_option linter.unusedSectionVars false
section
set_option linter.unusedVariables false
namespace Go.Proofs.YtgdabkldgphdeaaGreatDoor
set_option maxHeartbeats 4000000
set_option maxRecDepth 100000
set_option synthInstance.maxSize 2000
set_option synthInstance.maxHeartbeats 1000000
open Go.RowKit Go.V
open Go.S
attribute [local irreducible] Go.V.Qt Go.V.VL Go.V.VC Go.V.I0 Go.S.gd Go.S.at_ Go.S.lt Go.S.jn Go.S.go Go.S.up Go.S.iter Sh.iN Sh.fN Sh.rS Sh.tT Sh.s6 Sh.nM Sh.JG Sh.kK Sh.CH Sh.mO Sh.pH Sh.uW Sh.BJ Sh.pI Sh.uH Sh.vW Sh.qY Sh.jU Sh.HF Sh.xN Sh.qO Sh.zE Sh.D2 Sh.wL Sh.GR Sh.BP Sh.D3 Sh.AT Sh.N9 Sh.u9 Sh.vA Sh.tW Sh.s7 Sh.wM Sh.bQ Sh.lC Sh.lF Sh.eS Sh.jL Sh.cE Sh.nG Sh.eN Sh.gI Sh.gX Sh.yZ Sh.nC Sh.oN
instance:LQ Tryz.prog 34 (.slice 142):=⟨Tryz.underlying34⟩
instance:LQ Tryz.prog 363 (.slice 4):=⟨Tryz.underlying363⟩
instance aUR (aA:aM) (dI:n4) :
 jZ Tryz.prog 170 [.agg (aJ aA).toArray,.agg #[str dI.verb,str dI.name,i64 dI.n,str dI.text,.bool dI.force,dI.todo.val]] (Sh.BJ aA.pl dI.pl) (aA.m.and dI.todo.ok) (X:=aM×Er) (fun x => .tuple #[.agg (bD.enc x.1).toArray,x.2.val]) (fun x=>(x.1.pl,x.2.pl)) (fun x=>(x.1.m.and x.2.ok)):=by
 refine j6 Tryz.func170 Tryz.ntmps170 fun r hS c => ?_
 unfold Sh.BJ at hS
 refine cI ?_
 refine qA (aJ aA) fun iV => ?_
 refine kU fun gL=>dJ fun CW=>ZX ?_
 refine fR hS rfl fun ⟨DK,bAi⟩ hS => ?_
 try dsimp only
 refine ZX ?_
 refine dJ fun a6T=>ZO ?_
 refine Zl ?_
 refine VC.aV [2,3,4,6,7] (Zq (ZX ?_))
 refine oD hS (fun _ hS=>ZE hS) fun h17 hS=>ZX ?_
 refine fR hS rfl fun VZ hS=>Za ?_
 refine Zl ?_
 refine VC.aV [2,3,4,6,8] (ZX ?_)
 refine dJ fun bAJ=>ZO ?_
 refine Zl ?_
 refine VC.OM [2,4,6,9] (fun (rF:aM)=>rF.pl) (fun rF ρ=>ρ) (fun (rF:aM)=>rF.m) bAJ (fun (rF:aM)=>(aJ rF)) hS ?_ ?_
 ·
  intro k9 hS
  refine Zb (ZX ?_)
  refine iZ hS (fun h36 hS => ?_) (fun h36 hS => ?_)
  ·
   refine Zr (ZX ?_)
   refine fR hS rfl fun aSy hS=>ZX ?_
   refine VL.mt (aSy:aM) [2,4,6,9] (fun _ _ h=>h) hS rfl
  refine ZX ?_
  refine fM hS rfl fun aHy hS=>ZX ?_
  refine VC.aV [2,4,6,8,9,42] (Zc hS (fun h42 hS => ?_) (fun h42 hS => ?_))
  ·
   refine ZX ?_
   cases hS
   exact VC.ret (Z4 (aA,(Er.no 9)) rfl)
  refine ZX ?_
  refine Zu (cG (vs:=[(0,VZ.val)]) (cs := #[VZ.val,.slice none 0 0,.slice none 0 0]) rfl (by kernel_rfl)) ?_
  refine I1 hS (PY aA (⟨VZ,⟨none,0,[]⟩,⟨none,0,[]⟩⟩:cT)).out fun ⟨aSq,a9O⟩ hS => ?_
  try dsimp only
  refine ZO ?_
  refine Zl ?_
  refine VC.aV [2,4,6,9,7] (ZX ?_)
  refine oD hS (fun _ hS=>ZE hS) fun h33 hS=>VC.rY (aSq:aM) [2,4,6,9] (fun _ _ h=>h) hS rfl
 rintro rF hS
 refine Zq ?_
 refine VC.cJ [2,4,6,9] (fun (YA:Bool)=>YA) (fun YA ρ=>(59,.bool YA)::ρ) hS ?_ ?_
 ·
  intro k14 hS
  refine Zr (ZX ?_)
  refine jK hS rfl fun aEl hS=>Zm ?_
  refine xZ 53 hS (fun _ hS=>ZE hS) fun h53 hS => ?_
  refine ZX ?_
  refine VL.mt (decide (256 < (rF.aU.l.length:Int))) [59,2,4,6,9] (fun _ _ h=>h) hS rfl
 rintro YA hS
 refine iZ hS (fun h59 hS => ?_) (fun h59 hS => ?_)
 ·
  refine ZX ?_
  cases hS
  exact VC.ret (Z4 (aA,(Er.no 4)) rfl)
 refine ZX ?_
 cases hS
 exact VC.ret (Z4 (⟨rF.aY,rF.aU,rF.bA,DK.branch,DK.cC,rF.aS,rF.aO,rF.aT,rF.aN,rF.aP,rF.aQ,rF.aK,rF.aD,rF.aE,rF.aL,rF.aR,rF.aX,rF.bC,rF.bE,rF.aZ,rF.time⟩,.nil) rfl)
instance aYW (aA:aM) (dI:n4) :
 jZ Tryz.prog 171 [.agg (aJ aA).toArray,.agg #[str dI.verb,str dI.name,i64 dI.n,str dI.text,.bool dI.force,dI.todo.val]] (Sh.D2 aA.pl dI.pl) (aA.m.and dI.todo.ok) (X:=aM×Er) (fun x => .tuple #[.agg (bD.enc x.1).toArray,x.2.val]) (fun x=>(x.1.pl,x.2.pl)) (fun x=>(x.1.m.and x.2.ok)):=by
 refine j6 Tryz.func171 Tryz.ntmps171 fun r hS c => ?_
 unfold Sh.D2 at hS
 refine cI ?_
 refine qA (aJ aA) fun iV => ?_
 refine kU fun gL=>dJ fun CW=>ZX ?_
 refine Zq (ZX ?_)
 refine fR hS rfl fun ⟨aX2,aX3⟩ hS => ?_
 try dsimp only
 refine ZX ?_
 refine dJ fun a6T=>ZO ?_
 refine Zl ?_
 refine VC.aV [2,3,4,7] (ZX ?_)
 refine iZ hS (fun h18 hS => ?_) (fun h18 hS => ?_)
 ·
  refine ZX ?_
  cases hS
  exact VC.ret (Z4 (aA,(Er.no 1)) rfl)
 refine Zk ?_
 refine Zq (ZX ?_)
 refine jK hS rfl fun aZR hS=>ZX ?_
 refine iZ hS (fun h23 hS => ?_) (fun h23 hS => ?_)
 ·
  refine ZX ?_
  cases hS
  exact VC.ret (Z4 (aA,(Er.no 4)) rfl)
 refine ZX ?_
 refine fR hS rfl fun bBC hS=>Za ?_
 refine Zl ?_
 refine VC.aV [2,3,4,8] (ZX ?_)
 refine dJ fun a6Z=>ZO ?_
 refine Zl ?_
 refine VC.OM [2,3,4,9] (fun (eR:aM)=>eR.pl) (fun eR ρ=>ρ) (fun (eR:aM)=>eR.m) a6Z (fun (eR:aM)=>(aJ eR)) hS ?_ ?_
 ·
  intro k10 hS
  refine ZX ?_
  refine Zb ?_
  refine VC.OM [2,3,4,8,9] (fun (nY:aM)=>nY.pl) (fun nY ρ=>ρ) (fun (nY:aM)=>nY.m) a6Z (fun (nY:aM)=>(aJ nY)) hS ?_ ?_
  ·
   intro k12 hS
   refine Zb (Zq (Zb (Zq (Zq (ZX ?_)))))
   refine Zc hS (fun h33 hS => ?_) (fun h33 hS => ?_)
   ·
    refine Zx ?_
    refine Zr (ZX ?_)
    refine fR hS rfl fun aSx hS=>ZX ?_
    refine VL.mt (aSx:aM) [2,3,4,8,9] (fun _ _ h=>h) hS rfl
   refine ZX ?_
   refine Zc hS (fun h35 hS => ?_) (fun h35 hS => ?_)
   ·
    refine VC.lX (aA:aM) [2,3,4,8,9] (fun _ _ h=>h) hS rfl
   refine Zk ?_
   refine VC.aV [2,3,4,9] (VC.lX (aA:aM) [2,3,4,9] (fun _ _ h=>h) hS rfl)
  rintro nY hS
  refine ZX ?_
  refine fR hS rfl fun aSz hS=>ZO ?_
  refine Zl ?_
  refine VC.lX (⟨nY.aY,aSz,nY.bA,nY.aI,nY.aG,nY.aS,nY.aO,nY.aT,nY.aN,nY.aP,nY.aQ,nY.aK,nY.aD,nY.aE,nY.aL,nY.aR,nY.aX,nY.bC,nY.bE,nY.aZ,nY.time⟩:aM) [2,3,4,9] (fun _ _ h=>h) hS rfl
 rintro eR hS
 refine Zq (ZX ?_)
 refine jK hS rfl fun aEi hS=>Zl ?_
 refine iZ hS (fun h45 hS => ?_) (fun h45 hS => ?_)
 ·
  refine ZX ?_
  cases hS
  exact VC.ret (Z4 (aA,(Er.no 4)) rfl)
 refine ZX ?_
 refine fR hS rfl fun aTJ hS=>ZX ?_
 cases hS
 exact VC.ret (Z4 (aTJ,.nil) rfl)
instance T8 (wC:aC) (iC:Nat) (a_1:Sv bH) :
 gF Tryz.prog 307 [.agg #[str wC.path,i64 wC.mode,str wC.data],ptr iC 0] (Sh.BP wC a_1.l) (a_1.ok.and (Cells iC 0 [a_1.val])) (fun r => .bool r):=by
 refine gM Tryz.func307 Tryz.ntmps307 fun r hS c => ?_
 unfold Sh.BP at hS
 refine cI (kU fun iV=>ZX ?_)
 refine Zu (z8 rR rfl rfl) ?_
 exact ZE hS
instance AF (aA:Sv aC) (dY:Nat) (dP:Sv bH) :
 gF Tryz.prog 106 [aA.val,.func (.func 307) #[] #[ptr dY 0]] (Sh.gX aA.l dP.l) (aA.ok.and (dP.ok.and (Cells dY 0 [dP.val]))) (fun r=>i64 r):=by
 refine gM Tryz.func106 Tryz.ntmps106 fun r hS c => ?_
 unfold Sh.gX at hS
 refine ZX ?_
 refine Zq (ZX ?_)
 refine Zb ?_
 refine VC.iJ [0,1,7] (fun (dL:Int)=>dL) (fun dL ρ=>(8,i64 dL)::ρ) 0 [8,0,1,7] hS ?_
 rintro dL m1 y1 hS hK1
 refine ZX ?_
 refine Zq (Zc hS (fun h9 hS => ?_) (fun h9 hS => ?_))
 ·
  refine Zk ?_
  refine Zq (Zb (ZX ?_))
  refine yH hS rfl fun fD pF hS=>ZX ?_
  obtain ⟨mW,uE,hS⟩:=cS hS
  refine Zu (tU (vs:=[.agg #[str fD.path,i64 fD.mode,str fD.data]]) (caps:=[ptr dY 0]) ((T8 fD dY dP).out uE) rfl rfl (fun _ _=>rfl)) ?_
  exact ZE hS
 exact ZE hS
instance QM (aA:Sv aC) (dO:Nat) (dH:Sv bH) :
 vL Tryz.prog 60 [aA.val,.func (.func 307) #[] #[ptr dO 0]] (Sh.gI aA.l dH.l) dH.ok (Ow.star (Sv.own aA 78) (bN dO [dH.val] 39)) (X:=Sv aC) (fun x=>x.val) (fun x=>x.l) (fun x=>Mo.tt) (fun x=>Ow.star (Sv.own x 78) (bN dO [dH.val] 39)):=by
 refine v8 Tryz.func60 Tryz.ntmps60 fun r hS c => ?_
 unfold Sh.gI at hS
 refine ZX ?_
 obtain ⟨dK,HT,hS⟩:=cS hS
 refine Zu (l6 ((AF aA dO dH).out HT) rfl (fun _ _=>rfl)) ?_
 refine ZX ?_
 refine Zq (ZX ?_)
 refine Zc hS (fun _ hS=>ZE hS) fun h12 hS => ?_
 obtain ⟨b15,hS⟩:=bM hS
 refine Zk ?_
 refine Zq (ZX ?_)
 refine VC.aV [0,1,5,6] (Zb ?_)
 refine VC.iter (S:=Sv aC×Int×Int) (fun sg=>(sg.1.l,sg.2.1,sg.2.2)) (fun sg=>[(0,sg.1.val),(1,.func (.func 307) #[] #[ptr dO 0]),(5,i64 sg.2.1),(6,i64 sg.2.2)]) (fun sg=>Mo.tt) (fun sg=>Ow.star (bN dO [dH.val] 39) (Ow.star (Sv.own sg.1 78) (Ow.emp))) (aA,dK,(dK+1)) [0,1,5,6] hS rfl ?_
 rintro ⟨fJ,jC,oJ⟩ m1 y1 hS hK1
 refine Zq (ZX ?_)
 refine Zc hS (fun h19 hS => ?_) (fun h19 hS => ?_)
 ·
  refine Zk ?_
  refine VC.u5 (S:=Sv aC×Int) (fun sg=>(sg.1.l,sg.2)) (fun sg=>[(0,sg.1.val),(1,.func (.func 307) #[] #[ptr dO 0]),(5,i64 sg.2),(6,i64 oJ)]) (fun sg=>Mo.tt) (fun sg=>Ow.star (bN dO [dH.val] 39) (Ow.star (Sv.own sg.1 78) (Ow.emp))) hS ?_ ?_
  ·
   intro k7 hS
   refine Zb (ZX ?_)
   obtain ⟨cW,yM,xY,hS⟩:=gP hS
   refine Zu (lK (s:=fJ) Tryz.underlying26 kN rfl rfl yM (bR yM xY)) (Zu (XT (s:=fJ) BD rfl rfl xY) ?_)
   refine dJ fun T0=>ZO ?_
   refine Zl ?_
   refine VC.aV [0,1,5,6,7] (ZX ?_)
   obtain ⟨zT,HU,hS⟩:=cS hS
   refine Zu (tU (vs:=[.agg #[str cW.path,i64 cW.mode,str cW.data]]) (caps:=[ptr dO 0]) ((T8 cW dO dH).out HU) rfl rfl (fun _ _=>rfl)) ?_
   refine ZX ?_
   refine iZ hS (fun h29 hS => ?_) (fun h29 hS => ?_)
   ·
    refine ZX ?_
    obtain ⟨MV,yN,yL,hS⟩:=gP hS
    refine Zu (lK (s:=fJ) Tryz.underlying26 kN rfl rfl yN (bR yN yL)) ?_
    refine VL.oC (s:=fJ) (T:=78) (j:=0) (vc:=[str cW.path,i64 cW.mode,str cW.data]) (⟨cW.path,cW.mode,cW.data⟩:aC) (by decide) rfl rfl yL rfl kN rfl rfl (Nat.le_of_ble_eq_true rfl) rfl (fun w12 hw12 haw12 hcw12 hvw12 hbw12 how12 => ?_)
    rw [← hvw12]
    replace hS:=dZ hw12 hS
    refine Zl ?_
    refine VC.aV [0,1,5,6] ?_
    obtain ⟨b35,hS⟩:=bM hS
    refine Zr (ZX ?_)
    refine VL.mt (w12,(jC+1)) [0,1,5,6] (fun _ _ h=>h) hS rfl
   refine VC.rY (fJ,jC) [0,1,5,6] (fun _ _ h=>h) hS rfl
  rintro ⟨D5,DE⟩ hS
  obtain ⟨b21,hS⟩:=bM hS
  refine Zr (ZX ?_)
  refine VL.kL (D5,DE,(oJ+1)) [0,1,5,6] (fun _ _ h=>h) (go2 hS hK1) rfl
 replace hS:=kS hS hK1
 refine Zx ?_
 obtain ⟨b38,hS⟩:=bM hS
 refine ZX ?_
 refine VL.fits (s:=fJ) (e:=78) Fo.out fun CX => ?_
 refine Zu (F3 (s:=fJ) Tryz.underlying26 kN rfl rfl b38.1 b38.2 CX) ?_
 refine VL.aDv (s:=fJ) (i:=jC.toNat) (.agg #[str [],i64 0,str []]) Tryz.underlying26 aNi rfl rfl rfl (by have:=b38; dsimp only at this ⊢; omega) Fo.out fun MN H6 IP => ?_
 replace hS:=dZ H6 hS
 refine Zl ?_
 refine VC.aV [0,5] (ZX ?_)
 refine Zu (XS (s:=fJ) (q:=MN) Tryz.underlying26 kN rfl rfl b38.1 b38.2 CX IP) ?_
 exact ZE hS
instance ZA (dX:Sv aC) (VS:Sv bH) :
 vL Tryz.prog 254 [dX.val,VS.val] (Sh.GR dX.l VS.l) (dX.ok.and VS.ok) (Ow.emp) (X:=Sv aC) (fun x=>x.val) (fun x=>x.l) (fun x=>Mo.tt) (fun x=>Sv.own x 78):=by
 refine v8 Tryz.func254 Tryz.ntmps254 fun r hS c => ?_
 unfold Sh.GR at hS
 refine cI ?_
 exact kU fun uO=>ZE hS
instance WA (aA:aM) :
 gF Tryz.prog 253 [.agg (aJ aA).toArray] (Sh.AT aA.pl) aA.m (fun r => .bool r):=by
 refine gM Tryz.func253 Tryz.ntmps253 fun r hS c => ?_
 unfold Sh.AT at hS
 refine cI ?_
 refine qA (aJ aA) fun hG => ?_
 refine ZX ?_
 refine Zq ?_
 refine iB [(0,true),(1,true),(2,true),(3,true),(5,true),(6,true),(7,true),(10,true),(11,true),(12,true),(4,false),(8,false),(9,false),(13,false),(14,true),(15,true)] ?_
 refine ZX ?_
 refine VD.one rfl (fR hS rfl fun zQ hS=>eO (Pk 12 (Pk 11 (Pk 10 (Pk 7 (Pk 6 (Pk 5 (Pk 2 (Pk 1 (Pk 0 Pz))))))))) ?_)
 refine VD.one rfl (fM hS rfl fun DJ hS=>eO (Pk 12 (Pk 11 (Pk 10 (Pk 2 (Pk 1 (Pk 0 Pz)))))) ?_)
 refine VD.one rfl ?_
 obtain ⟨J3,aIa,hS⟩:=cS hS
 refine VL.aEU ((ZA aA.aY DJ).out aIa) rfl (by decide) ?_
 rintro IE rfl
 try dsimp only
 refine eO (Pk 12 (Pk 11 (Pk 10 Pz))) ?_
 refine VD.one rfl (fR hS rfl fun aB3 hS=>eV ?_)
 obtain ⟨TQ,aIc,hS⟩:=cS hS
 refine Zw rfl (l6 ((qK IE aB3).out aIc) rfl (fun _ _=>rfl)) ?_
 exact ZE hS
instance aEO (iX:bL) :
 jZ Tryz.prog 310 [.agg #[i64 iX.base,iX.index.val,iX.work.val,str iX.text]] (Sh.wM iX.pl) (iX.index.ok.and iX.work.ok) (X:=bL) (fun x => .agg (bD.enc x).toArray) (fun x=>x.pl) (fun x=>x.m):=by
 refine j6 Tryz.func310 Tryz.ntmps310 fun r hS c => ?_
 unfold Sh.wM at hS
 refine cI (kU fun hG=>dJ fun C4=>Zl ?_)
 refine Zq ?_
 refine iB [(0,true),(1,true),(4,true),(5,true),(2,false),(3,false),(8,true),(6,false),(7,false),(9,false),(10,true),(11,false)] ?_
 refine ZX ?_
 refine VD.one rfl (fM hS rfl fun gE hS=>eO (Pk 5 (Pk 4 Pz)) ?_)
 refine VD.one rfl ?_
 refine VL.shut gE 78 (fun _ _ _ _=>trivial) ?_
 refine fR hS rfl fun a3C hS=>eO (Pk 5 (Pk 4 Pz)) ?_
 refine ZX ?_
 refine VD.one rfl (fM hS rfl fun aJS hS=>eO (Pk 8 Pz) ?_)
 refine VD.one rfl ?_
 refine VL.shut aJS 78 (fun _ _ _ _=>trivial) ?_
 refine fR hS rfl fun aXU hS=>eO (Pk 8 Pz) ?_
 refine VD.one rfl (ZX ?_)
 refine eV ?_
 refine ZX ?_
 refine VD.one rfl (ZX ?_)
 refine eV ?_
 refine uD ?_
 refine VC.aV [1,2] (ZX ?_)
 cases hS
 exact VC.ret (Z4 ⟨iX.base,a3C,aXU,iX.text⟩ rfl)
instance SY (aA:Sv bL) :
 jZ Tryz.prog 128 [aA.val] (Sh.jL (aA.l.map bL.pl)) aA.ok (X:=Sv bL) (fun x=>x.val) (fun x=>(x.l.map bL.pl)) (fun x=>x.ok):=by
 refine j6 Tryz.func128 Tryz.ntmps128 fun r hS c => ?_
 unfold Sh.jL at hS
 refine ZX ?_
 refine Zu (vV bL.pl (s:=aA) Tryz.underlying35 rfl) (Zm (Zu (vV bL.pl (s:=aA) Tryz.underlying35 rfl) ?_))
 obtain ⟨b8,hS⟩:=bM hS
 refine VL.UA Tryz.underlying35 oA rfl rfl rfl b8.1 (aCj b8.2) (by decide) fun PC tC => ?_
 replace hS:=dZ ((congrArg (List.map bL.pl) tC).trans List.map_take) hS
 exact ZE hS
instance aNK (aA:Sv bL) :
 vL Tryz.prog 309 [aA.val] (Sh.tW (aA.l.map bL.pl)) aA.ok (Ow.emp) (X:=Sv bL) (fun x=>x.val) (fun x=>(x.l.map bL.pl)) (fun x=>(rK x.l)) (fun x=>Sv.own x 142):=by
 refine v8 Tryz.func309 Tryz.ntmps309 fun r hS c => ?_
 unfold Sh.tW at hS
 refine ZX ?_
 refine Zq (ZX ?_)
 refine Zu (vV bL.pl (s:=aA) Tryz.underlying35 rfl) ?_
 refine ZX ?_
 refine Zb ?_
 refine VC.mR (⟨none,0,[]⟩:Sv bL) 142 ⟨rfl,rfl⟩ ?_
 refine VC.aAM (s:=(⟨none,0,[]⟩:Sv bL)) rfl ?_
 refine VC.iter (S:=Sv bL×Int) (fun sg=>((sg.1.l.map bL.pl),sg.2)) (fun sg=>[(3,sg.1.val),(6,aA.val),(7,i64 ((aA.l.map bL.pl).length:Int)),(8,i64 sg.2)]) (fun sg=>(rK sg.1.l)) (fun sg=>Ow.star (Sv.own sg.1 142) (Ow.emp)) (⟨none,0,[]⟩,0) [3,6,7,8] hS rfl ?_
 rintro ⟨oB,vK⟩ m1 y1 hS hK1
 refine ZX ?_
 refine Zq (Zc hS (fun h9 hS => ?_) (fun h9 hS => ?_))
 ·
  refine Zk ?_
  refine Zq (Zb (cI ?_))
  obtain ⟨wP,O1,KF,hS⟩:=zW hS
  refine VL.deep wP.m KF (fun _ q=>q) ?_
  refine Zu (jA (s:=aA) Tryz.underlying35 oA rfl rfl O1 (bR O1 KF)) (Zu (nF  (s:=aA) Q4 rfl rfl KF) ?_)
  refine dJ fun a6R=>ZX ?_
  refine Zr (ZX ?_)
  refine fR hS rfl fun DL hS => ?_
  refine VL.lit (α:=bL) (xs:=[.tmp 14]) (vs:=[.agg #[i64 DL.base,DL.index.val,DL.work.val,str DL.text]]) [⟨DL.base,DL.index,DL.work,DL.text⟩] Tryz.underlying35 aBD (by decide) rfl rfl rfl rfl (by decide) (fun h m=>List.forall_mem_cons.2 ⟨dV.out (X:=(DL.index.ok.and DL.work.ok)) h m,fun _ h=>by cases h⟩) (by decide) (fun a8E a1r => ?_) (by decide)
  replace hS:=dZ (congrArg (List.map bL.pl) a1r) hS
  obtain ⟨b16,hS⟩:=bM hS
  refine VL.app (s:=oB) (r:=a8E) Tryz.underlying35 U7 (by decide) rfl Fo.out (ap1 (apm b16)) (ap2 (apm b16) (by decide)) (by decide) (fun a8G aP4 => ?_)
  replace hS:=dZ ((congrArg (List.map bL.pl) aP4).trans List.map_append) hS
  refine VL.aAL aP4 ?_
  refine Za ?_
  refine Zl ?_
  refine VC.aV [3,6,7,8] ?_
  obtain ⟨b17,hS⟩:=bM hS
  refine Zr (ZX ?_)
  refine VL.kL (a8G,(vK+1)) [3,6,7,8] (fun _ _ h=>h) (go2 hS hK1) rfl
 exact ZE hS
theorem aH3 (s v:Sv bL) (i:Int) (hi:0≤i∧i≤(s.l.length:Int)) (hv:v.l≠[]) (hb:s.l.length+v.l.length≤4294967296):Ct Tryz.prog 308 [s.val,i64 i,v.val] ((rK s.l).and (rK v.l)) (Ow.star (s.own 142) (v.own 142)) (X:=Sv bL) (fun q=>q.val) (fun q=>q.l=s.l.take i.toNat++v.l++s.l.drop i.toNat) (fun q=>rK q.l) (fun q=>q.own 142):=by
 refine Zo Tryz.func308 Tryz.ntmps308 fun c => ?_
 have hvp:0 < v.l.length:=List.length_pos_iff.2 hv
 have hK:bD.sz bL=4:=rfl
 refine ZX ?_
 refine VL.fits (s:=s) (e:=142) Fo.out fun hf => ?_
 refine Zu (F3 (s:=s) Tryz.underlying35 oA rfl rfl hi.1 hi.2 hf) ?_
 refine ZX ?_
 refine Zq (ZX ?_)
 refine VC.nV rfl (fun h16=>absurd h16 (by omega)) (fun h16 => ?_)
 refine ZX ?_
 refine Zu (LF (s:=s) Tryz.underlying35 rfl) ?_
 refine ZX ?_
 refine Zq (ZX ?_)
 refine VC.nV rfl (fun h22 => ?_) (fun h22 => ?_)
 ·
  refine ZX ?_
  refine VL.shut v 142 (fun h m=>dV.out (X:=rK v.l) h m) ?_
  refine VL.aOt (s:=s) (r:=v) Tryz.underlying35 Tryz.underlying34 U7 (by decide) rfl Fo.out (ap1 hb) (ap2 hb (by decide)) (by decide) (fun q hq => ?_)
  refine ZX ?_
  have e1:i.toNat=s.l.length:=by omega
  exact VC.ret (HV (.inr rfl) rfl rfl q rfl (by rw [hq,e1,List.take_length,List.drop_length,List.append_nil]) (fun h m z hz=>by rw [hq] at hz; exact (List.mem_append.1 hz).elim (dV.out (X:=rK s.l) h m z) (dV.out (X:=rK v.l) h m z)) fK.out)
 have hin:i < (s.l.length:Int):=by omega
 have hne:s.l≠[]:=fun h=>by rw [h] at hin; simp at hin; omega
 have hkq:(s.l.length:Int)+(v.l.length:Int) - i=((s.l.length+v.l.length - i.toNat:Nat):Int):=by omega
 have hLn:(s.l.take i.toNat++v.l++s.l.drop i.toNat).length=s.l.length+v.l.length:=by simp only [List.length_append,List.length_take,List.length_drop]; omega
 have hfl:(s.l.take i.toNat++v.l++s.l.drop i.toNat).flatMap bD.enc=(s.l.take i.toNat).flatMap bD.enc++v.l.flatMap bD.enc++(s.l.drop i.toNat).flatMap bD.enc:=by rw [List.flatMap_append,List.flatMap_append]
 have lA:((s.l.take i.toNat).flatMap bD.enc).length=i.toNat*4:=by rw [iD,List.length_take,hK,Nat.min_eq_left (by omega)]
 have lV:(v.l.flatMap bD.enc).length=v.l.length*4:=by rw [iD,hK]
 have lS:((s.l.drop i.toNat).flatMap bD.enc).length=(s.l.length - i.toNat)*4:=by rw [iD,List.length_drop,hK]
 refine Zk ?_
 refine Zq (ZX ?_)
 refine Zu (l5 rfl rfl ⟨by omega,by omega⟩) ?_
 refine Zm (Zu (aEb (a0:=s.a) (L:=s.l.length) (C:=s.c) Tryz.underlying35 rfl) ?_)
 refine ZX ?_
 refine VC.nV rfl (fun h31 => ?_) (fun h31 => ?_)
 ·
  refine VC.shut s 142 (fun h m=>dV.out (X:=rK s.l) h m) ?_
  refine VC.shut v 142 (fun h m=>dV.out (X:=rK v.l) h m) ?_
  refine cI ?_
  refine VL.DD (φ:=s.a=some ⟨s.b,s.o,none⟩) (fun h m=>(dV.out (X:=s.ok) h m).2.2.1 hne) fun hsa => ?_
  refine VL.DD (φ:=v.a=some ⟨v.b,v.o,none⟩) (fun h m=>(dV.out (X:=v.ok) h m).2.2.1 hv) fun hva => ?_
  refine ZX ?_
  refine Zu (PX (a0:=s.a) (L:=s.l.length) (C:=s.c) (K:=4) Tryz.underlying35 oA rfl rfl hi.1 (by omega)) ?_
  refine ZX ?_
  refine Zu (l5 rfl rfl ⟨by omega,by omega⟩) ?_
  refine Zm ?_
  refine Zu (N4 rfl rfl ⟨by omega,by omega⟩) ?_
  refine VL.HH 39 rfl (congrArg (Value.int .i64) hkq) ?_
  refine VL.aIT (s:=s) (L:=i.toNat) (kq:=s.l.length+v.l.length - i.toNat) Tryz.underlying35 Tryz.underlying3 U7 (by decide) rfl hne (by omega) (by omega) (by omega) (by omega) (by decide) (by decide) fun g cs cp hcl hcp hcm hct => ?_
  rw [hK] at hcl hct
  rw [show i.toNat+(s.l.length+v.l.length - i.toNat)=s.l.length+v.l.length by omega] at hcp ⊢
  have hfit:((s.l.take i.toNat).flatMap bD.enc).length+(v.l.flatMap bD.enc).length+((s.l.drop i.toNat).flatMap bD.enc).length≤cs.length:=by
    rw [lA,lV,lS,hcl,← Nat.add_mul,← Nat.add_mul]; exact Nat.mul_le_mul_right _ (by omega)
  have hic:=OW (V:=v.l.flatMap bD.enc) (S:=(s.l.drop i.toNat).flatMap bD.enc) (by rw [lA]; exact hct) hfit
  rw [← hfl,lA,lV,lS] at hic
  refine ZX ?_
  refine Zu (lQ (b:=g) (o:=0) (L:=s.l.length+v.l.length) (C:=cp) (K:=4) Tryz.underlying35 oA rfl rfl hi.1 (by omega) hcp (by omega) rfl) ?_
  refine Zm ?_
  refine VL.HH 44 rfl (show v.val = .slice (some ⟨v.b,v.o+0*bD.sz bL,none⟩) v.l.length v.c by unfold Sv.val; rw [hva,Nat.zero_mul]; rfl) ?_
  refine VL.E9 (src:=v.l.flatMap bD.enc) Tryz.underlying35 oA pZ.out rfl (by rw [lV]; congr 1; exact (Nat.min_eq_left (by omega)).symm) (K5 (r:=v) (by decide) hv) (pO v.l) (by rw [lV,Nat.zero_add,hcl,← Nat.add_mul]; exact Nat.mul_le_mul_right _ (by omega)) (by decide) ?_
  rw [Nat.zero_add,lV]
  refine Zl ?_
  refine Zq ?_
  refine iB [(0,true),(1,true),(2,true),(3,true),(4,true),(5,true),(6,true),(7,true),(8,false)] ?_
  refine ZX ?_
  refine Zw rfl (l5 rfl rfl ⟨by omega,by omega⟩) ?_
  refine Zw rfl (lQ (b:=g) (o:=0) (L:=s.l.length+v.l.length) (C:=cp) (K:=4) Tryz.underlying35 oA rfl rfl (by omega) (by omega) hcp (by omega) rfl) ?_
  refine ZX ?_
  refine Zw rfl (lQ (b:=s.b) (o:=s.o) (L:=s.l.length) (C:=s.c) (K:=4) Tryz.underlying35 oA (show some s.val=_ by unfold Sv.val; rw [hsa]) rfl hi.1 (by omega) hf (by omega) rfl) ?_
  refine VD.one rfl ?_
  rw [show (i+(v.l.length:Int)).toNat=i.toNat+v.l.length by omega]
  refine VL.E9 (src:=(s.l.drop i.toNat).flatMap bD.enc) Tryz.underlying35 oA pZ.out rfl (by rw [lS]; congr 1; exact (Nat.min_eq_left (by omega)).symm) (VQ (r:=s) (by decide) hne i.toNat) (pO _) (by rw [lS,Nat.zero_add,hic.1,hcl,← Nat.add_mul]; exact Nat.mul_le_mul_right _ (by omega)) (by decide) ?_
  rw [Nat.zero_add,lS,Nat.add_mul]
  refine eV ?_
  refine ZX ?_
  have ho:=fun F=>FR (F:=F) (e:=142) (b:=g) (l':=s.l.take i.toNat++v.l++s.l.drop i.toNat) (Nat.le_of_eq (hic.2.1.trans hcl).symm) (by rw [iD] at hic; exact hic.2.2) hLn hcp hcm
  exact VC.ret (HV (.inr rfl) rfl rfl ⟨some ⟨g,0,none⟩,cp,_⟩ (ho Ow.emp).1 rfl (fun h m z hz=>(List.mem_append.1 hz).elim (fun q=>(List.mem_append.1 q).elim (fun q=>dV.out (X:=rK s.l) h m z (List.mem_of_mem_take q)) (fun q=>dV.out (X:=rK v.l) h m z q)) (fun q=>dV.out (X:=rK s.l) h m z (List.mem_of_mem_drop q))) (ho _).2)
 refine ZX ?_
 refine VL.open (s:=s) (e:=142) Fo.out (by omega) fun b cs hsa hcl hct _ hcm => ?_
 rw [hK] at hcl hct
 have hctA:cs.take ((s.l.take i.toNat).flatMap bD.enc).length=(s.l.take i.toNat).flatMap bD.enc:=by
   rw [lA]
   have:cs.take (i.toNat*4)=(cs.take (s.l.length*4)).take (i.toNat*4):=by rw [List.take_take,Nat.min_eq_left (Nat.mul_le_mul_right _ (by omega))]
   rw [this,hct]
   exact rL s.l i.toNat
 have hfit:((s.l.take i.toNat).flatMap bD.enc).length+(v.l.flatMap bD.enc).length+((s.l.drop i.toNat).flatMap bD.enc).length≤cs.length:=by
   refine Nat.le_trans ?_ hcl; rw [lA,lV,lS,← Nat.add_mul,← Nat.add_mul]; exact Nat.mul_le_mul_right _ (by omega)
 have hic:=OX (V:=v.l.flatMap bD.enc) (S:=(s.l.drop i.toNat).flatMap bD.enc) hctA hfit
 rw [← hfl,lA,lV,lS] at hic
 refine ZX ?_
 refine Zu (l5 rfl rfl ⟨by omega,by omega⟩) ?_
 refine Zu (PX (a0:=s.a) (L:=s.l.length) (C:=s.c) (K:=4) Tryz.underlying35 oA rfl rfl (by omega) (by omega)) ?_
 rw [show ((s.l.length:Int)+(v.l.length:Int)).toNat=s.l.length+v.l.length by omega,hsa]
 refine ZX ?_
 refine Zq (ZX ?_)
 refine Zu (l5 rfl rfl ⟨by omega,by omega⟩) ?_
 refine Zu (lQ (b:=b) (o:=0) (L:=s.l.length+v.l.length) (C:=s.c) (K:=4) Tryz.underlying35 oA rfl rfl (by omega) (by omega) (by omega) (by omega) rfl) ?_
 refine Zu (PA (tS:=34) (tR:=4) (s:=v) (b:=b) Tryz.func347 rfl rfl (by kernel_rfl) (by kernel_rfl) Tryz.underlying34 oA rfl pZ.out (fun h=>by rw [h] at hcl; simp at hcl; omega) hv) ?_
 refine ZX ?_
 refine VC.EI rfl ?_
 refine VC.shut v 142 (fun h m=>dV.out (X:=rK v.l) h m) ?_
 refine Zq ?_
 refine iB [(0,true),(1,true),(2,true),(3,true),(4,true),(5,true),(6,true),(7,true),(8,false)] ?_
 refine ZX ?_
 refine Zw rfl (l5 rfl rfl ⟨by omega,by omega⟩) ?_
 refine Zw rfl (lQ (b:=b) (o:=0) (L:=s.l.length+v.l.length) (C:=s.c) (K:=4) Tryz.underlying35 oA rfl rfl (by omega) (by omega) (by omega) (by omega) rfl) ?_
 refine ZX ?_
 refine Zw rfl (lQ (b:=b) (o:=0) (L:=s.l.length+v.l.length) (C:=s.c) (K:=4) Tryz.underlying35 oA rfl rfl hi.1 (by omega) (by omega) (by omega) rfl) ?_
 refine VD.one rfl ?_
 rw [show (i+(v.l.length:Int)).toNat=i.toNat+v.l.length by omega,Nat.zero_add,Nat.zero_add]
 refine VL.E9 (src:=(s.l.drop i.toNat).flatMap bD.enc) Tryz.underlying35 oA pZ.out rfl (by rw [lS]; congr 1; simp only [Nat.min_def]; split <;> omega) (aAk (n:=s.l.length) hct rfl) (pO _) (by refine Nat.le_trans ?_ hcl; rw [lS,← Nat.add_mul]; exact Nat.mul_le_mul_right _ (by omega)) (by decide) ?_
 rw [lS,Nat.add_mul]
 refine eV ?_
 refine ZX ?_
 refine Zu (lQ (b:=b) (o:=0) (L:=s.l.length+v.l.length) (C:=s.c) (K:=4) Tryz.underlying35 oA rfl rfl hi.1 (by omega) (by omega) (by omega) rfl) ?_
 refine Zm ?_
 refine VL.DD (φ:=v.a=some ⟨v.b,v.o,none⟩) (fun h m=>(dV.out (X:=v.ok) h m).2.2.1 hv) fun hva => ?_
 refine VL.HH 81 rfl (show v.val = .slice (some ⟨v.b,v.o+0*bD.sz bL,none⟩) v.l.length v.c by unfold Sv.val; rw [hva,Nat.zero_mul]; rfl) ?_
 rw [Nat.zero_add]
 refine VL.E9 (src:=v.l.flatMap bD.enc) Tryz.underlying35 oA pZ.out rfl (by rw [lV]; congr 1; exact (Nat.min_eq_left (by omega)).symm) (K5 (r:=v) (by decide) hv) (pO v.l) (by rw [hic.1]; refine Nat.le_trans ?_ hcl; rw [lV,← Nat.add_mul]; exact Nat.mul_le_mul_right _ (by omega)) (by decide) ?_
 rw [lV]
 refine ZX ?_
 have ho:=fun F=>FR (F:=F) (e:=142) (b:=b) (l':=s.l.take i.toNat++v.l++s.l.drop i.toNat) (by rw [hic.2.1]; exact hcl) (by rw [iD] at hic; exact hic.2.2) hLn (by omega) hcm
 exact VC.ret (HV (.inr rfl) rfl rfl ⟨some ⟨b,0,none⟩,s.c,_⟩ (ho Ow.emp).1 rfl (fun h m z hz=>(List.mem_append.1 hz).elim (fun q=>(List.mem_append.1 q).elim (fun q=>dV.out (X:=rK s.l) h m z (List.mem_of_mem_take q)) (fun q=>dV.out (X:=rK v.l) h m z q)) (fun q=>dV.out (X:=rK s.l) h m z (List.mem_of_mem_drop q))) (ho _).2)
instance WC (aA:Sv bL) (x_1:bL) :
 jZ Tryz.prog 255 [aA.val,.agg #[i64 x_1.base,x_1.index.val,x_1.work.val,str x_1.text]] (Sh.vA (aA.l.map bL.pl) x_1.pl) (aA.ok.and (x_1.index.ok.and x_1.work.ok)) (X:=Sv bL×Int) (fun x => .tuple #[x.1.val,i64 x.2]) (fun x=>((x.1.l.map bL.pl),x.2)) (fun x=>x.1.ok):=by
 refine j6 Tryz.func255 Tryz.ntmps255 fun r hS c => ?_
 unfold Sh.vA at hS
 refine cI (kU fun uO=>ZX ?_)
 refine Zq (ZX ?_)
 refine Zu (vV bL.pl (s:=aA) Tryz.underlying35 rfl) ?_
 refine ZX ?_
 refine Zc hS (fun h8 hS => ?_) (fun h8 hS => ?_)
 ·
  refine ZX ?_
  cases hS
  exact VC.ret (Z2 (⟨none,0,[]⟩,4))
 refine Zk ?_
 refine Zq ?_
 refine iB [(0,true),(2,true),(1,false),(3,false),(4,false),(5,false),(6,false),(7,true),(8,true)] ?_
 refine ZX ?_
 refine VD.one rfl (fM hS rfl fun K9 hS=>eO (Pk 2 Pz) ?_)
 refine VD.one rfl (fR hS rfl fun gQ hS=>eV ?_)
 refine VD.one rfl ?_
 refine VL.aLg (α:=bL) (xs:=[.tmp 12]) (vs:=[.agg #[i64 gQ.base,gQ.index.val,gQ.work.val,str gQ.text]]) [⟨gQ.base,gQ.index,gQ.work,gQ.text⟩] Tryz.underlying34 aBD (by decide) rfl rfl rfl rfl (by decide) (by decide) (fun aY0 aP3 => ?_) (by decide)
 refine VL.M9 (rK aY0.l) (by rw [aP3]; exact (fun h m=>List.forall_mem_cons.2 ⟨dV.out (X:=(gQ.index.ok.and gQ.work.ok)) h m,fun _ h=>by cases h⟩)) ?_
 replace hS:=dZ (congrArg (List.map bL.pl) aP3) hS
 refine eV ?_
 refine VD.one rfl ?_
 obtain ⟨b14,hS⟩:=bM hS
 refine VL.oE (aH3 K9 aY0 0 ⟨b14.1.1,aCj b14.1.2⟩ (fun q=>b14.2.1 (by rw [q]; rfl)) (by simpa only [List.length_map] using b14.2.2)) rfl (by decide) ?_
 intro bCn a1p
 replace hS:=dZ ((congrArg (List.map bL.pl) a1p).trans (by simp only [List.map_append,List.map_take,List.map_drop])) hS
 refine eV ?_
 refine VD.one rfl (fM hS rfl fun aB1 hS=>eV ?_)
 refine ZD ?_
 refine uD ?_
 refine VC.aV [4,5] ?_
 refine VC.shut aB1 142 (fun h m=>dV.out (X:=rK aB1.l) h m) ?_
 exact ZE hS
instance aYT (aA:aM) :
 gF Tryz.prog 256 [.agg (aJ aA).toArray] (Sh.HF aA.pl) aA.m (fun r => .bool r):=by
 refine gM Tryz.func256 Tryz.ntmps256 fun r hS c => ?_
 unfold Sh.HF at hS
 refine cI ?_
 refine qA (aJ aA) fun hG => ?_
 refine ZX ?_
 refine Zq ?_
 refine iB [(0,true),(2,true),(3,true),(4,true),(1,false),(5,false),(6,true)] ?_
 refine ZX ?_
 refine VD.one rfl (fR hS rfl fun CZ hS=>eO (Pk 4 (Pk 3 (Pk 2 Pz))) ?_)
 refine VD.one rfl (fM hS rfl fun RG hS=>eV ?_)
 refine ZX ?_
 refine Zq (ZX ?_)
 refine fR hS rfl fun FT hS=>ZX ?_
 refine VC.aV [1,3,15,16,17] (Zb ?_)
 refine VC.iJ [1,3,15,16] (fun (FE:Int)=>FE) (fun FE ρ=>(17,i64 FE)::ρ) 0 [17,1,3,15,16] hS ?_
 rintro FE m1 y1 hS hK1
 refine ZX ?_
 refine Zq (Zc hS (fun h18 hS => ?_) (fun h18 hS => ?_))
 ·
  refine Zk ?_
  refine Zq (Zb (cI (yH hS rfl fun aZo bBk hS=>ZX ?_)))
  refine dJ fun QX=>ZX ?_
  refine Zb ?_
  refine VC.iJ [1,3,5,15,16,17,23,24] (fun (TJ:Int)=>TJ) (fun TJ ρ=>(25,i64 TJ)::ρ) 0 [25,1,3,5,15,16,17,23,24] hS ?_
  rintro TJ m2 y2 hS hK2
  refine ZX ?_
  refine Zq (Zc hS (fun h26 hS => ?_) (fun h26 hS => ?_))
  ·
   refine Zk ?_
   refine Zq (Zb (cI (yH hS rfl fun aKP bBq hS=>ZX ?_)))
   refine dJ fun bCa=>ZO ?_
   refine Zl ?_
   refine VC.cJ [1,3,5,15,16,17,23,24,25] (fun (X3:Bool)=>X3) (fun X3 ρ=>(40,.bool X3)::ρ) hS ?_ ?_
   ·
    intro k12 hS
    refine Zr (ZX ?_)
    refine jK hS rfl fun aQ1 hS=>Zm ?_
    refine xZ 34 hS (fun h34 hS => ?_) (fun h34 hS => ?_)
    ·
     refine ZX ?_
     obtain ⟨TW,aVL,hS⟩:=cS hS
     refine Zh (l6 ((rD RG aKP.path).out aVL) rfl (fun _ _=>rfl)) ?_
     exact ZE hS
    exact ZE hS
   rintro X3 hS
   exact ZE hS
  exact ZE hS
 exact ZE hS
instance aYY (aA:aM) (C1:bH) :
 jZ Tryz.prog 172 [.agg (aJ aA).toArray,str C1] (Sh.D3 aA.pl C1) (aA.m.and Gl) (X:=aM×Er) (fun x => .tuple #[.agg (bD.enc x.1).toArray,x.2.val]) (fun x=>(x.1.pl,x.2.pl)) (fun x=>(x.1.m.and x.2.ok)):=by
 refine j6 Tryz.func172 Tryz.ntmps172 fun r hS c => ?_
 unfold Sh.D3 at hS
 refine cI ?_
 refine qA (aJ aA) fun iV => ?_
 refine dJ fun AM=>ZX ?_
 refine fR hS rfl fun VV hS=>ZX ?_
 refine Zq (Zb (ZX ?_))
 refine VC.aV [1,2,4,6,16] (Zc hS (fun h16 hS => ?_) (fun h16 hS => ?_))
 ·
  refine ZX ?_
  cases hS
  exact VC.ret (Z4 (aA,(Er.no 7)) rfl)
 refine ZX ?_
 refine fM hS rfl fun aM4 hS=>ZX ?_
 refine VC.aV [1,2,4,6,24] (Zc hS (fun h24 hS => ?_) (fun h24 hS => ?_))
 ·
  refine ZX ?_
  cases hS
  exact VC.ret (Z4 (aA,(Er.no 9)) rfl)
 refine VC.u5 (S:=Bool) (fun (GV:Bool)=>GV) (fun (GV:Bool)=>[(1,str C1),(2,ptr iV 0),(4,ptr AM 0),(6,VV.val),(33,.bool GV)]) (fun (GV:Bool)=>Mo.tt) (fun (GV:Bool)=>Ow.star (bN AM [.slice none 0 0,.slice none 0 0,.slice none 0 0,str [],i64 0,str [],i64 0,str [],.slice none 0 0,.slice none 0 0,i64 0,str [],str [],i64 0,.slice none 0 0,.slice none 0 0,.slice none 0 0,.slice none 0 0,.slice none 0 0,.slice none 0 0,i64 0] 43) (Ow.star (bN iV (aJ aA) 43) (Ow.emp))) hS ?_ ?_
 ·
  intro k6 hS
  refine Zr (ZX ?_)
  refine jK hS rfl fun aZ2 hS=>Zm ?_
  refine xZ 36 hS (fun h36 hS => ?_) (fun h36 hS => ?_)
  ·
   refine ZX ?_
   obtain ⟨aHI,aIj,hS⟩:=cS hS
   refine Zh (dU ((WA aA).out aIj) rfl (fun _ _=>rfl)) ?_
   exact ZE hS
  exact ZE hS
 rintro GV hS
 refine iZ hS (fun h33 hS => ?_) (fun h33 hS => ?_)
 ·
  refine ZX ?_
  cases hS
  exact VC.ret (Z4 (aA,(Er.no 10)) rfl)
 refine Zk ?_
 refine Zq ?_
 refine iB [(0,true),(1,true),(2,true),(3,true),(5,true),(6,true),(7,true),(4,false),(8,false),(9,false),(10,true)] ?_
 refine ZX ?_
 refine VD.one rfl (fR hS rfl fun bBH hS=>eO (Pk 7 (Pk 6 (Pk 5 (Pk 2 (Pk 1 (Pk 0 Pz)))))) ?_)
 refine VD.one rfl (fM hS rfl fun aTH hS=>eO (Pk 2 (Pk 1 (Pk 0 Pz))) ?_)
 refine VD.one rfl ?_
 obtain ⟨aQh,aVW,hS⟩:=cS hS
 refine VL.aEU ((ZA aA.aY aTH).out aVW) rfl (by decide) ?_
 rintro XP rfl
 try dsimp only
 refine eV ?_
 refine ZD ?_
 refine uD ?_
 refine VC.aV [1,2,4,6,7] (ZX ?_)
 refine Zu (cG (vs:=[(0,i64 aA.aG),(1,VV.val),(2,XP.val),(3,str C1)]) (cs := #[i64 aA.aG,VV.val,XP.val,str C1]) rfl (by kernel_rfl)) ?_
 refine VL.shut XP 78 (fun _ _ _ _=>trivial) ?_
 refine I1 hS (WC aA.aX (⟨aA.aG,VV,XP,C1⟩:bL)).out fun ⟨aIB,aTV⟩ hS => ?_
 try dsimp only
 refine ZO ?_
 refine Zl ?_
 refine VC.aV [2,4,6,8,9] (Zq (ZX ?_))
 refine oD hS (fun h68 hS => ?_) (fun h68 hS => ?_)
 ·
  refine ZX ?_
  cases hS
  exact VC.ret (Z4 (aA,(Er.no aTV)) rfl)
 refine Zk ?_
 refine Zq (ZX ?_)
 refine fR hS rfl fun aID hS=>ZX ?_
 refine VC.aV [2,4,8,10,75] (oD hS (fun h75 hS => ?_) (fun h75 hS => ?_))
 ·
  refine Zq ?_
  refine iB [(0,true),(1,true),(2,false),(3,false),(4,true)] ?_
  refine ZX ?_
  refine VD.one rfl (fR hS rfl fun a9o hS=>eO (Pk 0 Pz) ?_)
  refine VD.one rfl (ZX ?_)
  refine eV ?_
  exact ZE hS
 refine Zk ?_
 refine Zq (ZX ?_)
 refine jK hS rfl fun aRN hS=>Zl ?_
 refine iZ hS (fun h80 hS => ?_) (fun h80 hS => ?_)
 ·
  refine ZX ?_
  cases hS
  exact VC.ret (Z4 (aA,(Er.no 8)) rfl)
 refine Zk ?_
 refine VC.u5 (S:=Nat×aM) (fun sg=>((),sg.2.pl)) (fun sg=>[(2,ptr iV 0),(4,ptr AM 0),(8,aIB.val),(11,ptr sg.1 0)]) (fun sg=>sg.2.m) (fun sg=>Ow.star (bN AM [.slice none 0 0,.slice none 0 0,.slice none 0 0,str [],i64 0,str [],i64 0,str [],.slice none 0 0,.slice none 0 0,i64 0,str [],str [],i64 0,.slice none 0 0,.slice none 0 0,.slice none 0 0,.slice none 0 0,.slice none 0 0,.slice none 0 0,i64 0] 43) (Ow.star (bN iV (aJ aA) 43) (Ow.star (bN sg.1 (aJ sg.2) 43) (Ow.emp)))) hS ?_ ?_
 ·
  intro k18 hS
  refine VC.GH (n:=4) (listed:=bl 6 3) [(0,true),(1,true)] mixed (by kernel_rfl) (by kernel_rfl) (by kernel_rfl) (by kernel_rfl) ?_
  refine VD.q rfl (rA qC rfl rfl) (by decide) ?_
  refine VD.q rfl (rA qC rfl rfl) (by decide) ?_
  obtain ⟨aRQ,aKx,hS⟩:=cS hS
  obtain ⟨aRR,aFY,hS⟩:=cS hS
  refine VD.TB fun hcl => ?_
  refine VG.fork (l:=[2,4]) (n:=3) (by kernel_rfl) rfl fun i hi => ?_
  obtain rfl | rfl:i=2∨i=4:=by simpa using hi
  ·
   refine qG.of rfl ?_
   refine VL.jN ((Y8 aA).out aKx) rfl (by decide) ?_
   rintro O8 rfl
   try dsimp only
   refine zU (bl 6 7) (Pk 0 Pz) ?_
   refine VG.fork (l:=[3,4]) (n:=2) (by kernel_rfl) rfl fun i hi => ?_
   obtain rfl | rfl:i=3∨i=4:=by simpa using hi
   ·
    refine qG.of rfl ?_
    refine VL.jN ((LW aA O8).out aFY) rfl (by decide) ?_
    rintro uT rfl
    try dsimp only
    refine zU (bl 6 15) Pz ?_
    refine VG.ord [(4,false),(5,false)] (by kernel_rfl) (eL (by kernel_rfl)) (by kernel_rfl) ?_
    refine VD.one rfl (dJ fun QV=>eV ?_)
    refine VD.one rfl ?_
    refine Zv  (vc:=(aJ uT)) (cs':=(aJ uT)) rfl qL ?_
    refine eV ?_
    refine VD.mt (QV,(uT:aM)) [2,4,8,11] (fun _ _ h=>h) hS rfl
   refine qG.of rfl ?_
   refine dJ fun QV => ?_
   refine zU (bl 6 23) (Pk 0 Pz) ?_
   refine VG.ord [(3,false),(5,false)] (by kernel_rfl) (eL (by kernel_rfl)) (by kernel_rfl) ?_
   refine VD.one rfl ?_
   refine VL.jN ((LW aA O8).out aFY) rfl (by decide) ?_
   rintro uT rfl
   try dsimp only
   refine eV ?_
   refine VD.one rfl ?_
   refine Zv  (vc:=(aJ uT)) (cs':=(aJ uT)) rfl qL ?_
   refine eV ?_
   refine VD.mt (QV,(uT:aM)) [2,4,8,11] (fun _ _ h=>h) hS rfl
  refine qG.of rfl ?_
  refine dJ fun QV => ?_
  refine zU (bl 6 19) (Pk 1 (Pk 0 Pz)) ?_
  refine VG.ord [(2,false),(3,false),(5,false)] (by kernel_rfl) (eL (by kernel_rfl)) (by kernel_rfl) ?_
  refine VD.one rfl ?_
  refine VL.jN ((Y8 aA).out aKx) rfl (by decide) ?_
  rintro O8 rfl
  try dsimp only
  refine eO (Pk 0 Pz) ?_
  refine VD.one rfl ?_
  refine VL.jN ((LW aA O8).out aFY) rfl (by decide) ?_
  rintro uT rfl
  try dsimp only
  refine eV ?_
  refine VD.one rfl ?_
  refine Zv  (vc:=(aJ uT)) (cs':=(aJ uT)) rfl qL ?_
  refine eV ?_
  refine VD.mt (QV,(uT:aM)) [2,4,8,11] (fun _ _ h=>h) hS rfl
 rintro ⟨a3w,qE⟩ hS
 refine Zq (ZX ?_)
 refine jK hS rfl fun aRT hS=>Zl ?_
 refine iZ hS (fun h88 hS => ?_) (fun h88 hS => ?_)
 ·
  refine ZX ?_
  cases hS
  exact VC.ret (Z4 (aA,(Er.no 4)) rfl)
 refine ZX ?_
 cases hS
 exact VC.ret (Z4 (⟨qE.aY,qE.aU,qE.bA,qE.aI,qE.aG,qE.aS,qE.aO,qE.aT,qE.aN,qE.aP,qE.aQ,qE.aK,qE.aD,qE.aE,qE.aL,qE.aR,aIB,qE.bC,qE.bE,qE.aZ,qE.time⟩,.nil) rfl)
instance aOK (aA:Sv bL) (n_1:Int) :
 gF Tryz.prog 311 [aA.val,i64 n_1] (Sh.s7 (aA.l.map bL.pl) n_1) aA.ok (fun r => .bool r):=by
 refine gM Tryz.func311 Tryz.ntmps311 fun r hS c => ?_
 unfold Sh.s7 at hS
 refine cI (Za ?_)
 refine Zl ?_
 refine cI (Zm ?_)
 refine Zu (N1 rfl rfl) (Zm ?_)
 refine nT 7 hS (fun h7 hS => ?_) (fun h7 hS => ?_)
 ·
  refine ZX ?_
  refine Zh (vV bL.pl (s:=aA) Tryz.underlying35 rfl) ?_
  exact ZE hS
 exact ZE hS
theorem aH1 (s:Sv bL) (i j:Int) (hi:0≤i∧i≤j∧j≤(s.l.length:Int)):Ct Tryz.prog 312 [s.val,i64 i,i64 j] (rK s.l) (s.own 142) (X:=Sv bL) (fun q=>q.val) (fun q=>q.l=s.l.take i.toNat++s.l.drop j.toNat) (fun q=>rK q.l) (fun q=>q.own 142):=by
 refine Zo Tryz.func312 Tryz.ntmps312 fun c => ?_
 obtain ⟨i0,ij,jl⟩:=hi
 have hK:bD.sz bL=4:=rfl
 refine VC.seq (VC.region ?_)
 refine Za ?_
 refine Zl ?_
 refine VC.seq (VC.region ?_)
 refine ZX ?_
 refine Zu (LF (s:=s) Tryz.underlying35 rfl) ?_
 refine VL.fits (s:=s) (e:=142) Fo.out fun hf => ?_
 refine Zu (LV (s:=s) (lo':=some i) (hi':=some j) (mx':=some (s.l.length:Int)) i.toNat j.toNat s.l.length Tryz.underlying35 oA rfl rfl rfl rfl (by simp; omega) (by simp; omega) (by simp) (fun _=>rfl) (by omega) (by omega) hf (by omega)) ?_
 refine Zl ?_
 refine VC.seq (VC.seq (VC.region ?_))
 refine ZX ?_
 refine VC.nV rfl (fun hij => ?_) (fun hij => ?_)
 ·
  refine VC.seq (VC.region ?_)
  refine ZX ?_
  exact VC.ret (HV (.inr rfl) rfl rfl s rfl (by rw [hij,List.take_append_drop]) (fun h m=>dV.out (X:=rK s.l) h m) fK.out)
 have hLn:(s.l.take i.toNat++s.l.drop j.toNat).length=i.toNat+(s.l.length - j.toNat):=by simp only [List.length_append,List.length_take,List.length_drop]; omega
 refine Zk ?_
 refine VC.seq (VC.region ?_)
 refine VL.open (s:=s) (e:=142) Fo.out (by omega) fun b cs hsa hcl hct _ hcm => ?_
 rw [hK] at hcl hct
 refine Zm (Zu (LF (s:=s) Tryz.underlying35 rfl) ?_)
 refine ZX ?_
 obtain ⟨o2,ho2,hoj⟩ : ∃ o2,(s.sub j.toNat s.l.length s.c).val = .slice (some ⟨b,o2,none⟩) (s.l.length - j.toNat) (s.c - j.toNat)∧(j.toNat < s.c→o2=j.toNat*4):=by
   simp only [Sv.val,Sv.sub,hsa,hK]
   split
   . exact ⟨0,by simp,fun h=>by omega⟩
   . exact ⟨j.toNat*4,by simp [Addr.add]; omega,fun _=>rfl⟩
 have lS:((s.l.drop j.toNat).flatMap bD.enc).length=(s.l.length - j.toNat)*4:=by rw [iD,List.length_drop,hK]
 have lA:((s.l.take i.toNat).flatMap bD.enc).length=i.toNat*4:=by rw [iD,List.length_take,hK,Nat.min_eq_left (by omega)]
 have hw : ∀ k,k≤s.l.length→k*4≤s.l.length*4:=fun k h=>Nat.mul_le_mul_right _ h
 have hcK:s.l.length*4≤s.c*4:=Nat.mul_le_mul_right _ hf
 refine Zq ?_
 refine iB [(0,true),(1,true),(2,true),(3,true),(4,true),(5,true),(6,false),(7,true)] ?_
 refine ZX ?_
 refine Zw rfl (PX (a0:=s.a) (L:=s.l.length) (C:=s.c) (K:=4) Tryz.underlying35 oA rfl rfl i0 (by omega)) ?_
 refine ZX ?_
 refine Zw rfl (F3 (s:=s) Tryz.underlying35 oA rfl rfl (by omega) jl hf) ?_
 refine VD.one rfl ?_
 refine VL.a6N (b:=b) (L:=i.toNat) (C:=s.c) (m:=s.l.length - j.toNat) (c2:=s.c - j.toNat) (o2:=o2) (K:=4) (src:=(s.l.drop j.toNat).flatMap bD.enc) Tryz.underlying35 oA pZ.out (by rw [← ho2,← hsa]; rfl) (fun k v hk=>by
   by_cases hjc:j.toNat < s.c
   . rw [hoj hjc]
     rw [← CF,hK,List.getElem?_drop,← hct] at hk
     rw [List.getElem?_take] at hk
     split at hk
     . exact hk
     . cases hk
   . have:s.l.drop j.toNat=[]:=List.drop_of_length_le (by omega)
     rw [this] at hk; cases hk) lS (by omega) (by rw [lS,← Nat.add_mul]; exact Nat.le_trans (Nat.mul_le_mul_right _ (by omega)) hcl) (pO _) (by decide) ?_
 have hA:cs.take (i.toNat*4)=(s.l.take i.toNat).flatMap bD.enc:=by
   have:cs.take (i.toNat*4)=(cs.take (s.l.length*4)).take (i.toNat*4):=by rw [List.take_take,Nat.min_eq_left (hw _ (by omega))]
   rw [this,hct]
   exact rL s.l i.toNat
 rw [hA,lS,← Nat.add_mul]
 have hT:(s.l.take i.toNat++s.l.drop j.toNat++s.l.drop (i.toNat+(s.l.length - j.toNat))).length=s.l.length:=by rw [List.length_append,hLn,List.length_drop]; omega
 have hC2:s.c*4≤((s.l.take i.toNat).flatMap bD.enc++(s.l.drop j.toNat).flatMap bD.enc++cs.drop ((i.toNat+(s.l.length - j.toNat))*4)).length:=by
   rw [List.length_append,List.length_append,lA,lS,← Nat.add_mul,List.length_drop]
   have:=hw (i.toNat+(s.l.length - j.toNat)) (by omega)
   omega
 have hT2:((s.l.take i.toNat).flatMap bD.enc++(s.l.drop j.toNat).flatMap bD.enc++cs.drop ((i.toNat+(s.l.length - j.toNat))*4)).take ((s.l.take i.toNat++s.l.drop j.toNat++s.l.drop (i.toNat+(s.l.length - j.toNat))).length*4)=(s.l.take i.toNat++s.l.drop j.toNat++s.l.drop (i.toNat+(s.l.length - j.toNat))).flatMap bD.enc:=by
   rw [hT,List.flatMap_append,List.flatMap_append,List.take_append,List.length_append,lA,lS,← Nat.add_mul,List.take_of_length_le (by rw [List.length_append,lA,lS,← Nat.add_mul]; exact hw _ (by omega))]
   congr 1
   rw [← List.drop_take,hct]
   exact (CF s.l _)
 refine eV ?_
 refine ZD ?_
 refine uD ?_
 have hv:(Value.slice (some ⟨b,0,none⟩) (i.toNat+(s.l.length - j.toNat)) s.c)=(⟨some ⟨b,0,none⟩,s.c,s.l.take i.toNat++s.l.drop j.toNat⟩:Sv bL).val:=by simp only [Sv.val,hLn]
 rw [hv]
 have ho:=FR (F:=Ow.emp) (e:=142) (b:=b) (l':=s.l.take i.toNat++s.l.drop j.toNat++s.l.drop (i.toNat+(s.l.length - j.toNat))) (L:=s.l.length) hC2 hT2 hT hf hcm
 refine VC.seq (VC.region ?_)
 refine ZX ?_
 refine Zu (LF (s:=⟨some ⟨b,0,none⟩,s.c,s.l.take i.toNat++s.l.drop j.toNat⟩) Tryz.underlying35 rfl) ?_
 refine Zm ?_
 refine VL.a60 ho.2 ?_
 refine Zu (aEd (a0:=some ⟨b,0,none⟩) (L:=i.toNat+(s.l.length - j.toNat)) (C:=s.c) (K:=4) (lo':=some ((s.l.take i.toNat++s.l.drop j.toNat).length:Int)) (hi':=some (s.l.length:Int)) (i.toNat+(s.l.length - j.toNat)) s.l.length Tryz.underlying35 oA (by rw [← hv]; rfl) rfl rfl (by simp [hLn]) (by simp) (by omega) hf) ?_
 refine VL.aDv (s:=⟨some ⟨b,0,none⟩,s.c,s.l.take i.toNat++s.l.drop j.toNat++s.l.drop (i.toNat+(s.l.length - j.toNat))⟩) (i:=i.toNat+(s.l.length - j.toNat)) (.agg #[i64 0,.slice none 0 0,.slice none 0 0,str []]) Tryz.underlying35 a1k (by kernel_rfl) (by kernel_rfl) (by
   show some _=some _
   congr 2
   simp only [Sv.val,Sv.sub,hT,sliced,List.length_drop,List.length_take,hK]
   congr 1
   omega) (by simp only [hT]; omega) Fo.out fun q hq hqv => ?_
 have hql:q.l=s.l.take i.toNat++s.l.drop j.toNat:=by rw [hq]; exact List.take_left' hLn
 refine Zl ?_
 have hv2:(⟨some ⟨b,0,none⟩,s.c,s.l.take i.toNat++s.l.drop j.toNat⟩:Sv bL).val=q.val:=by rw [hqv,← hv]
 rw [hv2]
 refine VC.seq (VC.region ?_)
 refine ZX ?_
 exact VC.ret (HV (.inr rfl) rfl rfl q rfl hql (fun h m=>a2f (l:=s.l) (fun z hz=>by rw [hql] at hz; rcases List.mem_append.1 hz with q | q; exact List.mem_of_mem_take q; exact List.mem_of_mem_drop q) (dV.out (X:=rK s.l) h m)) fK.out)
instance aMn (aA:Sv bL) (n_1:Int) :
 jZ Tryz.prog 257 [aA.val,i64 n_1] (Sh.u9 (aA.l.map bL.pl) n_1) aA.ok (X:=Sv bL×Int) (fun x => .tuple #[x.1.val,i64 x.2]) (fun x=>((x.1.l.map bL.pl),x.2)) (fun x=>x.1.ok):=by
 refine j6 Tryz.func257 Tryz.ntmps257 fun r hS c => ?_
 unfold Sh.u9 at hS
 refine ZX ?_
 refine Zq (ZX ?_)
 refine jK hS rfl fun F0 hS=>ZX ?_
 refine iZ hS (fun h9 hS => ?_) (fun h9 hS => ?_)
 ·
  refine ZX ?_
  cases hS
  exact VC.ret (Z2 (⟨none,0,[]⟩,1))
 refine ZX ?_
 refine fM hS rfl fun aMR hS => ?_
 obtain ⟨b14,hS⟩:=bM hS
 obtain ⟨b15,hS⟩:=bM hS
 refine ZX ?_
 refine VL.oE (aH1 aMR n_1 (n_1+1) ⟨b15.1,b15.2.1,aCj b15.2.2⟩) rfl (by decide) ?_
 intro a8B a1q
 replace hS:=dZ ((congrArg (List.map bL.pl) a1q).trans (by simp only [List.map_append,List.map_take,List.map_drop])) hS
 refine fM hS rfl fun aB3 hS=>ZO ?_
 refine Zl ?_
 refine VC.aV [4,5] ?_
 refine VC.shut aB3 142 (fun h m=>dV.out (X:=rK aB3.l) h m) ?_
 exact ZE hS
instance aEL (aA:aM) (n_1:Int) :
 jZ Tryz.prog 173 [.agg (aJ aA).toArray,i64 n_1] (Sh.wL aA.pl n_1) aA.m (X:=aM×Er) (fun x => .tuple #[.agg (bD.enc x.1).toArray,x.2.val]) (fun x=>(x.1.pl,x.2.pl)) (fun x=>(x.1.m.and x.2.ok)):=by
 refine j6 Tryz.func173 Tryz.ntmps173 fun r hS c => ?_
 unfold Sh.wL at hS
 refine cI ?_
 refine qA (aJ aA) fun iV => ?_
 refine dJ fun AM=>ZX ?_
 refine fR hS rfl fun ⟨RG,aMV⟩ hS => ?_
 try dsimp only
 refine ZO ?_
 refine Zl ?_
 refine VC.aV [2,4,6,7] (Zq (ZX ?_))
 refine oD hS (fun h17 hS => ?_) (fun h17 hS => ?_)
 ·
  refine ZX ?_
  cases hS
  exact VC.ret (Z4 (aA,(Er.no aMV)) rfl)
 refine ZX ?_
 cases hS
 exact VC.ret (Z4 (⟨aA.aY,aA.aU,aA.bA,aA.aI,aA.aG,aA.aS,aA.aO,aA.aT,aA.aN,aA.aP,aA.aQ,aA.aK,aA.aD,aA.aE,aA.aL,aA.aR,RG,aA.bC,aA.bE,aA.aZ,aA.time⟩,.nil) rfl)
instance aHb (aA:Sv Int) :
 vL Tryz.prog 313 [aA.val] (Sh.nG aA.l) aA.ok (Ow.emp) (X:=Sv Int) (fun x=>x.val) (fun x=>x.l) (fun x=>Mo.tt) (fun x=>Sv.own x 3):=by
 refine v8 Tryz.func313 Tryz.ntmps313 fun r hS c => ?_
 unfold Sh.nG at hS
 refine ZX ?_
 refine Zq (ZX ?_)
 refine Zu (LG (s:=aA) Tryz.underlying57 rfl) ?_
 refine Zl ?_
 refine VC.slnil (s:=aA) rfl (fun h4 => ?_) ?_
 ·
  have hS:(some [])=some r:=by
    simp [lt,gd,h4] at hS ⊢
    try exact hS
  refine cI (Za ?_)
  refine Zl ?_
  refine VC.mR (⟨none,0,[]⟩:Sv Int) 3 ⟨rfl,rfl⟩ ?_
  cases hS
  exact VC.ret (Z1 ⟨none,0,[]⟩)
 refine ZX ?_
 refine VL.aEA (α:=Int) Tryz.underlying57 a7O (by decide) (fun ME wE BF => ?_)
 refine VL.mR ME 3 ⟨BF,wE⟩ ?_
 replace hS:=dZ wE hS
 exact ZE hS
instance:UnD Tryz.prog 318 (.slice 57):=⟨Tryz.underlying318⟩
instance aCZ (aA:Sv (Sv Int)) :
 jZ Tryz.prog 314 [aA.val] (Sh.lC (aA.l.map Sv.l)) aA.ok (X:=Sv (Sv Int)) (fun x=>x.val) (fun x=>(x.l.map Sv.l)) (fun x=>x.ok):=by
 refine j6 Tryz.func314 Tryz.ntmps314 fun r hS c => ?_
 unfold Sh.lC at hS
 refine ZX ?_
 refine Zu (vV Sv.l (s:=aA) Tryz.underlying318 rfl) (Zm (Zu (vV Sv.l (s:=aA) Tryz.underlying318 rfl) ?_))
 obtain ⟨b8,hS⟩:=bM hS
 refine VL.UA Tryz.underlying318 aFn rfl rfl rfl b8.1 (aCj b8.2) (by decide) fun PC tC => ?_
 replace hS:=dZ ((congrArg (List.map Sv.l) tC).trans List.map_take) hS
 exact ZE hS
instance aUX (aA:aM) :
 jZ Tryz.prog 258 [.agg (aJ aA).toArray] (Sh.yZ aA.pl) aA.m (X:=Sv (Sv Int)) (fun x=>x.val) (fun x=>(x.l.map Sv.l)) (fun x=>x.ok):=by
 refine j6 Tryz.func258 Tryz.ntmps258 fun r hS c => ?_
 unfold Sh.yZ at hS
 refine cI ?_
 refine qA (aJ aA) fun hG => ?_
 refine ZX ?_
 refine Zq (ZX ?_)
 refine Zb ?_
 refine VC.mR (⟨none,0,[]⟩:Sv (Sv Int)) 57 ⟨rfl,rfl⟩ ?_
 refine VC.aAM (s:=(⟨none,0,[]⟩:Sv (Sv Int))) rfl ?_
 refine VC.iter (S:=Sv (Sv Int)×Int) (fun sg=>((sg.1.l.map Sv.l),sg.2)) (fun sg=>[(3,sg.1.val),(7,aA.bC.val),(8,i64 ((aA.bC.l.map bY.pl).length:Int)),(9,i64 sg.2)]) (fun sg=>(rK sg.1.l)) (fun sg=>Ow.star (bN hG (aJ aA) 43) (Ow.star (Sv.own sg.1 57) (Ow.emp))) (⟨none,0,[]⟩,0) [3,7,8,9] hS rfl ?_
 rintro ⟨F2,aIM⟩ m1 y1 hS hK1
 refine ZX ?_
 refine Zq (Zc hS (fun h10 hS => ?_) (fun h10 hS => ?_))
 ·
  refine Zk ?_
  refine Zq (Zb (cI ?_))
  obtain ⟨G0,aPf,aE1,hS⟩:=zW hS
  refine VL.deep G0.m aE1 (fun _ q=>q) ?_
  refine Zu (jA (s:=aA.bC) Tryz.underlying38 PU rfl rfl aPf (bR aPf aE1)) (Zu (nF  (s:=aA.bC) SI rfl rfl aE1) ?_)
  refine dJ fun bAD=>ZX ?_
  refine Zr (ZX ?_)
  refine fM hS rfl fun aGO hS => ?_
  refine VL.shut aGO 3 (fun _ _ _ _=>trivial) ?_
  refine fR hS rfl fun RI hS => ?_
  refine VL.lit (α:=Sv Int) (xs:=[.tmp 17]) (vs:=[RI.val]) [RI] Tryz.underlying318 aPV (by decide) rfl rfl rfl rfl (by decide) (fun h m=>List.forall_mem_cons.2 ⟨dV.out (X:=RI.ok) h m,fun _ h=>by cases h⟩) (by decide) (fun a8J a1u => ?_) (by decide)
  replace hS:=dZ (congrArg (List.map Sv.l) a1u) hS
  obtain ⟨b19,hS⟩:=bM hS
  refine VL.app (s:=F2) (r:=a8J) Tryz.underlying318 aPQ (by decide) rfl Fo.out (ap1 (apm b19)) (ap2 (apm b19) (by decide)) (by decide) (fun a3Y aLN => ?_)
  replace hS:=dZ ((congrArg (List.map Sv.l) aLN).trans List.map_append) hS
  refine VL.aAL aLN ?_
  refine Za ?_
  refine Zl ?_
  refine VC.aV [3,7,8,9] ?_
  obtain ⟨b20,hS⟩:=bM hS
  refine Zr (ZX ?_)
  refine VL.kL (a3Y,(aIM+1)) [3,7,8,9] (fun _ _ h=>h) (go2 hS hK1) rfl
 replace hS:=kS hS hK1
 refine Zx ?_
 refine ZX ?_
 refine VL.shut F2 57 (fun h m=>dV.out (X:=rK F2.l) h m) ?_
 exact ZE hS
instance VB (rQ:Sv (Sv Int)) (dI:Sv Int) :
 vL Tryz.prog 315 [rQ.val,dI.val] (Sh.nM (rQ.l.map Sv.l) dI.l) (rQ.ok.and dI.ok) (Ow.emp) (X:=Sv Bool) (fun x=>x.val) (fun x=>x.l) (fun x=>Mo.tt) (fun x=>Sv.own x 4):=by
 refine v8 Tryz.func315 Tryz.ntmps315 fun r hS c => ?_
 unfold Sh.nM at hS
 refine ZX ?_
 refine Zu (vV Sv.l (s:=rQ) Tryz.underlying318 rfl) ?_
 obtain ⟨b10,hS⟩:=bM hS
 obtain ⟨b11,hS⟩:=bM hS
 refine ZX ?_
 refine VL.make (α:=Bool) (z:=false) Tryz.underlying363 bAX (by decide) rfl rfl b11.1 (Int.le_refl _) (by omega) (by omega) (by decide) (fun aJU a1n => ?_)
 replace hS:=dZ a1n hS
 refine ZX ?_
 refine fM hS rfl fun RG hS=>Za ?_
 refine Zl ?_
 refine VC.aV [0,5,6] (Zq (Zb ?_))
 refine VC.iter (S:=Sv Bool×Sv Int) (fun sg=>(sg.1.l,sg.2.l)) (fun sg=>[(0,rQ.val),(5,sg.1.val),(6,sg.2.val)]) (fun sg=>Mo.tt) (fun sg=>Ow.star (Sv.own sg.1 4) (Ow.star (Sv.own sg.2 3) (Ow.emp))) (aJU,RG) [0,5,6] hS rfl ?_
 rintro ⟨yO,y5⟩ m1 y1 hS hK1
 refine Zq (ZX ?_)
 refine Zc hS (fun h16 hS => ?_) (fun h16 hS => ?_)
 ·
  obtain ⟨b20,hS⟩:=bM hS
  refine Zk ?_
  refine Zb (ZX ?_)
  obtain ⟨QK,aPk,aP9,hS⟩:=gP hS
  refine Zu (lK (s:=y5) Tryz.underlying57 E3 rfl rfl aPk (bR aPk aP9)) (Zu (II (s:=y5) 3 o5 rfl aP9 rfl) (Za ?_))
  refine Zl ?_
  refine VC.aV [0,5,6,7] ?_
  obtain ⟨b26,hS⟩:=bM hS
  obtain ⟨b27,hS⟩:=bM hS
  refine ZX ?_
  refine VL.bAe (s:=y5) Tryz.underlying57 E3 rfl rfl b27.1 b27.2 Fo.out (by decide) fun aAP a2C => ?_
  replace hS:=dZ a2C hS
  refine Za ?_
  refine Zl ?_
  refine Zq (cI (Zm ?_))
  refine Zu (rW rfl rfl) (Zm ?_)
  refine nT 30 hS (fun h30 hS => ?_) (fun h30 hS => ?_)
  ·
   refine VL.runs 11 [(41,some true)] (by kernel_rfl) ?_
   refine Zl ?_
   refine VC.keep (ρ':=[(0,rQ.val),(5,yO.val),(6,aAP.val),(7,i64 QK),(41,.bool true)]) [0,5,6,7,41] rfl ?_
   refine VC.EI rfl ?_
   refine VC.XD (yO,aAP) [0,5,6] (fun _ _ h=>h) (go2 hS hK1) rfl
  refine ZX ?_
  refine Zh (vV Sv.l (s:=rQ) Tryz.underlying318 rfl) ?_
  refine Zh (zC rfl rfl) ?_
  refine Zf ?_
  refine Zm ?_
  refine nT 36 hS (fun h36 hS => ?_) (fun h36 hS => ?_)
  ·
   refine VL.runs 5 [(41,some true)] (by kernel_rfl) ?_
   refine Zl ?_
   refine VC.keep (ρ':=[(0,rQ.val),(5,yO.val),(6,aAP.val),(7,i64 QK),(41,.bool true)]) [0,5,6,7,41] rfl ?_
   refine VC.EI rfl ?_
   refine VC.XD (yO,aAP) [0,5,6] (fun _ _ h=>h) (go2 hS hK1) rfl
  refine ZX ?_
  obtain ⟨aZt,aPq,aPb,hS⟩:=gP hS
  refine Zh (lK (s:=yO) Tryz.underlying363 I3 rfl rfl aPq (bR aPq aPb)) ?_
  refine Zh (II (s:=yO) 4 LU rfl aPb rfl) ?_
  refine ZX ?_
  refine VC.aV [0,5,6,7,41] (iZ hS (fun h41 hS => ?_) (fun h41 hS => ?_))
  ·
   refine VC.XD (yO,aAP) [0,5,6] (fun _ _ h=>h) (go2 hS hK1) rfl
  refine ZX ?_
  obtain ⟨a6D,aLv,aLV,hS⟩:=gP hS
  refine Zu (lK (s:=yO) Tryz.underlying363 I3 rfl rfl aLv (bR aLv aLV)) ?_
  refine VL.oC (s:=yO) (T:=4) (j:=0) (vc:=[.bool true]) (true:Bool) (by decide) rfl rfl aLV rfl I3 rfl rfl (Nat.le_of_ble_eq_true rfl) rfl (fun w11 hw11 haw11 hcw11 hvw11 hbw11 how11 => ?_)
  rw [← hvw11]
  replace hS:=dZ hw11 hS
  obtain ⟨b48,hS⟩:=bM hS
  refine Zl ?_
  refine Zr (ZX ?_)
  obtain ⟨aEv,aMC,aFs,hS⟩:=zW hS
  refine VL.deep aEv.ok aFs (fun _ q=>q) ?_
  refine Zu (jA (s:=rQ) Tryz.underlying318 aFn rfl rfl aMC (bR aMC aFs)) (Zu (I4  (s:=rQ) XJ rfl aFs rfl) ?_)
  refine HM hS fun a3h hS => ?_
  refine Za ?_
  refine VL.kL (w11,a3h) [0,5,6] (fun _ _ h=>h) (go2 hS hK1) rfl
 exact ZE hS
instance aNg (rQ:Sv (Sv Int)) (a_1:Int) (c_2:Int) :
 gF Tryz.prog 259 [rQ.val,i64 a_1,i64 c_2] (Sh.s6 (rQ.l.map Sv.l) a_1 c_2) rQ.ok (fun r => .bool r):=by
 refine gM Tryz.func259 Tryz.ntmps259 fun r hS c => ?_
 unfold Sh.s6 at hS
 refine cI (Za ?_)
 refine Zl ?_
 refine cI (Zm ?_)
 refine Zu (N1 rfl rfl) (Zm ?_)
 refine nT 9 hS (fun h9 hS => ?_) (fun h9 hS => ?_)
 ·
  refine ZX ?_
  refine Zh (vV Sv.l (s:=rQ) Tryz.underlying318 rfl) ?_
  refine Zh (aDD rfl rfl) ?_
  refine Zt ?_
  refine Zm ?_
  refine nT 15 hS (fun h15 hS => ?_) (fun h15 hS => ?_)
  ·
   refine ZX ?_
   refine VL.guard rfl rfl ?_
   refine mS hS fun bCr hS => ?_
   refine VL.guard rfl rfl ?_
   refine fM hS rfl fun aMZ hS=>ZX ?_
   obtain ⟨aKO,aBT,aBJ,hS⟩:=gP hS
   refine Zh (lK (s:=aMZ) Tryz.underlying363 I3 rfl rfl aBT (bR aBT aBJ)) ?_
   refine Zh (II (s:=aMZ) 4 LU rfl aBJ rfl) ?_
   exact ZE hS
  exact ZE hS
 exact ZE hS
instance a0C (dR:Sv Bool) :
 jZ Tryz.prog 349 [dR.val] (Sh.JG dR.l) dR.ok (X:=Sv Int) (fun x=>x.val) (fun x=>x.l) (fun x=>x.ok):=by
 refine j6 Tryz.func349 Tryz.ntmps349 fun r hS c => ?_
 unfold Sh.JG at hS
 refine ZX ?_
 refine Zq (ZX ?_)
 refine Zb ?_
 refine VC.mR (⟨none,0,[]⟩:Sv Int) 3 ⟨rfl,rfl⟩ ?_
 refine VC.iter (S:=Sv Int×Int) (fun sg=>(sg.1.l,sg.2)) (fun sg=>[(3,sg.1.val),(6,dR.val),(7,i64 (dR.l.length:Int)),(8,i64 sg.2)]) (fun sg=>Mo.tt) (fun sg=>Ow.star (Sv.own sg.1 3) (Ow.emp)) (⟨none,0,[]⟩,0) [3,6,7,8] hS rfl ?_
 rintro ⟨oB,vK⟩ m1 y1 hS hK1
 refine ZX ?_
 refine Zq (Zc hS (fun h9 hS => ?_) (fun h9 hS => ?_))
 ·
  refine Zk ?_
  refine Zq (Zb (ZX ?_))
  refine yH hS rfl fun W6 a2O hS=>ZX ?_
  refine iZ hS (fun h13 hS => ?_) (fun h13 hS => ?_)
  ·
   refine Zr (ZX ?_)
   refine mS hS fun bCp hS=>HM hS fun a8H hS => ?_
   refine Za ?_
   refine Zl ?_
   refine VC.aV [3,6,7,8] ?_
   obtain ⟨b18,hS⟩:=bM hS
   refine Zr (ZX ?_)
   refine VL.kL (a8H,(vK+1)) [3,6,7,8] (fun _ _ h=>h) (go2 hS hK1) rfl
  refine Zk ?_
  refine VC.aV [3,6,7,8] ?_
  obtain ⟨b18,hS⟩:=bM hS
  refine Zr (ZX ?_)
  refine VL.kL (oB,(vK+1)) [3,6,7,8] (fun _ _ h=>h) (go2 hS hK1) rfl
 replace hS:=kS hS hK1
 refine Zx ?_
 refine ZX ?_
 refine VL.shut oB 3 (fun _ _ _ _=>trivial) ?_
 exact ZE hS
instance aKX (rQ:Sv (Sv Int)) (a_1:Int) (b_2:Int) :
 jZ Tryz.prog 316 [rQ.val,i64 a_1,i64 b_2] (Sh.tT (rQ.l.map Sv.l) a_1 b_2) rQ.ok (X:=Sv Int) (fun x=>x.val) (fun x=>x.l) (fun x=>x.ok):=by
 refine j6 Tryz.func316 Tryz.ntmps316 fun r hS c => ?_
 unfold Sh.tT at hS
 refine ZX ?_
 refine mS hS fun bCo hS=>fM hS rfl fun aB2 hS=>ZX ?_
 refine mS hS fun aY2 hS=>fM hS rfl fun eD hS=>ZO ?_
 refine Zl ?_
 refine VC.aV [0,7,8] (ZX ?_)
 refine Zq (ZX ?_)
 refine Zb ?_
 refine VC.mR (⟨none,0,[]⟩:Sv Int) 3 ⟨rfl,rfl⟩ ?_
 refine VC.iter (S:=Sv Bool×Sv Int×Int) (fun sg=>(sg.1.l,sg.2.1.l,sg.2.2)) (fun sg=>[(0,rQ.val),(7,sg.1.val),(8,eD.val),(9,sg.2.1.val),(22,i64 (aB2.l.length:Int)),(23,i64 sg.2.2)]) (fun sg=>Mo.tt) (fun sg=>Ow.star (Sv.own eD 4) (Ow.star (Sv.own sg.1 4) (Ow.star (Sv.own sg.2.1 3) (Ow.emp)))) (aB2,⟨none,0,[]⟩,0) [0,7,8,9,22,23] hS rfl ?_
 rintro ⟨LN,yQ,BV⟩ m1 y1 hS hK1
 refine ZX ?_
 refine Zq (Zc hS (fun h24 hS => ?_) (fun h24 hS => ?_))
 ·
  refine Zk ?_
  refine Zq (Zb (cI (ZO ?_)))
  refine Zl ?_
  refine VC.u5 (S:=Sv Bool) (fun (GW:Sv Bool)=>GW.l) (fun (GW:Sv Bool)=>[(0,rQ.val),(7,GW.val),(8,eD.val),(9,yQ.val),(10,i64 BV),(22,i64 (aB2.l.length:Int)),(23,i64 BV)]) (fun (GW:Sv Bool)=>Mo.tt) (fun (GW:Sv Bool)=>Ow.star (Sv.own eD 4) (Ow.star (Sv.own yQ 3) (Ow.star (Sv.own GW 4) (Ow.emp)))) hS ?_ ?_
  ·
   intro k11 hS
   refine Zr (ZX ?_)
   obtain ⟨aRX,aLo,aLO,hS⟩:=gP hS
   refine Zu (lK (s:=LN) Tryz.underlying363 I3 rfl rfl aLo (bR aLo aLO)) (Zu (II (s:=LN) 4 LU rfl aLO rfl) (Zm ?_))
   refine xZ 32 hS (fun h32 hS => ?_) (fun h32 hS => ?_)
   ·
    refine ZX ?_
    obtain ⟨aEt,aLq,aLQ,hS⟩:=gP hS
    refine Zh (lK (s:=eD) Tryz.underlying363 I3 rfl rfl aLq (bR aLq aLQ)) ?_
    refine Zh (II (s:=eD) 4 LU rfl aLQ rfl) ?_
    refine ZX ?_
    obtain ⟨a6B,aLs,aLS,hS⟩:=gP hS
    refine Zu (lK (s:=LN) Tryz.underlying363 I3 rfl rfl aLs (bR aLs aLS)) ?_
    refine VL.oC (s:=LN) (T:=4) (j:=0) (vc:=[.bool aEt]) (aEt:Bool) (by decide) rfl rfl aLS rfl I3 rfl rfl (Nat.le_of_ble_eq_true rfl) rfl (fun w15 hw15 haw15 hcw15 hvw15 hbw15 how15 => ?_)
    rw [← hvw15]
    replace hS:=dZ hw15 hS
    exact ZE hS
   refine VL.runs 5 [(37,some false)] (by kernel_rfl) ?_
   obtain ⟨a6C,aLt,aLT,hS⟩:=gP hS
   refine Zu (lK (s:=LN) Tryz.underlying363 I3 rfl rfl aLt (bR aLt aLT)) ?_
   refine VL.oC (s:=LN) (T:=4) (j:=0) (vc:=[.bool false]) (false:Bool) (by decide) rfl rfl aLT rfl I3 rfl rfl (Nat.le_of_ble_eq_true rfl) rfl (fun w18 hw18 haw18 hcw18 hvw18 hbw18 how18 => ?_)
   rw [← hvw18]
   replace hS:=dZ hw18 hS
   exact ZE hS
  rintro GW hS
  refine ZX ?_
  obtain ⟨aRY,aLu,aLU,hS⟩:=gP hS
  refine Zu (lK (s:=GW) Tryz.underlying363 I3 rfl rfl aLu (bR aLu aLU)) (Zu (II (s:=GW) 4 LU rfl aLU rfl) ?_)
  refine Zl ?_
  refine iZ hS (fun h42 hS => ?_) (fun h42 hS => ?_)
  ·
   obtain ⟨b46,hS⟩:=bM hS
   refine Zr (ZX ?_)
   obtain ⟨aEu,aLz,aFr,hS⟩:=zW hS
   refine VL.deep aEu.ok aFr (fun _ q=>q) ?_
   refine Zu (jA (s:=rQ) Tryz.underlying318 aFn rfl rfl aLz (bR aLz aFr)) (Zu (I4  (s:=rQ) XJ rfl aFr rfl) ?_)
   refine HM hS fun a3f hS => ?_
   refine Za ?_
   refine Zl ?_
   refine VC.aV [0,7,8,9,22,23] ?_
   obtain ⟨b50,hS⟩:=bM hS
   refine Zr (ZX ?_)
   refine VL.kL (GW,a3f,(BV+1)) [0,7,8,9,22,23] (fun _ _ h=>h) (go2 hS hK1) rfl
  obtain ⟨b50,hS⟩:=bM hS
  refine Zk ?_
  refine Zr (ZX ?_)
  refine VL.kL (GW,yQ,(BV+1)) [0,7,8,9,22,23] (fun _ _ h=>h) (go2 hS hK1) rfl
 replace hS:=kS hS hK1
 refine Zx ?_
 refine ZX ?_
 obtain ⟨aQn,aV1,hS⟩:=cS hS
 refine VL.aEU ((VB rQ yQ).out aV1) rfl (by decide) ?_
 rintro RM rfl
 try dsimp only
 refine Za ?_
 refine Zl ?_
 refine VC.aV [7,11] (Zq (ZX ?_))
 refine Zb ?_
 refine VC.iter (S:=Sv Bool×Int) (fun sg=>(sg.1.l,sg.2)) (fun sg=>[(7,sg.1.val),(11,RM.val),(55,i64 (LN.l.length:Int)),(56,i64 sg.2)]) (fun sg=>Mo.tt) (fun sg=>Ow.star (Sv.own RM 4) (Ow.star (Sv.own sg.1 4) (Ow.emp))) (LN,0) [7,11,55,56] hS rfl ?_
 rintro ⟨IQ,BW⟩ m1 y1 hS hK1
 refine ZX ?_
 refine Zq (Zc hS (fun h57 hS => ?_) (fun h57 hS => ?_))
 ·
  refine Zk ?_
  refine Zq (Zb (ZX ?_))
  refine Zr (ZX ?_)
  obtain ⟨aR1,aMI,aL5,hS⟩:=gP hS
  refine Zu (lK (s:=IQ) Tryz.underlying363 I3 rfl rfl aMI (bR aMI aL5)) (Zu (II (s:=IQ) 4 LU rfl aL5 rfl) (Zm ?_))
  refine xZ 65 hS (fun h65 hS => ?_) (fun h65 hS => ?_)
  ·
   refine ZX ?_
   obtain ⟨aEw,aMK,aL6,hS⟩:=gP hS
   refine Zh (lK (s:=RM) Tryz.underlying363 I3 rfl rfl aMK (bR aMK aL6)) ?_
   refine Zh (II (s:=RM) 4 LU rfl aL6 rfl) ?_
   refine ZX ?_
   obtain ⟨a6I,aML,aL7,hS⟩:=gP hS
   refine Zu (lK (s:=IQ) Tryz.underlying363 I3 rfl rfl aML (bR aML aL7)) ?_
   refine VL.oC (s:=IQ) (T:=4) (j:=0) (vc:=[.bool (!aEw)]) ((!aEw):Bool) (by decide) rfl rfl aL7 rfl I3 rfl rfl (Nat.le_of_ble_eq_true rfl) rfl (fun w30 hw30 haw30 hcw30 hvw30 hbw30 how30 => ?_)
   rw [← hvw30]
   replace hS:=dZ hw30 hS
   refine Zl ?_
   refine VC.aV [7,11,55,56] ?_
   obtain ⟨b73,hS⟩:=bM hS
   refine Zr (ZX ?_)
   refine VL.kL (w30,(BW+1)) [7,11,55,56] (fun _ _ h=>h) (go2 hS hK1) rfl
  refine VL.runs 6 [(71,some false)] (by kernel_rfl) ?_
  obtain ⟨a6J,aMM,aL8,hS⟩:=gP hS
  refine Zu (lK (s:=IQ) Tryz.underlying363 I3 rfl rfl aMM (bR aMM aL8)) ?_
  refine VL.oC (s:=IQ) (T:=4) (j:=0) (vc:=[.bool false]) (false:Bool) (by decide) rfl rfl aL8 rfl I3 rfl rfl (Nat.le_of_ble_eq_true rfl) rfl (fun w33 hw33 haw33 hcw33 hvw33 hbw33 how33 => ?_)
  rw [← hvw33]
  replace hS:=dZ hw33 hS
  refine Zl ?_
  refine VC.keep (ρ':=[(7,w33.val),(11,RM.val),(55,i64 (LN.l.length:Int)),(56,i64 BW)]) [7,11,55,56] rfl ?_
  obtain ⟨b73,hS⟩:=bM hS
  refine Zr (ZX ?_)
  refine VL.kL (w33,(BW+1)) [7,11,55,56] (fun _ _ h=>h) (go2 hS hK1) rfl
 replace hS:=kS hS hK1
 refine Zx ?_
 refine ZX ?_
 refine VL.shut IQ 4 (fun _ _ _ _=>trivial) ?_
 exact ZE hS
instance K3 (rQ:Sv (Sv Int)) (a_1:Int) (b_2:Int) :
 gF Tryz.prog 260 [rQ.val,i64 a_1,i64 b_2] (Sh.rS (rQ.l.map Sv.l) a_1 b_2) rQ.ok (fun r=>i64 r):=by
 refine gM Tryz.func260 Tryz.ntmps260 fun r hS c => ?_
 unfold Sh.rS at hS
 exact ZE hS
end Go.Proofs.YtgdabkldgphdeaaGreatDoor
end

section
set_option linter.unusedVariables false
namespace Go.Proofs.YtgdabkldgphdeaaGreatDoor
set_option maxHeartbeats 4000000
set_option maxRecDepth 100000
set_option synthInstance.maxSize 2000
set_option synthInstance.maxHeartbeats 1000000
open Go.RowKit Go.V
open Go.S
attribute [local irreducible] Go.V.Qt Go.V.VL Go.V.VC Go.V.I0 Go.S.gd Go.S.at_ Go.S.lt Go.S.jn Go.S.go Go.S.up Go.S.iter Sh.fN Sh.rS Sh.s6 Sh.xG Sh.wK Sh.pI Sh.tV Sh.qY Sh.jU Sh.xN Sh.qO Sh.xO Sh.DY Sh.uI Sh.zE Sh.rM Sh.GP Sh.BO Sh.xP Sh.wL Sh.AS Sh.uX Sh.AT Sh.zF Sh.zG Sh.xA Sh.s7 Sh.wM Sh.jR Sh.eN Sh.yZ Sh.nC Sh.HK Sh.D8 Sh.JY Sh.D9
instance aTq (aA:aM) (t_1:aM) (SN:bH) (NT:Int) (TA:bH) :
 jZ Tryz.prog 261 [.agg (aJ aA).toArray,.agg (aJ t_1).toArray,str SN,i64 NT,str TA] (Sh.zF aA.pl t_1.pl SN NT TA) (aA.m.and t_1.m) (X:=aM×Bool×Er) (fun x => .tuple #[.agg (bD.enc x.1).toArray,.bool x.2.1,x.2.2.val]) (fun x=>(x.1.pl,x.2.1,x.2.2.pl)) (fun x=>(x.1.m.and x.2.2.ok)):=by
 refine j6 Tryz.func261 Tryz.ntmps261 fun r hS c => ?_
 unfold Sh.zF at hS
 refine cI ?_
 refine qA (aJ aA) fun UW => ?_
 refine qA (aJ t_1) fun QY => ?_
 refine dJ fun ZR=>ZX ?_
 refine Zu (mG (j:=3) (n:=2) EK rfl rfl rfl) ?_
 refine ZX ?_
 refine Zu (cG (vs:=[(0,str SN),(1,i64 NT),(2,str TA),(7,.agg #[str aA.aI,i64 aA.aG]),(8,aA.aU.val),(9,aA.aY.val)]) (cs := #[str SN,i64 NT,str TA,.slice none 0 0,.slice none 0 0,i64 0,str [],str aA.aI,i64 aA.aG,aA.aU.val,aA.aY.val]) rfl (by kernel_rfl)) ?_
 refine ZO ?_
 refine Zl ?_
 refine VC.aV [6,10] (ZX ?_)
 cases hS
 exact VC.ret (Z4 (⟨t_1.aY,t_1.aU,t_1.bA,t_1.aI,t_1.aG,SN,NT,TA,⟨none,0,[]⟩,⟨none,0,[]⟩,0,[],aA.aI,aA.aG,aA.aU,aA.aY,t_1.aX,t_1.bC,t_1.bE,t_1.aZ,t_1.time⟩,true,(Er.no 9)) rfl)
instance aYV (aA:aM) (iS:bH) :
 jZ Tryz.prog 174 [.agg (aJ aA).toArray,str iS] (Sh.DY aA.pl iS) aA.m (X:=aM×Bool×Er) (fun x => .tuple #[.agg (bD.enc x.1).toArray,.bool x.2.1,x.2.2.val]) (fun x=>(x.1.pl,x.2.1,x.2.2.pl)) (fun x=>(x.1.m.and x.2.2.ok)):=by
 refine j6 Tryz.func174 Tryz.ntmps174 fun r hS c => ?_
 unfold Sh.DY at hS
 refine cI ?_
 refine qA (aJ aA) fun iV => ?_
 refine dJ fun AM=>ZX ?_
 refine jK hS rfl fun aOY hS=>ZO ?_
 refine Zl ?_
 refine VC.aV [1,2,4,7,8] (Zq ?_)
 refine iB [(0,true),(1,true),(2,true),(3,true),(4,true),(5,false),(6,true),(7,true)] ?_
 refine ZX ?_
 refine VD.one rfl (fR hS rfl fun NY hS=>eO (Pk 3 (Pk 2 (Pk 1 (Pk 0 Pz)))) ?_)
 refine ZX ?_
 refine Zq (Zb (ZX ?_))
 refine VC.aV [1,2,4,7,9,10,27] (iZ hS (fun h27 hS => ?_) (fun h27 hS => ?_))
 ·
  refine ZX ?_
  cases hS
  exact VC.ret (Z4 (aA,false,(Er.no 5)) rfl)
 refine ZX ?_
 refine Zc hS (fun h32 hS => ?_) (fun h32 hS => ?_)
 ·
  refine ZX ?_
  cases hS
  exact VC.ret (Z4 (aA,false,(Er.no 7)) rfl)
 refine ZX ?_
 refine jK hS rfl fun aZ5 hS=>ZX ?_
 refine VC.aV [1,2,4,7,9,10,37] (iZ hS (fun h37 hS => ?_) (fun h37 hS => ?_))
 ·
  refine ZX ?_
  cases hS
  exact VC.ret (Z4 (aA,false,(Er.no 8)) rfl)
 refine ZX ?_
 refine yH hS rfl fun OK bCA hS=>ZO ?_
 refine Zl ?_
 refine VC.aV [1,2,4,9,10,11] (Zq (ZX ?_))
 refine jK hS rfl fun aZa hS=>Zl ?_
 refine iZ hS (fun h53 hS => ?_) (fun h53 hS => ?_)
 ·
  refine ZX ?_
  cases hS
  exact VC.ret (Z4 (aA,false,(Er.no 10)) rfl)
 refine ZX ?_
 refine fR hS rfl fun RN hS=>Za ?_
 refine Zl ?_
 refine VC.aV [1,2,4,9,10,11,12] (Zq (ZX ?_))
 refine jK hS rfl fun aZd hS=>Zl ?_
 refine iZ hS (fun h62 hS => ?_) (fun h62 hS => ?_)
 ·
  refine Zq (ZX ?_)
  refine Zu (cG (vs:=[(0,RN.val)]) (cs := #[RN.val,.slice none 0 0,.slice none 0 0]) rfl (by kernel_rfl)) ?_
  refine I1 hS (PY aA (⟨RN,⟨none,0,[]⟩,⟨none,0,[]⟩⟩:cT)).out fun ⟨a9i,a9j⟩ hS => ?_
  try dsimp only
  refine ZO ?_
  refine Zl ?_
  refine VC.aV [2,4,11,6] (ZX ?_)
  refine oD hS (fun _ hS=>ZE hS) fun h71 hS=>ZX ?_
  refine fR hS rfl fun aT7 hS=>ZX ?_
  cases hS
  exact VC.ret (Z4 (aT7,false,.nil) rfl)
 refine Zk ?_
 refine VC.u5 (S:=Er×Nat×aM×cT) (fun sg=>(sg.1.pl,(),sg.2.2.1.pl,sg.2.2.2.pl)) (fun sg=>[(1,str iS),(2,ptr iV 0),(4,ptr AM 0),(6,sg.1.val),(9,i64 aA.aG),(11,i64 OK.cC),(13,ptr sg.2.1 0)]) (fun sg=>(sg.1.ok.and (sg.2.2.1.m.and sg.2.2.2.m))) (fun sg=>Ow.star (bN AM (aJ sg.2.2.1) 43) (Ow.star (bN iV (aJ aA) 43) (Ow.star (bN sg.2.1 [sg.2.2.2.files.val,sg.2.2.2.entries.val,sg.2.2.2.conflicts.val] 300) (Ow.emp)))) hS ?_ ?_
 ·
  intro k16 hS
  refine VC.GH (n:=10) (listed:=bl 18 447) [(0,true),(1,true),(2,true),(3,true),(4,true),(5,true),(7,true),(8,true)] mixed (by kernel_rfl) (by kernel_rfl) (by kernel_rfl) (by kernel_rfl) ?_
  refine VD.q rfl (rA qC rfl rfl) (by decide) ?_
  refine VD.q rfl (rA qC rfl rfl) (by decide) ?_
  refine VD.q rfl (fQ rfl) (by decide) ?_
  refine VD.q rfl (fQ rfl) (by decide) ?_
  refine VD.q rfl (fQ rfl) (by decide) ?_
  obtain ⟨aCQ,aKv,hS⟩:=cS hS
  refine VD.q rfl (dU ((K3 NY aA.aG OK.cC).out aKv) rfl (fun _ _=>rfl)) (by decide) ?_
  refine VD.q rfl (fQ rfl) (by decide) ?_
  refine VD.q rfl (fQ rfl) (by decide) ?_
  obtain ⟨aRP,aKw,hS⟩:=cS hS
  obtain ⟨YN,aFZ,hS⟩:=cS hS
  refine VD.TB fun hcl => ?_
  refine VG.fork (l:=[6,14]) (n:=9) (by kernel_rfl) rfl fun i hi => ?_
  obtain rfl | rfl:i=6∨i=14:=by simpa using hi
  ·
   refine qG.of rfl ?_
   refine VL.jN ((IK aA aCQ).out aKw) rfl (by decide) ?_
   rintro O7 rfl
   try dsimp only
   refine zU (bl 18 511) (Pk 0 Pz) ?_
   refine VG.fork (l:=[9,14]) (n:=8) (by kernel_rfl) rfl fun i hi => ?_
   obtain rfl | rfl:i=9∨i=14:=by simpa using hi
   ·
    refine qG.of rfl ?_
    refine VL.jN ((iF aA O7 RN iS).out aFZ) rfl (by decide) ?_
    rintro ⟨uU,hU,LD⟩ rfl
    try dsimp only
    refine zU (bl 18 1023) Pz ?_
    refine VG.ord [(10,true),(11,true),(12,true),(13,true),(14,false),(15,false),(16,false),(17,true)] (by kernel_rfl) (eL (by kernel_rfl)) (by kernel_rfl) ?_
    refine ZX ?_
    refine VD.one rfl (dJ fun QW=>eO (Pk 13 (Pk 12 (Pk 11 (Pk 10 Pz)))) ?_)
    refine VD.one rfl ?_
    refine Zv  (vc:=(aJ uU)) (cs':=(aJ uU)) rfl qL ?_
    refine eO (Pk 13 (Pk 12 Pz)) ?_
    refine VD.one rfl ?_
    refine Zv  (vc:=[hU.files.val,hU.entries.val,hU.conflicts.val]) (cs':=[hU.files.val,hU.entries.val,hU.conflicts.val]) rfl uF ?_
    refine eO (Pk 13 Pz) ?_
    refine ZX ?_
    refine VD.mt (LD,QW,(uU:aM),(⟨hU.files,hU.entries,hU.conflicts⟩:cT)) [1,2,4,6,9,11,13] (fun _ _ h=>h) hS rfl
   refine qG.of rfl ?_
   refine dJ fun QW => ?_
   refine zU (bl 18 16895) (Pk 0 Pz) ?_
   refine VG.ord [(9,false),(10,true),(11,true),(12,true),(13,true),(15,false),(16,false),(17,true)] (by kernel_rfl) (eL (by kernel_rfl)) (by kernel_rfl) ?_
   refine VD.one rfl ?_
   refine VL.jN ((iF aA O7 RN iS).out aFZ) rfl (by decide) ?_
   rintro ⟨uU,hU,LD⟩ rfl
   try dsimp only
   refine eV ?_
   refine ZX ?_
   refine VD.one rfl ?_
   refine Zv  (vc:=(aJ uU)) (cs':=(aJ uU)) rfl qL ?_
   refine eO (Pk 13 (Pk 12 Pz)) ?_
   refine VD.one rfl ?_
   refine Zv  (vc:=[hU.files.val,hU.entries.val,hU.conflicts.val]) (cs':=[hU.files.val,hU.entries.val,hU.conflicts.val]) rfl uF ?_
   refine eO (Pk 13 Pz) ?_
   refine ZX ?_
   refine VD.mt (LD,QW,(uU:aM),(⟨hU.files,hU.entries,hU.conflicts⟩:cT)) [1,2,4,6,9,11,13] (fun _ _ h=>h) hS rfl
  refine qG.of rfl ?_
  refine dJ fun QW => ?_
  refine VL.E8 (D':=[(5,i64 aCQ),(1,.agg (aJ aA).toArray),(0,.agg (aJ aA).toArray)]) (listed' := #[true,true,true,true,true,true,false,true,true,false,false,false,false,false,true,false,false,false]) (bT.cons rfl (dU ((K3 NY aA.aG OK.cC).out aKv) rfl (fun _ _=>rfl)) (bT.cons rfl (rA qC rfl rfl) (bT.cons rfl (rA qC rfl rfl) (bT.nil)))) (by kernel_rfl) (by kernel_rfl) ?_
  refine VG.ord [(6,false),(9,false),(10,true),(11,true),(12,true),(13,true),(15,false),(16,false),(17,true)] (by kernel_rfl) (eL (by kernel_rfl)) (by kernel_rfl) ?_
  refine VD.one rfl ?_
  refine VL.jN ((IK aA aCQ).out aKw) rfl (by decide) ?_
  rintro O7 rfl
  try dsimp only
  refine eO (Pk 0 Pz) ?_
  refine VD.one rfl ?_
  refine VL.jN ((iF aA O7 RN iS).out aFZ) rfl (by decide) ?_
  rintro ⟨uU,hU,LD⟩ rfl
  try dsimp only
  refine eV ?_
  refine ZX ?_
  refine VD.one rfl ?_
  refine Zv  (vc:=(aJ uU)) (cs':=(aJ uU)) rfl qL ?_
  refine eO (Pk 13 (Pk 12 Pz)) ?_
  refine VD.one rfl ?_
  refine Zv  (vc:=[hU.files.val,hU.entries.val,hU.conflicts.val]) (cs':=[hU.files.val,hU.entries.val,hU.conflicts.val]) rfl uF ?_
  refine eO (Pk 13 Pz) ?_
  refine ZX ?_
  refine VD.mt (LD,QW,(uU:aM),(⟨hU.files,hU.entries,hU.conflicts⟩:cT)) [1,2,4,6,9,11,13] (fun _ _ h=>h) hS rfl
 rintro ⟨aFU,a3R,aEE,aYz⟩ hS
 obtain ⟨b92,hS⟩:=bM hS
 refine ZX ?_
 obtain ⟨aKK,aVf,hS⟩:=mB hS
 refine Zu (nO rfl rfl b92 aVf) ?_
 refine ZX ?_
 refine Zq (Zb (ZX ?_))
 refine oD hS (fun _ hS=>ZE hS) fun h93 hS=>ZX ?_
 refine VC.aV [2,4,9,11,13,14,98] ?_
 refine Zc hS (fun _ hS=>ZE hS) fun h98 hS=>ZX ?_
 refine jK hS rfl fun aMx hS=>ZX ?_
 refine iZ hS (fun h111 hS => ?_) (fun h111 hS => ?_)
 ·
  refine ZX ?_
  cases hS
  exact VC.ret (Z4 (aA,false,(Er.no 4)) rfl)
 refine ZX ?_
 refine mS hS fun bBL hS=>Zm ?_
 refine fR hS rfl fun aNu hS=>ZX ?_
 cases hS
 exact VC.ret (Z4 (aNu,false,.nil) rfl)
instance aYm (aFC:Int) (e_1:Int) :
 jZ Tryz.prog 317 [i64 aFC,i64 e_1] (Sh.D8 aFC e_1) Mo.tt (X:=Er) (fun x=>x.val) (fun x=>x.pl) (fun x=>x.ok):=by
 refine j6 Tryz.func317 Tryz.ntmps317 fun r hS c => ?_
 unfold Sh.D8 at hS
 refine ZX ?_
 refine Zu (cG (vs:=[(0,str [115,116,101,112]),(1,i64 aFC),(2,(Er.no e_1).val)]) (cs := #[str [115,116,101,112],i64 aFC,(Er.no e_1).val]) rfl (by kernel_rfl)) ?_
 refine kU fun a6X => ?_
 refine VL.FB a6X ?_
 refine ZX ?_
 cases hS
 exact VC.ret (Z1 (Er.fault a6X [115,116,101,112] aFC (Er.no e_1)))
instance a0T (aA:bK) (g_1:Sv (Sv Int)) (aAw:Bool) :
 gF Tryz.prog 318 [.agg #[str aA.verb,i64 aA.cC,str aA.text],g_1.val,.bool aAw] (Sh.JY aA (g_1.l.map Sv.l) aAw) g_1.ok (fun r=>i64 r):=by
 refine gM Tryz.func318 Tryz.ntmps318 fun r hS c => ?_
 unfold Sh.JY at hS
 refine cI (kU fun uO=>ZX ?_)
 refine jK hS rfl fun l9 hS=>ZO ?_
 refine Zl ?_
 refine VC.aV [1,2,3,7,8] (Zq (Zb (ZX ?_)))
 refine iZ hS (fun _ hS=>ZE hS) fun h15 hS => ?_
 refine VC.cJ [2,8] (fun (aDU:Bool)=>aDU) (fun aDU ρ=>(18,.bool aDU)::ρ) hS ?_ ?_
 ·
  intro k4 hS
  refine Zr (Zu (bU CG rfl) (Zu (lB o5 rfl rfl) (Zu (rW rfl rfl) (Zm ?_))))
  refine nT 22 hS (fun _ hS=>ZE hS) fun h22 hS => ?_
  refine ZX ?_
  refine Zh (vV Sv.l (s:=g_1) Tryz.underlying318 rfl) ?_
  refine Zh (zC rfl rfl) ?_
  refine Zf ?_
  refine Zm ?_
  refine nT 29 hS (fun _ hS=>ZE hS) fun h29 hS => ?_
  obtain ⟨b33,hS⟩:=bM hS
  refine ZX ?_
  obtain ⟨aKQ,aPo,aJA,hS⟩:=zW hS
  refine VL.deep aKQ.ok aJA (fun _ q=>q) ?_
  refine Zh (jA (s:=g_1) Tryz.underlying318 aFn rfl rfl aPo (bR aPo aJA)) ?_
  refine Zh (I4  (s:=g_1) XJ rfl aJA rfl) ?_
  refine ZX ?_
  refine VL.mt (decide (1 < (aKQ.l.length:Int))) [18,2,8] (fun _ _ h=>h) hS rfl
 rintro aDU hS
 refine iZ hS (fun _ hS=>ZE hS) fun h18 hS => ?_
 exact VC.cJ [] (fun (aGl:Bool)=>aGl) (fun aGl ρ=>(39,.bool aGl)::ρ) hS (fun _ hS=>ZE hS) fun _ hS=>ZE hS
instance aYk (dR:Sv bK) (g_1:Sv (Sv Int)) :
 jZ Tryz.prog 265 [dR.val,g_1.val] (Sh.HK dR.l (g_1.l.map Sv.l)) (dR.ok.and g_1.ok) (X:=Er) (fun x=>x.val) (fun x=>x.pl) (fun x=>x.ok):=by
 refine j6 Tryz.func265 Tryz.ntmps265 fun r hS c => ?_
 unfold Sh.HK at hS
 refine ZX ?_
 refine Zq (ZX ?_)
 refine Zc hS (fun _ hS=>ZE hS) fun h11 hS=>ZX ?_
 refine Zq (ZX ?_)
 refine Zb ?_
 refine VC.iJ [1,13,14] (fun (sg:Bool×Int)=>(sg.1,sg.2)) (fun sg ρ=>(5,.bool sg.1)::(15,i64 sg.2)::ρ) (true,0) [5,15,1,13,14] hS ?_
 rintro ⟨aCb,CR⟩ m1 y1 hS hK1
 refine ZX ?_
 refine Zq (Zc hS (fun h16 hS => ?_) (fun h16 hS => ?_))
 ·
  refine Zk ?_
  refine Zq (Zb (ZX ?_))
  refine yH hS rfl fun aKM bBi hS=>ZX ?_
  refine dJ fun aHf=>ZX ?_
  refine Zq (ZX ?_)
  refine jK hS rfl fun OH hS=>Za ?_
  refine Zl ?_
  refine VC.aV [1,5,13,14,15,7,6,8] (ZX ?_)
  refine oD hS (fun _ hS=>ZE hS) fun h25 hS=>Zk ?_
  refine Zr (Zm (Zm ?_))
  refine xZ 30 hS (fun h30 hS => ?_) (fun h30 hS => ?_)
  ·
   refine ZO ?_
   refine Zl ?_
   refine VC.aV [1,5,13,14,15] ?_
   obtain ⟨b35,hS⟩:=bM hS
   refine Zr (ZX ?_)
   refine VL.kL ((decide (aKM.verb=[100,114,111,112])),(CR+1)) [5,15,1,13,14] (fun _ _ h=>h) (go2 hS hK1) rfl
  refine VL.runs 5 [(5,some false)] (by kernel_rfl) ?_
  refine Zl ?_
  refine VC.keep (ρ':=[(1,g_1.val),(13,dR.val),(14,i64 (dR.l.length:Int)),(15,i64 CR),(5,.bool false)]) [1,13,14,15,5] rfl ?_
  obtain ⟨b35,hS⟩:=bM hS
  refine Zr (ZX ?_)
  refine VL.kL (false,(CR+1)) [5,15,1,13,14] (fun _ _ h=>h) (go2 hS hK1) rfl
 replace hS:=kS hS hK1
 refine Zx ?_
 refine ZX ?_
 cases hS
 exact VC.ret (Z1 .nil)
instance YZ (aA:Sv bK) :
 vL Tryz.prog 266 [aA.val] (Sh.jR aA.l) aA.ok (Ow.emp) (X:=Sv bK) (fun x=>x.val) (fun x=>x.l) (fun x=>Mo.tt) (fun x=>Sv.own x 139):=by
 refine v8 Tryz.func266 Tryz.ntmps266 fun r hS c => ?_
 unfold Sh.jR at hS
 refine ZX ?_
 refine Zq (ZX ?_)
 refine Zu (LG (s:=aA) Tryz.underlying31 rfl) ?_
 refine Zl ?_
 refine VC.slnil (s:=aA) rfl (fun h4 => ?_) ?_
 ·
  have hS:(some [])=some r:=by
    simp [lt,gd,h4] at hS ⊢
    try exact hS
  refine cI (Za ?_)
  refine Zl ?_
  refine VC.mR (⟨none,0,[]⟩:Sv bK) 139 ⟨rfl,rfl⟩ ?_
  cases hS
  exact VC.ret (Z1 ⟨none,0,[]⟩)
 refine ZX ?_
 refine VL.aEA (α:=bK) Tryz.underlying31 aWX (by decide) (fun ME wE BF => ?_)
 refine VL.mR ME 139 ⟨BF,wE⟩ ?_
 replace hS:=dZ wE hS
 exact ZE hS
instance aUV (aA:aM) (dI:n4) :
 jZ Tryz.prog 177 [.agg (aJ aA).toArray,.agg #[str dI.verb,str dI.name,i64 dI.n,str dI.text,.bool dI.force,dI.todo.val]] (Sh.BO aA.pl dI.pl) (aA.m.and (dI.todo.ok.and Gl)) (X:=aM×Bool×Er) (fun x => .tuple #[.agg (bD.enc x.1).toArray,.bool x.2.1,x.2.2.val]) (fun x=>(x.1.pl,x.2.1,x.2.2.pl)) (fun x=>(x.1.m.and x.2.2.ok)):=by
 refine j6 Tryz.func177 Tryz.ntmps177 fun r hS c => ?_
 unfold Sh.BO at hS
 refine cI ?_
 refine qA (aJ aA) fun iV => ?_
 refine kU fun gL=>dJ fun CW=>ZX ?_
 refine Zq (ZX ?_)
 refine fR hS rfl fun ⟨aX2,aX3⟩ hS => ?_
 try dsimp only
 refine ZX ?_
 refine dJ fun aHf=>ZO ?_
 refine Zl ?_
 refine VC.aV [2,3,4,8] (ZX ?_)
 refine iZ hS (fun h18 hS => ?_) (fun h18 hS => ?_)
 ·
  refine ZX ?_
  cases hS
  exact VC.ret (Z4 (aA,false,(Er.no 1)) rfl)
 refine Zk ?_
 refine Zq (Zq ?_)
 refine iB [(0,true),(1,true),(2,true),(3,false),(4,false),(5,true)] ?_
 refine ZX ?_
 refine VD.one rfl (fR hS rfl fun bAt hS=>eO (Pk 1 (Pk 0 Pz)) ?_)
 refine VD.one rfl (fR hS rfl fun bAv hS=>eV ?_)
 refine ZD ?_
 refine uD ?_
 refine VC.aV [2,3,4,9] (ZX ?_)
 refine oD hS (fun h27 hS => ?_) (fun h27 hS => ?_)
 ·
  refine Zq ?_
  refine iB [(0,true),(1,true),(2,false),(3,false),(4,true),(5,true)] ?_
  refine ZX ?_
  refine VD.one rfl (fR hS rfl fun aM5 hS=>eO (Pk 0 Pz) ?_)
  refine VD.one rfl (ZX ?_)
  refine eV ?_
  exact ZE hS
 refine Zk ?_
 refine Zq (Zb (ZX ?_))
 refine VC.aV [2,3,4,31] (Zc hS (fun h31 hS => ?_) (fun h31 hS => ?_))
 ·
  refine ZX ?_
  cases hS
  exact VC.ret (Z4 (aA,false,(Er.no 7)) rfl)
 refine VC.cJ [2,3,4] (fun (aDa:Bool)=>aDa) (fun aDa ρ=>(39,.bool aDa)::ρ) hS ?_ ?_
 ·
  intro k10 hS
  refine Zr (ZX ?_)
  refine jK hS rfl fun aQ8 hS => ?_
  refine Zu (N2 rfl) (Zm ?_)
  refine xZ 43 hS (fun _ hS=>ZE hS) fun h43 hS => ?_
  refine ZX ?_
  obtain ⟨aQb,aVR,hS⟩:=cS hS
  refine Zh (dU ((WA aA).out aVR) rfl (fun _ _=>rfl)) ?_
  exact ZE hS
 rintro aDa hS
 refine iZ hS (fun h39 hS => ?_) (fun h39 hS => ?_)
 ·
  refine ZX ?_
  cases hS
  exact VC.ret (Z4 (aA,false,(Er.no 8)) rfl)
 refine Zk ?_
 refine Zq (Zq ?_)
 refine iB [(0,true),(1,true),(2,true),(3,true),(4,false),(5,true),(6,false),(7,true),(8,true),(9,true),(10,false),(11,true)] ?_
 refine ZX ?_
 refine VD.one rfl (fR hS rfl fun aCy hS=>eO (Pk 0 Pz) ?_)
 refine Zw rfl (cG (vs:=[(0,aCy.val)]) (cs := #[aCy.val,.slice none 0 0,.slice none 0 0]) rfl (by kernel_rfl)) ?_
 refine VD.one rfl (I1 hS (PY aA (⟨aCy,⟨none,0,[]⟩,⟨none,0,[]⟩⟩:cT)).out fun ⟨HC,a9d⟩ hS => ?_)
 try dsimp only
 refine eV ?_
 refine ZX ?_
 refine VD.one rfl (ZX ?_)
 refine eO (Pk 9 Pz) ?_
 refine ZD ?_
 refine uD ?_
 refine VC.aV [2,3,4,6] (ZX ?_)
 refine oD hS (fun _ hS=>ZE hS) fun h61 hS=>Zk ?_
 refine Zq ?_
 refine iB [(0,true),(1,true),(3,true),(4,true),(5,true),(6,true),(7,true),(8,true),(9,true),(10,true),(11,true),(12,true),(13,true),(14,true),(15,true),(2,false),(16,true),(17,true),(18,true),(19,false)] ?_
 refine ZX ?_
 refine Zw rfl (mG (j:=3) (n:=2) EK rfl rfl rfl) ?_
 refine ZX ?_
 refine VD.one rfl (fM hS rfl fun XQ hS => ?_)
 refine QT [(15,aA.aY.val),(14,ptr iV 0),(13,ptr iV 0),(12,aA.aU.val),(11,ptr iV 1),(10,ptr iV 0),(9,.agg #[str aA.aI,i64 aA.aG]),(8,ptr iV 3),(7,ptr iV 0),(6,str aA.aI),(5,ptr iV 3),(4,ptr iV 3),(3,ptr iV 0)] (bT.cons rfl (lB BE rfl rfl) (bT.cons rfl (bU aLG rfl) (bT.cons rfl (bU oY rfl) (bT.cons rfl (lB aBE rfl rfl) (bT.cons rfl (bU aBB rfl) (bT.cons rfl (bU oY rfl) (bT.cons rfl (mG (j:=3) (n:=2) EK rfl rfl rfl) (bT.cons rfl (bU aFe rfl) (bT.cons rfl (bU oY rfl) (bT.cons rfl (lB mF rfl rfl) (bT.cons rfl (bU aLE rfl) (bT.cons rfl (bU aFe rfl) (bT.cons rfl (bU oY rfl) bT.nil))))))))))))) ?_
 refine Zw rfl (cG (vs:=[(0,str [114,101,98,97,115,101]),(4,XQ.val),(6,str aA.aI),(7,.agg #[str aA.aI,i64 aA.aG]),(8,aA.aU.val),(9,aA.aY.val)]) (cs := #[str [114,101,98,97,115,101],i64 0,str [],.slice none 0 0,XQ.val,i64 0,str aA.aI,str aA.aI,i64 aA.aG,aA.aU.val,aA.aY.val]) rfl (by kernel_rfl)) ?_
 refine ZX ?_
 refine VD.one rfl (ZX ?_)
 refine eV ?_
 refine uD ?_
 refine VC.aV [3,4] (ZX ?_)
 refine Zu (cG (vs:=[(1,i64 dI.n)]) (cs := #[str [],i64 dI.n]) rfl (by kernel_rfl)) ?_
 refine ZX ?_
 refine VL.shut XQ 139 (fun _ _ _ _=>trivial) ?_
 exact I1 hS (N8 (⟨HC.aY,HC.aU,HC.bA,[],dI.n,[114,101,98,97,115,101],0,[],⟨none,0,[]⟩,XQ,0,aA.aI,aA.aI,aA.aG,aA.aU,aA.aY,HC.aX,HC.bC,HC.bE,HC.aZ,HC.time⟩:aM)).out fun ⟨a9t,a9u,a9v⟩ hS=>ZE hS
instance a0K (aA:aM) (dI:n4) :
 jZ Tryz.prog 175 [.agg (aJ aA).toArray,.agg #[str dI.verb,str dI.name,i64 dI.n,str dI.text,.bool dI.force,dI.todo.val]] (Sh.GP aA.pl dI.pl) (aA.m.and (dI.todo.ok.and Gl)) (X:=aM×Bool×Er) (fun x => .tuple #[.agg (bD.enc x.1).toArray,.bool x.2.1,x.2.2.val]) (fun x=>(x.1.pl,x.2.1,x.2.2.pl)) (fun x=>(x.1.m.and x.2.2.ok)):=by
 refine j6 Tryz.func175 Tryz.ntmps175 fun r hS c => ?_
 unfold Sh.GP at hS
 refine cI ?_
 refine qA (aJ aA) fun iV => ?_
 refine kU fun gL=>dJ fun CW=>ZX ?_
 refine fR hS rfl fun ⟨mV,DP⟩ hS => ?_
 try dsimp only
 refine ZX ?_
 refine dJ fun aHf=>ZO ?_
 refine Zl ?_
 refine VC.aV [2,3,4,7,8] (Zq (Zb ?_))
 refine VC.cJ [2,3,4,7] (fun (aDV:Bool)=>aDV) (fun aDV ρ=>(20,.bool aDV)::ρ) hS ?_ ?_
 ·
  intro k7 hS
  refine Zr (Zm (Zu (N2 rfl) (Zm ?_)))
  refine xZ 23 hS (fun _ hS=>ZE hS) fun h23 hS => ?_
  refine ZX ?_
  refine VL.mt (decide (1 < (mV.parents.l.length:Int))) [20,2,3,4,7] (fun _ _ h=>h) hS rfl
 rintro aDV hS
 refine iZ hS (fun h20 hS => ?_) (fun h20 hS => ?_)
 ·
  refine ZX ?_
  cases hS
  exact VC.ret (Z4 (aA,false,(Er.no 1)) rfl)
 refine ZX ?_
 refine Zc hS (fun h31 hS => ?_) (fun h31 hS => ?_)
 ·
  refine ZX ?_
  cases hS
  exact VC.ret (Z4 (aA,false,(Er.no 7)) rfl)
 refine ZX ?_
 refine jK hS rfl fun aZ7 hS=>ZX ?_
 refine VC.aV [2,3,4,7,39] (iZ hS (fun h39 hS => ?_) (fun h39 hS => ?_))
 ·
  refine ZX ?_
  cases hS
  exact VC.ret (Z4 (aA,false,(Er.no 8)) rfl)
 refine Zk ?_
 refine Zq ?_
 refine iB [(0,true),(1,true),(2,true),(4,true),(5,true),(6,true),(7,true),(3,false),(8,true),(9,true),(10,true)] ?_
 refine ZX ?_
 refine VD.one rfl (fR hS rfl fun aM7 hS=>eO (Pk 7 (Pk 6 (Pk 5 (Pk 4 Pz)))) ?_)
 refine ZD ?_
 refine uD ?_
 refine VC.aV [2,3,4,9,10,11] ?_
 refine VC.cJm [2,3,4] (fun (sg:Sv aC×Sv aC×bH)=>(sg.1.l,sg.2.1.l,sg.2.2)) (fun sg ρ=>(9,sg.1.val)::(10,sg.2.1.val)::(11,str sg.2.2)::ρ) (fun sg=>(sg.1.ok.and sg.2.1.ok)) hS ?_ ?_
 ·
  intro k13 hS
  refine ZX ?_
  refine Zc hS (fun h55 hS => ?_) (fun h55 hS => ?_)
  ·
   obtain ⟨b59,hS⟩:=bM hS
   refine Zr (ZX ?_)
   obtain ⟨aQu,aV8,hS⟩:=mB hS
   refine Zu (nO rfl rfl b59 aV8) ?_
   refine jK hS rfl fun aJz hS=>ZX ?_
   refine VL.mt (mV.tree,aM7,aJz) [9,10,11,2,3,4] (fun _ _ h=>h) hS rfl
  refine VC.rY (aM7,mV.tree,mV.text) [9,10,11,2,3,4] (fun _ _ h=>h) hS rfl
 rintro ⟨XB,MP,S8⟩ hS
 refine VC.u5 (S:=Er×Nat×aM×cT) (fun sg=>(sg.1.pl,(),sg.2.2.1.pl,sg.2.2.2.pl)) (fun sg=>[(2,ptr iV 0),(3,ptr gL 0),(4,ptr CW 0),(6,sg.1.val),(11,str S8),(12,ptr sg.2.1 0)]) (fun sg=>(sg.1.ok.and (sg.2.2.1.m.and sg.2.2.2.m))) (fun sg=>Ow.star (bN aHf [mV.tree.val,mV.parents.val,i64 mV.time,str mV.text] 59) (Ow.star (bN CW (aJ sg.2.2.1) 43) (Ow.star (bN gL [str dI.verb,str dI.name,i64 dI.n,str dI.text,.bool dI.force,dI.todo.val] 83) (Ow.star (bN iV (aJ aA) 43) (Ow.star (bN sg.2.1 [sg.2.2.2.files.val,sg.2.2.2.entries.val,sg.2.2.2.conflicts.val] 300) (Ow.emp)))))) hS ?_ ?_
 ·
  intro k20 hS
  refine VC.GH (n:=9) (listed:=bl 15 63) [(0,true),(1,true),(2,true),(3,true),(4,true),(5,true)] mixed (by kernel_rfl) (by kernel_rfl) (by kernel_rfl) (by kernel_rfl) ?_
  refine VD.q rfl (rA qC rfl rfl) (by decide) ?_
  refine VD.q rfl (fQ rfl) (by decide) ?_
  refine VD.q rfl (fQ rfl) (by decide) ?_
  refine VD.q rfl (bU aFg rfl) (by decide) ?_
  refine VD.q rfl (lB o5 rfl rfl) (by decide) ?_
  obtain ⟨b67,hS⟩:=bM hS
  refine VD.q rfl (dU (lP dI.n b67) rfl (fun _ _=>rfl)) (by decide) ?_
  obtain ⟨YM,aKt,hS⟩:=cS hS
  refine VD.TB fun hcl => ?_
  refine VG.fork (l:=[6,11]) (n:=8) (by kernel_rfl) rfl fun i hi => ?_
  obtain rfl | rfl:i=6∨i=11:=by simpa using hi
  ·
   refine qG.of rfl ?_
   refine VL.jN ((iF aA XB MP (kO dI.n)).out aKt) rfl (by decide) ?_
   rintro ⟨DU,lE,V4⟩ rfl
   try dsimp only
   refine zU (bl 15 127) Pz ?_
   refine VG.ord [(7,true),(8,true),(9,true),(10,true),(11,false),(12,false),(13,false),(14,true)] (by kernel_rfl) (eL (by kernel_rfl)) (by kernel_rfl) ?_
   refine ZX ?_
   refine VD.one rfl (dJ fun aC5=>eO (Pk 10 (Pk 9 (Pk 8 (Pk 7 Pz)))) ?_)
   refine VD.one rfl ?_
   refine Zv  (vc:=(aJ DU)) (cs':=(aJ DU)) rfl qL ?_
   refine eO (Pk 10 (Pk 9 Pz)) ?_
   refine VD.one rfl ?_
   refine Zv  (vc:=[lE.files.val,lE.entries.val,lE.conflicts.val]) (cs':=[lE.files.val,lE.entries.val,lE.conflicts.val]) rfl uF ?_
   refine eO (Pk 10 Pz) ?_
   refine ZX ?_
   refine VD.mt (V4,aC5,(DU:aM),(⟨lE.files,lE.entries,lE.conflicts⟩:cT)) [2,3,4,6,11,12] (fun _ _ h=>h) hS rfl
  refine qG.of rfl ?_
  refine dJ fun aC5 => ?_
  refine VL.E8 (D':=[(5,str (kO dI.n)),(4,i64 dI.n),(3,ptr gL 2),(0,.agg (aJ aA).toArray)]) (listed' := #[true,true,true,true,true,true,false,false,false,false,false,true,false,false,false]) (bT.cons rfl (dU (lP dI.n b67) rfl (fun _ _=>rfl)) (bT.cons rfl (lB o5 rfl rfl) (bT.cons rfl (bU aFg rfl) (bT.cons rfl (rA qC rfl rfl) (bT.nil))))) (by kernel_rfl) (by kernel_rfl) ?_
  refine VG.ord [(6,false),(7,true),(8,true),(9,true),(10,true),(12,false),(13,false),(14,true)] (by kernel_rfl) (eL (by kernel_rfl)) (by kernel_rfl) ?_
  refine VD.one rfl ?_
  refine VL.jN ((iF aA XB MP (kO dI.n)).out aKt) rfl (by decide) ?_
  rintro ⟨DU,lE,V4⟩ rfl
  try dsimp only
  refine eV ?_
  refine ZX ?_
  refine VD.one rfl ?_
  refine Zv  (vc:=(aJ DU)) (cs':=(aJ DU)) rfl qL ?_
  refine eO (Pk 10 (Pk 9 Pz)) ?_
  refine VD.one rfl ?_
  refine Zv  (vc:=[lE.files.val,lE.entries.val,lE.conflicts.val]) (cs':=[lE.files.val,lE.entries.val,lE.conflicts.val]) rfl uF ?_
  refine eO (Pk 10 Pz) ?_
  refine ZX ?_
  refine VD.mt (V4,aC5,(DU:aM),(⟨lE.files,lE.entries,lE.conflicts⟩:cT)) [2,3,4,6,11,12] (fun _ _ h=>h) hS rfl
 rintro ⟨aFV,a3Q,aEF,aMt⟩ hS
 refine Zq (Zb (ZX ?_))
 refine oD hS (fun _ hS=>ZE hS) fun h72 hS=>ZX ?_
 refine VC.aV [2,3,4,11,12,77] ?_
 refine Zc hS (fun _ hS=>ZE hS) fun h77 hS=>Zq ?_
 refine iB [(0,true),(1,true),(2,true),(3,false),(4,true),(5,true)] ?_
 refine ZX ?_
 refine VD.one rfl (fR hS rfl fun aTl hS=>eO (Pk 1 (Pk 0 Pz)) ?_)
 obtain ⟨aRV,aVh,hS⟩:=cS hS
 refine Zw rfl (dU ((qK aMt.files aTl).out aVh) rfl (fun _ _=>rfl)) ?_
 refine ZX ?_
 refine VC.aV [2,4,11,12,93] (iZ hS (fun h93 hS => ?_) (fun h93 hS => ?_))
 ·
  refine ZX ?_
  cases hS
  exact VC.ret (Z4 (aA,false,(Er.no 10)) rfl)
 refine ZX ?_
 refine jK hS rfl fun aMw hS=>ZX ?_
 refine iZ hS (fun h101 hS => ?_) (fun h101 hS => ?_)
 ·
  refine ZX ?_
  cases hS
  exact VC.ret (Z4 (aA,false,(Er.no 4)) rfl)
 refine Zk ?_
 refine Zq ?_
 refine iB [(0,true),(1,true),(2,true),(3,true),(5,true),(4,false),(6,false),(7,false),(8,true),(9,true)] ?_
 refine ZX ?_
 refine VD.one rfl (fM hS rfl fun aNs hS=>eO (Pk 2 (Pk 1 (Pk 0 Pz))) ?_)
 refine VD.one rfl ?_
 refine VL.shut aNs 3 (fun _ _ _ _=>trivial) ?_
 refine fR hS rfl fun aNt hS=>eV ?_
 refine VD.one rfl (ZX ?_)
 refine eV ?_
 refine ZX ?_
 cases hS
 exact VC.ret (Z4 (aNt,false,.nil) rfl)
instance aNJ (aA:Sv bL) (n_1:Int) :
 jZ Tryz.prog 263 [aA.val,i64 n_1] (Sh.xA (aA.l.map bL.pl) n_1) aA.ok (X:=bL×Int) (fun x => .tuple #[.agg (bD.enc x.1).toArray,i64 x.2]) (fun x=>(x.1.pl,x.2)) (fun x=>x.1.m):=by
 refine j6 Tryz.func263 Tryz.ntmps263 fun r hS c => ?_
 unfold Sh.xA at hS
 refine cI (dJ fun Y5=>ZX ?_)
 refine Zq (ZX ?_)
 refine jK hS rfl fun nE hS=>ZX ?_
 refine iZ hS (fun h9 hS => ?_) (fun h9 hS => ?_)
 ·
  refine cI ?_
  refine Zu (cG (vs:=[]) (cs := #[i64 0,.slice none 0 0,.slice none 0 0,str []]) rfl (by kernel_rfl)) ?_
  refine ZX ?_
  cases hS
  exact VC.ret (Z4 (⟨0,⟨none,0,[]⟩,⟨none,0,[]⟩,[]⟩,1) rfl)
 refine ZX ?_
 obtain ⟨QI,aBS,SK,hS⟩:=zW hS
 refine VL.deep QI.m SK (fun _ q=>q) ?_
 refine Zu (jA (s:=aA) Tryz.underlying35 oA rfl rfl aBS (bR aBS SK)) (Zu (nF  (s:=aA) Q4 rfl rfl SK) ?_)
 refine I1 hS (aEO QI).out fun FT hS=>ZX ?_
 cases hS
 exact VC.ret (Z4 (⟨FT.base,FT.index,FT.work,FT.text⟩,0) rfl)
instance aTr (aA:aM) (dI:n4) :
 jZ Tryz.prog 176 [.agg (aJ aA).toArray,.agg #[str dI.verb,str dI.name,i64 dI.n,str dI.text,.bool dI.force,dI.todo.val]] (Sh.zG aA.pl dI.pl) (aA.m.and dI.todo.ok) (X:=aM×Bool×Er) (fun x => .tuple #[.agg (bD.enc x.1).toArray,.bool x.2.1,x.2.2.val]) (fun x=>(x.1.pl,x.2.1,x.2.2.pl)) (fun x=>(x.1.m.and x.2.2.ok)):=by
 refine j6 Tryz.func176 Tryz.ntmps176 fun r hS c => ?_
 unfold Sh.zG at hS
 refine cI ?_
 refine qA (aJ aA) fun iV => ?_
 refine kU fun gL=>dJ fun CW=>ZX ?_
 refine fR hS rfl fun ⟨xJ,aMY⟩ hS => ?_
 try dsimp only
 refine ZX ?_
 refine dJ fun aHf=>ZO ?_
 refine Zl ?_
 refine VC.aV [2,3,4,7,8] (Zq (Zb (ZX ?_)))
 refine oD hS (fun h21 hS => ?_) (fun h21 hS => ?_)
 ·
  refine ZX ?_
  cases hS
  exact VC.ret (Z4 (aA,false,(Er.no aMY)) rfl)
 refine ZX ?_
 refine jK hS rfl fun J9 hS=>ZX ?_
 refine VC.aV [2,3,4,7,27] (iZ hS (fun h27 hS => ?_) (fun h27 hS => ?_))
 ·
  refine ZX ?_
  cases hS
  exact VC.ret (Z4 (aA,false,(Er.no 8)) rfl)
 refine Zk ?_
 refine VC.u5 (S:=Er×Nat×aM×cT) (fun sg=>(sg.1.pl,(),sg.2.2.1.pl,sg.2.2.2.pl)) (fun sg=>[(2,ptr iV 0),(3,ptr gL 0),(4,ptr CW 0),(6,sg.1.val),(9,ptr sg.2.1 0)]) (fun sg=>(sg.1.ok.and (sg.2.2.1.m.and sg.2.2.2.m))) (fun sg=>Ow.star (bN aHf [i64 xJ.base,xJ.index.val,xJ.work.val,str xJ.text] 142) (Ow.star (bN CW (aJ sg.2.2.1) 43) (Ow.star (bN gL [str dI.verb,str dI.name,i64 dI.n,str dI.text,.bool dI.force,dI.todo.val] 83) (Ow.star (bN iV (aJ aA) 43) (Ow.star (bN sg.2.1 [sg.2.2.2.files.val,sg.2.2.2.entries.val,sg.2.2.2.conflicts.val] 300) (Ow.emp)))))) hS ?_ ?_
 ·
  intro k11 hS
  refine VC.GH (n:=10) (listed:=bl 16 111) [(0,true),(1,true),(2,true),(3,true),(5,true),(6,true)] mixed (by kernel_rfl) (by kernel_rfl) (by kernel_rfl) (by kernel_rfl) ?_
  refine VD.q rfl (rA qC rfl rfl) (by decide) ?_
  refine VD.q rfl (rA qC rfl rfl) (by decide) ?_
  refine VD.q rfl (bU XG rfl) (by decide) ?_
  refine VD.q rfl (lB o5 rfl rfl) (by decide) ?_
  refine VD.q rfl (bU aHl rfl) (by decide) ?_
  refine VD.q rfl (lB BE rfl rfl) (by decide) ?_
  obtain ⟨aCF,Q3,hS⟩:=cS hS
  obtain ⟨YJ,aFW,hS⟩:=cS hS
  refine VD.TB fun hcl => ?_
  refine VG.fork (l:=[4,12]) (n:=9) (by kernel_rfl) rfl fun i hi => ?_
  obtain rfl | rfl:i=4∨i=12:=by simpa using hi
  ·
   refine qG.of rfl ?_
   refine VL.jN ((IK aA xJ.base).out Q3) rfl (by decide) ?_
   rintro O5 rfl
   try dsimp only
   refine zU (bl 16 127) (Pk 6 (Pk 5 (Pk 0 Pz))) ?_
   refine VG.fork (l:=[7,12]) (n:=8) (by kernel_rfl) rfl fun i hi => ?_
   obtain rfl | rfl:i=7∨i=12:=by simpa using hi
   ·
    refine qG.of rfl ?_
    refine VL.jN ((iF aA O5 xJ.work [115,116,97,115,104]).out aFW) rfl (by decide) ?_
    rintro ⟨uS,hO,LC⟩ rfl
    try dsimp only
    refine zU (bl 16 255) Pz ?_
    refine VG.ord [(8,true),(9,true),(10,true),(11,true),(12,false),(13,false),(14,false),(15,true)] (by kernel_rfl) (eL (by kernel_rfl)) (by kernel_rfl) ?_
    refine ZX ?_
    refine VD.one rfl (dJ fun UX=>eO (Pk 11 (Pk 10 (Pk 9 (Pk 8 Pz)))) ?_)
    refine VD.one rfl ?_
    refine Zv  (vc:=(aJ uS)) (cs':=(aJ uS)) rfl qL ?_
    refine eO (Pk 11 (Pk 10 Pz)) ?_
    refine VD.one rfl ?_
    refine Zv  (vc:=[hO.files.val,hO.entries.val,hO.conflicts.val]) (cs':=[hO.files.val,hO.entries.val,hO.conflicts.val]) rfl uF ?_
    refine eO (Pk 11 Pz) ?_
    refine ZX ?_
    refine VD.mt (LC,UX,(uS:aM),(⟨hO.files,hO.entries,hO.conflicts⟩:cT)) [2,3,4,6,9] (fun _ _ h=>h) hS rfl
   refine qG.of rfl ?_
   refine dJ fun UX => ?_
   refine zU (bl 16 4223) (Pk 6 (Pk 5 (Pk 0 Pz))) ?_
   refine VG.ord [(7,false),(8,true),(9,true),(10,true),(11,true),(13,false),(14,false),(15,true)] (by kernel_rfl) (eL (by kernel_rfl)) (by kernel_rfl) ?_
   refine VD.one rfl ?_
   refine VL.jN ((iF aA O5 xJ.work [115,116,97,115,104]).out aFW) rfl (by decide) ?_
   rintro ⟨uS,hO,LC⟩ rfl
   try dsimp only
   refine eV ?_
   refine ZX ?_
   refine VD.one rfl ?_
   refine Zv  (vc:=(aJ uS)) (cs':=(aJ uS)) rfl qL ?_
   refine eO (Pk 11 (Pk 10 Pz)) ?_
   refine VD.one rfl ?_
   refine Zv  (vc:=[hO.files.val,hO.entries.val,hO.conflicts.val]) (cs':=[hO.files.val,hO.entries.val,hO.conflicts.val]) rfl uF ?_
   refine eO (Pk 11 Pz) ?_
   refine ZX ?_
   refine VD.mt (LC,UX,(uS:aM),(⟨hO.files,hO.entries,hO.conflicts⟩:cT)) [2,3,4,6,9] (fun _ _ h=>h) hS rfl
  refine qG.of rfl ?_
  refine dJ fun UX => ?_
  refine zU (bl 16 4207) (Pk 6 (Pk 5 (Pk 3 (Pk 2 (Pk 1 (Pk 0 Pz)))))) ?_
  refine VG.ord [(4,false),(7,false),(8,true),(9,true),(10,true),(11,true),(13,false),(14,false),(15,true)] (by kernel_rfl) (eL (by kernel_rfl)) (by kernel_rfl) ?_
  refine VD.one rfl ?_
  refine VL.jN ((IK aA xJ.base).out Q3) rfl (by decide) ?_
  rintro O5 rfl
  try dsimp only
  refine eO (Pk 6 (Pk 5 (Pk 0 Pz))) ?_
  refine VD.one rfl ?_
  refine VL.jN ((iF aA O5 xJ.work [115,116,97,115,104]).out aFW) rfl (by decide) ?_
  rintro ⟨uS,hO,LC⟩ rfl
  try dsimp only
  refine eV ?_
  refine ZX ?_
  refine VD.one rfl ?_
  refine Zv  (vc:=(aJ uS)) (cs':=(aJ uS)) rfl qL ?_
  refine eO (Pk 11 (Pk 10 Pz)) ?_
  refine VD.one rfl ?_
  refine Zv  (vc:=[hO.files.val,hO.entries.val,hO.conflicts.val]) (cs':=[hO.files.val,hO.entries.val,hO.conflicts.val]) rfl uF ?_
  refine eO (Pk 11 Pz) ?_
  refine ZX ?_
  refine VD.mt (LC,UX,(uS:aM),(⟨hO.files,hO.entries,hO.conflicts⟩:cT)) [2,3,4,6,9] (fun _ _ h=>h) hS rfl
 rintro ⟨aAq,bBJ,eR,aYy⟩ hS
 refine Zq (ZX ?_)
 refine oD hS (fun _ hS=>ZE hS) fun h46 hS=>Zk ?_
 refine Zq (ZX ?_)
 refine fR hS rfl fun a92 hS=>ZX ?_
 refine Zb ?_
 refine VC.iJb [3,4,6,9,50,51] (fun (sg:Int×Sv aH)=>(sg.1,sg.2.l)) (fun sg ρ=>(52,i64 sg.1)::ρ) (fun sg=>sg.2.ok) CW (fun sg=>[eR.aY.val,sg.2.val,eR.bA.val,str eR.aI,i64 eR.aG,str eR.aS,i64 eR.aO,str eR.aT,eR.aN.val,eR.aP.val,i64 eR.aQ,str eR.aK,str eR.aD,i64 eR.aE,eR.aL.val,eR.aR.val,eR.aX.val,eR.bC.val,eR.bE.val,eR.aZ.val,i64 eR.time]) (0,eR.aU) [52,3,4,6,9,50,51] hS ?_
 rintro ⟨MQ,NB⟩ m1 y1 hS hK1
 refine ZX ?_
 refine Zq (Zc hS (fun h53 hS => ?_) (fun h53 hS => ?_))
 ·
  refine Zk ?_
  refine Zq (Zb (cI (yH hS rfl fun C2 bA7 hS=>ZX ?_)))
  refine dJ fun bBb=>ZX ?_
  refine jK hS rfl fun aQv hS=>ZX ?_
  refine VC.aV [3,4,6,9,50,51,52,11,61] (iZ hS (fun h61 hS => ?_) (fun h61 hS => ?_))
  ·
   refine Zr (ZX ?_)
   refine Zu (cG (vs:=[(0,str C2.path),(2,i64 C2.mode),(3,str C2.data)]) (cs := #[str C2.path,i64 0,i64 C2.mode,str C2.data,i64 0,i64 0]) rfl (by kernel_rfl)) ?_
   refine I1 hS (PV NB (⟨C2.path,0,C2.mode,C2.data,0,0⟩:aH)).out fun aT4 hS=>ZO ?_
   refine Zl ?_
   refine VC.aV [3,4,6,9,50,51,52] ?_
   obtain ⟨b75,hS⟩:=bM hS
   refine Zr (ZX ?_)
   refine VL.kL ((MQ+1),aT4) [52,3,4,6,9,50,51] (fun _ _ h=>h) (go2 hS hK1) rfl
  obtain ⟨b75,hS⟩:=bM hS
  refine Zk ?_
  refine Zr (ZX ?_)
  refine VL.kL ((MQ+1),NB) [52,3,4,6,9,50,51] (fun _ _ h=>h) (go2 hS hK1) rfl
 replace hS:=kS hS hK1
 refine Zx ?_
 refine Zq (ZX ?_)
 refine VC.aV [3,4,6,79] (Zc hS (fun h79 hS => ?_) (fun h79 hS => ?_))
 ·
  refine ZX ?_
  cases hS
  exact VC.ret (Z4 (⟨eR.aY,NB,eR.bA,eR.aI,eR.aG,eR.aS,eR.aO,eR.aT,eR.aN,eR.aP,eR.aQ,eR.aK,eR.aD,eR.aE,eR.aL,eR.aR,eR.aX,eR.bC,eR.bE,eR.aZ,eR.time⟩,true,(Er.no 9)) rfl)
 refine Zk ?_
 refine VC.OM [4] (fun (sg:Er×aM)=>(sg.1.pl,sg.2.pl)) (fun sg ρ=>(6,sg.1.val)::ρ) (fun sg=>(sg.1.ok.and sg.2.m)) CW (fun sg=>(aJ sg.2)) hS ?_ ?_
 ·
  intro k23 hS
  refine ZX ?_
  refine Zc hS (fun h84 hS => ?_) (fun h84 hS => ?_)
  ·
   refine Zr (ZX ?_)
   refine I1 hS (aEL (⟨eR.aY,NB,eR.bA,eR.aI,eR.aG,eR.aS,eR.aO,eR.aT,eR.aN,eR.aP,eR.aQ,eR.aK,eR.aD,eR.aE,eR.aL,eR.aR,eR.aX,eR.bC,eR.bE,eR.aZ,eR.time⟩:aM) dI.n).out fun ⟨aTi,aTj⟩ hS => ?_
   try dsimp only
   refine ZX ?_
   refine VL.mt (aTj,(aTi:aM)) [6,4] (fun _ _ h=>h) hS rfl
  refine VC.rY (aAq,(⟨eR.aY,NB,eR.bA,eR.aI,eR.aG,eR.aS,eR.aO,eR.aT,eR.aN,eR.aP,eR.aQ,eR.aK,eR.aD,eR.aE,eR.aL,eR.aR,eR.aX,eR.bC,eR.bE,eR.aZ,eR.time⟩:aM)) [6,4] (fun _ _ h=>h) hS rfl
 rintro ⟨aKm,a6l⟩ hS
 exact ZE hS
end Go.Proofs.YtgdabkldgphdeaaGreatDoor
end

section
set_option linter.unusedVariables false
namespace Go.Proofs.YtgdabkldgphdeaaGreatDoor
set_option maxHeartbeats 4000000
set_option maxRecDepth 100000
set_option synthInstance.maxSize 2000
set_option synthInstance.maxHeartbeats 1000000
open Go.RowKit Go.V
open Go.S
attribute [local irreducible] Go.V.Qt Go.V.VL Go.V.VC Go.V.I0 Go.S.gd Go.S.at_ Go.S.lt Go.S.jn Go.S.go Go.S.up Go.S.iter Sh.wV Sh.zV Sh.C6 Sh.GG Sh.C7 Sh.oG Sh.fP Sh.fN Sh.pG Sh.CJ Sh.AP Sh.uV Sh.zD Sh.yC Sh.yD Sh.oM Sh.DV Sh.B7 Sh.N5 Sh.BH Sh.yS Sh.DW Sh.JQ Sh.nB Sh.BI Sh.BJ Sh.BK Sh.JR Sh.JS Sh.DY Sh.BN Sh.GP Sh.BO Sh.DZ Sh.D2 Sh.N7 Sh.JU Sh.wL Sh.GQ Sh.D3 Sh.D4 Sh.zG Sh.rX Sh.sV Sh.dN Sh.iT Sh.iU Sh.gS Sh.qZ Sh.BQ Sh.xU
instance:LQ Tryz.prog 22 (.slice 50):=⟨Tryz.underlying22⟩
instance a0H (aA:aM) (dI:n4) :
 jZ Tryz.prog 97 [.agg (aJ aA).toArray,.agg #[str dI.verb,str dI.name,i64 dI.n,str dI.text,.bool dI.force,dI.todo.val]] (Sh.JS aA.pl dI.pl) (aA.m.and (dI.todo.ok.and Gl)) (X:=aM×Bool×Er) (fun x => .tuple #[.agg (bD.enc x.1).toArray,.bool x.2.1,x.2.2.val]) (fun x=>(x.1.pl,x.2.1,x.2.2.pl)) (fun x=>(x.1.m.and x.2.2.ok)):=by
 refine j6 Tryz.func97 Tryz.ntmps97 fun r hS c => ?_
 unfold Sh.JS at hS
 refine cI ?_
 refine qA (aJ aA) fun iV => ?_
 refine kU fun gL=>dJ fun CW=>ZO ?_
 refine Zl ?_
 refine VC.OM [4] (fun (sg:Er×aM)=>(sg.1.pl,sg.2.pl)) (fun sg ρ=>(6,sg.1.val)::ρ) (fun sg=>(sg.1.ok.and sg.2.m)) CW (fun sg=>(aJ sg.2)) hS ?_ ?_
 ·
  intro k6 hS
  refine ZX ?_
  refine Zb (Zq (Zb ?_))
  refine VC.cJ [2,3,4] (fun (_:Unit)=>()) (fun _ ρ=>ρ) hS ?_ ?_
  ·
   intro k7 hS
   refine Zb (Zb ?_)
   refine VC.cJ [2,3,4] (fun (_:Unit)=>()) (fun _ ρ=>ρ) hS ?_ ?_
   ·
    intro k8 hS
    refine Zb (Zb (Zq (Zb (Zq (Zb (Zq (Zb (Zq (Zb (Zq (Zb (Zq (Zb (Zq (Zb (Zq (Zq (ZX ?_))))))))))))))))))
    refine Zc hS (fun h9 hS => ?_) (fun h9 hS => ?_)
    ·
     refine Zx ?_
     refine VC.aV [2,3,4] (ZX ?_)
     refine fR hS rfl fun ⟨aXw,aXx⟩ hS => ?_
     try dsimp only
     refine ZO ?_
     refine Zl ?_
     refine VC.aV [4,6] (VC.lX (aXx,(aXw:aM)) [6,4] (fun _ _ h=>h) hS rfl)
    refine Zk ?_
    refine VC.aV [2,3,4,8] (Zq (ZX ?_))
    refine Zc hS (fun h11 hS => ?_) (fun h11 hS => ?_)
    ·
     refine Zx ?_
     refine ZX ?_
     refine fR hS rfl fun ⟨CL,aTA⟩ hS => ?_
     try dsimp only
     refine ZO ?_
     refine Zl ?_
     refine VC.aV [4,6] (VC.lX (aTA,(CL:aM)) [6,4] (fun _ _ h=>h) hS rfl)
    refine Zk ?_
    refine Zq (ZX ?_)
    refine Zc hS (fun h13 hS => ?_) (fun h13 hS => ?_)
    ·
     refine Zx ?_
     refine ZX ?_
     refine fR hS rfl fun ⟨aTE,aTF⟩ hS => ?_
     try dsimp only
     refine ZO ?_
     refine Zl ?_
     refine VC.aV [4,6] (VC.lX (aTF,(aTE:aM)) [6,4] (fun _ _ h=>h) hS rfl)
    refine Zk ?_
    refine Zq (ZX ?_)
    refine Zc hS (fun h15 hS => ?_) (fun h15 hS => ?_)
    ·
     refine Zx ?_
     refine ZX ?_
     refine fR hS rfl fun ⟨aTM,aTN⟩ hS => ?_
     try dsimp only
     refine ZO ?_
     refine Zl ?_
     refine VC.aV [4,6] (VC.lX (aTN,(aTM:aM)) [6,4] (fun _ _ h=>h) hS rfl)
    refine Zk ?_
    refine Zq (ZX ?_)
    refine VC.aV [2,3,4,8,17] (Zc hS (fun h17 hS => ?_) (fun h17 hS => ?_))
    ·
     refine Zx ?_
     refine ZX ?_
     refine fR hS rfl fun ⟨aCz,aTS⟩ hS => ?_
     try dsimp only
     refine ZO ?_
     refine Zl ?_
     refine VC.aV [4,6] (VC.lX (aTS,(aCz:aM)) [6,4] (fun _ _ h=>h) hS rfl)
    refine Zk ?_
    refine Zq (ZX ?_)
    refine Zc hS (fun h19 hS => ?_) (fun h19 hS => ?_)
    ·
     refine Zx ?_
     refine ZX ?_
     refine fR hS rfl fun ⟨aT1,aT2⟩ hS => ?_
     try dsimp only
     refine ZO ?_
     refine Zl ?_
     refine VC.aV [4,6] (VC.lX (aT2,(aT1:aM)) [6,4] (fun _ _ h=>h) hS rfl)
    exact ZE hS
   rintro _ hS
   exact ZE hS
  rintro _ hS
  exact ZE hS
 rintro ⟨aAp,fS⟩ hS
 exact ZE hS
instance a3W (aA:aM) (dI:n4) :
 jZ Tryz.prog 51 [.agg (aJ aA).toArray,.agg #[str dI.verb,str dI.name,i64 dI.n,str dI.text,.bool dI.force,dI.todo.val]] (Sh.JU aA.pl dI.pl) (aA.m.and (dI.todo.ok.and Gl)) (X:=aM×Bool×Er) (fun x => .tuple #[.agg (bD.enc x.1).toArray,.bool x.2.1,x.2.2.val]) (fun x=>(x.1.pl,x.2.1,x.2.2.pl)) (fun x=>(x.1.m.and x.2.2.ok)):=by
 refine j6 Tryz.func51 Tryz.ntmps51 fun r hS c => ?_
 unfold Sh.JU at hS
 refine cI ?_
 refine qA (aJ aA) fun iV => ?_
 refine kU fun gL=>dJ fun CW=>ZO ?_
 refine Zl ?_
 refine VC.OM [4] (fun (sg:Er×aM)=>(sg.1.pl,sg.2.pl)) (fun sg ρ=>(6,sg.1.val)::ρ) (fun sg=>(sg.1.ok.and sg.2.m)) CW (fun sg=>(aJ sg.2)) hS ?_ ?_
 ·
  intro k6 hS
  refine ZX ?_
  refine Zb (ZX ?_)
  refine Zc hS (fun h22 hS => ?_) (fun h22 hS => ?_)
  ·
   refine Zr (ZX ?_)
   refine fR hS rfl fun ⟨aXm,aXn⟩ hS => ?_
   try dsimp only
   refine ZX ?_
   refine VL.mt (aXn,(aXm:aM)) [6,4] (fun _ _ h=>h) hS rfl
  refine ZX ?_
  refine VC.aV [2,3,4,8,31] (Zc hS (fun h31 hS => ?_) (fun h31 hS => ?_))
  ·
   refine Zr (ZX ?_)
   refine fR hS rfl fun ⟨DS,p5⟩ hS => ?_
   try dsimp only
   refine ZX ?_
   refine VL.mt (p5,(DS:aM)) [6,4] (fun _ _ h=>h) hS rfl
  refine ZX ?_
  refine Zc hS (fun h39 hS => ?_) (fun h39 hS => ?_)
  ·
   refine Zr (ZX ?_)
   refine fR hS rfl fun ⟨aGY,aYB⟩ hS => ?_
   try dsimp only
   refine ZX ?_
   refine VL.mt (aYB,(aGY:aM)) [6,4] (fun _ _ h=>h) hS rfl
  refine ZX ?_
  refine Zc hS (fun _ hS=>ZE hS) fun h48 hS=>ZX ?_
  refine Zc hS (fun _ hS=>ZE hS) fun h55 hS=>ZX ?_
  refine VC.aV [2,3,4,8,62] (Zc hS (fun h62 hS => ?_) (fun h62 hS => ?_))
  ·
   refine Zr (ZX ?_)
   refine fR hS rfl fun ⟨aTZ,aT0⟩ hS => ?_
   try dsimp only
   refine ZX ?_
   refine VL.mt (aT0,(aTZ:aM)) [6,4] (fun _ _ h=>h) hS rfl
  refine ZX ?_
  refine Zc hS (fun h69 hS => ?_) (fun h69 hS => ?_)
  ·
   refine Zr (ZX ?_)
   refine fR hS rfl fun ⟨aID,aT5⟩ hS => ?_
   try dsimp only
   refine ZX ?_
   refine VL.mt (aT5,(aID:aM)) [6,4] (fun _ _ h=>h) hS rfl
  refine ZX ?_
  refine Zc hS (fun h76 hS => ?_) (fun h76 hS => ?_)
  ·
   refine Zr (ZX ?_)
   refine fR hS rfl fun ⟨aTb,aTc⟩ hS => ?_
   try dsimp only
   refine ZX ?_
   refine VL.mt (aTc,(aTb:aM)) [6,4] (fun _ _ h=>h) hS rfl
  refine Zq (ZX ?_)
  refine VC.aV [2,3,4,13] (oD hS (fun h13 hS => ?_) (fun h13 hS => ?_))
  ·
   refine ZX ?_
   cases hS
   exact VC.ret (Z4 (aA,false,(Er.no 7)) rfl)
  exact ZE hS
 rintro ⟨aAp,fS⟩ hS
 exact ZE hS
instance aCm (dR:pM) (IC:bH) :
 jZ Tryz.prog 54 [.agg #[dR.back.val,dR.kY.val],str IC] (Sh.CJ dR.pl IC) (dR.back.ok.and dR.kY.ok) (X:=pM) (fun x => .agg (bD.enc x).toArray) (fun x=>x.pl) (fun x=>x.m):=by
 refine j6 Tryz.func54 Tryz.ntmps54 fun r hS c => ?_
 unfold Sh.CJ at hS
 refine cI (kU fun iV=>dJ fun AM=>ZX ?_)
 refine fR hS rfl fun IG hS => ?_
 refine Zu (cG (vs:=[(0,IG.val)]) (cs := #[IG.val,.slice none 0 0]) rfl (by kernel_rfl)) ?_
 refine ZX ?_
 cases hS
 exact VC.ret (Z4 ⟨IG,⟨none,0,[]⟩⟩ rfl)
instance a6d (aA:aM) (dI:n4) :
 jZ Tryz.prog 27 [.agg (aJ aA).toArray,.agg #[str dI.verb,str dI.name,i64 dI.n,str dI.text,.bool dI.force,dI.todo.val]] (Sh.N5 aA.pl dI.pl) (aA.m.and (dI.todo.ok.and Gl)) (X:=aM×Er) (fun x => .tuple #[.agg (bD.enc x.1).toArray,x.2.val]) (fun x=>(x.1.pl,x.2.pl)) (fun x=>(x.1.m.and x.2.ok)):=by
 refine j6 Tryz.func27 Tryz.ntmps27 fun r hS c => ?_
 unfold Sh.N5 at hS
 refine cI ?_
 refine qA (aJ aA) fun iV => ?_
 refine kU fun gL=>dJ fun CW=>ZX ?_
 refine Zq (ZX ?_)
 refine fR hS rfl fun aMS hS=>ZX ?_
 refine oD hS (fun _ hS=>ZE hS) fun h13 hS=>Zk ?_
 refine VC.aV [2,3,4] (ZX ?_)
 refine fR hS rfl fun ⟨eD,bAo,VX⟩ hS => ?_
 try dsimp only
 refine ZX ?_
 refine dJ fun a6U=>ZO ?_
 refine Zl ?_
 refine VC.aV [2,3,4,7,8,9] ?_
 refine VC.cJm [2,3,4,7] (fun (OS:Er)=>OS.pl) (fun OS ρ=>(9,OS.val)::ρ) (fun (OS:Er)=>OS.ok) hS ?_ ?_
 ·
  intro k9 hS
  refine ZX ?_
  refine oD hS (fun h25 hS => ?_) (fun h25 hS => ?_)
  ·
   refine Zq ?_
   refine iB [(1,true),(2,true),(4,true),(0,false),(3,true),(5,true),(6,false),(7,true),(8,true)] ?_
   refine ZX ?_
   refine VD.one rfl (fR hS rfl fun aSo hS=>eO (Pk 2 (Pk 1 Pz)) ?_)
   obtain ⟨IW,aVE,hS⟩:=cS hS
   refine Zw rfl (dU ((JV aSo dI.verb).out aVE) rfl (fun _ _=>rfl)) ?_
   refine Zw rfl (cG (vs:=[(0,str [100,111]),(1,i64 IW),(2,VX.val)]) (cs := #[str [100,111],i64 IW,VX.val]) rfl (by generalize VX=z0; cases z0 <;> kernel_rfl)) ?_
   refine VD.one rfl (kU fun aIW=>eV ?_)
   refine VD.FB aIW ?_
   refine ZD ?_
   refine uD ?_
   refine VC.aV [2,3,4,7,8,9] (ZX ?_)
   refine iZ hS (fun h35 hS => ?_) (fun h35 hS => ?_)
   ·
    refine ZX ?_
    refine fR hS rfl fun aHw hS=>ZX ?_
    cases hS
    exact VC.ret (Z4 (aHw,(Er.fault aIW [100,111] IW VX)) rfl)
   refine VC.rY (Er.fault aIW [100,111] IW VX) [9,2,3,4,7] (fun _ _ h=>h) hS rfl
  exact ZE hS
 rintro OS hS
 refine VC.OM [4,7,9] (fun (sg:Sv bH×Sv bH)=>(sg.1.l,sg.2.l)) (fun sg ρ=>ρ) (fun sg=>(sg.1.ok.and sg.2.ok)) a6U (fun sg=>[eD.aY.val,eD.aU.val,eD.bA.val,str eD.aI,i64 eD.aG,str eD.aS,i64 eD.aO,str eD.aT,eD.aN.val,eD.aP.val,i64 eD.aQ,str eD.aK,str eD.aD,i64 eD.aE,eD.aL.val,eD.aR.val,eD.aX.val,eD.bC.val,sg.1.val,sg.2.val,i64 eD.time]) hS ?_ ?_
 ·
  intro k16 hS
  refine VC.cJ [2,4,7,9] (fun (X6:Bool)=>X6) (fun X6 ρ=>(46,.bool X6)::ρ) hS (fun _ hS=>ZE hS) ?_
  rintro X6 hS
  refine iZ hS (fun h46 hS => ?_) (fun h46 hS => ?_)
  ·
   refine iB [(0,true),(1,true),(2,true),(3,true),(4,true),(5,false),(6,true),(7,false)] ?_
   refine ZX ?_
   refine Zw rfl (mG (j:=18) (n:=2) XF rfl rfl rfl) ?_
   refine ZX ?_
   refine Zw rfl (mG (j:=0) (n:=17) MJ rfl rfl rfl) ?_
   obtain ⟨aJs,aVY,hS⟩:=cS hS
   refine Zw rfl (dU ((D6 (⟨aA.aY,aA.aU,aA.bA,aA.aI,aA.aG,aA.aS,aA.aO,aA.aT,aA.aN,aA.aP,aA.aQ,aA.aK,aA.aD,aA.aE,aA.aL,aA.aR,aA.aX⟩:iY)).out aVY) rfl (fun _ _=>rfl)) ?_
   refine VD.one rfl (I1 hS (aCm (⟨aA.bE,aA.aZ⟩:pM) aJs).out fun M3 hS=>eV ?_)
   refine ZX ?_
   refine VD.one rfl ?_
   refine Zv  (vc:=[M3.back.val,M3.kY.val]) (cs':=[eD.aY.val,eD.aU.val,eD.bA.val,str eD.aI,i64 eD.aG,str eD.aS,i64 eD.aO,str eD.aT,eD.aN.val,eD.aP.val,i64 eD.aQ,str eD.aK,str eD.aD,i64 eD.aE,eD.aL.val,eD.aR.val,eD.aX.val,eD.bC.val,M3.back.val,M3.kY.val,i64 eD.time]) rfl aCe ?_
   refine eV ?_
   refine VD.mt (M3.back,M3.kY) [4,7,9] (fun _ _ h=>h) hS rfl
  refine VC.rY (eD.bE,eD.aZ) [4,7,9] (fun _ _ h=>h) hS rfl
 rintro ⟨aIX,aIY⟩ hS
 refine ZX ?_
 exact I1 hS (aG6 (⟨eD.aY,eD.aU,eD.bA,eD.aI,eD.aG,eD.aS,eD.aO,eD.aT,eD.aN,eD.aP,eD.aQ,eD.aK,eD.aD,eD.aE,eD.aL,eD.aR,eD.aX,eD.bC,aIX,aIY,eD.time⟩:aM)).out fun a9c hS=>ZE hS
instance aTn (aA:aM) (aE5:bH) :
 jZ Tryz.prog 11 [.agg (aJ aA).toArray,str aE5] (Sh.oM aA.pl aE5) (aA.m.and Gl) (X:=aM×Er) (fun x => .tuple #[.agg (bD.enc x.1).toArray,x.2.val]) (fun x=>(x.1.pl,x.2.pl)) (fun x=>(x.1.m.and x.2.ok)):=by
 refine j6 Tryz.func11 Tryz.ntmps11 fun r hS c => ?_
 unfold Sh.oM at hS
 refine cI ?_
 refine qA (aJ aA) fun iV => ?_
 refine dJ fun AM=>ZX ?_
 refine fR hS rfl fun ⟨kX,bAf⟩ hS => ?_
 try dsimp only
 refine ZX ?_
 exact dJ fun bAE=>ZE hS
instance aAO (aA:aM) (p_1:bH) (data_2:bH) (wO:bH) :
 jZ Tryz.prog 10 [.agg (aJ aA).toArray,str p_1,str data_2,str wO] (Sh.yD aA.pl p_1 data_2 wO) (aA.m.and Gl) (X:=aM) (fun x => .agg (bD.enc x).toArray) (fun x=>x.pl) (fun x=>x.m):=by
 refine j6 Tryz.func10 Tryz.ntmps10 fun r hS c => ?_
 unfold Sh.yD at hS
 refine cI ?_
 refine qA (aJ aA) fun Y5 => ?_
 refine dJ fun aKc=>ZX ?_
 refine fR hS rfl fun gQ hS => ?_
 obtain ⟨b16,hS⟩:=bM hS
 refine ZX ?_
 obtain ⟨uB,aAu,hS⟩:=mB hS
 refine Zu (nO rfl rfl b16 aAu) ?_
 refine fR hS rfl fun ⟨aMX,bAj⟩ hS => ?_
 try dsimp only
 refine ZO ?_
 refine Zl ?_
 refine VC.aV [3,4,8] ?_
 obtain ⟨b23,hS⟩:=bM hS
 refine ZX ?_
 obtain ⟨OH,a1A,hS⟩:=mB hS
 refine Zu (nO rfl rfl b23 a1A) ?_
 exact ZE hS
instance aBl (aA:aM) (p_1:bH) :
 gF Tryz.prog 12 [.agg (aJ aA).toArray,str p_1] (Sh.DV aA.pl p_1) aA.m (fun r=>str r):=by
 refine gM Tryz.func12 Tryz.ntmps12 fun r hS c => ?_
 unfold Sh.DV at hS
 refine cI ?_
 refine qA (aJ aA) fun iV => ?_
 refine ZX ?_
 refine jK hS rfl fun l9 hS=>ZX ?_
 exact dJ fun aKa=>ZE hS
instance aNz  :
 gF Tryz.prog 4 [] Sh.yC Gl (fun r => .bool r):=by
 refine gM Tryz.func4 Tryz.ntmps4 fun r hS c => ?_
 unfold Sh.yC at hS
 refine ZX ?_
 refine jK hS rfl fun ZM hS=>I1 hS (aAO (⟨⟨none,0,[]⟩,⟨none,0,[]⟩,⟨none,0,[]⟩,[109,97,105,110],0,[],0,[],⟨none,0,[]⟩,⟨none,0,[]⟩,0,[],[],0,⟨none,0,[]⟩,⟨none,0,[]⟩,⟨none,0,[]⟩,⟨none,0,[]⟩,⟨none,0,[]⟩,⟨none,0,[]⟩,0⟩:aM) [97] [120,10] [111,110,101]).out fun zQ hS=>dJ fun bDK=>ZX ?_
 refine fR hS rfl fun ⟨aMQ,bAg⟩ hS => ?_
 try dsimp only
 refine ZX ?_
 refine fR hS rfl fun DL hS=>ZO ?_
 refine Zl ?_
 refine VC.aV [1,2] (ZX ?_)
 refine fR hS rfl fun ⟨bAk,bAl⟩ hS => ?_
 try dsimp only
 refine ZX ?_
 refine jK hS rfl fun aDm hS=>Za ?_
 refine Zl ?_
 refine VC.aV [1,2,3,4] (ZX ?_)
 refine fR hS rfl fun bAs hS=>ZX ?_
 refine fR hS rfl fun ⟨aB7,bAy⟩ hS => ?_
 try dsimp only
 refine ZO ?_
 refine Zl ?_
 refine VC.aV [1,2,3,4,5] (cI (Zm ?_))
 refine Zu (aEe Tryz.underlying46 rfl) (Zm ?_)
 refine nT 31 hS (fun h31 hS => ?_) (fun h31 hS => ?_)
 ·
  refine Zg ?_
  refine Zh (aEe Tryz.underlying46 rfl) ?_
  refine Zt ?_
  refine Zm ?_
  refine nT 35 hS (fun h35 hS => ?_) (fun h35 hS => ?_)
  ·
   refine Zg ?_
   refine Zh (aEe Tryz.underlying46 rfl) ?_
   refine Zt ?_
   refine Zm ?_
   refine nT 39 hS (fun h39 hS => ?_) (fun h39 hS => ?_)
   ·
    refine Zg ?_
    refine Zh (PW rfl rfl) ?_
    refine Zt ?_
    refine Zm ?_
    refine nT 43 hS (fun h43 hS => ?_) (fun h43 hS => ?_)
    ·
     refine ZX ?_
     obtain ⟨aQa,aVQ,hS⟩:=cS hS
     refine Zh (dU ((aBl aB7 [98]).out aVQ) rfl (fun _ _=>rfl)) ?_
     refine Zh (PW rfl rfl) ?_
     refine Zt ?_
     refine Zm ?_
     refine nT 48 hS (fun h48 hS => ?_) (fun h48 hS => ?_)
     ·
      refine Zh (bU aBC rfl) ?_
      refine Zh (lB aEY rfl rfl) ?_
      refine Zh (vV bY.pl (s:=aB7.bC) Tryz.underlying38 rfl) ?_
      refine Zh (FA rfl rfl) ?_
      refine Zt ?_
      refine Zm ?_
      refine nT 54 hS (fun h54 hS => ?_) (fun h54 hS => ?_)
      ·
       refine ZX ?_
       obtain ⟨aKV,aMF,aFt,hS⟩:=zW hS
       refine VL.deep aKV.m aFt (fun _ q=>q) ?_
       refine Zh (jA (s:=aB7.bC) Tryz.underlying38 PU rfl rfl aMF (bR aMF aFt)) ?_
       refine ZX ?_
       refine Zh (aG0  (s:=aB7.bC) XJ rfl aFt rfl) ?_
       exact ZE hS
      exact ZE hS
     exact ZE hS
    exact ZE hS
   exact ZE hS
  exact ZE hS
 exact ZE hS
instance aTm (dR:Sv kF) :
 gF Tryz.prog 5 [dR.val] (Sh.zD dR.l) dR.ok (fun r => .bool r):=by
 refine gM Tryz.func5 Tryz.ntmps5 fun r hS c => ?_
 unfold Sh.zD at hS
 refine ZX ?_
 refine Zq (ZX ?_)
 refine Zc hS (fun _ hS=>ZE hS) fun h6 hS=>Zk ?_
 refine Zq (ZX ?_)
 refine Zb ?_
 refine VC.iJ [0] (fun (VE:Int)=>VE) (fun VE ρ=>(3,i64 VE)::ρ) 0 [3,0] hS ?_
 rintro VE m1 y1 hS hK1
 refine Zq (ZX ?_)
 refine Zc hS (fun h10 hS => ?_) (fun h10 hS => ?_)
 ·
  refine Zk ?_
  refine Zq (Zb ?_)
  refine VC.cJ [0,3] (fun (aD9:Bool)=>aD9) (fun aD9 ρ=>(37,.bool aD9)::ρ) hS ?_ ?_
  ·
   intro k3 hS
   refine Zr (ZX ?_)
   refine yH hS rfl fun aHN aP6 hS => ?_
   refine Zu (bU aLH rfl) (Zu (aG0 (s:=dR) mF rfl aP6.out rfl) (Zu (zS Tryz.underlying9 rfl) (Zu (zC rfl rfl) (Zm ?_))))
   refine nT 20 hS (fun _ hS=>ZE hS) fun h20 hS => ?_
   refine ZX ?_
   refine aK1 hS rfl fun aZq a2U hS => ?_
   refine Zh (bU aLI rfl) ?_
   refine Zh (aG0 (s:=dR) mF rfl a2U.out rfl) ?_
   refine Zh (zS Tryz.underlying9 rfl) ?_
   refine Zh (zC rfl rfl) ?_
   refine Zf ?_
   refine Zm ?_
   refine nT 29 hS (fun _ hS=>ZE hS) fun h29 hS => ?_
   refine ZX ?_
   refine aK1 hS rfl fun aOm bBw hS=>ZX ?_
   refine VL.mt (decide (300 < (aOm.data.length:Int))) [37,0,3] (fun _ _ h=>h) hS rfl
  rintro aD9 hS
  exact ZE hS
 exact ZE hS
instance aUP (aA:aM) (p_1:bH) :
 jZ Tryz.prog 13 [.agg (aJ aA).toArray,str p_1] (Sh.BH aA.pl p_1) aA.m (X:=aM×Er) (fun x => .tuple #[.agg (bD.enc x.1).toArray,x.2.val]) (fun x=>(x.1.pl,x.2.pl)) (fun x=>(x.1.m.and x.2.ok)):=by
 refine j6 Tryz.func13 Tryz.ntmps13 fun r hS c => ?_
 unfold Sh.BH at hS
 refine cI ?_
 refine qA (aJ aA) fun iV => ?_
 refine dJ fun AM=>ZX ?_
 refine fR hS rfl fun kX hS=>dJ fun bAE=>ZX ?_
 refine Zq (ZX ?_)
 refine jK hS rfl fun IV hS=>ZX ?_
 refine dJ fun bAG=>ZO ?_
 refine Zl ?_
 refine VC.aV [1,4,6,8] (ZX ?_)
 refine iZ hS (fun h20 hS => ?_) (fun h20 hS => ?_)
 ·
  refine ZX ?_
  refine Zu (cG (vs:=[(0,str [102,105,108,101]),(1,i64 0),(2,(Er.no 5).val)]) (cs := #[str [102,105,108,101],i64 0,(Er.no 5).val]) rfl (by kernel_rfl)) ?_
  refine kU fun aUd => ?_
  refine VL.FB aUd ?_
  refine ZX ?_
  cases hS
  exact VC.ret (Z4 (kX,(Er.fault aUd [102,105,108,101] 0 (Er.no 5))) rfl)
 refine ZX ?_
 refine fR hS rfl fun aM5 hS=>ZO ?_
 refine Zl ?_
 refine VC.aV [4,6] (ZX ?_)
 cases hS
 exact VC.ret (Z4 (⟨aM5,kX.aU,kX.bA,kX.aI,kX.aG,kX.aS,kX.aO,kX.aT,kX.aN,kX.aP,kX.aQ,kX.aK,kX.aD,kX.aE,kX.aL,kX.aR,kX.aX,kX.bC,kX.bE,kX.aZ,kX.time⟩,.nil) rfl)
instance C0 (aA:aM) (a_1:kF) :
 jZ Tryz.prog 7 [.agg (aJ aA).toArray,.agg #[str a_1.line,str a_1.path,str a_1.data,.bool a_1.gone]] (Sh.uV aA.pl a_1) (aA.m.and Gl) (X:=aM×Er) (fun x => .tuple #[.agg (bD.enc x.1).toArray,x.2.val]) (fun x=>(x.1.pl,x.2.pl)) (fun x=>(x.1.m.and x.2.ok)):=by
 refine j6 Tryz.func7 Tryz.ntmps7 fun r hS c => ?_
 unfold Sh.uV at hS
 refine cI ?_
 refine qA (aJ aA) fun iV => ?_
 refine kU fun gL => ?_
 exact dJ fun CW=>ZE hS
instance YR (q9:Int) :
 gF Tryz.prog 419 [i64 q9] (Sh.wV q9) Mo.tt (fun r=>str r):=by
 refine gM Tryz.func419 Tryz.ntmps419 fun r hS c => ?_
 unfold Sh.wV at hS
 exact ZE hS
theorem YS (aVj:Nat) (wC:G1) {E:Option bH} (ih : ∀ {y:bH},E=some y→aU2 Tryz.prog wC.err.val "Error" (wC.err.ok.and Gl) (str y)) {r:bH} (hS:Sh.zV wC.pl E=some r) :
 Cp Tryz.prog 417 [ptr aVj 0] (wC.err.ok.and ((Cells aVj 0 [str wC.part,i64 wC.at_,wC.err.val]).and Gl)) (str r):=by
 refine Zo Tryz.func417 Tryz.ntmps417 fun c => ?_
 unfold Sh.zV at hS
 refine ZX ?_
 refine Zq (ZX ?_)
 refine Zu (z8 aEZ rfl rfl) ?_
 refine ZX ?_
 refine Zc hS (fun h7 hS => ?_) (fun h7 hS => ?_)
 ·
  refine Zq ?_
  refine iB ((List.range 12).map fun k=>(k,true)) ?_
  refine ZX ?_
  refine Zw rfl (z8 mF rfl rfl) ?_
  obtain ⟨b12,hS⟩:=bM hS
  obtain ⟨FF,a0c,hS⟩:=mB hS
  refine Zw rfl (nO rfl rfl b12 a0c) ?_
  refine ZX ?_
  refine Zw rfl (z8 o5 rfl rfl) ?_
  obtain ⟨b17,hS⟩:=bM hS
  refine Zw rfl (dU (lP wC.at_ b17) rfl (fun _ _=>rfl)) ?_
  obtain ⟨b18,hS⟩:=bM hS
  obtain ⟨aA0,aId,hS⟩:=mB hS
  refine Zw rfl (nO rfl rfl b18 aId) ?_
  exact ZE hS
 refine Zk ?_
 refine Zq ?_
 refine iB ((List.range 19).map fun k=>(k,true)) ?_
 refine ZX ?_
 refine Zw rfl (z8 mF rfl rfl) ?_
 obtain ⟨b23,hS⟩:=bM hS
 obtain ⟨lN,a0y,hS⟩:=mB hS
 refine Zw rfl (nO rfl rfl b23 a0y) ?_
 refine ZX ?_
 refine Zw rfl (z8 o5 rfl rfl) ?_
 obtain ⟨b28,hS⟩:=bM hS
 refine Zw rfl (dU (lP wC.at_ b28) rfl (fun _ _=>rfl)) ?_
 obtain ⟨b29,hS⟩:=bM hS
 obtain ⟨aDn,aIg,hS⟩:=mB hS
 refine Zw rfl (nO rfl rfl b29 aIg) ?_
 obtain ⟨b30,hS⟩:=bM hS
 obtain ⟨aHE,a1G,hS⟩:=mB hS
 refine Zw rfl (nO rfl rfl b30 a1G) ?_
 refine ZX ?_
 refine Zw rfl (z8 aEZ rfl rfl) ?_
 obtain ⟨aO8,a1K,hS⟩:=cS hS
 refine Zw rfl (aNy rfl (ih a1K)) ?_
 obtain ⟨b36,hS⟩:=bM hS
 obtain ⟨aZ4,a1N,hS⟩:=mB hS
 refine Zw rfl (nO rfl rfl b36 a1N) ?_
 exact ZE hS
theorem aRv (v:Value):aDs Tryz.prog (.iface 90 v) "Error" 417 v:=aDs.of fun w=>by kernel_rfl
theorem aRn (v:Value):aDs Tryz.prog (.iface 91 v) "Error" 419 v:=aDs.of fun w=>by kernel_rfl
theorem aAS : ∀ (z:Er) {r:bH} (h:Sh.EJ z.pl=some r),aU2 Tryz.prog z.val "Error" (z.ok.and Gl) (str r)
  | .nil,r,h=>by cases h
  | .no n,r,h=>⟨419,i64 n,aRn _,((YR n).out h).weak (fun _ _=>trivial) (fun _ q=>q)⟩
  | .fault b p a e,r,h=>⟨417,ptr b 0,aRv _,(YS b ⟨p,a,e⟩ (E:=Sh.EJ e.pl) (fun q=>aAS e q) h).weak (fun _ m=>⟨m.1.2,m.1.1,m.2⟩) (fun _ q=>q)⟩
instance FC (iQ:Sv cY) (jV:Sv cY) :
 gF Tryz.prog 37 [iQ.val,jV.val] (Sh.iT iQ.l jV.l) (iQ.ok.and jV.ok) (fun r => .bool r):=by
 refine gM Tryz.func37 Tryz.ntmps37 fun r hS c => ?_
 unfold Sh.iT at hS
 refine ZX ?_
 refine Zq (ZX ?_)
 refine oD hS (fun _ hS=>ZE hS) fun h10 hS=>Zk ?_
 refine Zq (ZX ?_)
 refine VC.aV [0,1,12,13] (Zb ?_)
 refine VC.iJ [0,1,12] (fun (jP:Int)=>jP) (fun jP ρ=>(13,i64 jP)::ρ) 0 [13,0,1,12] hS ?_
 rintro jP m1 y1 hS hK1
 refine ZX ?_
 refine Zq (Zc hS (fun h14 hS => ?_) (fun h14 hS => ?_))
 ·
  refine Zk ?_
  refine Zq (Zb (ZX ?_))
  refine Zq ?_
  refine iB ((List.range 9).map fun k=>(k,true)) ?_
  refine ZX ?_
  obtain ⟨sO,SQ,OV,hS⟩:=gP hS
  refine Zw rfl (jA (s:=iQ) Tryz.underlying28 vT rfl rfl SQ (bR SQ OV)) ?_
  refine Zw rfl (nF  (s:=iQ) aIn rfl rfl OV) ?_
  refine ZX ?_
  obtain ⟨vY,aBU,XK,hS⟩:=gP hS
  refine Zw rfl (jA (s:=jV) Tryz.underlying28 vT rfl rfl aBU (bR aBU XK)) ?_
  refine Zw rfl (nF  (s:=jV) aIn rfl rfl XK) ?_
  refine Zw rfl (aBk a1Y (a1Z sO.name sO.cC vY.name vY.cC) rfl rfl) ?_
  exact ZE hS
 exact ZE hS
instance vZ (iQ:Sv bK) (jV:Sv bK) :
 gF Tryz.prog 71 [iQ.val,jV.val] (Sh.iU iQ.l jV.l) (iQ.ok.and jV.ok) (fun r => .bool r):=by
 refine gM Tryz.func71 Tryz.ntmps71 fun r hS c => ?_
 unfold Sh.iU at hS
 refine ZX ?_
 refine Zq (ZX ?_)
 refine oD hS (fun _ hS=>ZE hS) fun h10 hS=>Zk ?_
 refine Zq (ZX ?_)
 refine VC.aV [0,1,12,13] (Zb ?_)
 refine VC.iJ [0,1,12] (fun (jP:Int)=>jP) (fun jP ρ=>(13,i64 jP)::ρ) 0 [13,0,1,12] hS ?_
 rintro jP m1 y1 hS hK1
 refine ZX ?_
 refine Zq (Zc hS (fun h14 hS => ?_) (fun h14 hS => ?_))
 ·
  refine Zk ?_
  refine Zq (Zb (ZX ?_))
  refine Zq ?_
  refine iB ((List.range 9).map fun k=>(k,true)) ?_
  refine ZX ?_
  obtain ⟨sO,SQ,OV,hS⟩:=gP hS
  refine Zw rfl (jA (s:=iQ) Tryz.underlying31 KE rfl rfl SQ (bR SQ OV)) ?_
  refine Zw rfl (nF  (s:=iQ) NK rfl rfl OV) ?_
  refine ZX ?_
  obtain ⟨vY,aBU,XK,hS⟩:=gP hS
  refine Zw rfl (jA (s:=jV) Tryz.underlying31 KE rfl rfl aBU (bR aBU XK)) ?_
  refine Zw rfl (nF  (s:=jV) NK rfl rfl XK) ?_
  refine Zw rfl (aBk aVs (aVt sO.verb sO.cC sO.text vY.verb vY.cC vY.text) rfl rfl) ?_
  exact ZE hS
 exact ZE hS
instance aBv (bP:pN) (b_1:pN) :
 gF Tryz.prog 38 [.agg (EG bP).toArray,.agg (EG b_1).toArray] (Sh.xU bP.pl b_1.pl) (bP.m.and b_1.m) (fun r => .bool r):=by
 refine gM Tryz.func38 Tryz.ntmps38 fun r hS c => ?_
 unfold Sh.xU at hS
 refine cI ?_
 refine qA (EG bP) fun iV => ?_
 refine qA (EG b_1) fun gL => ?_
 refine Za ?_
 refine Zl ?_
 refine cI (Zu (bU Q5 rfl) ?_)
 refine Zu (lB mF rfl rfl) (Zu (bU Q5 rfl) (Zu (lB mF rfl rfl) (Zs (Zm ?_))))
 refine nT 10 hS (fun h10 hS => ?_) (fun h10 hS => ?_)
 ·
  refine Zh (bU aF9 rfl) ?_
  refine Zh (lB o5 rfl rfl) ?_
  refine Zh (bU aF9 rfl) ?_
  refine Zh (lB o5 rfl rfl) ?_
  refine Zh (FA rfl rfl) ?_
  refine Zt ?_
  refine Zm ?_
  refine nT 17 hS (fun h17 hS => ?_) (fun h17 hS => ?_)
  ·
   refine Zh (bU aFa rfl) ?_
   refine Zh (lB mF rfl rfl) ?_
   refine Zh (bU aFa rfl) ?_
   refine Zh (lB mF rfl rfl) ?_
   refine Zh (PW rfl rfl) ?_
   refine Zt ?_
   refine Zm ?_
   refine nT 24 hS (fun h24 hS => ?_) (fun h24 hS => ?_)
   ·
    refine ZX ?_
    obtain ⟨aZU,a1F,hS⟩:=cS hS
    refine Zh (dU ((vZ bP.C9 b_1.C9).out a1F) rfl (fun _ _=>rfl)) ?_
    refine Zt ?_
    refine Zm ?_
    refine xZ 31 hS (fun h31 hS => ?_) (fun h31 hS => ?_)
    ·
     refine ZX ?_
     obtain ⟨aZ3,a1L,hS⟩:=cS hS
     refine Zh (dU ((vZ bP.todo b_1.todo).out a1L) rfl (fun _ _=>rfl)) ?_
     refine Zt ?_
     refine Zm ?_
     refine xZ 38 hS (fun h38 hS => ?_) (fun h38 hS => ?_)
     ·
      refine Zh (bU aFb rfl) ?_
      refine Zh (lB o5 rfl rfl) ?_
      refine Zh (bU aFb rfl) ?_
      refine Zh (lB o5 rfl rfl) ?_
      refine Zh (FA rfl rfl) ?_
      refine Zt ?_
      refine Zm ?_
      refine nT 45 hS (fun h45 hS => ?_) (fun h45 hS => ?_)
      ·
       refine Zh (bU aFc rfl) ?_
       refine Zh (lB mF rfl rfl) ?_
       refine Zh (bU aFc rfl) ?_
       refine Zh (lB mF rfl rfl) ?_
       refine Zh (PW rfl rfl) ?_
       refine Zt ?_
       refine Zm ?_
       refine nT 52 hS (fun h52 hS => ?_) (fun h52 hS => ?_)
       ·
        refine ZX ?_
        refine Zh (mG (j:=7) (n:=2) EK rfl rfl rfl) ?_
        refine ZX ?_
        refine Zh (mG (j:=7) (n:=2) EK rfl rfl rfl) ?_
        refine Zh (LH aPR (aPT bP.cB bP.cA b_1.cB b_1.cA) rfl rfl) ?_
        refine Zt ?_
        refine Zm ?_
        refine nT 59 hS (fun h59 hS => ?_) (fun h59 hS => ?_)
        ·
         refine ZX ?_
         obtain ⟨aZe,a1S,hS⟩:=cS hS
         refine Zh (dU ((NM bP.index b_1.index).out a1S) rfl (fun _ _=>rfl)) ?_
         refine Zt ?_
         refine Zm ?_
         refine xZ 66 hS (fun h66 hS => ?_) (fun h66 hS => ?_)
         ·
          refine ZX ?_
          obtain ⟨aZg,a1U,hS⟩:=cS hS
          refine Zh (dU ((qK bP.work b_1.work).out a1U) rfl (fun _ _=>rfl)) ?_
          exact ZE hS
         exact ZE hS
        exact ZE hS
       exact ZE hS
      exact ZE hS
     exact ZE hS
    exact ZE hS
   exact ZE hS
  exact ZE hS
 exact ZE hS
instance SW (iX:bL) (zP:bL) :
 gF Tryz.prog 73 [.agg #[i64 iX.base,iX.index.val,iX.work.val,str iX.text],.agg #[i64 zP.base,zP.index.val,zP.work.val,str zP.text]] (Sh.sV iX.pl zP.pl) (iX.index.ok.and (iX.work.ok.and (zP.index.ok.and zP.work.ok))) (fun r => .bool r):=by
 refine gM Tryz.func73 Tryz.ntmps73 fun r hS c => ?_
 unfold Sh.sV at hS
 refine cI (kU fun iV=>kU fun gL=>Za ?_)
 refine Zl ?_
 refine cI (Zu (bU XG rfl) ?_)
 refine Zu (lB o5 rfl rfl) (Zu (bU XG rfl) (Zu (lB o5 rfl rfl) (Zu (FA rfl rfl) (Zm ?_))))
 refine nT 10 hS (fun h10 hS => ?_) (fun h10 hS => ?_)
 ·
  refine ZX ?_
  obtain ⟨FG,aAs,hS⟩:=cS hS
  refine Zh (dU ((qK iX.index zP.index).out aAs) rfl (fun _ _=>rfl)) ?_
  refine Zt ?_
  refine Zm ?_
  refine xZ 17 hS (fun h17 hS => ?_) (fun h17 hS => ?_)
  ·
   refine ZX ?_
   obtain ⟨TR,a0x,hS⟩:=cS hS
   refine Zh (dU ((qK iX.work zP.work).out a0x) rfl (fun _ _=>rfl)) ?_
   exact ZE hS
  exact ZE hS
 exact ZE hS
instance FW (iQ:Sv bL) (jV:Sv bL) :
 gF Tryz.prog 72 [iQ.val,jV.val,.func (.func 73) #[] #[]] (Sh.dN (iQ.l.map bL.pl) (jV.l.map bL.pl)) (iQ.ok.and jV.ok) (fun r => .bool r):=by
 refine gM Tryz.func72 Tryz.ntmps72 fun r hS c => ?_
 unfold Sh.dN at hS
 refine ZX ?_
 refine Zq (ZX ?_)
 refine Zu (vV bL.pl (s:=iQ) Tryz.underlying35 rfl) (Zm (Zu (vV bL.pl (s:=jV) Tryz.underlying35 rfl) ?_))
 refine ZX ?_
 refine oD hS (fun _ hS=>ZE hS) fun h14 hS=>Zk ?_
 refine Zq (ZX ?_)
 refine Zu (vV bL.pl (s:=iQ) Tryz.underlying35 rfl) ?_
 refine ZX ?_
 refine VC.aV [1,2,15,16,17] (Zb ?_)
 refine VC.iJ [1,2,15,16] (fun (lM:Int)=>lM) (fun lM ρ=>(17,i64 lM)::ρ) 0 [17,1,2,15,16] hS ?_
 rintro lM m1 y1 hS hK1
 refine ZX ?_
 refine Zq (Zc hS (fun h18 hS => ?_) (fun h18 hS => ?_))
 ·
  refine Zk ?_
  refine Zq (Zb (ZX ?_))
  obtain ⟨EF,O3,H7,hS⟩:=zW hS
  refine VL.deep EF.m H7 (fun _ q=>q) ?_
  refine Zu (jA (s:=iQ) Tryz.underlying35 oA rfl rfl O3 (bR O3 H7)) (Zu (nF  (s:=iQ) Q4 rfl rfl H7) ?_)
  refine dJ fun a6V=>ZX ?_
  obtain ⟨eY,KH,EL,hS⟩:=zW hS
  refine VL.deep eY.m EL (fun _ q=>q) ?_
  refine Zu (jA (s:=jV) Tryz.underlying35 oA rfl rfl KH (bR KH EL)) (Zu (nF  (s:=jV) Q4 rfl rfl EL) ?_)
  refine dJ fun a6Y=>ZO ?_
  refine Zl ?_
  refine VC.aV [1,2,15,16,17,8,9] (ZX ?_)
  obtain ⟨J9,aAv,hS⟩:=cS hS
  refine Zu (oL ((SW EF eY).out aAv) rfl rfl (fun _ _=>rfl)) ?_
  exact ZE hS
 exact ZE hS
instance WD (aA:Sv bL) (t_1:Sv bL) :
 gF Tryz.prog 39 [aA.val,t_1.val] (Sh.rX (aA.l.map bL.pl) (t_1.l.map bL.pl)) (aA.ok.and t_1.ok) (fun r => .bool r):=by
 refine gM Tryz.func39 Tryz.ntmps39 fun r hS c => ?_
 unfold Sh.rX at hS
 exact ZE hS
end Go.Proofs.YtgdabkldgphdeaaGreatDoor
end
