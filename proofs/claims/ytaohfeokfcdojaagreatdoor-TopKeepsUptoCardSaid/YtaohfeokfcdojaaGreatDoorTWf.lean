/- Part of the proofs of: the law TopKeeps: what is changed and not committed is there, or put aside, behind every command that does not say otherwise (any acts, any line), where what is read is of bulk at most 1048576 -/
import Derived.Test.YtaohfeokfcdojaaGreatDoorTWe
set_option linter.unusedVariables false
set_option linter.unusedSimpArgs false
set_option linter.unusedSectionVars false
section
set_option linter.unusedVariables false
namespace Go.Proofs.YtaohfeokfcdojaaGreatDoor
set_option maxHeartbeats 4000000
set_option maxRecDepth 100000
set_option synthInstance.maxSize 2000
set_option synthInstance.maxHeartbeats 1000000
open Go.RowKit Go.V
open Go.S
attribute [local irreducible] Go.V.Qt Go.V.VL Go.V.VC Go.V.HA Go.S.gd Go.S.at_ Go.S.lt Go.S.jn Go.S.go Go.S.up Go.S.iter Sh.gV Sh.jZ Sh.qP Sh.sH Sh.rM Sh.mQ Sh.HS Sh.jX Sh.BG Sh.kT Sh.iH Sh.tY Sh.AE Sh.oD Sh.qW Sh.uQ Sh.pT Sh.jC Sh.F1 Sh.wK Sh.pH Sh.yA Sh.CY Sh.vA Sh.FB Sh.xQ Sh.CZ Sh.zL Sh.MM Sh.uE Sh.uF Sh.sW Sh.rN Sh.vB Sh.bO Sh.kM Sh.kW Sh.eG Sh.iT Sh.b5 Sh.mJ Sh.cP Sh.iE Sh.j6 Sh.xX Sh.kX Sh.iI
instance:KA Tryz.prog 40 (.slice 128):=⟨Tryz.underlying40⟩
instance:KA Tryz.prog 322 (.slice 4):=⟨Tryz.underlying322⟩
instance aSn (aA:aL) (cZ:l8) :
 jG Tryz.prog 111 [.agg (aI aA).toArray,.agg #[str cZ.verb,str cZ.name,i64 cZ.n,str cZ.text,.bool cZ.force,cZ.todo.val]] (Sh.AE aA.pl cZ.pl) (aA.m.and cZ.todo.ok) (X:=aL×Er) (fun x => .tuple #[.agg (bB.enc x.1).toArray,x.2.val]) (fun x=>(x.1.pl,x.2.pl)) (fun x=>(x.1.m.and x.2.ok)):=by
 refine jO Tryz.func111 Tryz.ntmps111 fun r hS c => ?_
 unfold Sh.AE at hS
 refine cI ?_
 refine qC (aI aA) fun iB => ?_
 refine kF fun oU=>dG fun BS=>ZX ?_
 refine fN hS rfl fun ⟨CJ,a8m⟩ hS => ?_
 try dsimp only
 refine ZX ?_
 refine dG fun a4Z=>ZO ?_
 refine Zl ?_
 refine VC.bD [2,3,4,6,7] (Zq (ZX ?_))
 refine qD hS (fun _ hS=>ZE hS) fun h17 hS=>ZX ?_
 refine fN hS rfl fun UC hS=>Za ?_
 refine Zl ?_
 refine VC.bD [2,3,4,6,8] (ZX ?_)
 refine dG fun a8N=>ZO ?_
 refine Zl ?_
 refine VC.M3 [2,4,6,9] (fun (vH:aL)=>vH.pl) (fun vH ρ=>ρ) (fun (vH:aL)=>vH.m) a8N (fun (vH:aL)=>(aI vH)) hS ?_ ?_
 ·
  intro k9 hS
  refine Zb (ZX ?_)
  refine iG hS (fun h36 hS => ?_) (fun h36 hS => ?_)
  ·
   refine Zr (ZX ?_)
   refine fN hS rfl fun aR9 hS=>ZX ?_
   refine VL.mt (aR9:aL) [2,4,6,9] (fun _ _ h=>h) hS rfl
  refine ZX ?_
  refine fJ hS rfl fun aGj hS=>ZX ?_
  refine VC.bD [2,4,6,8,9,42] (Zc hS (fun h42 hS => ?_) (fun h42 hS => ?_))
  ·
   refine ZX ?_
   cases hS
   exact VC.ret (Z4 (aA,(Er.no 9)) rfl)
  refine ZX ?_
  refine Zu (cA (vs:=[(0,UC.val)]) (cs := #[UC.val,.slice none 0 0,.slice none 0 0]) rfl (by kernel_rfl)) ?_
  refine HB hS (OC aA (⟨UC,⟨none,0,[]⟩,⟨none,0,[]⟩⟩:cQ)).out fun ⟨aR0,a7I⟩ hS => ?_
  try dsimp only
  refine ZO ?_
  refine Zl ?_
  refine VC.bD [2,4,6,9,7] (ZX ?_)
  refine qD hS (fun _ hS=>ZE hS) fun h33 hS=>VC.PZ (aR0:aL) [2,4,6,9] (fun _ _ h=>h) hS rfl
 rintro vH hS
 refine Zq ?_
 refine VC.cJ [2,4,6,9] (fun (WC:Bool)=>WC) (fun WC ρ=>(59,.bool WC)::ρ) hS ?_ ?_
 ·
  intro k14 hS
  refine Zr (ZX ?_)
  refine jU hS rfl fun aDd hS=>Zm ?_
  refine B3 53 hS (fun _ hS=>ZE hS) fun h53 hS => ?_
  refine ZX ?_
  refine VL.mt (decide (256 < (vH.aS.l.length:Int))) [59,2,4,6,9] (fun _ _ h=>h) hS rfl
 rintro WC hS
 refine iG hS (fun h59 hS => ?_) (fun h59 hS => ?_)
 ·
  refine ZX ?_
  cases hS
  exact VC.ret (Z4 (aA,(Er.no 4)) rfl)
 refine ZX ?_
 cases hS
 exact VC.ret (Z4 (⟨vH.aU,vH.aS,vH.aZ,CJ.branch,CJ.cF,vH.aR,vH.aM,vH.aT,vH.aN,vH.aP,vH.aO,vH.aJ,vH.aD,vH.aE,vH.aK,vH.aQ,vH.aW,vH.aX,vH.bF,vH.aY,vH.time⟩,.nil) rfl)
instance aWy (aA:aL) (cZ:l8) :
 jG Tryz.prog 112 [.agg (aI aA).toArray,.agg #[str cZ.verb,str cZ.name,i64 cZ.n,str cZ.text,.bool cZ.force,cZ.todo.val]] (Sh.CY aA.pl cZ.pl) (aA.m.and cZ.todo.ok) (X:=aL×Er) (fun x => .tuple #[.agg (bB.enc x.1).toArray,x.2.val]) (fun x=>(x.1.pl,x.2.pl)) (fun x=>(x.1.m.and x.2.ok)):=by
 refine jO Tryz.func112 Tryz.ntmps112 fun r hS c => ?_
 unfold Sh.CY at hS
 refine cI ?_
 refine qC (aI aA) fun iB => ?_
 refine kF fun oU=>dG fun BS=>ZX ?_
 refine Zq (ZX ?_)
 refine fN hS rfl fun ⟨aWG,aWH⟩ hS => ?_
 try dsimp only
 refine ZX ?_
 refine dG fun a4Z=>ZO ?_
 refine Zl ?_
 refine VC.bD [2,3,4,7] (ZX ?_)
 refine iG hS (fun h18 hS => ?_) (fun h18 hS => ?_)
 ·
  refine ZX ?_
  cases hS
  exact VC.ret (Z4 (aA,(Er.no 1)) rfl)
 refine Zk ?_
 refine Zq (ZX ?_)
 refine jU hS rfl fun aXo hS=>ZX ?_
 refine iG hS (fun h23 hS => ?_) (fun h23 hS => ?_)
 ·
  refine ZX ?_
  cases hS
  exact VC.ret (Z4 (aA,(Er.no 4)) rfl)
 refine ZX ?_
 refine fN hS rfl fun aLB hS=>Za ?_
 refine Zl ?_
 refine VC.bD [2,3,4,8] (ZX ?_)
 refine dG fun a48=>ZO ?_
 refine Zl ?_
 refine VC.M3 [2,3,4,9] (fun (eP:aL)=>eP.pl) (fun eP ρ=>ρ) (fun (eP:aL)=>eP.m) a48 (fun (eP:aL)=>(aI eP)) hS ?_ ?_
 ·
  intro k10 hS
  refine ZX ?_
  refine Zb ?_
  refine VC.M3 [2,3,4,8,9] (fun (nB:aL)=>nB.pl) (fun nB ρ=>ρ) (fun (nB:aL)=>nB.m) a48 (fun (nB:aL)=>(aI nB)) hS ?_ ?_
  ·
   intro k12 hS
   refine Zb (Zq (Zb (Zq (Zq (ZX ?_)))))
   refine Zc hS (fun h33 hS => ?_) (fun h33 hS => ?_)
   ·
    refine Zx ?_
    refine Zr (ZX ?_)
    refine fN hS rfl fun aR7 hS=>ZX ?_
    refine VL.mt (aR7:aL) [2,3,4,8,9] (fun _ _ h=>h) hS rfl
   refine ZX ?_
   refine Zc hS (fun h35 hS => ?_) (fun h35 hS => ?_)
   ·
    refine VC.D8 (aA:aL) [2,3,4,8,9] (fun _ _ h=>h) hS rfl
   refine Zk ?_
   refine VC.bD [2,3,4,9] (VC.D8 (aA:aL) [2,3,4,9] (fun _ _ h=>h) hS rfl)
  rintro nB hS
  refine ZX ?_
  refine fN hS rfl fun aRa hS=>ZO ?_
  refine Zl ?_
  refine VC.D8 (⟨nB.aU,aRa,nB.aZ,nB.aH,nB.aG,nB.aR,nB.aM,nB.aT,nB.aN,nB.aP,nB.aO,nB.aJ,nB.aD,nB.aE,nB.aK,nB.aQ,nB.aW,nB.aX,nB.bF,nB.aY,nB.time⟩:aL) [2,3,4,9] (fun _ _ h=>h) hS rfl
 rintro eP hS
 refine Zq (ZX ?_)
 refine jU hS rfl fun aDa hS=>Zl ?_
 refine iG hS (fun h45 hS => ?_) (fun h45 hS => ?_)
 ·
  refine ZX ?_
  cases hS
  exact VC.ret (Z4 (aA,(Er.no 4)) rfl)
 refine ZX ?_
 refine fN hS rfl fun aRj hS=>ZX ?_
 cases hS
 exact VC.ret (Z4 (aRj,.nil) rfl)
instance SE (uP:aC) (hO:Nat) (a_1:Sv bI) :
 gS Tryz.prog 266 [.agg #[str uP.path,i64 uP.mode,str uP.data],ptr hO 0] (Sh.xQ uP a_1.l) (a_1.ok.and (Cells hO 0 [a_1.val])) (fun r => .bool r):=by
 refine gU Tryz.func266 Tryz.ntmps266 fun r hS c => ?_
 unfold Sh.xQ at hS
 refine cI (kF fun iB=>ZX ?_)
 refine Zu (ED qO rfl rfl) ?_
 exact ZE hS
instance y7 (aA:Sv aC) (dQ:Nat) (dI:Sv bI) :
 gS Tryz.prog 221 [aA.val,.func (.func 266) #[] #[ptr dQ 0]] (Sh.j6 aA.l dI.l) (aA.ok.and (dI.ok.and (Cells dQ 0 [dI.val]))) (fun r=>i64 r):=by
 refine gU Tryz.func221 Tryz.ntmps221 fun r hS c => ?_
 unfold Sh.j6 at hS
 refine ZX ?_
 refine Zq (ZX ?_)
 refine Zb ?_
 refine VC.iJ [0,1,7] (fun (dD:Int)=>dD) (fun dD ρ=>(8,i64 dD)::ρ) 0 [8,0,1,7] hS ?_
 rintro dD m1 y1 hS hK1
 refine ZX ?_
 refine Zq (Zc hS (fun h9 hS => ?_) (fun h9 hS => ?_))
 ·
  refine Zk ?_
  refine Zq (Zb (ZX ?_))
  refine BY hS rfl fun eW oB hS=>ZX ?_
  obtain ⟨nJ,tF,hS⟩:=dU hS
  refine Zu (sQ (vs:=[.agg #[str eW.path,i64 eW.mode,str eW.data]]) (caps:=[ptr dQ 0]) ((SE eW dQ dI).out tF) rfl rfl (fun _ _=>rfl)) ?_
  exact ZE hS
 exact ZE hS
instance OY (aA:Sv aC) (dH:Nat) (cY:Sv bI) :
 uL Tryz.prog 145 [aA.val,.func (.func 266) #[] #[ptr dH 0]] (Sh.iE aA.l cY.l) cY.ok (Ow.star (Sv.own aA 89) (bM dH [cY.val] 45)) (X:=Sv aC) (fun x=>x.val) (fun x=>x.l) (fun x=>Mo.tt) (fun x=>Ow.star (Sv.own x 89) (bM dH [cY.val] 45)):=by
 refine uV Tryz.func145 Tryz.ntmps145 fun r hS c => ?_
 unfold Sh.iE at hS
 refine ZX ?_
 obtain ⟨dB,GG,hS⟩:=dU hS
 refine Zu (lW ((y7 aA dH cY).out GG) rfl (fun _ _=>rfl)) ?_
 refine ZX ?_
 refine Zq (ZX ?_)
 refine Zc hS (fun _ hS=>ZE hS) fun h12 hS => ?_
 obtain ⟨b15,hS⟩:=bX hS
 refine Zk ?_
 refine Zq (ZX ?_)
 refine VC.bD [0,1,5,6] (Zb ?_)
 refine VC.iter (S:=Sv aC×Int×Int) (fun sg=>(sg.1.l,sg.2.1,sg.2.2)) (fun sg=>[(0,sg.1.val),(1,.func (.func 266) #[] #[ptr dH 0]),(5,i64 sg.2.1),(6,i64 sg.2.2)]) (fun sg=>Mo.tt) (fun sg=>Ow.star (bM dH [cY.val] 45) (Ow.star (Sv.own sg.1 89) (Ow.emp))) (aA,dB,(dB+1)) [0,1,5,6] hS rfl ?_
 rintro ⟨fM,jW,pP⟩ m1 y1 hS hK1
 refine Zq (ZX ?_)
 refine Zc hS (fun h19 hS => ?_) (fun h19 hS => ?_)
 ·
  refine Zk ?_
  refine VC.wT (S:=Sv aC×Int) (fun sg=>(sg.1.l,sg.2)) (fun sg=>[(0,sg.1.val),(1,.func (.func 266) #[] #[ptr dH 0]),(5,i64 sg.2),(6,i64 pP)]) (fun sg=>Mo.tt) (fun sg=>Ow.star (bM dH [cY.val] 45) (Ow.star (Sv.own sg.1 89) (Ow.emp))) hS ?_ ?_
  ·
   intro k7 hS
   refine Zb (ZX ?_)
   obtain ⟨cT,xI,wR,hS⟩:=gQ hS
   refine Zu (lC (s:=fM) Tryz.underlying33 j9 rfl rfl xI (bQ xI wR)) (Zu (V0 (s:=fM) z7 rfl rfl wR) ?_)
   refine dG fun R9=>ZO ?_
   refine Zl ?_
   refine VC.bD [0,1,5,6,7] (ZX ?_)
   obtain ⟨yR,GH,hS⟩:=dU hS
   refine Zu (sQ (vs:=[.agg #[str cT.path,i64 cT.mode,str cT.data]]) (caps:=[ptr dH 0]) ((SE cT dH cY).out GH) rfl rfl (fun _ _=>rfl)) ?_
   refine ZX ?_
   refine iG hS (fun h29 hS => ?_) (fun h29 hS => ?_)
   ·
    refine ZX ?_
    obtain ⟨LB,xJ,xH,hS⟩:=gQ hS
    refine Zu (lC (s:=fM) Tryz.underlying33 j9 rfl rfl xJ (bQ xJ xH)) ?_
    refine VL.nD (s:=fM) (T:=89) (j:=0) (vc:=[str cT.path,i64 cT.mode,str cT.data]) (⟨cT.path,cT.mode,cT.data⟩:aC) (by decide) rfl rfl xH rfl j9 rfl rfl (Nat.le_of_ble_eq_true rfl) rfl (fun w12 hw12 haw12 hcw12 hvw12 hbw12 how12 => ?_)
    rw [← hvw12]
    replace hS:=dR hw12 hS
    exact ZE hS
   exact ZE hS
  rintro ⟨J2,JQ⟩ hS
  exact ZE hS
 replace hS:=lQ hS hK1
 refine Zx ?_
 obtain ⟨b38,hS⟩:=bX hS
 refine ZX ?_
 refine VL.fits (s:=fM) (e:=89) Fo.out fun BT => ?_
 refine Zu (EM (s:=fM) Tryz.underlying33 j9 rfl rfl b38.1 b38.2 BT) ?_
 refine VL.aCm (s:=fM) (i:=jW.toNat) (.agg #[str [],i64 0,str []]) Tryz.underlying33 aMK rfl rfl rfl (by have:=b38; dsimp only at this ⊢; omega) Fo.out fun K4 GM G1 => ?_
 replace hS:=dR GM hS
 refine Zl ?_
 refine VC.bD [0,5] (ZX ?_)
 refine Zu (VZ (s:=fM) (q:=K4) Tryz.underlying33 j9 rfl rfl b38.1 b38.2 BT G1) ?_
 exact ZE hS
instance XA (dO:Sv aC) (T5:Sv bI) :
 uL Tryz.prog 198 [dO.val,T5.val] (Sh.FB dO.l T5.l) (dO.ok.and T5.ok) (Ow.emp) (X:=Sv aC) (fun x=>x.val) (fun x=>x.l) (fun x=>Mo.tt) (fun x=>Sv.own x 89):=by
 refine uV Tryz.func198 Tryz.ntmps198 fun r hS c => ?_
 unfold Sh.FB at hS
 refine cI ?_
 exact kF fun rX=>ZE hS
instance UN (aA:aL) :
 gS Tryz.prog 197 [.agg (aI aA).toArray] (Sh.zL aA.pl) aA.m (fun r => .bool r):=by
 refine gU Tryz.func197 Tryz.ntmps197 fun r hS c => ?_
 unfold Sh.zL at hS
 refine cI ?_
 refine qC (aI aA) fun iS => ?_
 refine ZX ?_
 refine Zq ?_
 refine hU [(0,true),(1,true),(2,true),(3,true),(5,true),(6,true),(7,true),(10,true),(11,true),(12,true),(4,false),(8,false),(9,false),(13,false),(14,true),(15,true)] ?_
 refine ZX ?_
 refine VD.one rfl (fN hS rfl fun yO hS=>eL (Pk 12 (Pk 11 (Pk 10 (Pk 7 (Pk 6 (Pk 5 (Pk 2 (Pk 1 (Pk 0 Pz))))))))) ?_)
 refine VD.one rfl (fJ hS rfl fun CI hS=>eL (Pk 12 (Pk 11 (Pk 10 (Pk 2 (Pk 1 (Pk 0 Pz)))))) ?_)
 refine VD.one rfl ?_
 obtain ⟨IM,aHT,hS⟩:=dU hS
 refine VL.aDK ((XA aA.aU CI).out aHT) rfl (by decide) ?_
 rintro GP rfl
 try dsimp only
 refine eL (Pk 12 (Pk 11 (Pk 10 Pz))) ?_
 refine VD.one rfl (fN hS rfl fun aAS hS=>eY ?_)
 obtain ⟨RW,aHW,hS⟩:=dU hS
 refine Zw rfl (lW ((z6 GP aAS).out aHW) rfl (fun _ _=>rfl)) ?_
 exact ZE hS
instance aDD (jE:bN) :
 jG Tryz.prog 269 [.agg #[i64 jE.base,jE.index.val,jE.work.val,str jE.text]] (Sh.vB jE.pl) (jE.index.ok.and jE.work.ok) (X:=bN) (fun x => .agg (bB.enc x).toArray) (fun x=>x.pl) (fun x=>x.m):=by
 refine jO Tryz.func269 Tryz.ntmps269 fun r hS c => ?_
 unfold Sh.vB at hS
 refine cI (kF fun iS=>dG fun B4=>Zl ?_)
 refine Zq ?_
 refine hU [(0,true),(1,true),(4,true),(5,true),(2,false),(3,false),(8,true),(6,false),(7,false),(9,false),(10,true),(11,false)] ?_
 refine ZX ?_
 refine VD.one rfl (fJ hS rfl fun fW hS=>eL (Pk 5 (Pk 4 Pz)) ?_)
 refine VD.one rfl ?_
 refine VL.shut fW 89 (fun _ _ _ _=>trivial) ?_
 refine fN hS rfl fun a1H hS=>eL (Pk 5 (Pk 4 Pz)) ?_
 refine ZX ?_
 refine VD.one rfl (fJ hS rfl fun aHw hS=>eL (Pk 8 Pz) ?_)
 refine VD.one rfl ?_
 refine VL.shut aHw 89 (fun _ _ _ _=>trivial) ?_
 refine fN hS rfl fun aVx hS=>eL (Pk 8 Pz) ?_
 refine VD.one rfl (ZX ?_)
 refine eY ?_
 refine ZX ?_
 refine VD.one rfl (ZX ?_)
 refine eY ?_
 refine xE ?_
 refine VC.bD [1,2] (ZX ?_)
 cases hS
 exact VC.ret (Z4 ⟨jE.base,a1H,aVx,jE.text⟩ rfl)
instance Q8 (aA:Sv bN) :
 jG Tryz.prog 237 [aA.val] (Sh.iT (aA.l.map bN.pl)) aA.ok (X:=Sv bN) (fun x=>x.val) (fun x=>(x.l.map bN.pl)) (fun x=>x.ok):=by
 refine jO Tryz.func237 Tryz.ntmps237 fun r hS c => ?_
 unfold Sh.iT at hS
 refine ZX ?_
 refine Zu (wW bN.pl (s:=aA) Tryz.underlying41 rfl) (Zm (Zu (wW bN.pl (s:=aA) Tryz.underlying41 rfl) ?_))
 obtain ⟨b8,hS⟩:=bX hS
 refine VL.SH Tryz.underlying41 nQ rfl rfl rfl b8.1 (aB6 b8.2) (by decide) fun NW rP => ?_
 replace hS:=dR ((congrArg (List.map bN.pl) rP).trans List.map_take) hS
 exact ZE hS
instance aLb (aA:Sv bN) :
 uL Tryz.prog 268 [aA.val] (Sh.sW (aA.l.map bN.pl)) aA.ok (Ow.emp) (X:=Sv bN) (fun x=>x.val) (fun x=>(x.l.map bN.pl)) (fun x=>(qB x.l)) (fun x=>Sv.own x 128):=by
 refine uV Tryz.func268 Tryz.ntmps268 fun r hS c => ?_
 unfold Sh.sW at hS
 refine ZX ?_
 refine Zq (ZX ?_)
 refine Zu (wW bN.pl (s:=aA) Tryz.underlying41 rfl) ?_
 refine ZX ?_
 refine Zb ?_
 refine VC.lU (⟨none,0,[]⟩:Sv bN) 128 ⟨rfl,rfl⟩ ?_
 refine VC.X8 (s:=(⟨none,0,[]⟩:Sv bN)) rfl ?_
 refine VC.iter (S:=Sv bN×Int) (fun sg=>((sg.1.l.map bN.pl),sg.2)) (fun sg=>[(3,sg.1.val),(6,aA.val),(7,i64 ((aA.l.map bN.pl).length:Int)),(8,i64 sg.2)]) (fun sg=>(qB sg.1.l)) (fun sg=>Ow.star (Sv.own sg.1 128) (Ow.emp)) (⟨none,0,[]⟩,0) [3,6,7,8] hS rfl ?_
 rintro ⟨oC,yL⟩ m1 y1 hS hK1
 refine ZX ?_
 refine Zq (Zc hS (fun h9 hS => ?_) (fun h9 hS => ?_))
 ·
  refine Zk ?_
  refine Zq (Zb (cI ?_))
  obtain ⟨vI,NL,I3,hS⟩:=DT hS
  refine VL.deep vI.m I3 (fun _ q=>q) ?_
  refine Zu (jY (s:=aA) Tryz.underlying41 nQ rfl rfl NL (bQ NL I3)) (Zu (sR  (s:=aA) TL rfl rfl I3) ?_)
  refine dG fun aTW=>ZX ?_
  refine Zr (ZX ?_)
  refine fN hS rfl fun CK hS => ?_
  refine VL.lit (α:=bN) (xs:=[.tmp 14]) (vs:=[.agg #[i64 CK.base,CK.index.val,CK.work.val,str CK.text]]) [⟨CK.base,CK.index,CK.work,CK.text⟩] Tryz.underlying41 Z3 (by decide) rfl rfl rfl rfl (by decide) (fun h m=>List.forall_mem_cons.2 ⟨dM.out (X:=(CK.index.ok.and CK.work.ok)) h m,fun _ h=>by cases h⟩) (by decide) (fun a6J a0D => ?_) (by decide)
  replace hS:=dR (congrArg (List.map bN.pl) a0D) hS
  obtain ⟨b16,hS⟩:=bX hS
  refine VL.app (s:=oC) (r:=a6J) Tryz.underlying41 TM (by decide) rfl Fo.out (ap1 (Y3 b16)) (ap2 (Y3 b16) (by decide)) (by decide) (fun bBF aNx => ?_)
  replace hS:=dR ((congrArg (List.map bN.pl) aNx).trans List.map_append) hS
  refine VL.X7 aNx ?_
  exact ZE hS
 exact ZE hS
theorem aGK (s v:Sv bN) (i:Int) (hi:0≤i∧i≤(s.l.length:Int)) (hv:v.l≠[]) (hb:s.l.length+v.l.length≤4294967296):Ct Tryz.prog 267 [s.val,i64 i,v.val] ((qB s.l).and (qB v.l)) (Ow.star (s.own 128) (v.own 128)) (X:=Sv bN) (fun q=>q.val) (fun q=>q.l=s.l.take i.toNat++v.l++s.l.drop i.toNat) (fun q=>qB q.l) (fun q=>q.own 128):=by
 refine Zo Tryz.func267 Tryz.ntmps267 fun c => ?_
 have hvp:0 < v.l.length:=List.length_pos_iff.2 hv
 have hK:bB.sz bN=4:=rfl
 refine ZX ?_
 refine VL.fits (s:=s) (e:=128) Fo.out fun hf => ?_
 refine Zu (EM (s:=s) Tryz.underlying41 nQ rfl rfl hi.1 hi.2 hf) ?_
 refine ZX ?_
 refine Zq (ZX ?_)
 refine VC.mY rfl (fun h16=>absurd h16 (by omega)) (fun h16 => ?_)
 refine ZX ?_
 refine Zu (J0 (s:=s) Tryz.underlying41 rfl) ?_
 refine ZX ?_
 refine Zq (ZX ?_)
 refine VC.mY rfl (fun h22 => ?_) (fun h22 => ?_)
 ·
  refine ZX ?_
  refine VL.shut v 128 (fun h m=>dM.out (X:=qB v.l) h m) ?_
  refine VL.aNY (s:=s) (r:=v) Tryz.underlying41 Tryz.underlying40 TM (by decide) rfl Fo.out (ap1 hb) (ap2 hb (by decide)) (by decide) (fun q hq => ?_)
  refine ZX ?_
  have e1:i.toNat=s.l.length:=by omega
  exact VC.ret (GI (.inr rfl) rfl rfl q rfl (by rw [hq,e1,List.take_length,List.drop_length,List.append_nil]) (fun h m z hz=>by rw [hq] at hz; exact (List.mem_append.1 hz).elim (dM.out (X:=qB s.l) h m z) (dM.out (X:=qB v.l) h m z)) fL.out)
 have hin:i < (s.l.length:Int):=by omega
 have hne:s.l≠[]:=fun h=>by rw [h] at hin; simp at hin; omega
 have hkq:(s.l.length:Int)+(v.l.length:Int) - i=((s.l.length+v.l.length - i.toNat:Nat):Int):=by omega
 have hLn:(s.l.take i.toNat++v.l++s.l.drop i.toNat).length=s.l.length+v.l.length:=by simp only [List.length_append,List.length_take,List.length_drop]; omega
 have hfl:(s.l.take i.toNat++v.l++s.l.drop i.toNat).flatMap bB.enc=(s.l.take i.toNat).flatMap bB.enc++v.l.flatMap bB.enc++(s.l.drop i.toNat).flatMap bB.enc:=by rw [List.flatMap_append,List.flatMap_append]
 have lA:((s.l.take i.toNat).flatMap bB.enc).length=i.toNat*4:=by rw [gI,List.length_take,hK,Nat.min_eq_left (by omega)]
 have lV:(v.l.flatMap bB.enc).length=v.l.length*4:=by rw [gI,hK]
 have lS:((s.l.drop i.toNat).flatMap bB.enc).length=(s.l.length - i.toNat)*4:=by rw [gI,List.length_drop,hK]
 refine Zk ?_
 refine Zq (ZX ?_)
 refine Zu (lN rfl rfl ⟨by omega,by omega⟩) ?_
 refine Zm (Zu (aD2 (a0:=s.a) (L:=s.l.length) (C:=s.c) Tryz.underlying41 rfl) ?_)
 refine ZX ?_
 refine VC.mY rfl (fun h31 => ?_) (fun h31 => ?_)
 ·
  refine VC.shut s 128 (fun h m=>dM.out (X:=qB s.l) h m) ?_
  refine VC.shut v 128 (fun h m=>dM.out (X:=qB v.l) h m) ?_
  refine cI ?_
  refine VL.CC (φ:=s.a=some ⟨s.b,s.o,none⟩) (fun h m=>(dM.out (X:=s.ok) h m).2.2.1 hne) fun hsa => ?_
  refine VL.CC (φ:=v.a=some ⟨v.b,v.o,none⟩) (fun h m=>(dM.out (X:=v.ok) h m).2.2.1 hv) fun hva => ?_
  refine ZX ?_
  refine Zu (OB (a0:=s.a) (L:=s.l.length) (C:=s.c) (K:=4) Tryz.underlying41 nQ rfl rfl hi.1 (by omega)) ?_
  refine ZX ?_
  refine Zu (lN rfl rfl ⟨by omega,by omega⟩) ?_
  refine Zm ?_
  refine Zu (MI rfl rfl ⟨by omega,by omega⟩) ?_
  refine VL.F4 39 rfl (congrArg (Value.int .i64) hkq) ?_
  refine VL.aHE (s:=s) (L:=i.toNat) (kq:=s.l.length+v.l.length - i.toNat) Tryz.underlying41 Tryz.underlying3 TM (by decide) rfl hne (by omega) (by omega) (by omega) (by omega) (by decide) (by decide) fun g cs cp hcl hcp hcm hct => ?_
  rw [hK] at hcl hct
  rw [show i.toNat+(s.l.length+v.l.length - i.toNat)=s.l.length+v.l.length by omega] at hcp ⊢
  have hfit:((s.l.take i.toNat).flatMap bB.enc).length+(v.l.flatMap bB.enc).length+((s.l.drop i.toNat).flatMap bB.enc).length≤cs.length:=by
    rw [lA,lV,lS,hcl,← Nat.add_mul,← Nat.add_mul]; exact Nat.mul_le_mul_right _ (by omega)
  have hic:=NG (V:=v.l.flatMap bB.enc) (S:=(s.l.drop i.toNat).flatMap bB.enc) (by rw [lA]; exact hct) hfit
  rw [← hfl,lA,lV,lS] at hic
  refine ZX ?_
  refine Zu (lD (b:=g) (o:=0) (L:=s.l.length+v.l.length) (C:=cp) (K:=4) Tryz.underlying41 nQ rfl rfl hi.1 (by omega) hcp (by omega) rfl) ?_
  refine Zm ?_
  refine VL.F4 44 rfl (show v.val = .slice (some ⟨v.b,v.o+0*bB.sz bN,none⟩) v.l.length v.c by unfold Sv.val; rw [hva,Nat.zero_mul]; rfl) ?_
  refine VL.DU (src:=v.l.flatMap bB.enc) Tryz.underlying41 nQ oS.out rfl (by rw [lV]; congr 1; exact (Nat.min_eq_left (by omega)).symm) (JR (r:=v) (by decide) hv) (oI v.l) (by rw [lV,Nat.zero_add,hcl,← Nat.add_mul]; exact Nat.mul_le_mul_right _ (by omega)) (by decide) ?_
  rw [Nat.zero_add,lV]
  refine Zl ?_
  refine Zq ?_
  refine hU [(0,true),(1,true),(2,true),(3,true),(4,true),(5,true),(6,true),(7,true),(8,false)] ?_
  refine ZX ?_
  refine Zw rfl (lN rfl rfl ⟨by omega,by omega⟩) ?_
  refine Zw rfl (lD (b:=g) (o:=0) (L:=s.l.length+v.l.length) (C:=cp) (K:=4) Tryz.underlying41 nQ rfl rfl (by omega) (by omega) hcp (by omega) rfl) ?_
  refine ZX ?_
  refine Zw rfl (lD (b:=s.b) (o:=s.o) (L:=s.l.length) (C:=s.c) (K:=4) Tryz.underlying41 nQ (show some s.val=_ by unfold Sv.val; rw [hsa]) rfl hi.1 (by omega) hf (by omega) rfl) ?_
  refine VD.one rfl ?_
  rw [show (i+(v.l.length:Int)).toNat=i.toNat+v.l.length by omega]
  refine VL.DU (src:=(s.l.drop i.toNat).flatMap bB.enc) Tryz.underlying41 nQ oS.out rfl (by rw [lS]; congr 1; exact (Nat.min_eq_left (by omega)).symm) (T3 (r:=s) (by decide) hne i.toNat) (oI _) (by rw [lS,Nat.zero_add,hic.1,hcl,← Nat.add_mul]; exact Nat.mul_le_mul_right _ (by omega)) (by decide) ?_
  rw [Nat.zero_add,lS,Nat.add_mul]
  refine eY ?_
  refine ZX ?_
  have ho:=fun F=>EB (F:=F) (e:=128) (b:=g) (l':=s.l.take i.toNat++v.l++s.l.drop i.toNat) (Nat.le_of_eq (hic.2.1.trans hcl).symm) (by rw [gI] at hic; exact hic.2.2) hLn hcp hcm
  exact VC.ret (GI (.inr rfl) rfl rfl ⟨some ⟨g,0,none⟩,cp,_⟩ (ho Ow.emp).1 rfl (fun h m z hz=>(List.mem_append.1 hz).elim (fun q=>(List.mem_append.1 q).elim (fun q=>dM.out (X:=qB s.l) h m z (List.mem_of_mem_take q)) (fun q=>dM.out (X:=qB v.l) h m z q)) (fun q=>dM.out (X:=qB s.l) h m z (List.mem_of_mem_drop q))) (ho _).2)
 refine ZX ?_
 refine VL.open (s:=s) (e:=128) Fo.out (by omega) fun b cs hsa hcl hct _ hcm => ?_
 rw [hK] at hcl hct
 have hctA:cs.take ((s.l.take i.toNat).flatMap bB.enc).length=(s.l.take i.toNat).flatMap bB.enc:=by
   rw [lA]
   have:cs.take (i.toNat*4)=(cs.take (s.l.length*4)).take (i.toNat*4):=by rw [List.take_take,Nat.min_eq_left (Nat.mul_le_mul_right _ (by omega))]
   rw [this,hct]
   exact qE s.l i.toNat
 have hfit:((s.l.take i.toNat).flatMap bB.enc).length+(v.l.flatMap bB.enc).length+((s.l.drop i.toNat).flatMap bB.enc).length≤cs.length:=by
   refine Nat.le_trans ?_ hcl; rw [lA,lV,lS,← Nat.add_mul,← Nat.add_mul]; exact Nat.mul_le_mul_right _ (by omega)
 have hic:=NH (V:=v.l.flatMap bB.enc) (S:=(s.l.drop i.toNat).flatMap bB.enc) hctA hfit
 rw [← hfl,lA,lV,lS] at hic
 refine ZX ?_
 refine Zu (lN rfl rfl ⟨by omega,by omega⟩) ?_
 refine Zu (OB (a0:=s.a) (L:=s.l.length) (C:=s.c) (K:=4) Tryz.underlying41 nQ rfl rfl (by omega) (by omega)) ?_
 rw [show ((s.l.length:Int)+(v.l.length:Int)).toNat=s.l.length+v.l.length by omega,hsa]
 refine ZX ?_
 refine Zq (ZX ?_)
 refine Zu (lN rfl rfl ⟨by omega,by omega⟩) ?_
 refine Zu (lD (b:=b) (o:=0) (L:=s.l.length+v.l.length) (C:=s.c) (K:=4) Tryz.underlying41 nQ rfl rfl (by omega) (by omega) (by omega) (by omega) rfl) ?_
 refine Zu (NT (tS:=40) (tR:=4) (s:=v) (b:=b) Tryz.func316 rfl rfl (by kernel_rfl) (by kernel_rfl) Tryz.underlying40 nQ rfl oS.out (fun h=>by rw [h] at hcl; simp at hcl; omega) hv) ?_
 refine ZX ?_
 refine VC.DB rfl ?_
 refine VC.shut v 128 (fun h m=>dM.out (X:=qB v.l) h m) ?_
 refine Zq ?_
 refine hU [(0,true),(1,true),(2,true),(3,true),(4,true),(5,true),(6,true),(7,true),(8,false)] ?_
 refine ZX ?_
 refine Zw rfl (lN rfl rfl ⟨by omega,by omega⟩) ?_
 refine Zw rfl (lD (b:=b) (o:=0) (L:=s.l.length+v.l.length) (C:=s.c) (K:=4) Tryz.underlying41 nQ rfl rfl (by omega) (by omega) (by omega) (by omega) rfl) ?_
 refine ZX ?_
 refine Zw rfl (lD (b:=b) (o:=0) (L:=s.l.length+v.l.length) (C:=s.c) (K:=4) Tryz.underlying41 nQ rfl rfl hi.1 (by omega) (by omega) (by omega) rfl) ?_
 refine VD.one rfl ?_
 rw [show (i+(v.l.length:Int)).toNat=i.toNat+v.l.length by omega,Nat.zero_add,Nat.zero_add]
 refine VL.DU (src:=(s.l.drop i.toNat).flatMap bB.enc) Tryz.underlying41 nQ oS.out rfl (by rw [lS]; congr 1; simp only [Nat.min_def]; split <;> omega) (Y6 (n:=s.l.length) hct rfl) (oI _) (by refine Nat.le_trans ?_ hcl; rw [lS,← Nat.add_mul]; exact Nat.mul_le_mul_right _ (by omega)) (by decide) ?_
 rw [lS,Nat.add_mul]
 refine eY ?_
 refine ZX ?_
 refine Zu (lD (b:=b) (o:=0) (L:=s.l.length+v.l.length) (C:=s.c) (K:=4) Tryz.underlying41 nQ rfl rfl hi.1 (by omega) (by omega) (by omega) rfl) ?_
 refine Zm ?_
 refine VL.CC (φ:=v.a=some ⟨v.b,v.o,none⟩) (fun h m=>(dM.out (X:=v.ok) h m).2.2.1 hv) fun hva => ?_
 refine VL.F4 81 rfl (show v.val = .slice (some ⟨v.b,v.o+0*bB.sz bN,none⟩) v.l.length v.c by unfold Sv.val; rw [hva,Nat.zero_mul]; rfl) ?_
 rw [Nat.zero_add]
 refine VL.DU (src:=v.l.flatMap bB.enc) Tryz.underlying41 nQ oS.out rfl (by rw [lV]; congr 1; exact (Nat.min_eq_left (by omega)).symm) (JR (r:=v) (by decide) hv) (oI v.l) (by rw [hic.1]; refine Nat.le_trans ?_ hcl; rw [lV,← Nat.add_mul]; exact Nat.mul_le_mul_right _ (by omega)) (by decide) ?_
 rw [lV]
 refine ZX ?_
 have ho:=fun F=>EB (F:=F) (e:=128) (b:=b) (l':=s.l.take i.toNat++v.l++s.l.drop i.toNat) (by rw [hic.2.1]; exact hcl) (by rw [gI] at hic; exact hic.2.2) hLn (by omega) hcm
 exact VC.ret (GI (.inr rfl) rfl rfl ⟨some ⟨b,0,none⟩,s.c,_⟩ (ho Ow.emp).1 rfl (fun h m z hz=>(List.mem_append.1 hz).elim (fun q=>(List.mem_append.1 q).elim (fun q=>dM.out (X:=qB s.l) h m z (List.mem_of_mem_take q)) (fun q=>dM.out (X:=qB v.l) h m z q)) (fun q=>dM.out (X:=qB s.l) h m z (List.mem_of_mem_drop q))) (ho _).2)
instance UQ (aA:Sv bN) (x_1:bN) :
 jG Tryz.prog 199 [aA.val,.agg #[i64 x_1.base,x_1.index.val,x_1.work.val,str x_1.text]] (Sh.uF (aA.l.map bN.pl) x_1.pl) (aA.ok.and (x_1.index.ok.and x_1.work.ok)) (X:=Sv bN×Int) (fun x => .tuple #[x.1.val,i64 x.2]) (fun x=>((x.1.l.map bN.pl),x.2)) (fun x=>x.1.ok):=by
 refine jO Tryz.func199 Tryz.ntmps199 fun r hS c => ?_
 unfold Sh.uF at hS
 refine cI (kF fun rX=>ZX ?_)
 refine Zq (ZX ?_)
 refine Zu (wW bN.pl (s:=aA) Tryz.underlying41 rfl) ?_
 refine ZX ?_
 refine Zc hS (fun h8 hS => ?_) (fun h8 hS => ?_)
 ·
  refine ZX ?_
  cases hS
  exact VC.ret (Z2 (⟨none,0,[]⟩,4))
 refine Zk ?_
 refine Zq ?_
 refine hU [(0,true),(2,true),(1,false),(3,false),(4,false),(5,false),(6,false),(7,true),(8,true)] ?_
 refine ZX ?_
 refine VD.one rfl (fJ hS rfl fun JU hS=>eL (Pk 2 Pz) ?_)
 refine VD.one rfl (fN hS rfl fun fX hS=>eY ?_)
 refine VD.one rfl ?_
 refine VL.aKL (α:=bN) (xs:=[.tmp 12]) (vs:=[.agg #[i64 fX.base,fX.index.val,fX.work.val,str fX.text]]) [⟨fX.base,fX.index,fX.work,fX.text⟩] Tryz.underlying40 Z3 (by decide) rfl rfl rfl rfl (by decide) (by decide) (fun aXC aNw => ?_) (by decide)
 refine VL.LK (qB aXC.l) (by rw [aNw]; exact (fun h m=>List.forall_mem_cons.2 ⟨dM.out (X:=(fX.index.ok.and fX.work.ok)) h m,fun _ h=>by cases h⟩)) ?_
 replace hS:=dR (congrArg (List.map bN.pl) aNw) hS
 refine eY ?_
 refine VD.one rfl ?_
 obtain ⟨b14,hS⟩:=bX hS
 refine VL.nW (aGK JU aXC 0 ⟨b14.1.1,aB6 b14.1.2⟩ (fun q=>b14.2.1 (by rw [q]; rfl)) (by simpa only [List.length_map] using b14.2.2)) rfl (by decide) ?_
 intro bBC a0B
 replace hS:=dR ((congrArg (List.map bN.pl) a0B).trans (by simp only [List.map_append,List.map_take,List.map_drop])) hS
 refine eY ?_
 refine VD.one rfl (fJ hS rfl fun aAR hS=>eY ?_)
 refine ZD ?_
 refine xE ?_
 refine VC.bD [4,5] ?_
 refine VC.shut aAR 128 (fun h m=>dM.out (X:=qB aAR.l) h m) ?_
 exact ZE hS
instance aWv (aA:aL) :
 gS Tryz.prog 200 [.agg (aI aA).toArray] (Sh.F1 aA.pl) aA.m (fun r => .bool r):=by
 refine gU Tryz.func200 Tryz.ntmps200 fun r hS c => ?_
 unfold Sh.F1 at hS
 refine cI ?_
 refine qC (aI aA) fun iS => ?_
 refine ZX ?_
 refine Zq ?_
 refine hU [(0,true),(2,true),(3,true),(4,true),(1,false),(5,false),(6,true)] ?_
 refine ZX ?_
 refine VD.one rfl (fN hS rfl fun BV hS=>eL (Pk 4 (Pk 3 (Pk 2 Pz))) ?_)
 refine VD.one rfl (fJ hS rfl fun PM hS=>eY ?_)
 refine ZX ?_
 refine Zq (ZX ?_)
 refine fN hS rfl fun EC hS=>ZX ?_
 refine VC.bD [1,3,15,16,17] (Zb ?_)
 refine VC.iJ [1,3,15,16] (fun (FG:Int)=>FG) (fun FG ρ=>(17,i64 FG)::ρ) 0 [17,1,3,15,16] hS ?_
 rintro FG m1 y1 hS hK1
 refine ZX ?_
 refine Zq (Zc hS (fun h18 hS => ?_) (fun h18 hS => ?_))
 ·
  refine Zk ?_
  refine Zq (Zb (cI (BY hS rfl fun aYO a9v hS=>ZX ?_)))
  refine dG fun O5=>ZX ?_
  refine Zb ?_
  refine VC.iJ [1,3,5,15,16,17,23,24] (fun (RO:Int)=>RO) (fun RO ρ=>(25,i64 RO)::ρ) 0 [25,1,3,5,15,16,17,23,24] hS ?_
  rintro RO m2 y2 hS hK2
  refine ZX ?_
  refine Zq (Zc hS (fun h26 hS => ?_) (fun h26 hS => ?_))
  ·
   refine Zk ?_
   refine Zq (Zb (cI (BY hS rfl fun aIo bAC hS=>ZX ?_)))
   refine dG fun bAo=>ZO ?_
   refine Zl ?_
   refine VC.cJ [1,3,5,15,16,17,23,24,25] (fun (V9:Bool)=>V9) (fun V9 ρ=>(40,.bool V9)::ρ) hS ?_ ?_
   ·
    intro k12 hS
    refine Zr (ZX ?_)
    refine jU hS rfl fun aPB hS=>Zm ?_
    refine B3 34 hS (fun h34 hS => ?_) (fun h34 hS => ?_)
    ·
     refine ZX ?_
     obtain ⟨R2,aTr,hS⟩:=dU hS
     refine Zh (lW ((p7 PM aIo.path).out aTr) rfl (fun _ _=>rfl)) ?_
     exact ZE hS
    exact ZE hS
   rintro V9 hS
   exact ZE hS
  exact ZE hS
 exact ZE hS
instance aXA (aA:aL) (BW:bI) :
 jG Tryz.prog 113 [.agg (aI aA).toArray,str BW] (Sh.CZ aA.pl BW) (aA.m.and Gl) (X:=aL×Er) (fun x => .tuple #[.agg (bB.enc x.1).toArray,x.2.val]) (fun x=>(x.1.pl,x.2.pl)) (fun x=>(x.1.m.and x.2.ok)):=by
 refine jO Tryz.func113 Tryz.ntmps113 fun r hS c => ?_
 unfold Sh.CZ at hS
 refine cI ?_
 refine qC (aI aA) fun iB => ?_
 refine dG fun xF=>ZX ?_
 refine fN hS rfl fun T8 hS=>ZX ?_
 refine Zq (Zb (ZX ?_))
 refine VC.bD [1,2,4,6,16] (Zc hS (fun h16 hS => ?_) (fun h16 hS => ?_))
 ·
  refine ZX ?_
  cases hS
  exact VC.ret (Z4 (aA,(Er.no 7)) rfl)
 refine ZX ?_
 refine fJ hS rfl fun aLA hS=>ZX ?_
 refine VC.bD [1,2,4,6,24] (Zc hS (fun h24 hS => ?_) (fun h24 hS => ?_))
 ·
  refine ZX ?_
  cases hS
  exact VC.ret (Z4 (aA,(Er.no 9)) rfl)
 refine VC.wT (S:=Bool) (fun (FH:Bool)=>FH) (fun (FH:Bool)=>[(1,str BW),(2,ptr iB 0),(4,ptr xF 0),(6,T8.val),(33,.bool FH)]) (fun (FH:Bool)=>Mo.tt) (fun (FH:Bool)=>Ow.star (bM xF [.slice none 0 0,.slice none 0 0,.slice none 0 0,str [],i64 0,str [],i64 0,str [],.slice none 0 0,.slice none 0 0,i64 0,str [],str [],i64 0,.slice none 0 0,.slice none 0 0,.slice none 0 0,.slice none 0 0,.slice none 0 0,.slice none 0 0,i64 0] 49) (Ow.star (bM iB (aI aA) 49) (Ow.emp))) hS ?_ ?_
 ·
  intro k6 hS
  refine Zr (ZX ?_)
  refine jU hS rfl fun aXx hS=>Zm ?_
  refine B3 36 hS (fun h36 hS => ?_) (fun h36 hS => ?_)
  ·
   refine ZX ?_
   obtain ⟨aXy,aZd,hS⟩:=dU hS
   refine Zh (eT ((UN aA).out aZd) rfl (fun _ _=>rfl)) ?_
   exact ZE hS
  exact ZE hS
 rintro FH hS
 refine iG hS (fun h33 hS => ?_) (fun h33 hS => ?_)
 ·
  refine ZX ?_
  cases hS
  exact VC.ret (Z4 (aA,(Er.no 10)) rfl)
 refine Zk ?_
 refine Zq ?_
 refine hU [(0,true),(1,true),(2,true),(3,true),(5,true),(6,true),(7,true),(4,false),(8,false),(9,false),(10,true)] ?_
 refine ZX ?_
 refine VD.one rfl (fN hS rfl fun a9N hS=>eL (Pk 7 (Pk 6 (Pk 5 (Pk 2 (Pk 1 (Pk 0 Pz)))))) ?_)
 refine VD.one rfl (fJ hS rfl fun aRh hS=>eL (Pk 2 (Pk 1 (Pk 0 Pz))) ?_)
 refine VD.one rfl ?_
 obtain ⟨aPQ,aUB,hS⟩:=dU hS
 refine VL.aDK ((XA aA.aU aRh).out aUB) rfl (by decide) ?_
 rintro VU rfl
 try dsimp only
 refine eY ?_
 refine ZD ?_
 refine xE ?_
 refine VC.bD [1,2,4,6,7] (ZX ?_)
 refine Zu (cA (vs:=[(0,i64 aA.aG),(1,T8.val),(2,VU.val),(3,str BW)]) (cs := #[i64 aA.aG,T8.val,VU.val,str BW]) rfl (by kernel_rfl)) ?_
 refine VL.shut VU 89 (fun _ _ _ _=>trivial) ?_
 refine HB hS (UQ aA.aW (⟨aA.aG,T8,VU,BW⟩:bN)).out fun ⟨aGl,aRr⟩ hS => ?_
 try dsimp only
 refine ZO ?_
 refine Zl ?_
 refine VC.bD [2,4,6,8,9] (Zq (ZX ?_))
 refine qD hS (fun h68 hS => ?_) (fun h68 hS => ?_)
 ·
  refine ZX ?_
  cases hS
  exact VC.ret (Z4 (aA,(Er.no aRr)) rfl)
 refine Zk ?_
 refine Zq (ZX ?_)
 refine fN hS rfl fun aGm hS=>ZX ?_
 refine VC.bD [2,4,8,10,75] (qD hS (fun h75 hS => ?_) (fun h75 hS => ?_))
 ·
  refine Zq ?_
  refine hU [(0,true),(1,true),(2,false),(3,false),(4,true)] ?_
  refine ZX ?_
  refine VD.one rfl (fN hS rfl fun a7q hS=>eL (Pk 0 Pz) ?_)
  refine VD.one rfl (ZX ?_)
  refine eY ?_
  exact ZE hS
 refine Zk ?_
 refine Zq (ZX ?_)
 refine jU hS rfl fun aPi hS=>Zl ?_
 refine iG hS (fun h80 hS => ?_) (fun h80 hS => ?_)
 ·
  refine ZX ?_
  cases hS
  exact VC.ret (Z4 (aA,(Er.no 8)) rfl)
 refine Zk ?_
 refine VC.wT (S:=Nat×aL) (fun sg=>((),sg.2.pl)) (fun sg=>[(2,ptr iB 0),(4,ptr xF 0),(8,aGl.val),(11,ptr sg.1 0)]) (fun sg=>sg.2.m) (fun sg=>Ow.star (bM xF [.slice none 0 0,.slice none 0 0,.slice none 0 0,str [],i64 0,str [],i64 0,str [],.slice none 0 0,.slice none 0 0,i64 0,str [],str [],i64 0,.slice none 0 0,.slice none 0 0,.slice none 0 0,.slice none 0 0,.slice none 0 0,.slice none 0 0,i64 0] 49) (Ow.star (bM iB (aI aA) 49) (Ow.star (bM sg.1 (aI sg.2) 49) (Ow.emp)))) hS ?_ ?_
 ·
  intro k18 hS
  refine VC.GA (n:=4) (listed:=bl 6 3) [(0,true),(1,true)] mixed (by kernel_rfl) (by kernel_rfl) (by kernel_rfl) (by kernel_rfl) ?_
  refine VD.q rfl (rQ qN rfl rfl) (by decide) ?_
  refine VD.q rfl (rQ qN rfl rfl) (by decide) ?_
  obtain ⟨aPn,aJ1,hS⟩:=dU hS
  obtain ⟨aPo,aEP,hS⟩:=dU hS
  refine VD.SY fun hcl => ?_
  refine VG.fork (l:=[2,4]) (n:=3) (by kernel_rfl) rfl fun i hi => ?_
  obtain rfl | rfl:i=2∨i=4:=by simpa using hi
  ·
   refine pX.of rfl ?_
   refine VL.jF ((W8 aA).out aJ1) rfl (by decide) ?_
   rintro NR rfl
   try dsimp only
   refine zB (bl 6 7) (Pk 0 Pz) ?_
   refine VG.fork (l:=[3,4]) (n:=2) (by kernel_rfl) rfl fun i hi => ?_
   obtain rfl | rfl:i=3∨i=4:=by simpa using hi
   ·
    refine pX.of rfl ?_
    refine VL.jF ((KG aA NR).out aEP) rfl (by decide) ?_
    rintro tW rfl
    try dsimp only
    refine zB (bl 6 15) Pz ?_
    refine VG.ord [(4,false),(5,false)] (by kernel_rfl) (eF (by kernel_rfl)) (by kernel_rfl) ?_
    refine VD.one rfl (dG fun O3=>eY ?_)
    refine VD.one rfl ?_
    refine Zv  (vc:=(aI tW)) (cs':=(aI tW)) rfl qR ?_
    refine eY ?_
    refine VD.mt (O3,(tW:aL)) [2,4,8,11] (fun _ _ h=>h) hS rfl
   refine pX.of rfl ?_
   refine dG fun O3 => ?_
   refine zB (bl 6 23) (Pk 0 Pz) ?_
   refine VG.ord [(3,false),(5,false)] (by kernel_rfl) (eF (by kernel_rfl)) (by kernel_rfl) ?_
   refine VD.one rfl ?_
   refine VL.jF ((KG aA NR).out aEP) rfl (by decide) ?_
   rintro tW rfl
   try dsimp only
   refine eY ?_
   refine VD.one rfl ?_
   refine Zv  (vc:=(aI tW)) (cs':=(aI tW)) rfl qR ?_
   refine eY ?_
   refine VD.mt (O3,(tW:aL)) [2,4,8,11] (fun _ _ h=>h) hS rfl
  refine pX.of rfl ?_
  refine dG fun O3 => ?_
  refine zB (bl 6 19) (Pk 1 (Pk 0 Pz)) ?_
  refine VG.ord [(2,false),(3,false),(5,false)] (by kernel_rfl) (eF (by kernel_rfl)) (by kernel_rfl) ?_
  refine VD.one rfl ?_
  refine VL.jF ((W8 aA).out aJ1) rfl (by decide) ?_
  rintro NR rfl
  try dsimp only
  refine eL (Pk 0 Pz) ?_
  refine VD.one rfl ?_
  refine VL.jF ((KG aA NR).out aEP) rfl (by decide) ?_
  rintro tW rfl
  try dsimp only
  refine eY ?_
  refine VD.one rfl ?_
  refine Zv  (vc:=(aI tW)) (cs':=(aI tW)) rfl qR ?_
  refine eY ?_
  refine VD.mt (O3,(tW:aL)) [2,4,8,11] (fun _ _ h=>h) hS rfl
 rintro ⟨a1q,o7⟩ hS
 refine Zq (ZX ?_)
 refine jU hS rfl fun aPq hS=>Zl ?_
 refine iG hS (fun h88 hS => ?_) (fun h88 hS => ?_)
 ·
  refine ZX ?_
  cases hS
  exact VC.ret (Z4 (aA,(Er.no 4)) rfl)
 refine ZX ?_
 cases hS
 exact VC.ret (Z4 (⟨o7.aU,o7.aS,o7.aZ,o7.aH,o7.aG,o7.aR,o7.aM,o7.aT,o7.aN,o7.aP,o7.aO,o7.aJ,o7.aD,o7.aE,o7.aK,o7.aQ,aGl,o7.aX,o7.bF,o7.aY,o7.time⟩,.nil) rfl)
instance aMb (aA:Sv bN) (n_1:Int) :
 gS Tryz.prog 270 [aA.val,i64 n_1] (Sh.rN (aA.l.map bN.pl) n_1) aA.ok (fun r => .bool r):=by
 refine gU Tryz.func270 Tryz.ntmps270 fun r hS c => ?_
 unfold Sh.rN at hS
 refine cI (Za ?_)
 refine Zl ?_
 refine cI (Zm ?_)
 refine Zu (MH rfl rfl) (Zm ?_)
 refine oT 7 hS (fun h7 hS => ?_) (fun h7 hS => ?_)
 ·
  refine ZX ?_
  refine Zh (wW bN.pl (s:=aA) Tryz.underlying41 rfl) ?_
  exact ZE hS
 exact ZE hS
theorem aGG (s:Sv bN) (i j:Int) (hi:0≤i∧i≤j∧j≤(s.l.length:Int)):Ct Tryz.prog 271 [s.val,i64 i,i64 j] (qB s.l) (s.own 128) (X:=Sv bN) (fun q=>q.val) (fun q=>q.l=s.l.take i.toNat++s.l.drop j.toNat) (fun q=>qB q.l) (fun q=>q.own 128):=by
 refine Zo Tryz.func271 Tryz.ntmps271 fun c => ?_
 obtain ⟨i0,ij,jl⟩:=hi
 have hK:bB.sz bN=4:=rfl
 refine VC.seq (VC.region ?_)
 refine Za ?_
 refine Zl ?_
 refine VC.seq (VC.region ?_)
 refine ZX ?_
 refine Zu (J0 (s:=s) Tryz.underlying41 rfl) ?_
 refine VL.fits (s:=s) (e:=128) Fo.out fun hf => ?_
 refine Zu (KD (s:=s) (lo':=some i) (hi':=some j) (mx':=some (s.l.length:Int)) i.toNat j.toNat s.l.length Tryz.underlying41 nQ rfl rfl rfl rfl (by simp; omega) (by simp; omega) (by simp) (fun _=>rfl) (by omega) (by omega) hf (by omega)) ?_
 refine Zl ?_
 refine VC.seq (VC.seq (VC.region ?_))
 refine ZX ?_
 refine VC.mY rfl (fun hij => ?_) (fun hij => ?_)
 ·
  refine VC.seq (VC.region ?_)
  refine ZX ?_
  exact VC.ret (GI (.inr rfl) rfl rfl s rfl (by rw [hij,List.take_append_drop]) (fun h m=>dM.out (X:=qB s.l) h m) fL.out)
 have hLn:(s.l.take i.toNat++s.l.drop j.toNat).length=i.toNat+(s.l.length - j.toNat):=by simp only [List.length_append,List.length_take,List.length_drop]; omega
 refine Zk ?_
 refine VC.seq (VC.region ?_)
 refine VL.open (s:=s) (e:=128) Fo.out (by omega) fun b cs hsa hcl hct _ hcm => ?_
 rw [hK] at hcl hct
 refine Zm (Zu (J0 (s:=s) Tryz.underlying41 rfl) ?_)
 refine ZX ?_
 obtain ⟨o2,ho2,hoj⟩ : ∃ o2,(s.sub j.toNat s.l.length s.c).val = .slice (some ⟨b,o2,none⟩) (s.l.length - j.toNat) (s.c - j.toNat)∧(j.toNat < s.c→o2=j.toNat*4):=by
   simp only [Sv.val,Sv.sub,hsa,hK]
   split
   . exact ⟨0,by simp,fun h=>by omega⟩
   . exact ⟨j.toNat*4,by simp [Addr.add]; omega,fun _=>rfl⟩
 have lS:((s.l.drop j.toNat).flatMap bB.enc).length=(s.l.length - j.toNat)*4:=by rw [gI,List.length_drop,hK]
 have lA:((s.l.take i.toNat).flatMap bB.enc).length=i.toNat*4:=by rw [gI,List.length_take,hK,Nat.min_eq_left (by omega)]
 have hw : ∀ k,k≤s.l.length→k*4≤s.l.length*4:=fun k h=>Nat.mul_le_mul_right _ h
 have hcK:s.l.length*4≤s.c*4:=Nat.mul_le_mul_right _ hf
 refine Zq ?_
 refine hU [(0,true),(1,true),(2,true),(3,true),(4,true),(5,true),(6,false),(7,true)] ?_
 refine ZX ?_
 refine Zw rfl (OB (a0:=s.a) (L:=s.l.length) (C:=s.c) (K:=4) Tryz.underlying41 nQ rfl rfl i0 (by omega)) ?_
 refine ZX ?_
 refine Zw rfl (EM (s:=s) Tryz.underlying41 nQ rfl rfl (by omega) jl hf) ?_
 refine VD.one rfl ?_
 refine VL.a4T (b:=b) (L:=i.toNat) (C:=s.c) (m:=s.l.length - j.toNat) (c2:=s.c - j.toNat) (o2:=o2) (K:=4) (src:=(s.l.drop j.toNat).flatMap bB.enc) Tryz.underlying41 nQ oS.out (by rw [← ho2,← hsa]; rfl) (fun k v hk=>by
   by_cases hjc:j.toNat < s.c
   . rw [hoj hjc]
     rw [← BE,hK,List.getElem?_drop,← hct] at hk
     rw [List.getElem?_take] at hk
     split at hk
     . exact hk
     . cases hk
   . have:s.l.drop j.toNat=[]:=List.drop_of_length_le (by omega)
     rw [this] at hk; cases hk) lS (by omega) (by rw [lS,← Nat.add_mul]; exact Nat.le_trans (Nat.mul_le_mul_right _ (by omega)) hcl) (oI _) (by decide) ?_
 have hA:cs.take (i.toNat*4)=(s.l.take i.toNat).flatMap bB.enc:=by
   have:cs.take (i.toNat*4)=(cs.take (s.l.length*4)).take (i.toNat*4):=by rw [List.take_take,Nat.min_eq_left (hw _ (by omega))]
   rw [this,hct]
   exact qE s.l i.toNat
 rw [hA,lS,← Nat.add_mul]
 have hT:(s.l.take i.toNat++s.l.drop j.toNat++s.l.drop (i.toNat+(s.l.length - j.toNat))).length=s.l.length:=by rw [List.length_append,hLn,List.length_drop]; omega
 have hC2:s.c*4≤((s.l.take i.toNat).flatMap bB.enc++(s.l.drop j.toNat).flatMap bB.enc++cs.drop ((i.toNat+(s.l.length - j.toNat))*4)).length:=by
   rw [List.length_append,List.length_append,lA,lS,← Nat.add_mul,List.length_drop]
   have:=hw (i.toNat+(s.l.length - j.toNat)) (by omega)
   omega
 have hT2:((s.l.take i.toNat).flatMap bB.enc++(s.l.drop j.toNat).flatMap bB.enc++cs.drop ((i.toNat+(s.l.length - j.toNat))*4)).take ((s.l.take i.toNat++s.l.drop j.toNat++s.l.drop (i.toNat+(s.l.length - j.toNat))).length*4)=(s.l.take i.toNat++s.l.drop j.toNat++s.l.drop (i.toNat+(s.l.length - j.toNat))).flatMap bB.enc:=by
   rw [hT,List.flatMap_append,List.flatMap_append,List.take_append,List.length_append,lA,lS,← Nat.add_mul,List.take_of_length_le (by rw [List.length_append,lA,lS,← Nat.add_mul]; exact hw _ (by omega))]
   congr 1
   rw [← List.drop_take,hct]
   exact (BE s.l _)
 refine eY ?_
 refine ZD ?_
 refine xE ?_
 have hv:(Value.slice (some ⟨b,0,none⟩) (i.toNat+(s.l.length - j.toNat)) s.c)=(⟨some ⟨b,0,none⟩,s.c,s.l.take i.toNat++s.l.drop j.toNat⟩:Sv bN).val:=by simp only [Sv.val,hLn]
 rw [hv]
 have ho:=EB (F:=Ow.emp) (e:=128) (b:=b) (l':=s.l.take i.toNat++s.l.drop j.toNat++s.l.drop (i.toNat+(s.l.length - j.toNat))) (L:=s.l.length) hC2 hT2 hT hf hcm
 refine VC.seq (VC.region ?_)
 refine ZX ?_
 refine Zu (J0 (s:=⟨some ⟨b,0,none⟩,s.c,s.l.take i.toNat++s.l.drop j.toNat⟩) Tryz.underlying41 rfl) ?_
 refine Zm ?_
 refine VL.a4a ho.2 ?_
 refine Zu (aD4 (a0:=some ⟨b,0,none⟩) (L:=i.toNat+(s.l.length - j.toNat)) (C:=s.c) (K:=4) (lo':=some ((s.l.take i.toNat++s.l.drop j.toNat).length:Int)) (hi':=some (s.l.length:Int)) (i.toNat+(s.l.length - j.toNat)) s.l.length Tryz.underlying41 nQ (by rw [← hv]; rfl) rfl rfl (by simp [hLn]) (by simp) (by omega) hf) ?_
 refine VL.aCm (s:=⟨some ⟨b,0,none⟩,s.c,s.l.take i.toNat++s.l.drop j.toNat++s.l.drop (i.toNat+(s.l.length - j.toNat))⟩) (i:=i.toNat+(s.l.length - j.toNat)) (.agg #[i64 0,.slice none 0 0,.slice none 0 0,str []]) Tryz.underlying41 aZv (by kernel_rfl) (by kernel_rfl) (by
   show some _=some _
   congr 2
   simp only [Sv.val,Sv.sub,hT,sliced,List.length_drop,List.length_take,hK]
   congr 1
   omega) (by simp only [hT]; omega) Fo.out fun q hq hqv => ?_
 have hql:q.l=s.l.take i.toNat++s.l.drop j.toNat:=by rw [hq]; exact List.take_left' hLn
 refine Zl ?_
 have hv2:(⟨some ⟨b,0,none⟩,s.c,s.l.take i.toNat++s.l.drop j.toNat⟩:Sv bN).val=q.val:=by rw [hqv,← hv]
 rw [hv2]
 refine VC.seq (VC.region ?_)
 refine ZX ?_
 exact VC.ret (GI (.inr rfl) rfl rfl q rfl hql (fun h m=>a0h (l:=s.l) (fun z hz=>by rw [hql] at hz; rcases List.mem_append.1 hz with q | q; exact List.mem_of_mem_take q; exact List.mem_of_mem_drop q) (dM.out (X:=qB s.l) h m)) fL.out)
instance aLP (aA:Sv bN) (n_1:Int) :
 jG Tryz.prog 201 [aA.val,i64 n_1] (Sh.uE (aA.l.map bN.pl) n_1) aA.ok (X:=Sv bN×Int) (fun x => .tuple #[x.1.val,i64 x.2]) (fun x=>((x.1.l.map bN.pl),x.2)) (fun x=>x.1.ok):=by
 refine jO Tryz.func201 Tryz.ntmps201 fun r hS c => ?_
 unfold Sh.uE at hS
 refine ZX ?_
 refine Zq (ZX ?_)
 refine jU hS rfl fun EJ hS=>ZX ?_
 refine iG hS (fun h9 hS => ?_) (fun h9 hS => ?_)
 ·
  refine ZX ?_
  cases hS
  exact VC.ret (Z2 (⟨none,0,[]⟩,1))
 refine ZX ?_
 refine fJ hS rfl fun aKm hS => ?_
 obtain ⟨b14,hS⟩:=bX hS
 obtain ⟨b15,hS⟩:=bX hS
 refine ZX ?_
 refine VL.nW (aGG aKm n_1 (n_1+1) ⟨b15.1,b15.2.1,aB6 b15.2.2⟩) rfl (by decide) ?_
 intro a6G a0C
 replace hS:=dR ((congrArg (List.map bN.pl) a0C).trans (by simp only [List.map_append,List.map_take,List.map_drop])) hS
 refine fJ hS rfl fun aAS hS=>ZO ?_
 refine Zl ?_
 refine VC.bD [4,5] ?_
 refine VC.shut aAS 128 (fun h m=>dM.out (X:=qB aAS.l) h m) ?_
 exact ZE hS
instance aDA (aA:aL) (n_1:Int) :
 jG Tryz.prog 114 [.agg (aI aA).toArray,i64 n_1] (Sh.vA aA.pl n_1) aA.m (X:=aL×Er) (fun x => .tuple #[.agg (bB.enc x.1).toArray,x.2.val]) (fun x=>(x.1.pl,x.2.pl)) (fun x=>(x.1.m.and x.2.ok)):=by
 refine jO Tryz.func114 Tryz.ntmps114 fun r hS c => ?_
 unfold Sh.vA at hS
 refine cI ?_
 refine qC (aI aA) fun iB => ?_
 refine dG fun xF=>ZX ?_
 refine fN hS rfl fun ⟨PM,aKq⟩ hS => ?_
 try dsimp only
 refine ZO ?_
 refine Zl ?_
 refine VC.bD [2,4,6,7] (Zq (ZX ?_))
 refine qD hS (fun h17 hS => ?_) (fun h17 hS => ?_)
 ·
  refine ZX ?_
  cases hS
  exact VC.ret (Z4 (aA,(Er.no aKq)) rfl)
 refine ZX ?_
 cases hS
 exact VC.ret (Z4 (⟨aA.aU,aA.aS,aA.aZ,aA.aH,aA.aG,aA.aR,aA.aM,aA.aT,aA.aN,aA.aP,aA.aO,aA.aJ,aA.aD,aA.aE,aA.aK,aA.aQ,PM,aA.aX,aA.bF,aA.aY,aA.time⟩,.nil) rfl)
instance aGU (aA:Sv Int) :
 uL Tryz.prog 272 [aA.val] (Sh.mJ aA.l) aA.ok (Ow.emp) (X:=Sv Int) (fun x=>x.val) (fun x=>x.l) (fun x=>Mo.tt) (fun x=>Sv.own x 3):=by
 refine uV Tryz.func272 Tryz.ntmps272 fun r hS c => ?_
 unfold Sh.mJ at hS
 refine ZX ?_
 refine Zq (ZX ?_)
 refine Zu (J1 (s:=aA) Tryz.underlying59 rfl) ?_
 refine Zl ?_
 refine VC.slnil (s:=aA) rfl (fun h4 => ?_) ?_
 ·
  have hS:(some [])=some r:=by
    simp [lt,gd,h4] at hS ⊢
    try exact hS
  refine cI (Za ?_)
  refine Zl ?_
  refine VC.lU (⟨none,0,[]⟩:Sv Int) 3 ⟨rfl,rfl⟩ ?_
  cases hS
  exact VC.ret (Z1 ⟨none,0,[]⟩)
 refine ZX ?_
 refine VL.aCq (α:=Int) Tryz.underlying59 a5X (by decide) (fun KT uY AA => ?_)
 refine VL.lU KT 3 ⟨AA,uY⟩ ?_
 replace hS:=dR uY hS
 exact ZE hS
instance:UnD Tryz.prog 252 (.slice 59):=⟨Tryz.underlying252⟩
instance aBO (aA:Sv (Sv Int)) :
 jG Tryz.prog 273 [aA.val] (Sh.kM (aA.l.map Sv.l)) aA.ok (X:=Sv (Sv Int)) (fun x=>x.val) (fun x=>(x.l.map Sv.l)) (fun x=>x.ok):=by
 refine jO Tryz.func273 Tryz.ntmps273 fun r hS c => ?_
 unfold Sh.kM at hS
 refine ZX ?_
 refine Zu (wW Sv.l (s:=aA) Tryz.underlying252 rfl) (Zm (Zu (wW Sv.l (s:=aA) Tryz.underlying252 rfl) ?_))
 obtain ⟨b8,hS⟩:=bX hS
 refine VL.SH Tryz.underlying252 aEc rfl rfl rfl b8.1 (aB6 b8.2) (by decide) fun NW rP => ?_
 replace hS:=dR ((congrArg (List.map Sv.l) rP).trans List.map_take) hS
 exact ZE hS
instance aSt (aA:aL) :
 jG Tryz.prog 202 [.agg (aI aA).toArray] (Sh.xX aA.pl) aA.m (X:=Sv (Sv Int)) (fun x=>x.val) (fun x=>(x.l.map Sv.l)) (fun x=>x.ok):=by
 refine jO Tryz.func202 Tryz.ntmps202 fun r hS c => ?_
 unfold Sh.xX at hS
 refine cI ?_
 refine qC (aI aA) fun iS => ?_
 refine ZX ?_
 refine Zq (ZX ?_)
 refine Zb ?_
 refine VC.lU (⟨none,0,[]⟩:Sv (Sv Int)) 59 ⟨rfl,rfl⟩ ?_
 refine VC.X8 (s:=(⟨none,0,[]⟩:Sv (Sv Int))) rfl ?_
 refine VC.iter (S:=Sv (Sv Int)×Int) (fun sg=>((sg.1.l.map Sv.l),sg.2)) (fun sg=>[(3,sg.1.val),(7,aA.aX.val),(8,i64 ((aA.aX.l.map cD.pl).length:Int)),(9,i64 sg.2)]) (fun sg=>(qB sg.1.l)) (fun sg=>Ow.star (bM iS (aI aA) 49) (Ow.star (Sv.own sg.1 59) (Ow.emp))) (⟨none,0,[]⟩,0) [3,7,8,9] hS rfl ?_
 rintro ⟨EK,aLZ⟩ m1 y1 hS hK1
 refine ZX ?_
 refine Zq (Zc hS (fun h10 hS => ?_) (fun h10 hS => ?_))
 ·
  refine Zk ?_
  refine Zq (Zb (cI ?_))
  obtain ⟨FM,aOM,aDQ,hS⟩:=DT hS
  refine VL.deep FM.m aDQ (fun _ q=>q) ?_
  refine Zu (jY (s:=aA.aX) Tryz.underlying44 XX rfl rfl aOM (bQ aOM aDQ)) (Zu (sR  (s:=aA.aX) aDL rfl rfl aDQ) ?_)
  refine dG fun a8I=>ZX ?_
  refine Zr (ZX ?_)
  refine fJ hS rfl fun aFA hS => ?_
  refine VL.shut aFA 3 (fun _ _ _ _=>trivial) ?_
  refine fN hS rfl fun PO hS => ?_
  refine VL.lit (α:=Sv Int) (xs:=[.tmp 17]) (vs:=[PO.val]) [PO] Tryz.underlying252 aNp (by decide) rfl rfl rfl rfl (by decide) (fun h m=>List.forall_mem_cons.2 ⟨dM.out (X:=PO.ok) h m,fun _ h=>by cases h⟩) (by decide) (fun a6L a0G => ?_) (by decide)
  replace hS:=dR (congrArg (List.map Sv.l) a0G) hS
  obtain ⟨b19,hS⟩:=bX hS
  refine VL.app (s:=EK) (r:=a6L) Tryz.underlying252 aNo (by decide) rfl Fo.out (ap1 (Y3 b19)) (ap2 (Y3 b19) (by decide)) (by decide) (fun bAP aJi => ?_)
  replace hS:=dR ((congrArg (List.map Sv.l) aJi).trans List.map_append) hS
  refine VL.X7 aJi ?_
  exact ZE hS
 replace hS:=lQ hS hK1
 refine Zx ?_
 refine ZX ?_
 refine VL.shut EK 59 (fun h m=>dM.out (X:=qB EK.l) h m) ?_
 exact ZE hS
instance TQ (qM:Sv (Sv Int)) (cZ:Sv Int) :
 uL Tryz.prog 274 [qM.val,cZ.val] (Sh.mQ (qM.l.map Sv.l) cZ.l) (qM.ok.and cZ.ok) (Ow.emp) (X:=Sv Bool) (fun x=>x.val) (fun x=>x.l) (fun x=>Mo.tt) (fun x=>Sv.own x 4):=by
 refine uV Tryz.func274 Tryz.ntmps274 fun r hS c => ?_
 unfold Sh.mQ at hS
 refine ZX ?_
 refine Zu (wW Sv.l (s:=qM) Tryz.underlying252 rfl) ?_
 obtain ⟨b10,hS⟩:=bX hS
 obtain ⟨b11,hS⟩:=bX hS
 refine ZX ?_
 refine VL.make (α:=Bool) (z:=false) Tryz.underlying322 a82 (by decide) rfl rfl b11.1 (Int.le_refl _) (by omega) (by omega) (by decide) (fun aHx aZz => ?_)
 replace hS:=dR aZz hS
 refine ZX ?_
 refine fJ hS rfl fun PM hS=>Za ?_
 refine Zl ?_
 refine VC.bD [0,5,6] (Zq (Zb ?_))
 refine VC.iter (S:=Sv Bool×Sv Int) (fun sg=>(sg.1.l,sg.2.l)) (fun sg=>[(0,qM.val),(5,sg.1.val),(6,sg.2.val)]) (fun sg=>Mo.tt) (fun sg=>Ow.star (Sv.own sg.1 4) (Ow.star (Sv.own sg.2 3) (Ow.emp))) (aHx,PM) [0,5,6] hS rfl ?_
 rintro ⟨BU,xY⟩ m1 y1 hS hK1
 refine Zq (ZX ?_)
 refine Zc hS (fun h16 hS => ?_) (fun h16 hS => ?_)
 ·
  obtain ⟨b20,hS⟩:=bX hS
  refine Zk ?_
  refine Zb (ZX ?_)
  obtain ⟨OW,aOR,aOD,hS⟩:=gQ hS
  refine Zu (lC (s:=xY) Tryz.underlying59 DP rfl rfl aOR (bQ aOR aOD)) (Zu (GS (s:=xY) 3 v8 rfl aOD rfl) (Za ?_))
  refine Zl ?_
  refine VC.bD [0,5,6,7] ?_
  obtain ⟨b26,hS⟩:=bX hS
  obtain ⟨b27,hS⟩:=bX hS
  refine ZX ?_
  refine VL.a8i (s:=xY) Tryz.underlying59 DP rfl rfl b27.1 b27.2 Fo.out (by decide) fun aXE a0O => ?_
  replace hS:=dR a0O hS
  refine Za ?_
  refine Zl ?_
  refine Zq (cI (Zm ?_))
  refine Zu (qU rfl rfl) (Zm ?_)
  refine oT 30 hS (fun h30 hS => ?_) (fun h30 hS => ?_)
  ·
   refine VL.runs 11 [(41,some true)] (by kernel_rfl) ?_
   refine Zl ?_
   refine VC.keep (ρ':=[(0,qM.val),(5,BU.val),(6,aXE.val),(7,i64 OW),(41,.bool true)]) [0,5,6,7,41] rfl ?_
   refine VC.DB rfl ?_
   exact ZE hS
  refine ZX ?_
  refine Zh (wW Sv.l (s:=qM) Tryz.underlying252 rfl) ?_
  refine Zh (wV rfl rfl) ?_
  refine Zf ?_
  refine Zm ?_
  refine oT 36 hS (fun h36 hS => ?_) (fun h36 hS => ?_)
  ·
   refine VL.runs 5 [(41,some true)] (by kernel_rfl) ?_
   refine Zl ?_
   refine VC.keep (ρ':=[(0,qM.val),(5,BU.val),(6,aXE.val),(7,i64 OW),(41,.bool true)]) [0,5,6,7,41] rfl ?_
   refine VC.DB rfl ?_
   exact ZE hS
  refine ZX ?_
  obtain ⟨aYT,aOY,aOF,hS⟩:=gQ hS
  refine Zh (lC (s:=BU) Tryz.underlying322 HD rfl rfl aOY (bQ aOY aOF)) ?_
  refine Zh (GS (s:=BU) 4 KC rfl aOF rfl) ?_
  refine ZX ?_
  refine VC.bD [0,5,6,7,41] ?_
  refine iG hS (fun _ hS=>ZE hS) fun h41 hS=>ZX ?_
  obtain ⟨a4F,aKZ,aJq,hS⟩:=gQ hS
  refine Zu (lC (s:=BU) Tryz.underlying322 HD rfl rfl aKZ (bQ aKZ aJq)) ?_
  refine VL.nD (s:=BU) (T:=4) (j:=0) (vc:=[.bool true]) (true:Bool) (by decide) rfl rfl aJq rfl HD rfl rfl (Nat.le_of_ble_eq_true rfl) rfl (fun w11 hw11 haw11 hcw11 hvw11 hbw11 how11 => ?_)
  rw [← hvw11]
  replace hS:=dR hw11 hS
  obtain ⟨b48,hS⟩:=bX hS
  refine Zl ?_
  refine Zr (ZX ?_)
  obtain ⟨aDo,aK6,aEh,hS⟩:=DT hS
  refine VL.deep aDo.ok aEh (fun _ q=>q) ?_
  refine Zu (jY (s:=qM) Tryz.underlying252 aEc rfl rfl aK6 (bQ aK6 aEh)) (Zu (JZ  (s:=qM) VP rfl aEh rfl) ?_)
  refine XJ hS fun a1h hS => ?_
  refine Za ?_
  refine VL.PX (w11,a1h) [0,5,6] (fun _ _ h=>h) (go2 hS hK1) rfl
 exact ZE hS
instance aMH (qM:Sv (Sv Int)) (a_1:Int) (LO:Int) :
 gS Tryz.prog 203 [qM.val,i64 a_1,i64 LO] (Sh.rM (qM.l.map Sv.l) a_1 LO) qM.ok (fun r => .bool r):=by
 refine gU Tryz.func203 Tryz.ntmps203 fun r hS c => ?_
 unfold Sh.rM at hS
 refine cI (Za ?_)
 refine Zl ?_
 refine cI (Zm ?_)
 refine Zu (MH rfl rfl) (Zm ?_)
 refine oT 9 hS (fun h9 hS => ?_) (fun h9 hS => ?_)
 ·
  refine ZX ?_
  refine Zh (wW Sv.l (s:=qM) Tryz.underlying252 rfl) ?_
  refine Zh (aBq rfl rfl) ?_
  refine Zt ?_
  refine Zm ?_
  refine oT 15 hS (fun h15 hS => ?_) (fun h15 hS => ?_)
  ·
   refine ZX ?_
   refine VL.guard rfl rfl ?_
   refine tE hS fun bBG hS => ?_
   refine VL.guard rfl rfl ?_
   refine fJ hS rfl fun aKu hS=>ZX ?_
   obtain ⟨aIn,aAL,aAA,hS⟩:=gQ hS
   refine Zh (lC (s:=aKu) Tryz.underlying322 HD rfl rfl aAL (bQ aAL aAA)) ?_
   refine Zh (GS (s:=aKu) 4 KC rfl aAA rfl) ?_
   exact ZE hS
  exact ZE hS
 exact ZE hS
instance aY3 (dY:Sv Bool) :
 jG Tryz.prog 318 [dY.val] (Sh.HS dY.l) dY.ok (X:=Sv Int) (fun x=>x.val) (fun x=>x.l) (fun x=>x.ok):=by
 refine jO Tryz.func318 Tryz.ntmps318 fun r hS c => ?_
 unfold Sh.HS at hS
 refine ZX ?_
 refine Zq (ZX ?_)
 refine Zb ?_
 refine VC.lU (⟨none,0,[]⟩:Sv Int) 3 ⟨rfl,rfl⟩ ?_
 refine VC.iter (S:=Sv Int×Int) (fun sg=>(sg.1.l,sg.2)) (fun sg=>[(3,sg.1.val),(6,dY.val),(7,i64 (dY.l.length:Int)),(8,i64 sg.2)]) (fun sg=>Mo.tt) (fun sg=>Ow.star (Sv.own sg.1 3) (Ow.emp)) (⟨none,0,[]⟩,0) [3,6,7,8] hS rfl ?_
 rintro ⟨oC,yL⟩ m1 y1 hS hK1
 refine ZX ?_
 refine Zq ?_
 refine Zc hS (fun _ hS=>ZE hS) fun h9 hS => ?_
 replace hS:=lQ hS hK1
 refine Zx ?_
 refine ZX ?_
 refine VL.shut oC 3 (fun _ _ _ _=>trivial) ?_
 exact ZE hS
instance aIu (qM:Sv (Sv Int)) (a_1:Int) (b_2:Int) :
 jG Tryz.prog 275 [qM.val,i64 a_1,i64 b_2] (Sh.sH (qM.l.map Sv.l) a_1 b_2) qM.ok (X:=Sv Int) (fun x=>x.val) (fun x=>x.l) (fun x=>x.ok):=by
 refine jO Tryz.func275 Tryz.ntmps275 fun r hS c => ?_
 unfold Sh.sH at hS
 refine ZX ?_
 refine tE hS fun bBD hS=>fJ hS rfl fun aEz hS=>ZX ?_
 refine tE hS fun aXD hS=>fJ hS rfl fun eA hS=>ZO ?_
 refine Zl ?_
 refine VC.bD [0,7,8] (ZX ?_)
 refine Zq (ZX ?_)
 refine Zb ?_
 refine VC.lU (⟨none,0,[]⟩:Sv Int) 3 ⟨rfl,rfl⟩ ?_
 refine VC.iter (S:=Sv Bool×Sv Int×Int) (fun sg=>(sg.1.l,sg.2.1.l,sg.2.2)) (fun sg=>[(0,qM.val),(7,sg.1.val),(8,eA.val),(9,sg.2.1.val),(22,i64 (aEz.l.length:Int)),(23,i64 sg.2.2)]) (fun sg=>Mo.tt) (fun sg=>Ow.star (Sv.own eA 4) (Ow.star (Sv.own sg.1 4) (Ow.star (Sv.own sg.2.1 3) (Ow.emp)))) (aEz,⟨none,0,[]⟩,0) [0,7,8,9,22,23] hS rfl ?_
 rintro ⟨KU,zH,C7⟩ m1 y1 hS hK1
 refine ZX ?_
 refine Zq (Zc hS (fun h24 hS => ?_) (fun h24 hS => ?_))
 ·
  refine Zk ?_
  refine Zq (Zb (cI (ZO ?_)))
  refine Zl ?_
  refine VC.wT (S:=Sv Bool) (fun (IL:Sv Bool)=>IL.l) (fun (IL:Sv Bool)=>[(0,qM.val),(7,IL.val),(8,eA.val),(9,zH.val),(10,i64 C7),(22,i64 (aEz.l.length:Int)),(23,i64 C7)]) (fun (IL:Sv Bool)=>Mo.tt) (fun (IL:Sv Bool)=>Ow.star (Sv.own eA 4) (Ow.star (Sv.own zH 3) (Ow.star (Sv.own IL 4) (Ow.emp)))) hS ?_ ?_
  ·
   intro k11 hS
   refine Zr (ZX ?_)
   obtain ⟨aPu,aKS,aJj,hS⟩:=gQ hS
   refine Zu (lC (s:=KU) Tryz.underlying322 HD rfl rfl aKS (bQ aKS aJj)) (Zu (GS (s:=KU) 4 KC rfl aJj rfl) (Zm ?_))
   refine B3 32 hS (fun h32 hS => ?_) (fun h32 hS => ?_)
   ·
    refine ZX ?_
    obtain ⟨aDm,aKU,aJl,hS⟩:=gQ hS
    refine Zh (lC (s:=eA) Tryz.underlying322 HD rfl rfl aKU (bQ aKU aJl)) ?_
    refine Zh (GS (s:=eA) 4 KC rfl aJl rfl) ?_
    refine ZX ?_
    obtain ⟨a4D,aKW,aJn,hS⟩:=gQ hS
    refine Zu (lC (s:=KU) Tryz.underlying322 HD rfl rfl aKW (bQ aKW aJn)) ?_
    refine VL.nD (s:=KU) (T:=4) (j:=0) (vc:=[.bool aDm]) (aDm:Bool) (by decide) rfl rfl aJn rfl HD rfl rfl (Nat.le_of_ble_eq_true rfl) rfl (fun w15 hw15 haw15 hcw15 hvw15 hbw15 how15 => ?_)
    rw [← hvw15]
    replace hS:=dR hw15 hS
    exact ZE hS
   refine VL.runs 5 [(37,some false)] (by kernel_rfl) ?_
   obtain ⟨a4E,aKX,aJo,hS⟩:=gQ hS
   refine Zu (lC (s:=KU) Tryz.underlying322 HD rfl rfl aKX (bQ aKX aJo)) ?_
   refine VL.nD (s:=KU) (T:=4) (j:=0) (vc:=[.bool false]) (false:Bool) (by decide) rfl rfl aJo rfl HD rfl rfl (Nat.le_of_ble_eq_true rfl) rfl (fun w18 hw18 haw18 hcw18 hvw18 hbw18 how18 => ?_)
   rw [← hvw18]
   replace hS:=dR hw18 hS
   exact ZE hS
  rintro IL hS
  refine ZX ?_
  obtain ⟨aPv,aKY,aJp,hS⟩:=gQ hS
  refine Zu (lC (s:=IL) Tryz.underlying322 HD rfl rfl aKY (bQ aKY aJp)) (Zu (GS (s:=IL) 4 KC rfl aJp rfl) ?_)
  refine Zl ?_
  refine iG hS (fun h42 hS => ?_) (fun h42 hS => ?_)
  ·
   obtain ⟨b46,hS⟩:=bX hS
   refine Zr (ZX ?_)
   obtain ⟨aDn,aK3,aEg,hS⟩:=DT hS
   refine VL.deep aDn.ok aEg (fun _ q=>q) ?_
   refine Zu (jY (s:=qM) Tryz.underlying252 aEc rfl rfl aK3 (bQ aK3 aEg)) (Zu (JZ  (s:=qM) VP rfl aEg rfl) ?_)
   exact ZE hS
  exact ZE hS
 replace hS:=lQ hS hK1
 refine Zx ?_
 refine ZX ?_
 obtain ⟨aPV,aUF,hS⟩:=dU hS
 refine VL.aDK ((TQ qM zH).out aUF) rfl (by decide) ?_
 rintro VW rfl
 try dsimp only
 refine Za ?_
 refine Zl ?_
 refine VC.bD [7,11] (Zq (ZX ?_))
 refine Zb ?_
 refine VC.iter (S:=Sv Bool×Int) (fun sg=>(sg.1.l,sg.2)) (fun sg=>[(7,sg.1.val),(11,VW.val),(55,i64 (KU.l.length:Int)),(56,i64 sg.2)]) (fun sg=>Mo.tt) (fun sg=>Ow.star (Sv.own VW 4) (Ow.star (Sv.own sg.1 4) (Ow.emp))) (KU,0) [7,11,55,56] hS rfl ?_
 rintro ⟨G3,EO⟩ m1 y1 hS hK1
 refine ZX ?_
 refine Zq (Zc hS (fun h57 hS => ?_) (fun h57 hS => ?_))
 ·
  refine Zk ?_
  refine Zq (Zb (ZX ?_))
  refine Zr (ZX ?_)
  obtain ⟨aPx,aKc,aKA,hS⟩:=gQ hS
  refine Zu (lC (s:=G3) Tryz.underlying322 HD rfl rfl aKc (bQ aKc aKA)) (Zu (GS (s:=G3) 4 KC rfl aKA rfl) (Zm ?_))
  refine B3 65 hS (fun h65 hS => ?_) (fun h65 hS => ?_)
  ·
   refine ZX ?_
   obtain ⟨aDp,aKe,aKB,hS⟩:=gQ hS
   refine Zh (lC (s:=VW) Tryz.underlying322 HD rfl rfl aKe (bQ aKe aKB)) ?_
   refine Zh (GS (s:=VW) 4 KC rfl aKB rfl) ?_
   refine ZX ?_
   obtain ⟨a4N,aKf,aKC,hS⟩:=gQ hS
   refine Zu (lC (s:=G3) Tryz.underlying322 HD rfl rfl aKf (bQ aKf aKC)) ?_
   refine VL.nD (s:=G3) (T:=4) (j:=0) (vc:=[.bool (!aDp)]) ((!aDp):Bool) (by decide) rfl rfl aKC rfl HD rfl rfl (Nat.le_of_ble_eq_true rfl) rfl (fun w30 hw30 haw30 hcw30 hvw30 hbw30 how30 => ?_)
   rw [← hvw30]
   replace hS:=dR hw30 hS
   exact ZE hS
  refine VL.runs 6 [(71,some false)] (by kernel_rfl) ?_
  obtain ⟨a4O,aKg,aKD,hS⟩:=gQ hS
  refine Zu (lC (s:=G3) Tryz.underlying322 HD rfl rfl aKg (bQ aKg aKD)) ?_
  refine VL.nD (s:=G3) (T:=4) (j:=0) (vc:=[.bool false]) (false:Bool) (by decide) rfl rfl aKD rfl HD rfl rfl (Nat.le_of_ble_eq_true rfl) rfl (fun w33 hw33 haw33 hcw33 hvw33 hbw33 how33 => ?_)
  rw [← hvw33]
  replace hS:=dR hw33 hS
  exact ZE hS
 replace hS:=lQ hS hK1
 refine Zx ?_
 refine ZX ?_
 refine VL.shut G3 4 (fun _ _ _ _=>trivial) ?_
 exact ZE hS
instance JP (qM:Sv (Sv Int)) (a_1:Int) (b_2:Int) :
 gS Tryz.prog 204 [qM.val,i64 a_1,i64 b_2] (Sh.qP (qM.l.map Sv.l) a_1 b_2) qM.ok (fun r=>i64 r):=by
 refine gU Tryz.func204 Tryz.ntmps204 fun r hS c => ?_
 unfold Sh.qP at hS
 exact ZE hS
end Go.Proofs.YtaohfeokfcdojaaGreatDoor
end

section
set_option linter.unusedVariables false
namespace Go.Proofs.YtaohfeokfcdojaaGreatDoor
set_option maxHeartbeats 4000000
set_option maxRecDepth 100000
set_option synthInstance.maxSize 2000
set_option synthInstance.maxHeartbeats 1000000
open Go.RowKit Go.V
open Go.S
attribute [local irreducible] Go.V.Qt Go.V.VL Go.V.VC Go.V.HA Go.S.gd Go.S.at_ Go.S.lt Go.S.jn Go.S.go Go.S.up Go.S.iter Sh.jZ Sh.qP Sh.rM Sh.wA Sh.u9 Sh.oD Sh.sV Sh.pT Sh.jC Sh.wK Sh.pH Sh.wL Sh.CW Sh.tK Sh.yA Sh.qH Sh.E9 Sh.AJ Sh.wM Sh.vA Sh.zK Sh.tZ Sh.zL Sh.yB Sh.yC Sh.vY Sh.rN Sh.vB Sh.jA Sh.cP Sh.xX Sh.kX Sh.F6 Sh.C4 Sh.IF Sh.C5
instance aST (aA:aL) (t_1:aL) (Q0:bI) (L8:Int) (RJ:bI) :
 jG Tryz.prog 205 [.agg (aI aA).toArray,.agg (aI t_1).toArray,str Q0,i64 L8,str RJ] (Sh.yB aA.pl t_1.pl Q0 L8 RJ) (aA.m.and t_1.m) (X:=aL×Bool×Er) (fun x => .tuple #[.agg (bB.enc x.1).toArray,.bool x.2.1,x.2.2.val]) (fun x=>(x.1.pl,x.2.1,x.2.2.pl)) (fun x=>(x.1.m.and x.2.2.ok)):=by
 refine jO Tryz.func205 Tryz.ntmps205 fun r hS c => ?_
 unfold Sh.yB at hS
 refine cI ?_
 refine qC (aI aA) fun S9 => ?_
 refine qC (aI t_1) fun O6 => ?_
 refine dG fun XL=>ZX ?_
 refine Zu (oY (j:=3) (n:=2) KY rfl rfl rfl) ?_
 refine ZX ?_
 refine Zu (cA (vs:=[(0,str Q0),(1,i64 L8),(2,str RJ),(7,.agg #[str aA.aH,i64 aA.aG]),(8,aA.aS.val),(9,aA.aU.val)]) (cs := #[str Q0,i64 L8,str RJ,.slice none 0 0,.slice none 0 0,i64 0,str [],str aA.aH,i64 aA.aG,aA.aS.val,aA.aU.val]) rfl (by kernel_rfl)) ?_
 refine ZO ?_
 refine Zl ?_
 refine VC.bD [6,10] (ZX ?_)
 cases hS
 exact VC.ret (Z4 (⟨t_1.aU,t_1.aS,t_1.aZ,t_1.aH,t_1.aG,Q0,L8,RJ,⟨none,0,[]⟩,⟨none,0,[]⟩,0,[],aA.aH,aA.aG,aA.aS,aA.aU,t_1.aW,t_1.aX,t_1.bF,t_1.aY,t_1.time⟩,true,(Er.no 9)) rfl)
instance aWx (aA:aL) (hG:bI) :
 jG Tryz.prog 115 [.agg (aI aA).toArray,str hG] (Sh.CW aA.pl hG) aA.m (X:=aL×Bool×Er) (fun x => .tuple #[.agg (bB.enc x.1).toArray,.bool x.2.1,x.2.2.val]) (fun x=>(x.1.pl,x.2.1,x.2.2.pl)) (fun x=>(x.1.m.and x.2.2.ok)):=by
 refine jO Tryz.func115 Tryz.ntmps115 fun r hS c => ?_
 unfold Sh.CW at hS
 refine cI ?_
 refine qC (aI aA) fun iB => ?_
 refine dG fun xF=>ZX ?_
 refine jU hS rfl fun aMq hS=>ZO ?_
 refine Zl ?_
 refine VC.bD [1,2,4,7,8] (Zq ?_)
 refine hU [(0,true),(1,true),(2,true),(3,true),(4,true),(5,false),(6,true),(7,true)] ?_
 refine ZX ?_
 refine VD.one rfl (fN hS rfl fun ME hS=>eL (Pk 3 (Pk 2 (Pk 1 (Pk 0 Pz)))) ?_)
 refine ZX ?_
 refine Zq (Zb (ZX ?_))
 refine VC.bD [1,2,4,7,9,10,27] (iG hS (fun h27 hS => ?_) (fun h27 hS => ?_))
 ·
  refine ZX ?_
  cases hS
  exact VC.ret (Z4 (aA,false,(Er.no 5)) rfl)
 refine ZX ?_
 refine Zc hS (fun h32 hS => ?_) (fun h32 hS => ?_)
 ·
  refine ZX ?_
  cases hS
  exact VC.ret (Z4 (aA,false,(Er.no 7)) rfl)
 refine ZX ?_
 refine jU hS rfl fun aXz hS=>ZX ?_
 refine VC.bD [1,2,4,7,9,10,37] (iG hS (fun h37 hS => ?_) (fun h37 hS => ?_))
 ·
  refine ZX ?_
  cases hS
  exact VC.ret (Z4 (aA,false,(Er.no 8)) rfl)
 refine ZX ?_
 refine BY hS rfl fun MY bAM hS=>ZO ?_
 refine Zl ?_
 refine VC.bD [1,2,4,9,10,11] (Zq (ZX ?_))
 refine jU hS rfl fun aYC hS=>Zl ?_
 refine iG hS (fun h53 hS => ?_) (fun h53 hS => ?_)
 ·
  refine ZX ?_
  cases hS
  exact VC.ret (Z4 (aA,false,(Er.no 10)) rfl)
 refine ZX ?_
 refine fN hS rfl fun PU hS=>Za ?_
 refine Zl ?_
 refine VC.bD [1,2,4,9,10,11,12] (Zq (ZX ?_))
 refine jU hS rfl fun aYF hS=>Zl ?_
 refine iG hS (fun h62 hS => ?_) (fun h62 hS => ?_)
 ·
  refine Zq (ZX ?_)
  refine Zu (cA (vs:=[(0,PU.val)]) (cs := #[PU.val,.slice none 0 0,.slice none 0 0]) rfl (by kernel_rfl)) ?_
  refine HB hS (OC aA (⟨PU,⟨none,0,[]⟩,⟨none,0,[]⟩⟩:cQ)).out fun ⟨a7h,a7i⟩ hS => ?_
  try dsimp only
  refine ZO ?_
  refine Zl ?_
  refine VC.bD [2,4,11,6] (ZX ?_)
  refine qD hS (fun _ hS=>ZE hS) fun h71 hS=>ZX ?_
  refine fN hS rfl fun aSC hS=>ZX ?_
  cases hS
  exact VC.ret (Z4 (aSC,false,.nil) rfl)
 refine Zk ?_
 refine VC.wT (S:=Er×Nat×aL×cQ) (fun sg=>(sg.1.pl,(),sg.2.2.1.pl,sg.2.2.2.pl)) (fun sg=>[(1,str hG),(2,ptr iB 0),(4,ptr xF 0),(6,sg.1.val),(9,i64 aA.aG),(11,i64 MY.cF),(13,ptr sg.2.1 0)]) (fun sg=>(sg.1.ok.and (sg.2.2.1.m.and sg.2.2.2.m))) (fun sg=>Ow.star (bM xF (aI sg.2.2.1) 49) (Ow.star (bM iB (aI aA) 49) (Ow.star (bM sg.2.1 [sg.2.2.2.files.val,sg.2.2.2.entries.val,sg.2.2.2.conflicts.val] 232) (Ow.emp)))) hS ?_ ?_
 ·
  intro k16 hS
  refine VC.GA (n:=10) (listed:=bl 18 447) [(0,true),(1,true),(2,true),(3,true),(4,true),(5,true),(7,true),(8,true)] mixed (by kernel_rfl) (by kernel_rfl) (by kernel_rfl) (by kernel_rfl) ?_
  refine VD.q rfl (rQ qN rfl rfl) (by decide) ?_
  refine VD.q rfl (rQ qN rfl rfl) (by decide) ?_
  refine VD.q rfl (fR rfl) (by decide) ?_
  refine VD.q rfl (fR rfl) (by decide) ?_
  refine VD.q rfl (fR rfl) (by decide) ?_
  obtain ⟨aBH,aJZ,hS⟩:=dU hS
  refine VD.q rfl (eT ((JP ME aA.aG MY.cF).out aJZ) rfl (fun _ _=>rfl)) (by decide) ?_
  refine VD.q rfl (fR rfl) (by decide) ?_
  refine VD.q rfl (fR rfl) (by decide) ?_
  obtain ⟨aPm,aJ0,hS⟩:=dU hS
  obtain ⟨WN,aEQ,hS⟩:=dU hS
  refine VD.SY fun hcl => ?_
  refine VG.fork (l:=[6,14]) (n:=9) (by kernel_rfl) rfl fun i hi => ?_
  obtain rfl | rfl:i=6∨i=14:=by simpa using hi
  ·
   refine pX.of rfl ?_
   refine VL.jF ((GX aA aBH).out aJ0) rfl (by decide) ?_
   rintro NQ rfl
   try dsimp only
   refine zB (bl 18 511) (Pk 0 Pz) ?_
   refine VG.fork (l:=[9,14]) (n:=8) (by kernel_rfl) rfl fun i hi => ?_
   obtain rfl | rfl:i=9∨i=14:=by simpa using hi
   ·
    refine pX.of rfl ?_
    refine VL.jF ((gL aA NQ PU hG).out aEQ) rfl (by decide) ?_
    rintro ⟨tX,gF,JY⟩ rfl
    try dsimp only
    refine zB (bl 18 1023) Pz ?_
    refine VG.ord [(10,true),(11,true),(12,true),(13,true),(14,false),(15,false),(16,false),(17,true)] (by kernel_rfl) (eF (by kernel_rfl)) (by kernel_rfl) ?_
    refine ZX ?_
    refine VD.one rfl (dG fun O4=>eL (Pk 13 (Pk 12 (Pk 11 (Pk 10 Pz)))) ?_)
    refine VD.one rfl ?_
    refine Zv  (vc:=(aI tX)) (cs':=(aI tX)) rfl qR ?_
    refine eL (Pk 13 (Pk 12 Pz)) ?_
    refine VD.one rfl ?_
    refine Zv  (vc:=[gF.files.val,gF.entries.val,gF.conflicts.val]) (cs':=[gF.files.val,gF.entries.val,gF.conflicts.val]) rfl tG ?_
    refine eL (Pk 13 Pz) ?_
    refine ZX ?_
    refine VD.mt (JY,O4,(tX:aL),(⟨gF.files,gF.entries,gF.conflicts⟩:cQ)) [1,2,4,6,9,11,13] (fun _ _ h=>h) hS rfl
   refine pX.of rfl ?_
   refine dG fun O4 => ?_
   refine zB (bl 18 16895) (Pk 0 Pz) ?_
   refine VG.ord [(9,false),(10,true),(11,true),(12,true),(13,true),(15,false),(16,false),(17,true)] (by kernel_rfl) (eF (by kernel_rfl)) (by kernel_rfl) ?_
   refine VD.one rfl ?_
   refine VL.jF ((gL aA NQ PU hG).out aEQ) rfl (by decide) ?_
   rintro ⟨tX,gF,JY⟩ rfl
   try dsimp only
   refine eY ?_
   refine ZX ?_
   refine VD.one rfl ?_
   refine Zv  (vc:=(aI tX)) (cs':=(aI tX)) rfl qR ?_
   refine eL (Pk 13 (Pk 12 Pz)) ?_
   refine VD.one rfl ?_
   refine Zv  (vc:=[gF.files.val,gF.entries.val,gF.conflicts.val]) (cs':=[gF.files.val,gF.entries.val,gF.conflicts.val]) rfl tG ?_
   refine eL (Pk 13 Pz) ?_
   refine ZX ?_
   refine VD.mt (JY,O4,(tX:aL),(⟨gF.files,gF.entries,gF.conflicts⟩:cQ)) [1,2,4,6,9,11,13] (fun _ _ h=>h) hS rfl
  refine pX.of rfl ?_
  refine dG fun O4 => ?_
  refine VL.ER (D':=[(5,i64 aBH),(1,.agg (aI aA).toArray),(0,.agg (aI aA).toArray)]) (listed' := #[true,true,true,true,true,true,false,true,true,false,false,false,false,false,true,false,false,false]) (bR.cons rfl (eT ((JP ME aA.aG MY.cF).out aJZ) rfl (fun _ _=>rfl)) (bR.cons rfl (rQ qN rfl rfl) (bR.cons rfl (rQ qN rfl rfl) (bR.nil)))) (by kernel_rfl) (by kernel_rfl) ?_
  refine VG.ord [(6,false),(9,false),(10,true),(11,true),(12,true),(13,true),(15,false),(16,false),(17,true)] (by kernel_rfl) (eF (by kernel_rfl)) (by kernel_rfl) ?_
  refine VD.one rfl ?_
  refine VL.jF ((GX aA aBH).out aJ0) rfl (by decide) ?_
  rintro NQ rfl
  try dsimp only
  refine eL (Pk 0 Pz) ?_
  refine VD.one rfl ?_
  refine VL.jF ((gL aA NQ PU hG).out aEQ) rfl (by decide) ?_
  rintro ⟨tX,gF,JY⟩ rfl
  try dsimp only
  refine eY ?_
  refine ZX ?_
  refine VD.one rfl ?_
  refine Zv  (vc:=(aI tX)) (cs':=(aI tX)) rfl qR ?_
  refine eL (Pk 13 (Pk 12 Pz)) ?_
  refine VD.one rfl ?_
  refine Zv  (vc:=[gF.files.val,gF.entries.val,gF.conflicts.val]) (cs':=[gF.files.val,gF.entries.val,gF.conflicts.val]) rfl tG ?_
  refine eL (Pk 13 Pz) ?_
  refine ZX ?_
  refine VD.mt (JY,O4,(tX:aL),(⟨gF.files,gF.entries,gF.conflicts⟩:cQ)) [1,2,4,6,9,11,13] (fun _ _ h=>h) hS rfl
 rintro ⟨aEL,a1V,aCu,aXa⟩ hS
 obtain ⟨b92,hS⟩:=bX hS
 refine ZX ?_
 obtain ⟨aIl,aUQ,hS⟩:=p9 hS
 refine Zu (yP rfl rfl b92 aUQ) ?_
 refine ZX ?_
 refine Zq (Zb (ZX ?_))
 refine qD hS (fun _ hS=>ZE hS) fun h93 hS=>ZX ?_
 refine VC.bD [2,4,9,11,13,14,98] ?_
 refine Zc hS (fun _ hS=>ZE hS) fun h98 hS=>ZX ?_
 refine jU hS rfl fun aL1 hS=>ZX ?_
 refine iG hS (fun h111 hS => ?_) (fun h111 hS => ?_)
 ·
  refine ZX ?_
  cases hS
  exact VC.ret (Z4 (aA,false,(Er.no 4)) rfl)
 refine ZX ?_
 refine tE hS fun a9S hS=>Zm ?_
 refine fN hS rfl fun aMV hS=>ZX ?_
 cases hS
 exact VC.ret (Z4 (aMV,false,.nil) rfl)
instance aXX (aDv:Int) (e_1:Int) :
 jG Tryz.prog 276 [i64 aDv,i64 e_1] (Sh.C4 aDv e_1) Mo.tt (X:=Er) (fun x=>x.val) (fun x=>x.pl) (fun x=>x.ok):=by
 refine jO Tryz.func276 Tryz.ntmps276 fun r hS c => ?_
 unfold Sh.C4 at hS
 refine ZX ?_
 refine Zu (cA (vs:=[(0,str [115,116,101,112]),(1,i64 aDv),(2,(Er.no e_1).val)]) (cs := #[str [115,116,101,112],i64 aDv,(Er.no e_1).val]) rfl (by kernel_rfl)) ?_
 refine kF fun a47 => ?_
 refine VL.DV a47 ?_
 refine ZX ?_
 cases hS
 exact VC.ret (Z1 (Er.fault a47 [115,116,101,112] aDv (Er.no e_1)))
instance aYk (aA:bJ) (g_1:Sv (Sv Int)) (ZL:Bool) :
 gS Tryz.prog 277 [.agg #[str aA.verb,i64 aA.cF,str aA.text],g_1.val,.bool ZL] (Sh.IF aA (g_1.l.map Sv.l) ZL) g_1.ok (fun r=>i64 r):=by
 refine gU Tryz.func277 Tryz.ntmps277 fun r hS c => ?_
 unfold Sh.IF at hS
 refine cI (kF fun rX=>ZX ?_)
 refine jU hS rfl fun lR hS=>ZO ?_
 refine Zl ?_
 refine VC.bD [1,2,3,7,8] (Zq (Zb (ZX ?_)))
 refine iG hS (fun _ hS=>ZE hS) fun h15 hS => ?_
 refine VC.cJ [2,8] (fun (aCH:Bool)=>aCH) (fun aCH ρ=>(18,.bool aCH)::ρ) hS ?_ ?_
 ·
  intro k4 hS
  refine Zr (Zu (bY BF rfl) (Zu (nI v8 rfl rfl) (Zu (qU rfl rfl) (Zm ?_))))
  refine oT 22 hS (fun _ hS=>ZE hS) fun h22 hS => ?_
  refine ZX ?_
  refine Zh (wW Sv.l (s:=g_1) Tryz.underlying252 rfl) ?_
  refine Zh (wV rfl rfl) ?_
  refine Zf ?_
  refine Zm ?_
  refine oT 29 hS (fun _ hS=>ZE hS) fun h29 hS => ?_
  obtain ⟨b33,hS⟩:=bX hS
  refine ZX ?_
  obtain ⟨aIp,aOV,aHf,hS⟩:=DT hS
  refine VL.deep aIp.ok aHf (fun _ q=>q) ?_
  refine Zh (jY (s:=g_1) Tryz.underlying252 aEc rfl rfl aOV (bQ aOV aHf)) ?_
  refine Zh (JZ  (s:=g_1) VP rfl aHf rfl) ?_
  refine ZX ?_
  refine VL.mt (decide (1 < (aIp.l.length:Int))) [18,2,8] (fun _ _ h=>h) hS rfl
 rintro aCH hS
 refine iG hS (fun _ hS=>ZE hS) fun h18 hS => ?_
 exact VC.cJ [] (fun (aF8:Bool)=>aF8) (fun aF8 ρ=>(39,.bool aF8)::ρ) hS (fun _ hS=>ZE hS) fun _ hS=>ZE hS
instance aXV (dY:Sv bJ) (g_1:Sv (Sv Int)) :
 jG Tryz.prog 209 [dY.val,g_1.val] (Sh.F6 dY.l (g_1.l.map Sv.l)) (dY.ok.and g_1.ok) (X:=Er) (fun x=>x.val) (fun x=>x.pl) (fun x=>x.ok):=by
 refine jO Tryz.func209 Tryz.ntmps209 fun r hS c => ?_
 unfold Sh.F6 at hS
 refine ZX ?_
 refine Zq (ZX ?_)
 refine Zc hS (fun _ hS=>ZE hS) fun h11 hS=>ZX ?_
 refine Zq (ZX ?_)
 refine Zb ?_
 refine VC.iJ [1,13,14] (fun (sg:Bool×Int)=>(sg.1,sg.2)) (fun sg ρ=>(5,.bool sg.1)::(15,i64 sg.2)::ρ) (true,0) [5,15,1,13,14] hS ?_
 rintro ⟨aBX,FF⟩ m1 y1 hS hK1
 refine ZX ?_
 refine Zq (Zc hS (fun h16 hS => ?_) (fun h16 hS => ?_))
 ·
  refine Zk ?_
  refine Zq (Zb (ZX ?_))
  refine BY hS rfl fun aNE a9t hS=>ZX ?_
  exact dG fun aG1=>ZE hS
 replace hS:=lQ hS hK1
 refine Zx ?_
 refine ZX ?_
 cases hS
 exact VC.ret (Z1 .nil)
instance WV (aA:Sv bJ) :
 uL Tryz.prog 210 [aA.val] (Sh.jA aA.l) aA.ok (Ow.emp) (X:=Sv bJ) (fun x=>x.val) (fun x=>x.l) (fun x=>Mo.tt) (fun x=>Sv.own x 101):=by
 refine uV Tryz.func210 Tryz.ntmps210 fun r hS c => ?_
 unfold Sh.jA at hS
 refine ZX ?_
 refine Zq (ZX ?_)
 refine Zu (J1 (s:=aA) Tryz.underlying24 rfl) ?_
 refine Zl ?_
 refine VC.slnil (s:=aA) rfl (fun h4 => ?_) ?_
 ·
  have hS:(some [])=some r:=by
    simp [lt,gd,h4] at hS ⊢
    try exact hS
  refine cI (Za ?_)
  refine Zl ?_
  refine VC.lU (⟨none,0,[]⟩:Sv bJ) 101 ⟨rfl,rfl⟩ ?_
  cases hS
  exact VC.ret (Z1 ⟨none,0,[]⟩)
 refine ZX ?_
 refine VL.aCq (α:=bJ) Tryz.underlying24 aUo (by decide) (fun KT uY AA => ?_)
 refine VL.lU KT 101 ⟨AA,uY⟩ ?_
 replace hS:=dR uY hS
 exact ZE hS
instance aSr (aA:aL) (cZ:l8) :
 jG Tryz.prog 118 [.agg (aI aA).toArray,.agg #[str cZ.verb,str cZ.name,i64 cZ.n,str cZ.text,.bool cZ.force,cZ.todo.val]] (Sh.AJ aA.pl cZ.pl) (aA.m.and (cZ.todo.ok.and Gl)) (X:=aL×Bool×Er) (fun x => .tuple #[.agg (bB.enc x.1).toArray,.bool x.2.1,x.2.2.val]) (fun x=>(x.1.pl,x.2.1,x.2.2.pl)) (fun x=>(x.1.m.and x.2.2.ok)):=by
 refine jO Tryz.func118 Tryz.ntmps118 fun r hS c => ?_
 unfold Sh.AJ at hS
 refine cI ?_
 refine qC (aI aA) fun iB => ?_
 refine kF fun oU=>dG fun BS=>ZX ?_
 refine Zq (ZX ?_)
 refine fN hS rfl fun ⟨aWG,aWH⟩ hS => ?_
 try dsimp only
 refine ZX ?_
 refine dG fun aG1=>ZO ?_
 refine Zl ?_
 refine VC.bD [2,3,4,8] (ZX ?_)
 refine iG hS (fun h18 hS => ?_) (fun h18 hS => ?_)
 ·
  refine ZX ?_
  cases hS
  exact VC.ret (Z4 (aA,false,(Er.no 1)) rfl)
 refine Zk ?_
 refine Zq (Zq ?_)
 refine hU [(0,true),(1,true),(2,true),(3,false),(4,false),(5,true)] ?_
 refine ZX ?_
 refine VD.one rfl (fN hS rfl fun a8y hS=>eL (Pk 1 (Pk 0 Pz)) ?_)
 refine VD.one rfl (fN hS rfl fun a9A hS=>eY ?_)
 refine ZD ?_
 refine xE ?_
 refine VC.bD [2,3,4,9] (ZX ?_)
 refine qD hS (fun h27 hS => ?_) (fun h27 hS => ?_)
 ·
  refine Zq ?_
  refine hU [(0,true),(1,true),(2,false),(3,false),(4,true),(5,true)] ?_
  refine ZX ?_
  refine VD.one rfl (fN hS rfl fun aLC hS=>eL (Pk 0 Pz) ?_)
  refine VD.one rfl (ZX ?_)
  refine eY ?_
  exact ZE hS
 refine Zk ?_
 refine Zq (Zb (ZX ?_))
 refine VC.bD [2,3,4,31] (Zc hS (fun h31 hS => ?_) (fun h31 hS => ?_))
 ·
  refine ZX ?_
  cases hS
  exact VC.ret (Z4 (aA,false,(Er.no 7)) rfl)
 refine VC.cJ [2,3,4] (fun (aCZ:Bool)=>aCZ) (fun aCZ ρ=>(39,.bool aCZ)::ρ) hS ?_ ?_
 ·
  intro k10 hS
  refine Zr (ZX ?_)
  refine jU hS rfl fun aPH hS => ?_
  refine Zu (GU rfl) (Zm ?_)
  refine B3 43 hS (fun _ hS=>ZE hS) fun h43 hS => ?_
  refine ZX ?_
  obtain ⟨aPK,aTw,hS⟩:=dU hS
  refine Zh (eT ((UN aA).out aTw) rfl (fun _ _=>rfl)) ?_
  exact ZE hS
 rintro aCZ hS
 refine iG hS (fun h39 hS => ?_) (fun h39 hS => ?_)
 ·
  refine ZX ?_
  cases hS
  exact VC.ret (Z4 (aA,false,(Er.no 8)) rfl)
 refine Zk ?_
 refine Zq (Zq ?_)
 refine hU [(0,true),(1,true),(2,true),(3,true),(4,false),(5,true),(6,false),(7,true),(8,true),(9,true),(10,false),(11,true)] ?_
 refine ZX ?_
 refine VD.one rfl (fN hS rfl fun aBl hS=>eL (Pk 0 Pz) ?_)
 refine Zw rfl (cA (vs:=[(0,aBl.val)]) (cs := #[aBl.val,.slice none 0 0,.slice none 0 0]) rfl (by kernel_rfl)) ?_
 refine VD.one rfl (HB hS (OC aA (⟨aBl,⟨none,0,[]⟩,⟨none,0,[]⟩⟩:cQ)).out fun ⟨FZ,a7c⟩ hS => ?_)
 try dsimp only
 refine eY ?_
 refine ZX ?_
 refine VD.one rfl (ZX ?_)
 refine eL (Pk 9 Pz) ?_
 refine ZD ?_
 refine xE ?_
 refine VC.bD [2,3,4,6] (ZX ?_)
 refine qD hS (fun _ hS=>ZE hS) fun h61 hS=>Zk ?_
 refine Zq ?_
 refine hU [(0,true),(1,true),(3,true),(4,true),(5,true),(6,true),(7,true),(8,true),(9,true),(10,true),(11,true),(12,true),(13,true),(14,true),(15,true),(2,false),(16,true),(17,true),(18,true),(19,false)] ?_
 refine ZX ?_
 refine Zw rfl (oY (j:=3) (n:=2) KY rfl rfl rfl) ?_
 refine ZX ?_
 refine VD.one rfl (fJ hS rfl fun VX hS => ?_)
 refine QA [(15,aA.aU.val),(14,ptr iB 0),(13,ptr iB 0),(12,aA.aS.val),(11,ptr iB 1),(10,ptr iB 0),(9,.agg #[str aA.aH,i64 aA.aG]),(8,ptr iB 3),(7,ptr iB 0),(6,str aA.aH),(5,ptr iB 3),(4,ptr iB 3),(3,ptr iB 0)] (bR.cons rfl (nI z8 rfl rfl) (bR.cons rfl (bY aJ9 rfl) (bR.cons rfl (bY nU rfl) (bR.cons rfl (nI Z5 rfl rfl) (bR.cons rfl (bY ZT rfl) (bR.cons rfl (bY nU rfl) (bR.cons rfl (oY (j:=3) (n:=2) KY rfl rfl rfl) (bR.cons rfl (bY aE5 rfl) (bR.cons rfl (bY nU rfl) (bR.cons rfl (nI oV rfl rfl) (bR.cons rfl (bY aJ7 rfl) (bR.cons rfl (bY aE5 rfl) (bR.cons rfl (bY nU rfl) bR.nil))))))))))))) ?_
 refine Zw rfl (cA (vs:=[(0,str [114,101,98,97,115,101]),(4,VX.val),(6,str aA.aH),(7,.agg #[str aA.aH,i64 aA.aG]),(8,aA.aS.val),(9,aA.aU.val)]) (cs := #[str [114,101,98,97,115,101],i64 0,str [],.slice none 0 0,VX.val,i64 0,str aA.aH,str aA.aH,i64 aA.aG,aA.aS.val,aA.aU.val]) rfl (by kernel_rfl)) ?_
 refine ZX ?_
 refine VD.one rfl (ZX ?_)
 refine eY ?_
 refine xE ?_
 refine VC.bD [3,4] (ZX ?_)
 refine Zu (cA (vs:=[(1,i64 cZ.n)]) (cs := #[str [],i64 cZ.n]) rfl (by kernel_rfl)) ?_
 refine ZX ?_
 refine VL.shut VX 101 (fun _ _ _ _=>trivial) ?_
 exact HB hS (ML (⟨FZ.aU,FZ.aS,FZ.aZ,[],cZ.n,[114,101,98,97,115,101],0,[],⟨none,0,[]⟩,VX,0,aA.aH,aA.aH,aA.aG,aA.aS,aA.aU,FZ.aW,FZ.aX,FZ.bF,FZ.aY,FZ.time⟩:aL)).out fun ⟨a7v,a7w,a7x⟩ hS=>ZE hS
instance aYb (aA:aL) (cZ:l8) :
 jG Tryz.prog 116 [.agg (aI aA).toArray,.agg #[str cZ.verb,str cZ.name,i64 cZ.n,str cZ.text,.bool cZ.force,cZ.todo.val]] (Sh.E9 aA.pl cZ.pl) (aA.m.and (cZ.todo.ok.and Gl)) (X:=aL×Bool×Er) (fun x => .tuple #[.agg (bB.enc x.1).toArray,.bool x.2.1,x.2.2.val]) (fun x=>(x.1.pl,x.2.1,x.2.2.pl)) (fun x=>(x.1.m.and x.2.2.ok)):=by
 refine jO Tryz.func116 Tryz.ntmps116 fun r hS c => ?_
 unfold Sh.E9 at hS
 refine cI ?_
 refine qC (aI aA) fun iB => ?_
 refine kF fun oU=>dG fun BS=>ZX ?_
 refine fN hS rfl fun ⟨nV,CO⟩ hS => ?_
 try dsimp only
 refine ZX ?_
 refine dG fun aG1=>ZO ?_
 refine Zl ?_
 refine VC.bD [2,3,4,7,8] (Zq (Zb ?_))
 refine VC.cJ [2,3,4,7] (fun (aCI:Bool)=>aCI) (fun aCI ρ=>(20,.bool aCI)::ρ) hS ?_ ?_
 ·
  intro k7 hS
  refine Zr (Zm (Zu (GU rfl) (Zm ?_)))
  refine B3 23 hS (fun _ hS=>ZE hS) fun h23 hS => ?_
  refine ZX ?_
  refine VL.mt (decide (1 < (nV.parents.l.length:Int))) [20,2,3,4,7] (fun _ _ h=>h) hS rfl
 rintro aCI hS
 refine iG hS (fun h20 hS => ?_) (fun h20 hS => ?_)
 ·
  refine ZX ?_
  cases hS
  exact VC.ret (Z4 (aA,false,(Er.no 1)) rfl)
 refine ZX ?_
 refine Zc hS (fun h31 hS => ?_) (fun h31 hS => ?_)
 ·
  refine ZX ?_
  cases hS
  exact VC.ret (Z4 (aA,false,(Er.no 7)) rfl)
 refine ZX ?_
 refine jU hS rfl fun aYA hS=>ZX ?_
 refine VC.bD [2,3,4,7,39] (iG hS (fun h39 hS => ?_) (fun h39 hS => ?_))
 ·
  refine ZX ?_
  cases hS
  exact VC.ret (Z4 (aA,false,(Er.no 8)) rfl)
 refine Zk ?_
 refine Zq ?_
 refine hU [(0,true),(1,true),(2,true),(4,true),(5,true),(6,true),(7,true),(3,false),(8,true),(9,true),(10,true)] ?_
 refine ZX ?_
 refine VD.one rfl (fN hS rfl fun a9O hS=>eL (Pk 7 (Pk 6 (Pk 5 (Pk 4 Pz)))) ?_)
 refine ZD ?_
 refine xE ?_
 refine VC.bD [2,3,4,9,10,11] ?_
 refine VC.cJm [2,3,4] (fun (sg:Sv aC×Sv aC×bI)=>(sg.1.l,sg.2.1.l,sg.2.2)) (fun sg ρ=>(9,sg.1.val)::(10,sg.2.1.val)::(11,str sg.2.2)::ρ) (fun sg=>(sg.1.ok.and sg.2.1.ok)) hS ?_ ?_
 ·
  intro k13 hS
  refine ZX ?_
  refine Zc hS (fun h55 hS => ?_) (fun h55 hS => ?_)
  ·
   obtain ⟨b59,hS⟩:=bX hS
   refine Zr (ZX ?_)
   obtain ⟨aP2,aUK,hS⟩:=p9 hS
   refine Zu (yP rfl rfl b59 aUK) ?_
   exact ZE hS
  exact ZE hS
 rintro ⟨VI,K6,RH⟩ hS
 refine VC.wT (S:=Er×Nat×aL×cQ) (fun sg=>(sg.1.pl,(),sg.2.2.1.pl,sg.2.2.2.pl)) (fun sg=>[(2,ptr iB 0),(3,ptr oU 0),(4,ptr BS 0),(6,sg.1.val),(11,str RH),(12,ptr sg.2.1 0)]) (fun sg=>(sg.1.ok.and (sg.2.2.1.m.and sg.2.2.2.m))) (fun sg=>Ow.star (bM aG1 [nV.tree.val,nV.parents.val,i64 nV.time,str nV.text] 61) (Ow.star (bM BS (aI sg.2.2.1) 49) (Ow.star (bM oU [str cZ.verb,str cZ.name,i64 cZ.n,str cZ.text,.bool cZ.force,cZ.todo.val] 26) (Ow.star (bM iB (aI aA) 49) (Ow.star (bM sg.2.1 [sg.2.2.2.files.val,sg.2.2.2.entries.val,sg.2.2.2.conflicts.val] 232) (Ow.emp)))))) hS ?_ ?_
 ·
  intro k20 hS
  refine VC.GA (n:=9) (listed:=bl 15 63) [(0,true),(1,true),(2,true),(3,true),(4,true),(5,true)] mixed (by kernel_rfl) (by kernel_rfl) (by kernel_rfl) (by kernel_rfl) ?_
  refine VD.q rfl (rQ qN rfl rfl) (by decide) ?_
  refine VD.q rfl (fR rfl) (by decide) ?_
  refine VD.q rfl (fR rfl) (by decide) ?_
  refine VD.q rfl (bY aE3 rfl) (by decide) ?_
  refine VD.q rfl (nI v8 rfl rfl) (by decide) ?_
  obtain ⟨b67,hS⟩:=bX hS
  refine VD.q rfl (eT (yT cZ.n b67) rfl (fun _ _=>rfl)) (by decide) ?_
  obtain ⟨WM,aJX,hS⟩:=dU hS
  refine VD.SY fun hcl => ?_
  refine VG.fork (l:=[6,11]) (n:=8) (by kernel_rfl) rfl fun i hi => ?_
  obtain rfl | rfl:i=6∨i=11:=by simpa using hi
  ·
   refine pX.of rfl ?_
   refine VL.jF ((gL aA VI K6 (sO cZ.n)).out aJX) rfl (by decide) ?_
   rintro ⟨CS,kV,UG⟩ rfl
   try dsimp only
   refine zB (bl 15 127) Pz ?_
   refine VG.ord [(7,true),(8,true),(9,true),(10,true),(11,false),(12,false),(13,false),(14,true)] (by kernel_rfl) (eF (by kernel_rfl)) (by kernel_rfl) ?_
   refine ZX ?_
   refine VD.one rfl (dG fun aBS=>eL (Pk 10 (Pk 9 (Pk 8 (Pk 7 Pz)))) ?_)
   refine VD.one rfl ?_
   refine Zv  (vc:=(aI CS)) (cs':=(aI CS)) rfl qR ?_
   refine eL (Pk 10 (Pk 9 Pz)) ?_
   refine VD.one rfl ?_
   refine Zv  (vc:=[kV.files.val,kV.entries.val,kV.conflicts.val]) (cs':=[kV.files.val,kV.entries.val,kV.conflicts.val]) rfl tG ?_
   refine eL (Pk 10 Pz) ?_
   refine ZX ?_
   refine VD.mt (UG,aBS,(CS:aL),(⟨kV.files,kV.entries,kV.conflicts⟩:cQ)) [2,3,4,6,11,12] (fun _ _ h=>h) hS rfl
  refine pX.of rfl ?_
  refine dG fun aBS => ?_
  refine VL.ER (D':=[(5,str (sO cZ.n)),(4,i64 cZ.n),(3,ptr oU 2),(0,.agg (aI aA).toArray)]) (listed' := #[true,true,true,true,true,true,false,false,false,false,false,true,false,false,false]) (bR.cons rfl (eT (yT cZ.n b67) rfl (fun _ _=>rfl)) (bR.cons rfl (nI v8 rfl rfl) (bR.cons rfl (bY aE3 rfl) (bR.cons rfl (rQ qN rfl rfl) (bR.nil))))) (by kernel_rfl) (by kernel_rfl) ?_
  refine VG.ord [(6,false),(7,true),(8,true),(9,true),(10,true),(12,false),(13,false),(14,true)] (by kernel_rfl) (eF (by kernel_rfl)) (by kernel_rfl) ?_
  refine VD.one rfl ?_
  refine VL.jF ((gL aA VI K6 (sO cZ.n)).out aJX) rfl (by decide) ?_
  rintro ⟨CS,kV,UG⟩ rfl
  try dsimp only
  refine eY ?_
  refine ZX ?_
  refine VD.one rfl ?_
  refine Zv  (vc:=(aI CS)) (cs':=(aI CS)) rfl qR ?_
  refine eL (Pk 10 (Pk 9 Pz)) ?_
  refine VD.one rfl ?_
  refine Zv  (vc:=[kV.files.val,kV.entries.val,kV.conflicts.val]) (cs':=[kV.files.val,kV.entries.val,kV.conflicts.val]) rfl tG ?_
  refine eL (Pk 10 Pz) ?_
  refine ZX ?_
  refine VD.mt (UG,aBS,(CS:aL),(⟨kV.files,kV.entries,kV.conflicts⟩:cQ)) [2,3,4,6,11,12] (fun _ _ h=>h) hS rfl
 rintro ⟨aEM,a1U,aOw,aLW⟩ hS
 refine Zq (Zb (ZX ?_))
 refine qD hS (fun _ hS=>ZE hS) fun h72 hS=>ZX ?_
 refine VC.bD [2,3,4,11,12,77] ?_
 refine Zc hS (fun _ hS=>ZE hS) fun h77 hS=>Zq ?_
 refine hU [(0,true),(1,true),(2,true),(3,false),(4,true),(5,true)] ?_
 refine ZX ?_
 refine VD.one rfl (fN hS rfl fun aSO hS=>eL (Pk 1 (Pk 0 Pz)) ?_)
 obtain ⟨aPs,aUR,hS⟩:=dU hS
 refine Zw rfl (eT ((z6 aLW.files aSO).out aUR) rfl (fun _ _=>rfl)) ?_
 refine ZX ?_
 refine VC.bD [2,4,11,12,93] (iG hS (fun h93 hS => ?_) (fun h93 hS => ?_))
 ·
  refine ZX ?_
  cases hS
  exact VC.ret (Z4 (aA,false,(Er.no 10)) rfl)
 refine ZX ?_
 refine jU hS rfl fun aL0 hS=>ZX ?_
 refine iG hS (fun h101 hS => ?_) (fun h101 hS => ?_)
 ·
  refine ZX ?_
  cases hS
  exact VC.ret (Z4 (aA,false,(Er.no 4)) rfl)
 refine Zk ?_
 refine Zq ?_
 refine hU [(0,true),(1,true),(2,true),(3,true),(5,true),(4,false),(6,false),(7,false),(8,true),(9,true)] ?_
 refine ZX ?_
 refine VD.one rfl (fJ hS rfl fun aMT hS=>eL (Pk 2 (Pk 1 (Pk 0 Pz))) ?_)
 refine VD.one rfl ?_
 refine VL.shut aMT 3 (fun _ _ _ _=>trivial) ?_
 refine fN hS rfl fun aMU hS=>eY ?_
 refine VD.one rfl (ZX ?_)
 refine eY ?_
 refine ZX ?_
 cases hS
 exact VC.ret (Z4 (aMU,false,.nil) rfl)
instance aLa (aA:Sv bN) (n_1:Int) :
 jG Tryz.prog 207 [aA.val,i64 n_1] (Sh.vY (aA.l.map bN.pl) n_1) aA.ok (X:=bN×Int) (fun x => .tuple #[.agg (bB.enc x.1).toArray,i64 x.2]) (fun x=>(x.1.pl,x.2)) (fun x=>x.1.m):=by
 refine jO Tryz.func207 Tryz.ntmps207 fun r hS c => ?_
 unfold Sh.vY at hS
 refine cI (dG fun W4=>ZX ?_)
 refine Zq (ZX ?_)
 refine jU hS rfl fun mH hS=>ZX ?_
 refine iG hS (fun h9 hS => ?_) (fun h9 hS => ?_)
 ·
  refine cI ?_
  refine Zu (cA (vs:=[]) (cs := #[i64 0,.slice none 0 0,.slice none 0 0,str []]) rfl (by kernel_rfl)) ?_
  refine ZX ?_
  cases hS
  exact VC.ret (Z4 (⟨0,⟨none,0,[]⟩,⟨none,0,[]⟩,[]⟩,1) rfl)
 refine ZX ?_
 obtain ⟨OU,aAK,QX,hS⟩:=DT hS
 refine VL.deep OU.m QX (fun _ q=>q) ?_
 refine Zu (jY (s:=aA) Tryz.underlying41 nQ rfl rfl aAK (bQ aAK QX)) (Zu (sR  (s:=aA) TL rfl rfl QX) ?_)
 refine HB hS (aDD OU).out fun EC hS=>ZX ?_
 cases hS
 exact VC.ret (Z4 (⟨EC.base,EC.index,EC.work,EC.text⟩,0) rfl)
instance aSU (aA:aL) (cZ:l8) :
 jG Tryz.prog 117 [.agg (aI aA).toArray,.agg #[str cZ.verb,str cZ.name,i64 cZ.n,str cZ.text,.bool cZ.force,cZ.todo.val]] (Sh.yC aA.pl cZ.pl) (aA.m.and cZ.todo.ok) (X:=aL×Bool×Er) (fun x => .tuple #[.agg (bB.enc x.1).toArray,.bool x.2.1,x.2.2.val]) (fun x=>(x.1.pl,x.2.1,x.2.2.pl)) (fun x=>(x.1.m.and x.2.2.ok)):=by
 refine jO Tryz.func117 Tryz.ntmps117 fun r hS c => ?_
 unfold Sh.yC at hS
 refine cI ?_
 refine qC (aI aA) fun iB => ?_
 refine kF fun oU=>dG fun BS=>ZX ?_
 refine fN hS rfl fun ⟨xL,aKt⟩ hS => ?_
 try dsimp only
 refine ZX ?_
 refine dG fun aG1=>ZO ?_
 refine Zl ?_
 refine VC.bD [2,3,4,7,8] (Zq (Zb (ZX ?_)))
 refine qD hS (fun h21 hS => ?_) (fun h21 hS => ?_)
 ·
  refine ZX ?_
  cases hS
  exact VC.ret (Z4 (aA,false,(Er.no aKt)) rfl)
 refine ZX ?_
 refine jU hS rfl fun aFk hS=>ZX ?_
 refine VC.bD [2,3,4,7,27] (iG hS (fun h27 hS => ?_) (fun h27 hS => ?_))
 ·
  refine ZX ?_
  cases hS
  exact VC.ret (Z4 (aA,false,(Er.no 8)) rfl)
 refine Zk ?_
 refine VC.wT (S:=Er×Nat×aL×cQ) (fun sg=>(sg.1.pl,(),sg.2.2.1.pl,sg.2.2.2.pl)) (fun sg=>[(2,ptr iB 0),(3,ptr oU 0),(4,ptr BS 0),(6,sg.1.val),(9,ptr sg.2.1 0)]) (fun sg=>(sg.1.ok.and (sg.2.2.1.m.and sg.2.2.2.m))) (fun sg=>Ow.star (bM aG1 [i64 xL.base,xL.index.val,xL.work.val,str xL.text] 128) (Ow.star (bM BS (aI sg.2.2.1) 49) (Ow.star (bM oU [str cZ.verb,str cZ.name,i64 cZ.n,str cZ.text,.bool cZ.force,cZ.todo.val] 26) (Ow.star (bM iB (aI aA) 49) (Ow.star (bM sg.2.1 [sg.2.2.2.files.val,sg.2.2.2.entries.val,sg.2.2.2.conflicts.val] 232) (Ow.emp)))))) hS ?_ ?_
 ·
  intro k11 hS
  refine VC.GA (n:=10) (listed:=bl 16 111) [(0,true),(1,true),(2,true),(3,true),(5,true),(6,true)] mixed (by kernel_rfl) (by kernel_rfl) (by kernel_rfl) (by kernel_rfl) ?_
  refine VD.q rfl (rQ qN rfl rfl) (by decide) ?_
  refine VD.q rfl (rQ qN rfl rfl) (by decide) ?_
  refine VD.q rfl (bY aG5 rfl) (by decide) ?_
  refine VD.q rfl (nI v8 rfl rfl) (by decide) ?_
  refine VD.q rfl (bY aG6 rfl) (by decide) ?_
  refine VD.q rfl (nI z8 rfl rfl) (by decide) ?_
  obtain ⟨aAy,PA,hS⟩:=dU hS
  obtain ⟨WJ,aEN,hS⟩:=dU hS
  refine VD.SY fun hcl => ?_
  refine VG.fork (l:=[4,12]) (n:=9) (by kernel_rfl) rfl fun i hi => ?_
  obtain rfl | rfl:i=4∨i=12:=by simpa using hi
  ·
   refine pX.of rfl ?_
   refine VL.jF ((GX aA xL.base).out PA) rfl (by decide) ?_
   rintro NO rfl
   try dsimp only
   refine zB (bl 16 127) (Pk 6 (Pk 5 (Pk 0 Pz))) ?_
   refine VG.fork (l:=[7,12]) (n:=8) (by kernel_rfl) rfl fun i hi => ?_
   obtain rfl | rfl:i=7∨i=12:=by simpa using hi
   ·
    refine pX.of rfl ?_
    refine VL.jF ((gL aA NO xL.work [115,116,97,115,104]).out aEN) rfl (by decide) ?_
    rintro ⟨tV,gE,JX⟩ rfl
    try dsimp only
    refine zB (bl 16 255) Pz ?_
    refine VG.ord [(8,true),(9,true),(10,true),(11,true),(12,false),(13,false),(14,false),(15,true)] (by kernel_rfl) (eF (by kernel_rfl)) (by kernel_rfl) ?_
    refine ZX ?_
    refine VD.one rfl (dG fun TA=>eL (Pk 11 (Pk 10 (Pk 9 (Pk 8 Pz)))) ?_)
    refine VD.one rfl ?_
    refine Zv  (vc:=(aI tV)) (cs':=(aI tV)) rfl qR ?_
    refine eL (Pk 11 (Pk 10 Pz)) ?_
    refine VD.one rfl ?_
    refine Zv  (vc:=[gE.files.val,gE.entries.val,gE.conflicts.val]) (cs':=[gE.files.val,gE.entries.val,gE.conflicts.val]) rfl tG ?_
    refine eL (Pk 11 Pz) ?_
    refine ZX ?_
    refine VD.mt (JX,TA,(tV:aL),(⟨gE.files,gE.entries,gE.conflicts⟩:cQ)) [2,3,4,6,9] (fun _ _ h=>h) hS rfl
   refine pX.of rfl ?_
   refine dG fun TA => ?_
   refine zB (bl 16 4223) (Pk 6 (Pk 5 (Pk 0 Pz))) ?_
   refine VG.ord [(7,false),(8,true),(9,true),(10,true),(11,true),(13,false),(14,false),(15,true)] (by kernel_rfl) (eF (by kernel_rfl)) (by kernel_rfl) ?_
   refine VD.one rfl ?_
   refine VL.jF ((gL aA NO xL.work [115,116,97,115,104]).out aEN) rfl (by decide) ?_
   rintro ⟨tV,gE,JX⟩ rfl
   try dsimp only
   refine eY ?_
   refine ZX ?_
   refine VD.one rfl ?_
   refine Zv  (vc:=(aI tV)) (cs':=(aI tV)) rfl qR ?_
   refine eL (Pk 11 (Pk 10 Pz)) ?_
   refine VD.one rfl ?_
   refine Zv  (vc:=[gE.files.val,gE.entries.val,gE.conflicts.val]) (cs':=[gE.files.val,gE.entries.val,gE.conflicts.val]) rfl tG ?_
   refine eL (Pk 11 Pz) ?_
   refine ZX ?_
   refine VD.mt (JX,TA,(tV:aL),(⟨gE.files,gE.entries,gE.conflicts⟩:cQ)) [2,3,4,6,9] (fun _ _ h=>h) hS rfl
  refine pX.of rfl ?_
  refine dG fun TA => ?_
  refine zB (bl 16 4207) (Pk 6 (Pk 5 (Pk 3 (Pk 2 (Pk 1 (Pk 0 Pz)))))) ?_
  refine VG.ord [(4,false),(7,false),(8,true),(9,true),(10,true),(11,true),(13,false),(14,false),(15,true)] (by kernel_rfl) (eF (by kernel_rfl)) (by kernel_rfl) ?_
  refine VD.one rfl ?_
  refine VL.jF ((GX aA xL.base).out PA) rfl (by decide) ?_
  rintro NO rfl
  try dsimp only
  refine eL (Pk 6 (Pk 5 (Pk 0 Pz))) ?_
  refine VD.one rfl ?_
  refine VL.jF ((gL aA NO xL.work [115,116,97,115,104]).out aEN) rfl (by decide) ?_
  rintro ⟨tV,gE,JX⟩ rfl
  try dsimp only
  refine eY ?_
  refine ZX ?_
  refine VD.one rfl ?_
  refine Zv  (vc:=(aI tV)) (cs':=(aI tV)) rfl qR ?_
  refine eL (Pk 11 (Pk 10 Pz)) ?_
  refine VD.one rfl ?_
  refine Zv  (vc:=[gE.files.val,gE.entries.val,gE.conflicts.val]) (cs':=[gE.files.val,gE.entries.val,gE.conflicts.val]) rfl tG ?_
  refine eL (Pk 11 Pz) ?_
  refine ZX ?_
  refine VD.mt (JX,TA,(tV:aL),(⟨gE.files,gE.entries,gE.conflicts⟩:cQ)) [2,3,4,6,9] (fun _ _ h=>h) hS rfl
 rintro ⟨ZF,a9Q,eP,aX9⟩ hS
 refine Zq (ZX ?_)
 refine qD hS (fun _ hS=>ZE hS) fun h46 hS=>Zk ?_
 refine Zq (ZX ?_)
 refine fN hS rfl fun a7W hS=>ZX ?_
 refine Zb ?_
 refine VC.iJb [3,4,6,9,50,51] (fun (sg:Int×Sv IndexEntry)=>(sg.1,sg.2.l)) (fun sg ρ=>(52,i64 sg.1)::ρ) (fun sg=>sg.2.ok) BS (fun sg=>[eP.aU.val,sg.2.val,eP.aZ.val,str eP.aH,i64 eP.aG,str eP.aR,i64 eP.aM,str eP.aT,eP.aN.val,eP.aP.val,i64 eP.aO,str eP.aJ,str eP.aD,i64 eP.aE,eP.aK.val,eP.aQ.val,eP.aW.val,eP.aX.val,eP.bF.val,eP.aY.val,i64 eP.time]) (0,eP.aS) [52,3,4,6,9,50,51] hS ?_
 rintro ⟨RS,N7⟩ m1 y1 hS hK1
 refine ZX ?_
 refine Zq (Zc hS (fun h53 hS => ?_) (fun h53 hS => ?_))
 ·
  refine Zk ?_
  refine Zq (Zb (cI (BY hS rfl fun BX a8b hS=>ZX ?_)))
  refine dG fun a9l=>ZX ?_
  refine jU hS rfl fun aP4 hS=>ZX ?_
  refine VC.bD [3,4,6,9,50,51,52,11,61] (iG hS (fun h61 hS => ?_) (fun h61 hS => ?_))
  ·
   refine Zr (ZX ?_)
   refine Zu (cA (vs:=[(0,str BX.path),(2,i64 BX.mode),(3,str BX.data)]) (cs := #[str BX.path,i64 0,i64 BX.mode,str BX.data,i64 0,i64 0]) rfl (by kernel_rfl)) ?_
   exact HB hS (OA N7 (⟨BX.path,0,BX.mode,BX.data,0,0⟩:IndexEntry)).out fun a7l hS=>ZE hS
  exact ZE hS
 replace hS:=lQ hS hK1
 refine Zx ?_
 refine Zq (ZX ?_)
 refine VC.bD [3,4,6,79] (Zc hS (fun h79 hS => ?_) (fun h79 hS => ?_))
 ·
  refine ZX ?_
  cases hS
  exact VC.ret (Z4 (⟨eP.aU,N7,eP.aZ,eP.aH,eP.aG,eP.aR,eP.aM,eP.aT,eP.aN,eP.aP,eP.aO,eP.aJ,eP.aD,eP.aE,eP.aK,eP.aQ,eP.aW,eP.aX,eP.bF,eP.aY,eP.time⟩,true,(Er.no 9)) rfl)
 refine Zk ?_
 refine VC.M3 [4] (fun (sg:Er×aL)=>(sg.1.pl,sg.2.pl)) (fun sg ρ=>(6,sg.1.val)::ρ) (fun sg=>(sg.1.ok.and sg.2.m)) BS (fun sg=>(aI sg.2)) hS ?_ ?_
 ·
  intro k23 hS
  refine ZX ?_
  refine Zc hS (fun h84 hS => ?_) (fun h84 hS => ?_)
  ·
   refine Zr (ZX ?_)
   refine HB hS (aDA (⟨eP.aU,N7,eP.aZ,eP.aH,eP.aG,eP.aR,eP.aM,eP.aT,eP.aN,eP.aP,eP.aO,eP.aJ,eP.aD,eP.aE,eP.aK,eP.aQ,eP.aW,eP.aX,eP.bF,eP.aY,eP.time⟩:aL) cZ.n).out fun ⟨aSM,aSN⟩ hS => ?_
   try dsimp only
   refine ZX ?_
   refine VL.mt (aSN,(aSM:aL)) [6,4] (fun _ _ h=>h) hS rfl
  refine VC.PZ (ZF,(⟨eP.aU,N7,eP.aZ,eP.aH,eP.aG,eP.aR,eP.aM,eP.aT,eP.aN,eP.aP,eP.aO,eP.aJ,eP.aD,eP.aE,eP.aK,eP.aQ,eP.aW,eP.aX,eP.bF,eP.aY,eP.time⟩:aL)) [6,4] (fun _ _ h=>h) hS rfl
 rintro ⟨aJS,a4s⟩ hS
 exact ZE hS
end Go.Proofs.YtaohfeokfcdojaaGreatDoor
end

section
set_option linter.unusedVariables false
namespace Go.Proofs.YtaohfeokfcdojaaGreatDoor
set_option maxHeartbeats 4000000
set_option maxRecDepth 100000
set_option synthInstance.maxSize 2000
set_option synthInstance.maxHeartbeats 1000000
open Go.RowKit Go.V
open Go.S
attribute [local irreducible] Go.V.Qt Go.V.VL Go.V.VC Go.V.HA Go.S.gd Go.S.at_ Go.S.lt Go.S.jn Go.S.go Go.S.up Go.S.iter Sh.B6 Sh.zW Sh.B7 Sh.nF Sh.eN Sh.zD Sh.vK Sh.BJ Sh.zG Sh.yX Sh.x9 Sh.xA Sh.wG Sh.xB Sh.nK Sh.CT Sh.AZ Sh.qV Sh.GV Sh.AB Sh.xO Sh.CU Sh.H7 Sh.mF Sh.AD Sh.AE Sh.AF Sh.H8 Sh.H9 Sh.CW Sh.AI Sh.E9 Sh.AJ Sh.CX Sh.CY Sh.MK Sh.IB Sh.vA Sh.FA Sh.CZ Sh.C0 Sh.yC Sh.fE Sh.pU Sh.FD
instance:KA Tryz.prog 22 (.slice 73):=⟨Tryz.underlying22⟩
instance aY8 (aA:aL) (cZ:l8) :
 jG Tryz.prog 56 [.agg (aI aA).toArray,.agg #[str cZ.verb,str cZ.name,i64 cZ.n,str cZ.text,.bool cZ.force,cZ.todo.val]] (Sh.H9 aA.pl cZ.pl) (aA.m.and (cZ.todo.ok.and Gl)) (X:=aL×Bool×Er) (fun x => .tuple #[.agg (bB.enc x.1).toArray,.bool x.2.1,x.2.2.val]) (fun x=>(x.1.pl,x.2.1,x.2.2.pl)) (fun x=>(x.1.m.and x.2.2.ok)):=by
 refine jO Tryz.func56 Tryz.ntmps56 fun r hS c => ?_
 unfold Sh.H9 at hS
 refine cI ?_
 refine qC (aI aA) fun iB => ?_
 refine kF fun oU=>dG fun BS=>ZO ?_
 refine Zl ?_
 refine VC.M3 [4] (fun (sg:Er×aL)=>(sg.1.pl,sg.2.pl)) (fun sg ρ=>(6,sg.1.val)::ρ) (fun sg=>(sg.1.ok.and sg.2.m)) BS (fun sg=>(aI sg.2)) hS ?_ ?_
 ·
  intro k6 hS
  refine ZX ?_
  refine Zb (Zq (Zb ?_))
  refine VC.cJ [2,3,4] (fun (_:Unit)=>()) (fun _ ρ=>ρ) hS ?_ ?_
  ·
   intro k7 hS
   refine Zb (Zb ?_)
   refine VC.cJ [2,3,4] (fun (_:Unit)=>()) (fun _ ρ=>ρ) hS ?_ ?_
   ·
    intro k8 hS
    refine Zb (Zb (Zq (Zb (Zq (Zb (Zq (Zb (Zq (Zb (Zq (Zb (Zq (Zb (Zq (Zb (Zq (Zq (ZX ?_))))))))))))))))))
    refine Zc hS (fun h9 hS => ?_) (fun h9 hS => ?_)
    ·
     refine Zx ?_
     refine VC.bD [2,3,4] (ZX ?_)
     refine fN hS rfl fun ⟨aW8,aW9⟩ hS => ?_
     try dsimp only
     refine ZO ?_
     refine Zl ?_
     refine VC.bD [4,6] (VC.D8 (aW9,(aW8:aL)) [6,4] (fun _ _ h=>h) hS rfl)
    refine Zk ?_
    refine VC.bD [2,3,4,8] (Zq (ZX ?_))
    refine Zc hS (fun h11 hS => ?_) (fun h11 hS => ?_)
    ·
     refine Zx ?_
     refine ZX ?_
     refine fN hS rfl fun ⟨BK,aRb⟩ hS => ?_
     try dsimp only
     refine ZO ?_
     refine Zl ?_
     refine VC.bD [4,6] (VC.D8 (aRb,(BK:aL)) [6,4] (fun _ _ h=>h) hS rfl)
    refine Zk ?_
    refine Zq (ZX ?_)
    refine Zc hS (fun h13 hS => ?_) (fun h13 hS => ?_)
    ·
     refine Zx ?_
     refine ZX ?_
     refine fN hS rfl fun ⟨aRe,aRf⟩ hS => ?_
     try dsimp only
     refine ZO ?_
     refine Zl ?_
     refine VC.bD [4,6] (VC.D8 (aRf,(aRe:aL)) [6,4] (fun _ _ h=>h) hS rfl)
    refine Zk ?_
    refine Zq (ZX ?_)
    refine Zc hS (fun h15 hS => ?_) (fun h15 hS => ?_)
    ·
     refine Zx ?_
     refine ZX ?_
     refine fN hS rfl fun ⟨aRl,aRm⟩ hS => ?_
     try dsimp only
     refine ZO ?_
     refine Zl ?_
     refine VC.bD [4,6] (VC.D8 (aRm,(aRl:aL)) [6,4] (fun _ _ h=>h) hS rfl)
    refine Zk ?_
    refine Zq (ZX ?_)
    refine VC.bD [2,3,4,8,17] (Zc hS (fun h17 hS => ?_) (fun h17 hS => ?_))
    ·
     refine Zx ?_
     refine ZX ?_
     refine fN hS rfl fun ⟨aBm,aRo⟩ hS => ?_
     try dsimp only
     refine ZO ?_
     refine Zl ?_
     refine VC.bD [4,6] (VC.D8 (aRo,(aBm:aL)) [6,4] (fun _ _ h=>h) hS rfl)
    refine Zk ?_
    refine Zq (ZX ?_)
    refine Zc hS (fun h19 hS => ?_) (fun h19 hS => ?_)
    ·
     refine Zx ?_
     refine ZX ?_
     refine fN hS rfl fun ⟨aRx,aRy⟩ hS => ?_
     try dsimp only
     refine ZO ?_
     refine Zl ?_
     refine VC.bD [4,6] (VC.D8 (aRy,(aRx:aL)) [6,4] (fun _ _ h=>h) hS rfl)
    exact ZE hS
   rintro _ hS
   exact ZE hS
  rintro _ hS
  exact ZE hS
 rintro ⟨ZC,fK⟩ hS
 exact ZE hS
instance a18 (aA:aL) (cZ:l8) :
 jG Tryz.prog 22 [.agg (aI aA).toArray,.agg #[str cZ.verb,str cZ.name,i64 cZ.n,str cZ.text,.bool cZ.force,cZ.todo.val]] (Sh.IB aA.pl cZ.pl) (aA.m.and (cZ.todo.ok.and Gl)) (X:=aL×Bool×Er) (fun x => .tuple #[.agg (bB.enc x.1).toArray,.bool x.2.1,x.2.2.val]) (fun x=>(x.1.pl,x.2.1,x.2.2.pl)) (fun x=>(x.1.m.and x.2.2.ok)):=by
 refine jO Tryz.func22 Tryz.ntmps22 fun r hS c => ?_
 unfold Sh.IB at hS
 refine cI ?_
 refine qC (aI aA) fun iB => ?_
 refine kF fun oU=>dG fun BS=>ZO ?_
 refine Zl ?_
 refine VC.M3 [4] (fun (sg:Er×aL)=>(sg.1.pl,sg.2.pl)) (fun sg ρ=>(6,sg.1.val)::ρ) (fun sg=>(sg.1.ok.and sg.2.m)) BS (fun sg=>(aI sg.2)) hS ?_ ?_
 ·
  intro k6 hS
  refine ZX ?_
  refine Zb (ZX ?_)
  refine Zc hS (fun h22 hS => ?_) (fun h22 hS => ?_)
  ·
   refine Zr (ZX ?_)
   refine fN hS rfl fun ⟨aWY,aWZ⟩ hS => ?_
   try dsimp only
   refine ZX ?_
   refine VL.mt (aWZ,(aWY:aL)) [6,4] (fun _ _ h=>h) hS rfl
  refine ZX ?_
  refine VC.bD [2,3,4,8,31] (Zc hS (fun h31 hS => ?_) (fun h31 hS => ?_))
  ·
   refine Zr (ZX ?_)
   refine fN hS rfl fun ⟨CR,oW⟩ hS => ?_
   try dsimp only
   refine ZX ?_
   refine VL.mt (oW,(CR:aL)) [6,4] (fun _ _ h=>h) hS rfl
  refine ZX ?_
  refine Zc hS (fun h39 hS => ?_) (fun h39 hS => ?_)
  ·
   refine Zr (ZX ?_)
   refine fN hS rfl fun ⟨aFL,aWd⟩ hS => ?_
   try dsimp only
   refine ZX ?_
   refine VL.mt (aWd,(aFL:aL)) [6,4] (fun _ _ h=>h) hS rfl
  refine ZX ?_
  refine Zc hS (fun _ hS=>ZE hS) fun h48 hS=>ZX ?_
  refine Zc hS (fun _ hS=>ZE hS) fun h55 hS=>ZX ?_
  refine VC.bD [2,3,4,8,62] (Zc hS (fun h62 hS => ?_) (fun h62 hS => ?_))
  ·
   refine Zr (ZX ?_)
   refine fN hS rfl fun ⟨aRv,aRw⟩ hS => ?_
   try dsimp only
   refine ZX ?_
   refine VL.mt (aRw,(aRv:aL)) [6,4] (fun _ _ h=>h) hS rfl
  refine ZX ?_
  refine Zc hS (fun h69 hS => ?_) (fun h69 hS => ?_)
  ·
   refine Zr (ZX ?_)
   refine fN hS rfl fun ⟨aGm,aSA⟩ hS => ?_
   try dsimp only
   refine ZX ?_
   refine VL.mt (aSA,(aGm:aL)) [6,4] (fun _ _ h=>h) hS rfl
  refine ZX ?_
  refine Zc hS (fun h76 hS => ?_) (fun h76 hS => ?_)
  ·
   refine Zr (ZX ?_)
   refine fN hS rfl fun ⟨aSF,aSG⟩ hS => ?_
   try dsimp only
   refine ZX ?_
   refine VL.mt (aSG,(aSF:aL)) [6,4] (fun _ _ h=>h) hS rfl
  refine Zq (ZX ?_)
  refine VC.bD [2,3,4,13] (qD hS (fun h13 hS => ?_) (fun h13 hS => ?_))
  ·
   refine ZX ?_
   cases hS
   exact VC.ret (Z4 (aA,false,(Er.no 7)) rfl)
  exact ZE hS
 rintro ⟨ZC,fK⟩ hS
 exact ZE hS
instance aBa (dY:oH) (GO:bI) :
 jG Tryz.prog 25 [.agg #[dY.back.val,dY.kR.val],str GO] (Sh.BJ dY.pl GO) (dY.back.ok.and dY.kR.ok) (X:=oH) (fun x => .agg (bB.enc x).toArray) (fun x=>x.pl) (fun x=>x.m):=by
 refine jO Tryz.func25 Tryz.ntmps25 fun r hS c => ?_
 unfold Sh.BJ at hS
 refine cI (kF fun iB=>dG fun xF=>ZX ?_)
 refine fN hS rfl fun GR hS => ?_
 refine Zu (cA (vs:=[(0,GR.val)]) (cs := #[GR.val,.slice none 0 0]) rfl (by kernel_rfl)) ?_
 refine ZX ?_
 cases hS
 exact VC.ret (Z4 ⟨GR,⟨none,0,[]⟩⟩ rfl)
instance a4l (aA:aL) (cZ:l8) :
 jG Tryz.prog 8 [.agg (aI aA).toArray,.agg #[str cZ.verb,str cZ.name,i64 cZ.n,str cZ.text,.bool cZ.force,cZ.todo.val]] (Sh.GV aA.pl cZ.pl) (aA.m.and (cZ.todo.ok.and Gl)) (X:=aL×Er) (fun x => .tuple #[.agg (bB.enc x.1).toArray,x.2.val]) (fun x=>(x.1.pl,x.2.pl)) (fun x=>(x.1.m.and x.2.ok)):=by
 refine jO Tryz.func8 Tryz.ntmps8 fun r hS c => ?_
 unfold Sh.GV at hS
 refine cI ?_
 refine qC (aI aA) fun iB => ?_
 refine kF fun oU=>dG fun BS=>ZX ?_
 refine Zq (ZX ?_)
 refine fN hS rfl fun aKn hS=>ZX ?_
 refine qD hS (fun _ hS=>ZE hS) fun h13 hS=>Zk ?_
 refine VC.bD [2,3,4] (ZX ?_)
 refine fN hS rfl fun ⟨eA,a8t,UA⟩ hS => ?_
 try dsimp only
 refine ZX ?_
 refine dG fun a42=>ZO ?_
 refine Zl ?_
 refine VC.bD [2,3,4,7,8,9] ?_
 refine VC.cJm [2,3,4,7] (fun (NA:Er)=>NA.pl) (fun NA ρ=>(9,NA.val)::ρ) (fun (NA:Er)=>NA.ok) hS ?_ ?_
 ·
  intro k9 hS
  refine ZX ?_
  refine qD hS (fun h25 hS => ?_) (fun h25 hS => ?_)
  ·
   refine Zq ?_
   refine hU [(1,true),(2,true),(4,true),(0,false),(3,true),(5,true),(6,false),(7,true),(8,true)] ?_
   refine ZX ?_
   refine VD.one rfl (fN hS rfl fun aRY hS=>eL (Pk 2 (Pk 1 Pz)) ?_)
   obtain ⟨G6,aTk,hS⟩:=dU hS
   refine Zw rfl (eT ((IC aRY cZ.verb).out aTk) rfl (fun _ _=>rfl)) ?_
   refine Zw rfl (cA (vs:=[(0,str [100,111]),(1,i64 G6),(2,UA.val)]) (cs := #[str [100,111],i64 G6,UA.val]) rfl (by generalize UA=z0; cases z0 <;> kernel_rfl)) ?_
   refine VD.one rfl (kF fun aHG=>eY ?_)
   refine VD.DV aHG ?_
   refine ZD ?_
   refine xE ?_
   refine VC.bD [2,3,4,7,8,9] (ZX ?_)
   refine iG hS (fun h35 hS => ?_) (fun h35 hS => ?_)
   ·
    refine ZX ?_
    refine fN hS rfl fun aGh hS=>ZX ?_
    cases hS
    exact VC.ret (Z4 (aGh,(Er.fault aHG [100,111] G6 UA)) rfl)
   refine VC.PZ (Er.fault aHG [100,111] G6 UA) [9,2,3,4,7] (fun _ _ h=>h) hS rfl
  exact ZE hS
 rintro NA hS
 refine VC.M3 [4,7,9] (fun (sg:Sv bI×Sv bI)=>(sg.1.l,sg.2.l)) (fun sg ρ=>ρ) (fun sg=>(sg.1.ok.and sg.2.ok)) a42 (fun sg=>[eA.aU.val,eA.aS.val,eA.aZ.val,str eA.aH,i64 eA.aG,str eA.aR,i64 eA.aM,str eA.aT,eA.aN.val,eA.aP.val,i64 eA.aO,str eA.aJ,str eA.aD,i64 eA.aE,eA.aK.val,eA.aQ.val,eA.aW.val,eA.aX.val,sg.1.val,sg.2.val,i64 eA.time]) hS ?_ ?_
 ·
  intro k16 hS
  refine VC.cJ [2,4,7,9] (fun (WA:Bool)=>WA) (fun WA ρ=>(46,.bool WA)::ρ) hS (fun _ hS=>ZE hS) ?_
  rintro WA hS
  refine iG hS (fun h46 hS => ?_) (fun h46 hS => ?_)
  ·
   refine hU [(0,true),(1,true),(2,true),(3,true),(4,true),(5,false),(6,true),(7,false)] ?_
   refine ZX ?_
   refine Zw rfl (oY (j:=18) (n:=2) VM rfl rfl rfl) ?_
   refine ZX ?_
   refine Zw rfl (oY (j:=0) (n:=17) QV rfl rfl rfl) ?_
   obtain ⟨aI5,aUD,hS⟩:=dU hS
   refine Zw rfl (eT ((C2 (⟨aA.aU,aA.aS,aA.aZ,aA.aH,aA.aG,aA.aR,aA.aM,aA.aT,aA.aN,aA.aP,aA.aO,aA.aJ,aA.aD,aA.aE,aA.aK,aA.aQ,aA.aW⟩:iY)).out aUD) rfl (fun _ _=>rfl)) ?_
   refine VD.one rfl (HB hS (aBa (⟨aA.bF,aA.aY⟩:oH) aI5).out fun VV hS=>eY ?_)
   refine ZX ?_
   refine VD.one rfl ?_
   refine Zv  (vc:=[VV.back.val,VV.kR.val]) (cs':=[eA.aU.val,eA.aS.val,eA.aZ.val,str eA.aH,i64 eA.aG,str eA.aR,i64 eA.aM,str eA.aT,eA.aN.val,eA.aP.val,i64 eA.aO,str eA.aJ,str eA.aD,i64 eA.aE,eA.aK.val,eA.aQ.val,eA.aW.val,eA.aX.val,VV.back.val,VV.kR.val,i64 eA.time]) rfl aB0 ?_
   refine eY ?_
   exact ZE hS
  exact ZE hS
 rintro ⟨aHH,aHI⟩ hS
 refine ZX ?_
 exact HB hS (aFU (⟨eA.aU,eA.aS,eA.aZ,eA.aH,eA.aG,eA.aR,eA.aM,eA.aT,eA.aN,eA.aP,eA.aO,eA.aJ,eA.aD,eA.aE,eA.aK,eA.aQ,eA.aW,eA.aX,aHH,aHI,eA.time⟩:aL)).out fun a7a hS=>ZE hS
instance aSQ (aA:aL) (I5:bI) :
 jG Tryz.prog 12 [.agg (aI aA).toArray,str I5] (Sh.nK aA.pl I5) (aA.m.and Gl) (X:=aL×Er) (fun x => .tuple #[.agg (bB.enc x.1).toArray,x.2.val]) (fun x=>(x.1.pl,x.2.pl)) (fun x=>(x.1.m.and x.2.ok)):=by
 refine jO Tryz.func12 Tryz.ntmps12 fun r hS c => ?_
 unfold Sh.nK at hS
 refine cI ?_
 refine qC (aI aA) fun iB => ?_
 refine dG fun xF=>ZX ?_
 refine fN hS rfl fun ⟨kJ,a8j⟩ hS => ?_
 try dsimp only
 refine ZX ?_
 exact dG fun a8J=>ZE hS
instance YB (aA:aL) (p_1:bI) (data_2:bI) (vG:bI) :
 jG Tryz.prog 10 [.agg (aI aA).toArray,str p_1,str data_2,str vG] (Sh.xB aA.pl p_1 data_2 vG) (aA.m.and Gl) (X:=aL) (fun x => .agg (bB.enc x).toArray) (fun x=>x.pl) (fun x=>x.m):=by
 refine jO Tryz.func10 Tryz.ntmps10 fun r hS c => ?_
 unfold Sh.xB at hS
 refine cI ?_
 refine qC (aI aA) fun W4 => ?_
 refine dG fun aJJ=>ZX ?_
 refine fN hS rfl fun fX hS => ?_
 obtain ⟨b16,hS⟩:=bX hS
 refine ZX ?_
 obtain ⟨s9,ZK,hS⟩:=p9 hS
 refine Zu (yP rfl rfl b16 ZK) ?_
 refine fN hS rfl fun ⟨aKs,a8o⟩ hS => ?_
 try dsimp only
 refine ZO ?_
 refine Zl ?_
 refine VC.bD [3,4,8] ?_
 obtain ⟨b23,hS⟩:=bX hS
 refine ZX ?_
 obtain ⟨OR,aZ4,hS⟩:=p9 hS
 refine Zu (yP rfl rfl b23 aZ4) ?_
 exact ZE hS
instance aA8 (aA:aL) (p_1:bI) :
 gS Tryz.prog 13 [.agg (aI aA).toArray,str p_1] (Sh.CT aA.pl p_1) aA.m (fun r=>str r):=by
 refine gU Tryz.func13 Tryz.ntmps13 fun r hS c => ?_
 unfold Sh.CT at hS
 refine cI ?_
 refine qC (aI aA) fun iB => ?_
 refine ZX ?_
 refine jU hS rfl fun lR hS=>ZX ?_
 exact dG fun Y5=>ZE hS
instance aMZ  :
 gS Tryz.prog 4 [] Sh.xA Gl (fun r => .bool r):=by
 refine gU Tryz.func4 Tryz.ntmps4 fun r hS c => ?_
 unfold Sh.xA at hS
 refine ZX ?_
 refine jU hS rfl fun XG hS=>HB hS (YB (⟨⟨none,0,[]⟩,⟨none,0,[]⟩,⟨none,0,[]⟩,[109,97,105,110],0,[],0,[],⟨none,0,[]⟩,⟨none,0,[]⟩,0,[],[],0,⟨none,0,[]⟩,⟨none,0,[]⟩,⟨none,0,[]⟩,⟨none,0,[]⟩,⟨none,0,[]⟩,⟨none,0,[]⟩,0⟩:aL) [97] [120,10] [111,110,101]).out fun yO hS=>dG fun bBW=>ZX ?_
 refine fN hS rfl fun ⟨aKk,a8k⟩ hS => ?_
 try dsimp only
 refine ZX ?_
 refine fN hS rfl fun CK hS=>ZO ?_
 refine Zl ?_
 refine VC.bD [1,2] (ZX ?_)
 refine fN hS rfl fun ⟨a8p,a8q⟩ hS => ?_
 try dsimp only
 refine ZX ?_
 refine jU hS rfl fun aCc hS=>Za ?_
 refine Zl ?_
 refine VC.bD [1,2,3,4] (ZX ?_)
 refine fN hS rfl fun a8x hS=>ZX ?_
 refine fN hS rfl fun ⟨aAW,a9D⟩ hS => ?_
 try dsimp only
 refine ZO ?_
 refine Zl ?_
 refine VC.bD [1,2,3,4,5] (cI (Zm ?_))
 refine Zu (aD5 Tryz.underlying28 rfl) (Zm ?_)
 refine oT 31 hS (fun h31 hS => ?_) (fun h31 hS => ?_)
 ·
  refine Zg ?_
  refine Zh (aD5 Tryz.underlying28 rfl) ?_
  refine Zt ?_
  refine Zm ?_
  refine oT 35 hS (fun h35 hS => ?_) (fun h35 hS => ?_)
  ·
   refine Zg ?_
   refine Zh (aD5 Tryz.underlying28 rfl) ?_
   refine Zt ?_
   refine Zm ?_
   refine oT 39 hS (fun h39 hS => ?_) (fun h39 hS => ?_)
   ·
    refine Zg ?_
    refine Zh (UL rfl rfl) ?_
    refine Zt ?_
    refine Zm ?_
    refine oT 43 hS (fun h43 hS => ?_) (fun h43 hS => ?_)
    ·
     refine ZX ?_
     obtain ⟨aPJ,aTv,hS⟩:=dU hS
     refine Zh (eT ((aA8 aAW [98]).out aTv) rfl (fun _ _=>rfl)) ?_
     refine Zh (UL rfl rfl) ?_
     refine Zt ?_
     refine Zm ?_
     refine oT 48 hS (fun h48 hS => ?_) (fun h48 hS => ?_)
     ·
      refine Zh (bY ZY rfl) ?_
      refine Zh (nI aDO rfl rfl) ?_
      refine Zh (wW cD.pl (s:=aAW.aX) Tryz.underlying44 rfl) ?_
      refine Zh (KE rfl rfl) ?_
      refine Zt ?_
      refine Zm ?_
      refine oT 54 hS (fun h54 hS => ?_) (fun h54 hS => ?_)
      ·
       refine ZX ?_
       obtain ⟨aIs,aK9,aEi,hS⟩:=DT hS
       refine VL.deep aIs.m aEi (fun _ q=>q) ?_
       refine Zh (jY (s:=aAW.aX) Tryz.underlying44 XX rfl rfl aK9 (bQ aK9 aEi)) ?_
       refine ZX ?_
       refine Zh (aFN  (s:=aAW.aX) VP rfl aEi rfl) ?_
       exact ZE hS
      exact ZE hS
     exact ZE hS
    exact ZE hS
   exact ZE hS
  exact ZE hS
 exact ZE hS
instance aSP (dY:Sv iV) :
 gS Tryz.prog 6 [dY.val] (Sh.x9 dY.l) dY.ok (fun r => .bool r):=by
 refine gU Tryz.func6 Tryz.ntmps6 fun r hS c => ?_
 unfold Sh.x9 at hS
 refine ZX ?_
 refine Zq (ZX ?_)
 refine Zc hS (fun _ hS=>ZE hS) fun h6 hS=>Zk ?_
 refine Zq (ZX ?_)
 refine Zb ?_
 refine VC.iJ [0] (fun (TR:Int)=>TR) (fun TR ρ=>(3,i64 TR)::ρ) 0 [3,0] hS ?_
 rintro TR m1 y1 hS hK1
 refine Zq (ZX ?_)
 refine Zc hS (fun h10 hS => ?_) (fun h10 hS => ?_)
 ·
  refine Zk ?_
  refine Zq (Zb ?_)
  refine VC.cJ [0,3] (fun (aCY:Bool)=>aCY) (fun aCY ρ=>(37,.bool aCY)::ρ) hS ?_ ?_
  ·
   intro k3 hS
   refine Zr (ZX ?_)
   refine BY hS rfl fun aFs aNz hS => ?_
   refine Zu (bY aJa rfl) (Zu (aFN (s:=dY) oV rfl aNz.out rfl) (Zu (xN Tryz.underlying9 rfl) (Zu (wV rfl rfl) (Zm ?_))))
   refine oT 20 hS (fun _ hS=>ZE hS) fun h20 hS => ?_
   refine ZX ?_
   refine aIz hS rfl fun aYQ a05 hS => ?_
   refine Zh (bY aJb rfl) ?_
   refine Zh (aFN (s:=dY) oV rfl a05.out rfl) ?_
   refine Zh (xN Tryz.underlying9 rfl) ?_
   refine Zh (wV rfl rfl) ?_
   refine Zf ?_
   refine Zm ?_
   refine oT 29 hS (fun _ hS=>ZE hS) fun h29 hS => ?_
   refine ZX ?_
   refine aIz hS rfl fun aNO bAI hS=>ZX ?_
   refine VL.mt (decide (300 < (aNO.data.length:Int))) [37,0,3] (fun _ _ h=>h) hS rfl
  rintro aCY hS
  exact ZE hS
 exact ZE hS
instance aSl (aA:aL) (p_1:bI) :
 jG Tryz.prog 44 [.agg (aI aA).toArray,str p_1] (Sh.AB aA.pl p_1) aA.m (X:=aL×Er) (fun x => .tuple #[.agg (bB.enc x.1).toArray,x.2.val]) (fun x=>(x.1.pl,x.2.pl)) (fun x=>(x.1.m.and x.2.ok)):=by
 refine jO Tryz.func44 Tryz.ntmps44 fun r hS c => ?_
 unfold Sh.AB at hS
 refine cI ?_
 refine qC (aI aA) fun iB => ?_
 refine dG fun xF=>ZX ?_
 refine fN hS rfl fun kJ hS=>dG fun a8J=>ZX ?_
 refine Zq (ZX ?_)
 refine jU hS rfl fun KM hS=>ZX ?_
 refine dG fun a8L=>ZO ?_
 refine Zl ?_
 refine VC.bD [1,4,6,8] (ZX ?_)
 refine iG hS (fun h20 hS => ?_) (fun h20 hS => ?_)
 ·
  refine ZX ?_
  refine Zu (cA (vs:=[(0,str [102,105,108,101]),(1,i64 0),(2,(Er.no 5).val)]) (cs := #[str [102,105,108,101],i64 0,(Er.no 5).val]) rfl (by kernel_rfl)) ?_
  refine kF fun aTR => ?_
  refine VL.DV aTR ?_
  refine ZX ?_
  cases hS
  exact VC.ret (Z4 (kJ,(Er.fault aTR [102,105,108,101] 0 (Er.no 5))) rfl)
 refine ZX ?_
 refine fN hS rfl fun aLC hS=>ZO ?_
 refine Zl ?_
 refine VC.bD [4,6] (ZX ?_)
 cases hS
 exact VC.ret (Z4 (⟨aLC,kJ.aS,kJ.aZ,kJ.aH,kJ.aG,kJ.aR,kJ.aM,kJ.aT,kJ.aN,kJ.aP,kJ.aO,kJ.aJ,kJ.aD,kJ.aE,kJ.aK,kJ.aQ,kJ.aW,kJ.aX,kJ.bF,kJ.aY,kJ.time⟩,.nil) rfl)
instance NV (aA:aL) (a_1:iV) :
 jG Tryz.prog 20 [.agg (aI aA).toArray,.agg #[str a_1.line,str a_1.path,str a_1.data,.bool a_1.gone]] (Sh.yX aA.pl a_1) (aA.m.and Gl) (X:=aL×Er) (fun x => .tuple #[.agg (bB.enc x.1).toArray,x.2.val]) (fun x=>(x.1.pl,x.2.pl)) (fun x=>(x.1.m.and x.2.ok)):=by
 refine jO Tryz.func20 Tryz.ntmps20 fun r hS c => ?_
 unfold Sh.yX at hS
 refine cI ?_
 refine qC (aI aA) fun iB => ?_
 refine kF fun oU => ?_
 exact dG fun BS=>ZE hS
instance aOd (dY:Sv iV) :
 jG Tryz.prog 7 [dY.val] (Sh.wG dY.l) (dY.ok.and Gl) (X:=aL) (fun x => .agg (bB.enc x).toArray) (fun x=>x.pl) (fun x=>x.m):=by
 refine jO Tryz.func7 Tryz.ntmps7 fun r hS c => ?_
 unfold Sh.wG at hS
 refine cI (dG fun iB=>ZX ?_)
 refine jU hS rfl fun o8 hS=>dG fun a4W=>ZX ?_
 refine Zq (ZX ?_)
 refine Zb ?_
 refine VC.YA a4W (cs':=[(⟨none,0,[]⟩:Sv aC).val,(⟨none,0,[]⟩:Sv IndexEntry).val,(⟨none,0,[]⟩:Sv dP).val,str [109,97,105,110],i64 0,str [],i64 0,str [],(⟨none,0,[]⟩:Sv bJ).val,(⟨none,0,[]⟩:Sv bJ).val,i64 0,str [],str [],i64 0,(⟨none,0,[]⟩:Sv IndexEntry).val,(⟨none,0,[]⟩:Sv aC).val,(⟨none,0,[]⟩:Sv bN).val,(⟨none,0,[]⟩:Sv cD).val,(⟨none,0,[]⟩:Sv bI).val,(⟨none,0,[]⟩:Sv bI).val,i64 0]) rfl ?_
 refine VC.iJb [0,2,3] (fun (sg:Int×aL)=>(sg.1,sg.2.pl)) (fun sg ρ=>(4,i64 sg.1)::ρ) (fun sg=>sg.2.m) a4W (fun sg=>(aI sg.2)) (0,(⟨(⟨none,0,[]⟩:Sv aC),(⟨none,0,[]⟩:Sv IndexEntry),(⟨none,0,[]⟩:Sv dP),[109,97,105,110],0,[],0,[],(⟨none,0,[]⟩:Sv bJ),(⟨none,0,[]⟩:Sv bJ),0,[],[],0,(⟨none,0,[]⟩:Sv IndexEntry),(⟨none,0,[]⟩:Sv aC),(⟨none,0,[]⟩:Sv bN),(⟨none,0,[]⟩:Sv cD),(⟨none,0,[]⟩:Sv bI),(⟨none,0,[]⟩:Sv bI),0⟩:aL)) [4,0,2,3] hS ?_
 rintro ⟨DQ,fK⟩ m1 y1 hS hK1
 refine Zq (ZX ?_)
 refine Zc hS (fun h11 hS => ?_) (fun h11 hS => ?_)
 ·
  refine Zk ?_
  refine Zq (Zb (Zq ?_))
  refine VC.GA (n:=7) (listed:=bl 12 31) [(0,true),(1,true),(2,true),(3,true),(4,true)] mixed (by kernel_rfl) (by kernel_rfl) (by kernel_rfl) (by kernel_rfl) ?_
  refine VD.q rfl (rQ qN rfl rfl) (by decide) ?_
  refine VD.q rfl (fR rfl) (by decide) ?_
  refine VD.q rfl (fR rfl) (by decide) ?_
  obtain ⟨VF,aDX,aDR,hS⟩:=gQ hS
  refine VD.q rfl (jY (s:=dY) Tryz.underlying22 aMJ rfl rfl aDX (bQ aDX aDR)) (by decide) ?_
  refine VD.q rfl (sR (s:=dY) aH2 rfl rfl aDR) (by decide) ?_
  obtain ⟨aCb,aNg,hS⟩:=dU hS
  refine VD.SY fun hcl => ?_
  refine VG.fork (l:=[5,9]) (n:=6) (by kernel_rfl) rfl fun i hi => ?_
  obtain rfl | rfl:i=5∨i=9:=by simpa using hi
  ·
   refine pX.of rfl ?_
   refine VL.jF ((NV fK VF).out aNg) rfl (by decide) ?_
   rintro ⟨CP,aKw⟩ rfl
   try dsimp only
   refine zB (bl 12 63) Pz ?_
   refine VG.ord [(6,true),(7,true),(8,true),(9,false),(10,false),(11,true)] (by kernel_rfl) (eF (by kernel_rfl)) (by kernel_rfl) ?_
   refine ZX ?_
   refine VD.one rfl (dG fun aTX=>eL (Pk 8 (Pk 7 (Pk 6 Pz))) ?_)
   refine VD.one rfl ?_
   refine Zv  (vc:=(aI CP)) (cs':=(aI CP)) rfl qR ?_
   refine eL (Pk 8 Pz) ?_
   refine ZD ?_
   refine xE ?_
   refine VC.bD [0,2,3,4,5] ?_
   obtain ⟨b13,hS⟩:=bX hS
   refine Zr (ZX ?_)
   refine Zr (ZX ?_)
   refine VL.PX ((DQ+1),(CP:aL)) [4,0,2,3] (fun _ _ h=>h) (go2 hS hK1) rfl
  refine pX.of rfl ?_
  refine dG fun aTX => ?_
  refine VL.ER (D':=[(4,.agg #[str VF.line,str VF.path,str VF.data,.bool VF.gone]),(3,ptr dY.b (dY.o+(DQ).toNat*bB.sz iV+0)),(0,.agg (aI fK).toArray)]) (listed' := #[true,true,true,true,true,false,false,false,false,true,false,false]) (bR.cons rfl (sR (s:=dY) aH2 rfl rfl aDR) (bR.cons rfl (jY (s:=dY) Tryz.underlying22 aMJ rfl rfl aDX (bQ aDX aDR)) (bR.cons rfl (rQ qN rfl rfl) (bR.nil)))) (by kernel_rfl) (by kernel_rfl) ?_
  refine VG.ord [(5,false),(6,true),(7,true),(8,true),(10,false),(11,true)] (by kernel_rfl) (eF (by kernel_rfl)) (by kernel_rfl) ?_
  refine VD.one rfl ?_
  refine VL.jF ((NV fK VF).out aNg) rfl (by decide) ?_
  rintro ⟨CP,aKw⟩ rfl
  try dsimp only
  refine eY ?_
  refine ZX ?_
  refine VD.one rfl ?_
  refine Zv  (vc:=(aI CP)) (cs':=(aI CP)) rfl qR ?_
  refine eL (Pk 8 Pz) ?_
  refine ZD ?_
  refine xE ?_
  refine VC.bD [0,2,3,4,5] ?_
  obtain ⟨b13,hS⟩:=bX hS
  refine Zr (ZX ?_)
  refine Zr (ZX ?_)
  refine VL.PX ((DQ+1),(CP:aL)) [4,0,2,3] (fun _ _ h=>h) (go2 hS hK1) rfl
 exact ZE hS
instance aLL (cX:l8) :
 gS Tryz.prog 27 [.agg #[str cX.verb,str cX.name,i64 cX.n,str cX.text,.bool cX.force,cX.todo.val]] (Sh.qV cX.pl) cX.todo.ok (fun r => .bool r):=by
 refine gU Tryz.func27 Tryz.ntmps27 fun r hS c => ?_
 unfold Sh.qV at hS
 refine cI (kF fun iS=>ZX ?_)
 refine Zq (ZX ?_)
 refine Zb ?_
 refine VC.cJ [] (fun (_:Unit)=>()) (fun _ ρ=>ρ) hS ?_ ?_
 ·
  intro k2 hS
  refine Zb (Zb (Zb (Zb ?_)))
  refine VC.cJ [1] (fun (_:Unit)=>()) (fun _ ρ=>ρ) hS ?_ ?_
  ·
   intro k3 hS
   refine Zb ?_
   refine VC.cJ [1] (fun (_:Unit)=>()) (fun _ ρ=>ρ) hS ?_ ?_
   ·
    intro k4 hS
    refine Zb (Zq ?_)
    exact VC.cJ [1,4] (fun (_:Unit)=>()) (fun _ ρ=>ρ) hS (fun _ hS=>ZE hS) fun _ hS=>ZE hS
   rintro _ hS
   exact ZE hS
  rintro _ hS
  exact ZE hS
 rintro _ hS
 exact ZE hS
instance aB5 (uP:aC) (r_1:Sv aC) :
 gS Tryz.prog 31 [.agg #[str uP.path,i64 uP.mode,str uP.data],r_1.val] (Sh.vK uP r_1.l) r_1.ok (fun r => .bool r):=by
 refine gU Tryz.func31 Tryz.ntmps31 fun r hS c => ?_
 unfold Sh.vK at hS
 refine cI (kF fun iB=>ZX ?_)
 refine jU hS rfl fun rS hS=>ZX ?_
 refine dG fun Y5=>ZO ?_
 refine Zl ?_
 refine VC.bD [2,5,6] (cI (Zm ?_))
 refine Zu (GU rfl) (Zm ?_)
 refine B3 16 hS (fun _ hS=>ZE hS) fun h16 hS => ?_
 refine ZX ?_
 refine Zh (aFT aH4 (aH5 rS.1.path rS.1.mode rS.1.data uP.path uP.mode uP.data) rfl rfl) ?_
 exact ZE hS
instance TW (uP:aC) (b_1:aL) :
 gS Tryz.prog 32 [.agg #[str uP.path,i64 uP.mode,str uP.data],.agg (aI b_1).toArray] (Sh.zD uP b_1.pl) (b_1.m.and Gl) (fun r => .bool r):=by
 refine gU Tryz.func32 Tryz.ntmps32 fun r hS c => ?_
 unfold Sh.zD at hS
 refine cI (kF fun iB => ?_)
 refine qC (aI b_1) fun oU => ?_
 refine ZX ?_
 refine jU hS rfl fun tC hS=>ZX ?_
 refine dG fun aTW=>ZO ?_
 refine Zl ?_
 refine VC.bD [2,3,5,6] (Zq ?_)
 refine VC.cJ [2,3] (fun (aCP:Bool)=>aCP) (fun aCP ρ=>(27,.bool aCP)::ρ) hS ?_ ?_
 ·
  intro k6 hS
  refine Zr (Zm (Zm ?_))
  refine B3 21 hS (fun h21 hS => ?_) (fun h21 hS => ?_)
  ·
   obtain ⟨b26,hS⟩:=bX hS
   refine ZX ?_
   refine Zh (eT (Y9 tC.1.data uP.data b26) rfl (fun _ _=>rfl)) ?_
   exact ZE hS
  exact ZE hS
 rintro aCP hS
 refine iG hS (fun _ hS=>ZE hS) fun h27 hS=>Zk ?_
 refine Zq (ZX ?_)
 refine Zu (wW bN.pl (s:=b_1.aW) Tryz.underlying41 rfl) ?_
 refine ZX ?_
 refine Zb ?_
 refine VC.iJ [2,30,31] (fun (RQ:Int)=>RQ) (fun RQ ρ=>(32,i64 RQ)::ρ) 0 [32,2,30,31] hS ?_
 rintro RQ m1 y1 hS hK1
 refine ZX ?_
 refine Zq (Zc hS (fun h33 hS => ?_) (fun h33 hS => ?_))
 ·
  refine Zk ?_
  refine Zq (Zb (cI ?_))
  obtain ⟨aNP,aOW,aHg,hS⟩:=DT hS
  refine VL.deep aNP.m aHg (fun _ q=>q) ?_
  refine Zu (jY (s:=b_1.aW) Tryz.underlying41 nQ rfl rfl aOW (bQ aOW aHg)) (Zu (sR  (s:=b_1.aW) TL rfl rfl aHg) ?_)
  refine dG fun bB3=>ZX ?_
  refine jU hS rfl fun aBA hS=>ZX ?_
  refine dG fun bAr=>ZO ?_
  refine Zl ?_
  refine VC.bD [2,30,31,32,9,10] ?_
  exact VC.cJ [2,30,31,32] (fun (aAq:Bool)=>aAq) (fun aAq ρ=>(51,.bool aAq)::ρ) hS (fun _ hS=>ZE hS) fun _ hS=>ZE hS
 exact ZE hS
end Go.Proofs.YtaohfeokfcdojaaGreatDoor
end
