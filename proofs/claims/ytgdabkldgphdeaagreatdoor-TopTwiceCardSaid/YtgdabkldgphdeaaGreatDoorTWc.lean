/- Part of the proofs of: the law TopTwice: the same play leads to the same, each time (any acts) -/
import Derived.Test.YtgdabkldgphdeaaGreatDoorTWb
set_option linter.unusedVariables false
set_option linter.unusedSimpArgs false
set_option linter.unusedSectionVars false
section
set_option linter.unusedVariables false
namespace Go.Proofs.YtgdabkldgphdeaaGreatDoor
set_option maxHeartbeats 4000000
set_option maxRecDepth 100000
set_option synthInstance.maxSize 2000
set_option synthInstance.maxHeartbeats 1000000
open Go.RowKit Go.V
open Go.S
attribute [local irreducible] Go.V.Qt Go.V.VL Go.V.VC Go.V.I0 Go.S.gd Go.S.at_ Go.S.lt Go.S.jn Go.S.go Go.S.up Go.S.iter Sh.C6 Sh.GG Sh.xC Sh.MW Sh.MX Sh.G4 Sh.BA Sh.I9 Sh.JA Sh.JB Sh.wW Sh.G5 Sh.cmp_isNaN_int Sh.wD Sh.oG Sh.tP Sh.fP Sh.wQ Sh.y8 Sh.xG Sh.BG Sh.pG Sh.wR Sh.mO Sh.zX Sh.EM Sh.AO Sh.AQ Sh.pH Sh.uG Sh.JQ Sh.jU Sh.AR Sh.CM Sh.DX Sh.JT Sh.bQ Sh.cK Sh.cX Sh.cE Sh.eP Sh.fU Sh.gH Sh.gK Sh.fO Sh.cL Sh.gV Sh.gY Sh.fV Sh.fW Sh.nC Sh.JW Sh.oN Sh.vH Sh.wN Sh.l8 Sh.D7
instance:LQ Tryz.prog 161 (.slice 91):=⟨Tryz.underlying161⟩
instance aI4 (dF:n4) :
 gF Tryz.prog 86 [.agg #[str dF.verb,str dF.name,i64 dF.n,str dF.text,.bool dF.force,dF.todo.val]] (Sh.MX dF.pl) dF.todo.ok (fun r=>i64 r):=by
 refine gM Tryz.func86 Tryz.ntmps86 fun r hS c => ?_
 unfold Sh.MX at hS
 refine cI (kU fun hG=>Za ?_)
 refine Zl ?_
 refine cI (Za ?_)
 refine Zl ?_
 refine VC.cJ [] (fun (aCl:Bool)=>aCl) (fun aCl ρ=>(3,.bool aCl)::ρ) hS ?_ ?_
 ·
  intro k3 hS
  refine ZX ?_
  refine Zb ?_
  refine VC.cJ [1] (fun (_:Unit)=>()) (fun _ ρ=>ρ) hS ?_ ?_
  ·
   intro k4 hS
   refine Zb ?_
   refine VC.cJ [1] (fun (_:Unit)=>()) (fun _ ρ=>ρ) hS ?_ ?_
   ·
    intro k5 hS
    refine Zb ?_
    refine VC.cJ [1] (fun (_:Unit)=>()) (fun _ ρ=>ρ) hS ?_ ?_
    ·
     intro k6 hS
     refine Zb ?_
     refine VC.cJ [1] (fun (_:Unit)=>()) (fun _ ρ=>ρ) hS ?_ ?_
     ·
      intro k7 hS
      refine Zb (Zq (Zb (Zq (Zq (ZX ?_)))))
      refine Zc hS (fun _ hS=>ZE hS) fun h6 hS=>Zk ?_
      refine Zq (ZX ?_)
      refine Zc hS (fun _ hS=>ZE hS) fun h8 hS=>Zk ?_
      exact VC.cJ [1,3,5] (fun (_:Unit)=>()) (fun _ ρ=>ρ) hS (fun _ hS=>ZE hS) fun _ hS=>ZE hS
     rintro _ hS
     exact ZE hS
    rintro _ hS
    exact ZE hS
   rintro _ hS
   refine cI (Zu (bU aFf rfl) ?_)
   refine Zu (lB mF rfl rfl) (Zs (Zm ?_))
   refine nT 30 hS (fun _ hS=>ZE hS) fun h30 hS => ?_
   refine ZX ?_
   obtain ⟨aQ0,aVF,hS⟩:=cS hS
   refine Zh (dU ((aGF dF.name).out aVF) rfl (fun _ _=>rfl)) ?_
   exact ZE hS
  rintro _ hS
  exact ZE hS
 rintro aCl hS
 exact ZE hS
instance aFP (dF:n4) :
 gF Tryz.prog 87 [.agg #[str dF.verb,str dF.name,i64 dF.n,str dF.text,.bool dF.force,dF.todo.val]] (Sh.G4 dF.pl) dF.todo.ok (fun r=>i64 r):=by
 refine gM Tryz.func87 Tryz.ntmps87 fun r hS c => ?_
 unfold Sh.G4 at hS
 refine cI (kU fun hG=>Za ?_)
 refine Zl ?_
 refine cI (ZO ?_)
 refine Zl ?_
 refine VC.cJ [1] (fun (MZ:Int)=>MZ) (fun MZ ρ=>(3,i64 MZ)::ρ) hS ?_ ?_
 ·
  intro k3 hS
  refine ZX ?_
  refine Zb (Zq (Zb (Zq (Zb (Zq (Zb (Zq ?_)))))))
  exact VC.cJ [1,3,7] (fun (_:Unit)=>()) (fun _ ρ=>ρ) hS (fun _ hS=>ZE hS) fun _ hS=>ZE hS
 rintro MZ hS
 exact ZE hS
instance aMq (aA:bH) (jS:bH) :
 gF Tryz.prog 223 [str aA,str jS] (Sh.vH aA jS) Mo.tt (fun r => .bool r):=by
 refine gM Tryz.func223 Tryz.ntmps223 fun r hS c => ?_
 unfold Sh.vH at hS
 exact ZE hS
instance a07 (aA:bH) (aE6:Bool) :
 gF Tryz.prog 150 [str aA,.bool aE6] (Sh.JB aA aE6) Mo.tt (fun r=>i64 r):=by
 refine gM Tryz.func150 Tryz.ntmps150 fun r hS c => ?_
 unfold Sh.JB at hS
 refine ZX ?_
 refine Zq (Zb (ZX ?_))
 refine Zc hS (fun _ hS=>ZE hS) fun h5 hS => ?_
 exact VC.cJ [0] (fun (RV:Bool)=>RV) (fun RV ρ=>(9,.bool RV)::ρ) hS (fun _ hS=>ZE hS) fun _ hS=>ZE hS
instance a0B (dR:Sv bK) :
 gF Tryz.prog 151 [dR.val] (Sh.JA dR.l) dR.ok (fun r=>i64 r):=by
 refine gM Tryz.func151 Tryz.ntmps151 fun r hS c => ?_
 unfold Sh.JA at hS
 refine ZX ?_
 refine Zq (ZX ?_)
 refine Zc hS (fun _ hS=>ZE hS) fun h8 hS=>Zk ?_
 refine Zq (ZX ?_)
 refine Zb ?_
 refine VC.iJ [9,10] (fun (OD:Int)=>OD) (fun OD ρ=>(11,i64 OD)::ρ) 0 [11,9,10] hS ?_
 rintro OD m1 y1 hS hK1
 refine ZX ?_
 refine Zq (Zc hS (fun h12 hS => ?_) (fun h12 hS => ?_))
 ·
  refine Zk ?_
  refine Zq (Zb (cI (yH hS rfl fun BZ aP5 hS=>ZX ?_)))
  refine dJ fun CW=>ZX ?_
  refine Zq (ZX ?_)
  refine Zb ?_
  refine VC.cJ [4,9,10,11] (fun (sC:Bool)=>sC) (fun sC ρ=>(17,.bool sC)::ρ) hS (fun _ hS=>ZE hS) ?_
  rintro sC hS
  refine iZ hS (fun h17 hS => ?_) (fun h17 hS => ?_)
  ·
   refine Zk ?_
   refine Zq ?_
   exact VC.cJ [4,9,10,11] (fun (L7:Bool)=>L7) (fun L7 ρ=>(31,.bool L7)::ρ) hS (fun _ hS=>ZE hS) fun _ hS=>ZE hS
  exact ZE hS
 exact ZE hS
instance aI3 (dF:n4) :
 gF Tryz.prog 88 [.agg #[str dF.verb,str dF.name,i64 dF.n,str dF.text,.bool dF.force,dF.todo.val]] (Sh.MW dF.pl) dF.todo.ok (fun r=>i64 r):=by
 refine gM Tryz.func88 Tryz.ntmps88 fun r hS c => ?_
 unfold Sh.MW at hS
 refine cI (kU fun hG=>ZX ?_)
 refine Zq (ZX ?_)
 refine Zb ?_
 exact VC.cJ [1,4] (fun (aMv:Bool)=>aMv) (fun aMv ρ=>(5,.bool aMv)::ρ) hS (fun _ hS=>ZE hS) fun _ hS=>ZE hS
instance aHU (dF:n4) :
 jZ Tryz.prog 50 [.agg #[str dF.verb,str dF.name,i64 dF.n,str dF.text,.bool dF.force,dF.todo.val]] (Sh.C6 dF.pl) dF.todo.ok (X:=Er) (fun x=>x.val) (fun x=>x.pl) (fun x=>x.ok):=by
 refine j6 Tryz.func50 Tryz.ntmps50 fun r hS c => ?_
 unfold Sh.C6 at hS
 refine cI (kU fun hG=>ZX ?_)
 refine Zq (ZX ?_)
 refine jK hS rfl fun rJ hS=>ZX ?_
 refine Zc hS (fun h8 hS => ?_) (fun h8 hS => ?_)
 ·
  refine ZX ?_
  exact I1 hS (KD dF (Er.no 5)).out fun DJ hS=>ZE hS
 refine Zk ?_
 refine Zq (Zq ?_)
 refine iB [(0,true),(1,true),(2,true),(3,true),(4,true),(5,true),(8,true),(6,false),(7,true)] ?_
 refine ZX ?_
 obtain ⟨BY,a0e,hS⟩:=cS hS
 refine Zw rfl (dU ((aI4 dF).out a0e) rfl (fun _ _=>rfl)) ?_
 refine ZX ?_
 obtain ⟨aDj,a0k,hS⟩:=cS hS
 refine Zw rfl (dU ((aFP dF).out a0k) rfl (fun _ _=>rfl)) ?_
 refine ZX ?_
 obtain ⟨TQ,aIc,hS⟩:=cS hS
 refine Zw rfl (dU ((aI3 dF).out aIc) rfl (fun _ _=>rfl)) ?_
 refine ZX ?_
 refine VD.one rfl (mS hS fun bCs hS=>eV ?_)
 refine ZX ?_
 refine VC.aV [1,20,18,19] (Zb ?_)
 refine VC.iJ [1,18,19] (fun (TI:Int)=>TI) (fun TI ρ=>(20,i64 TI)::ρ) 0 [20,1,18,19] hS ?_
 rintro TI m1 y1 hS hK1
 refine ZX ?_
 refine Zq (Zc hS (fun h21 hS => ?_) (fun h21 hS => ?_))
 ·
  refine Zk ?_
  refine Zq (Zb (cI (yH hS rfl fun aEs bA0 hS=>ZX ?_)))
  refine oD hS (fun h25 hS => ?_) (fun h25 hS => ?_)
  ·
   refine ZX ?_
   exact I1 hS (KD dF (Er.no aEs)).out fun a9N hS=>ZE hS
  exact ZE hS
 replace hS:=kS hS hK1
 refine Zx ?_
 refine ZX ?_
 cases hS
 exact VC.ret (Z1 .nil)
instance aZv (aA:bH) :
 jZ Tryz.prog 26 [str aA] (Sh.GG aA) Mo.tt (X:=n4×Er) (fun x => .tuple #[.agg (bD.enc x.1).toArray,x.2.val]) (fun x=>(x.1.pl,x.2.pl)) (fun x=>(x.1.m.and x.2.ok)):=by
 refine j6 Tryz.func26 Tryz.ntmps26 fun r hS c => ?_
 unfold Sh.GG at hS
 refine cI (dJ fun iV=>ZX ?_)
 refine jK hS rfl fun TN hS=>ZO ?_
 refine Zl ?_
 refine VC.aV [2,4,5,6] (ZX ?_)
 refine fR hS rfl fun ⟨tL,bAn⟩ hS => ?_
 try dsimp only
 refine ZX ?_
 refine dJ fun aKb=>ZO ?_
 refine Zl ?_
 refine VC.OM [2,7] (fun (T1:Sv bK)=>T1.l) (fun T1 ρ=>ρ) (fun (T1:Sv bK)=>T1.ok) aKb (fun (T1:Sv bK)=>[str tL.verb,str tL.name,i64 tL.n,str tL.text,.bool tL.force,T1.val]) hS ?_ ?_
 ·
  intro k6 hS
  refine Zb (ZX ?_)
  refine jK hS rfl fun aGz hS=>ZX ?_
  refine VC.aV [2,5,6,7,8,23] (Zc hS (fun h23 hS => ?_) (fun h23 hS => ?_))
  ·
   refine cI ?_
   refine Zu (cG (vs:=[]) (cs := #[str [],str [],i64 0,str [],.bool false,.slice none 0 0]) rfl (by kernel_rfl)) ?_
   refine ZX ?_
   refine I1 hS (KD tL (Er.no 5)).out fun V1 hS=>ZX ?_
   cases hS
   exact VC.ret (Z4 (⟨[],[],0,[],false,⟨none,0,[]⟩⟩,V1) rfl)
  refine VC.cJ [2,5,7] (fun (aD5:Bool)=>aD5) (fun aD5 ρ=>(32,.bool aD5)::ρ) hS (fun _ hS=>ZE hS) ?_
  rintro aD5 hS
  refine iZ hS (fun h32 hS => ?_) (fun h32 hS => ?_)
  ·
   refine cI ?_
   refine Zu (cG (vs:=[]) (cs := #[str [],str [],i64 0,str [],.bool false,.slice none 0 0]) rfl (by kernel_rfl)) ?_
   refine ZX ?_
   refine I1 hS (KD tL (Er.no 2)).out fun aHy hS=>ZX ?_
   cases hS
   exact VC.ret (Z4 (⟨[],[],0,[],false,⟨none,0,[]⟩⟩,aHy) rfl)
  refine ZX ?_
  refine Zc hS (fun h47 hS => ?_) (fun h47 hS => ?_)
  ·
   refine ZX ?_
   refine fR hS rfl fun ⟨a94,a95⟩ hS => ?_
   try dsimp only
   refine ZO ?_
   refine Zl ?_
   refine VC.aV [2,7,9,10] (Zq (ZX ?_))
   refine oD hS (fun h57 hS => ?_) (fun h57 hS => ?_)
   ·
    refine cI ?_
    refine Zu (cG (vs:=[]) (cs := #[str [],str [],i64 0,str [],.bool false,.slice none 0 0]) rfl (by kernel_rfl)) ?_
    refine ZX ?_
    refine fR hS rfl fun aCz hS=>ZX ?_
    cases hS
    exact VC.ret (Z4 (⟨[],[],0,[],false,⟨none,0,[]⟩⟩,aCz) rfl)
   exact ZE hS
  exact ZE hS
 rintro T1 hS
 refine Zq (ZX ?_)
 refine I1 hS (aHU (⟨tL.verb,tL.name,tL.n,tL.text,tL.force,T1⟩:n4)).out fun aTX hS=>ZX ?_
 refine oD hS (fun h67 hS => ?_) (fun h67 hS => ?_)
 ·
  refine cI ?_
  refine Zu (cG (vs:=[]) (cs := #[str [],str [],i64 0,str [],.bool false,.slice none 0 0]) rfl (by kernel_rfl)) ?_
  refine ZX ?_
  cases hS
  exact VC.ret (Z4 (⟨[],[],0,[],false,⟨none,0,[]⟩⟩,aTX) rfl)
 refine ZX ?_
 cases hS
 exact VC.ret (Z4 (⟨tL.verb,tL.name,tL.n,tL.text,tL.force,T1⟩,.nil) rfl)
instance:UnD Tryz.prog 335 (.slice 26):=⟨Tryz.underlying335⟩
instance aUK (dR:Sv (Sv aC)) :
 vL Tryz.prog 224 [dR.val] (Sh.wD (dR.l.map Sv.l)) dR.ok (Ow.emp) (X:=Sv bH) (fun x=>x.val) (fun x=>x.l) (fun x=>Mo.tt) (fun x=>Sv.own x 9):=by
 refine v8 Tryz.func224 Tryz.ntmps224 fun r hS c => ?_
 unfold Sh.wD at hS
 refine ZX ?_
 refine VL.a7h (k:=9) (e:=4) (by decide) fun aDu => ?_
 refine ZX ?_
 refine Zq (ZX ?_)
 refine Zu (vV Sv.l (s:=dR) Tryz.underlying335 rfl) ?_
 refine ZX ?_
 refine Zb ?_
 refine VC.iter (S:=Int×List bH) (fun sg=>(sg.1,sg.2)) (fun sg=>[(3,.map (some aDu)),(9,dR.val),(10,i64 ((dR.l.map Sv.l).length:Int)),(11,i64 sg.1)]) (fun sg=>Mo.tt) (fun sg=>Ow.star (MpK Tryz.prog 9 4 aDu sg.2) (Ow.emp)) (0,([]:List bH)) [3,9,10,11] hS rfl ?_
 rintro ⟨EA,E7⟩ m1 y1 hS hK1
 refine ZX ?_
 refine Zq (Zc hS (fun h12 hS => ?_) (fun h12 hS => ?_))
 ·
  refine Zk ?_
  refine Zq (Zb (cI ?_))
  obtain ⟨aDq,aPg,aIv,hS⟩:=zW hS
  refine VL.deep aDq.ok aIv (fun _ q=>q) ?_
  refine Zu (jA (s:=dR) Tryz.underlying335 aFk rfl rfl aPg (bR aPg aIv)) (Zu (I4  (s:=dR) BE rfl aIv rfl) ?_)
  refine ZX ?_
  refine Zb ?_
  refine VC.iter (S:=Int×List bH) (fun sg=>(sg.1,sg.2)) (fun sg=>[(3,.map (some aDu)),(9,dR.val),(10,i64 ((dR.l.map Sv.l).length:Int)),(11,i64 EA),(15,aDq.val),(16,i64 (aDq.l.length:Int)),(17,i64 sg.1)]) (fun sg=>Mo.tt) (fun sg=>Ow.star (MpK Tryz.prog 9 4 aDu sg.2) (Ow.emp)) (0,E7) [3,9,10,11,15,16,17] hS rfl ?_
  rintro ⟨FE,aC3⟩ m2 y2 hS hK2
  refine ZX ?_
  refine Zq (Zc hS (fun h18 hS => ?_) (fun h18 hS => ?_))
  ·
   refine Zk ?_
   refine Zq (Zb (cI (yH hS rfl fun aKN bBl hS=>ZX ?_)))
   refine dJ fun bAH => ?_
   obtain ⟨bs3,hS⟩:=bM hS
   refine ZX ?_
   refine Zr (ZX ?_)
   refine VL.a2g (b:=aDu) (l:=aC3) (s:=aKN.path) Tryz.underlying9 Tryz.underlying4 Tryz.underlying336 Fo.out rfl rfl rfl bs3 ?_
   obtain ⟨aEz,aRl,hS⟩:=mB hS
   rw [aRl]
   refine Zl ?_
   refine VC.aV [3,9,10,11,15,16,17] ?_
   obtain ⟨b24,hS⟩:=bM hS
   refine Zr (ZX ?_)
   refine VL.kL ((FE+1),aEz) [3,9,10,11,15,16,17] (fun _ _ h=>h) (go2 hS hK2) rfl
  replace hS:=kS hS hK2
  refine Zx ?_
  obtain ⟨b25,hS⟩:=bM hS
  refine Zr (ZX ?_)
  refine VL.kL ((EA+1),aC3) [3,9,10,11] (fun _ _ h=>h) (go2 hS hK1) rfl
 replace hS:=kS hS hK1
 refine Zx ?_
 refine ZX ?_
 refine VL.oE (Ct.mapKeys (b:=aDu) (x9 Tryz.func286 rfl (by kernel_rfl)) Tryz.aH5) rfl (by decide) ?_
 intro B27_10 _
 try dsimp only
 obtain ⟨b28,hS⟩:=bM hS
 refine VL.oE (Ct.aMp (it:=323) (T:=336) (b:=aDu) (B:=B27_10) (e:=4) (l:=E7) (x9 Tryz.func285 rfl (by kernel_rfl)) Tryz.underlying9 (fun D0 nn W h1 h2 h3 h4 h5=>Tryz.sortedKeys_285_286 B27_10 aDu nn D0 _ W h1 h2 h3 h4 h5) b28) rfl (by decide) ?_
 intro bCD aWd
 try dsimp only
 replace hS:=dZ aWd hS
 exact ZE hS
instance aOO (iL:Sv aC) (zY:Sv aH) :
 vL Tryz.prog 152 [iL.val,zY.val] (Sh.oN iL.l zY.l) (iL.ok.and zY.ok) (Ow.emp) (X:=Sv bH) (fun x=>x.val) (fun x=>x.l) (fun x=>Mo.tt) (fun x=>Sv.own x 9):=by
 refine v8 Tryz.func152 Tryz.ntmps152 fun r hS c => ?_
 unfold Sh.oN at hS
 refine ZX ?_
 refine Zq (ZX ?_)
 refine Zb ?_
 refine VC.mR (⟨none,0,[]⟩:Sv aC) 78 ⟨rfl,rfl⟩ ?_
 refine VC.iter (S:=Sv aC×Int) (fun sg=>(sg.1.l,sg.2)) (fun sg=>[(0,iL.val),(5,sg.1.val),(8,zY.val),(9,i64 (zY.l.length:Int)),(10,i64 sg.2)]) (fun sg=>Mo.tt) (fun sg=>Ow.star (Sv.own sg.1 78) (Ow.emp)) (⟨none,0,[]⟩,0) [0,5,8,9,10] hS rfl ?_
 rintro ⟨aDz,FD⟩ m1 y1 hS hK1
 refine ZX ?_
 refine Zq (Zc hS (fun h11 hS => ?_) (fun h11 hS => ?_))
 ·
  refine Zk ?_
  refine Zq (Zb (cI ?_))
  obtain ⟨FJ,aBR,aBI,hS⟩:=gP hS
  refine Zu (jA (s:=zY) Tryz.underlying27 oH rfl rfl aBR (bR aBR aBI)) (Zu (nF  (s:=zY) F1 rfl rfl aBI) ?_)
  refine dJ fun aKb=>ZX ?_
  refine Zr (ZX ?_)
  refine Zu (cG (vs:=[(0,str FJ.path)]) (cs := #[str FJ.path,i64 0,str []]) rfl (by kernel_rfl)) ?_
  refine mS hS fun a8I hS=>HM hS fun P0 hS => ?_
  refine Za ?_
  refine Zl ?_
  refine VC.aV [0,5,8,9,10] ?_
  obtain ⟨b20,hS⟩:=bM hS
  refine Zr (ZX ?_)
  refine VL.kL (P0,(FD+1)) [0,5,8,9,10] (fun _ _ h=>h) (go2 hS hK1) rfl
 replace hS:=kS hS hK1
 refine Zx ?_
 refine ZX ?_
 refine VL.shut aDz 78 (fun _ _ _ _=>trivial) ?_
 refine VL.lit (α:=Sv aC) (xs:=[.tmp 21,.tmp 22]) (vs:=[iL.val,aDz.val]) [iL,aDz] Tryz.underlying335 XI (by decide) rfl rfl rfl rfl (by decide) (fun h m=>List.forall_mem_cons.2 ⟨dV.out (X:=iL.ok) h m,List.forall_mem_cons.2 ⟨dV.out (X:=aDz.ok) h m,fun _ h=>by cases h⟩⟩) (by decide) (fun bCx a1z => ?_) (by decide)
 replace hS:=dZ (congrArg (List.map Sv.l) a1z) hS
 exact ZE hS
instance aDE (q9:aH) (iC:Nat) (a_1:bH) :
 gF Tryz.prog 226 [.agg #[str q9.path,i64 q9.iK,i64 q9.mode,str q9.data,i64 q9.time,i64 q9.size],ptr iC 0] (Sh.CM q9 a_1) (Cells iC 0 [str a_1]) (fun r => .bool r):=by
 refine gM Tryz.func226 Tryz.ntmps226 fun r hS c => ?_
 unfold Sh.CM at hS
 refine cI (kU fun iV=>ZX ?_)
 refine Zu (z8 mF rfl rfl) ?_
 exact ZE hS
instance AG (aA:Sv aH) (dY:Nat) (dP:bH) :
 gF Tryz.prog 287 [aA.val,.func (.func 226) #[] #[ptr dY 0]] (Sh.gY aA.l dP) (aA.ok.and (Cells dY 0 [str dP])) (fun r=>i64 r):=by
 refine gM Tryz.func287 Tryz.ntmps287 fun r hS c => ?_
 unfold Sh.gY at hS
 refine ZX ?_
 refine Zq (ZX ?_)
 refine Zb ?_
 refine VC.iJ [0,1,7] (fun (dL:Int)=>dL) (fun dL ρ=>(8,i64 dL)::ρ) 0 [8,0,1,7] hS ?_
 rintro dL m1 y1 hS hK1
 refine ZX ?_
 refine Zq (Zc hS (fun h9 hS => ?_) (fun h9 hS => ?_))
 ·
  refine Zk ?_
  refine Zq (Zb (ZX ?_))
  obtain ⟨fD,rU,pF,hS⟩:=gP hS
  refine Zu (jA (s:=aA) Tryz.underlying27 oH rfl rfl rU (bR rU pF)) (Zu (nF  (s:=aA) F1 rfl rfl pF) ?_)
  obtain ⟨mW,uE,hS⟩:=cS hS
  refine Zu (tU (vs:=[.agg #[str fD.path,i64 fD.iK,i64 fD.mode,str fD.data,i64 fD.time,i64 fD.size]]) (caps:=[ptr dY 0]) ((aDE fD dY dP).out uE) rfl rfl (fun _ _=>rfl)) ?_
  exact ZE hS
 exact ZE hS
instance yV (aA:Sv aH) (dY:Nat) (dP:bH) :
 gF Tryz.prog 225 [aA.val,.func (.func 226) #[] #[ptr dY 0]] (Sh.fU aA.l dP) (aA.ok.and (Cells dY 0 [str dP])) (fun r => .bool r):=by
 refine gM Tryz.func225 Tryz.ntmps225 fun r hS c => ?_
 unfold Sh.fU at hS
 refine ZX ?_
 obtain ⟨kI,GJ,hS⟩:=cS hS
 refine Zu (l6 ((AG aA dY dP).out GJ) rfl (fun _ _=>rfl)) ?_
 exact ZE hS
instance aG7 (dR:Sv aH) (p_1:bH) :
 gF Tryz.prog 153 [dR.val,str p_1] (Sh.AR dR.l p_1) dR.ok (fun r => .bool r):=by
 refine gM Tryz.func153 Tryz.ntmps153 fun r hS c => ?_
 unfold Sh.AR at hS
 refine cI (kU fun uO=>ZX ?_)
 obtain ⟨rJ,aNa,hS⟩:=cS hS
 refine Zu (l6 ((yV dR uO p_1).out aNa) rfl (fun _ _=>rfl)) ?_
 exact ZE hS
instance UJ (aA:Sv aH) :
 vL Tryz.prog 230 [aA.val] (Sh.eP aA.l) aA.ok (Ow.emp) (X:=Sv aH) (fun x=>x.val) (fun x=>x.l) (fun x=>Mo.tt) (fun x=>Sv.own x 80):=by
 refine v8 Tryz.func230 Tryz.ntmps230 fun r hS c => ?_
 unfold Sh.eP at hS
 refine ZX ?_
 refine Zq (ZX ?_)
 refine Zu (LG (s:=aA) Tryz.underlying27 rfl) ?_
 refine Zl ?_
 refine VC.slnil (s:=aA) rfl (fun h4 => ?_) ?_
 ·
  have hS:(some [])=some r:=by
    simp [lt,gd,h4] at hS ⊢
    try exact hS
  refine cI (Za ?_)
  refine Zl ?_
  refine VC.mR (⟨none,0,[]⟩:Sv aH) 80 ⟨rfl,rfl⟩ ?_
  cases hS
  exact VC.ret (Z1 ⟨none,0,[]⟩)
 refine ZX ?_
 refine VL.aEA (α:=aH) Tryz.underlying27 a1b (by decide) (fun ME wE BF => ?_)
 refine VL.mR ME 80 ⟨BF,wE⟩ ?_
 replace hS:=dZ wE hS
 exact ZE hS
instance Q9 (iX:aH) (iC:Nat) (a_1:bH) :
 gF Tryz.prog 231 [.agg #[str iX.path,i64 iX.iK,i64 iX.mode,str iX.data,i64 iX.time,i64 iX.size],ptr iC 0] (Sh.y8 iX a_1) (Cells iC 0 [str a_1]) (fun r => .bool r):=by
 refine gM Tryz.func231 Tryz.ntmps231 fun r hS c => ?_
 unfold Sh.y8 at hS
 refine cI (kU fun iV=>ZX ?_)
 refine Zu (z8 mF rfl rfl) ?_
 exact ZE hS
instance yW (aA:Sv aH) (dY:Nat) (dP:bH) :
 gF Tryz.prog 287 [aA.val,.func (.func 231) #[] #[ptr dY 0]] (Sh.fV aA.l dP) (aA.ok.and (Cells dY 0 [str dP])) (fun r=>i64 r):=by
 refine gM Tryz.func287 Tryz.ntmps287 fun r hS c => ?_
 unfold Sh.fV at hS
 refine ZX ?_
 refine Zq (ZX ?_)
 refine Zb ?_
 refine VC.iJ [0,1,7] (fun (dL:Int)=>dL) (fun dL ρ=>(8,i64 dL)::ρ) 0 [8,0,1,7] hS ?_
 rintro dL m1 y1 hS hK1
 refine ZX ?_
 refine Zq (Zc hS (fun h9 hS => ?_) (fun h9 hS => ?_))
 ·
  refine Zk ?_
  refine Zq (Zb (ZX ?_))
  obtain ⟨fD,rU,pF,hS⟩:=gP hS
  refine Zu (jA (s:=aA) Tryz.underlying27 oH rfl rfl rU (bR rU pF)) (Zu (nF  (s:=aA) F1 rfl rfl pF) ?_)
  obtain ⟨mW,uE,hS⟩:=cS hS
  refine Zu (tU (vs:=[.agg #[str fD.path,i64 fD.iK,i64 fD.mode,str fD.data,i64 fD.time,i64 fD.size]]) (caps:=[ptr dY 0]) ((Q9 fD dY dP).out uE) rfl rfl (fun _ _=>rfl)) ?_
  exact ZE hS
 exact ZE hS
instance QN (aA:Sv aH) (dO:Nat) (dH:bH) :
 vL Tryz.prog 229 [aA.val,.func (.func 231) #[] #[ptr dO 0]] (Sh.gK aA.l dH) Mo.tt (Ow.star (Sv.own aA 80) (bN dO [str dH] 9)) (X:=Sv aH) (fun x=>x.val) (fun x=>x.l) (fun x=>Mo.tt) (fun x=>Ow.star (Sv.own x 80) (bN dO [str dH] 9)):=by
 refine v8 Tryz.func229 Tryz.ntmps229 fun r hS c => ?_
 unfold Sh.gK at hS
 refine ZX ?_
 obtain ⟨dK,HT,hS⟩:=cS hS
 refine Zu (l6 ((yW aA dO dH).out HT) rfl (fun _ _=>rfl)) ?_
 refine ZX ?_
 refine Zq (ZX ?_)
 refine Zc hS (fun _ hS=>ZE hS) fun h12 hS => ?_
 obtain ⟨b15,hS⟩:=bM hS
 refine Zk ?_
 refine Zq (ZX ?_)
 refine VC.aV [0,1,5,6] (Zb ?_)
 refine VC.iter (S:=Sv aH×Int×Int) (fun sg=>(sg.1.l,sg.2.1,sg.2.2)) (fun sg=>[(0,sg.1.val),(1,.func (.func 231) #[] #[ptr dO 0]),(5,i64 sg.2.1),(6,i64 sg.2.2)]) (fun sg=>Mo.tt) (fun sg=>Ow.star (bN dO [str dH] 9) (Ow.star (Sv.own sg.1 80) (Ow.emp))) (aA,dK,(dK+1)) [0,1,5,6] hS rfl ?_
 rintro ⟨fJ,jC,oJ⟩ m1 y1 hS hK1
 refine Zq (ZX ?_)
 refine Zc hS (fun h19 hS => ?_) (fun h19 hS => ?_)
 ·
  refine Zk ?_
  refine VC.u5 (S:=Sv aH×Int) (fun sg=>(sg.1.l,sg.2)) (fun sg=>[(0,sg.1.val),(1,.func (.func 231) #[] #[ptr dO 0]),(5,i64 sg.2),(6,i64 oJ)]) (fun sg=>Mo.tt) (fun sg=>Ow.star (bN dO [str dH] 9) (Ow.star (Sv.own sg.1 80) (Ow.emp))) hS ?_ ?_
  ·
   intro k7 hS
   refine Zb (ZX ?_)
   obtain ⟨cW,yM,xY,hS⟩:=gP hS
   refine Zu (lK (s:=fJ) Tryz.underlying27 oH rfl rfl yM (bR yM xY)) (Zu (XT (s:=fJ) F1 rfl rfl xY) ?_)
   refine dJ fun T0=>ZO ?_
   refine Zl ?_
   refine VC.aV [0,1,5,6,7] (ZX ?_)
   obtain ⟨zT,HU,hS⟩:=cS hS
   refine Zu (tU (vs:=[.agg #[str cW.path,i64 cW.iK,i64 cW.mode,str cW.data,i64 cW.time,i64 cW.size]]) (caps:=[ptr dO 0]) ((Q9 cW dO dH).out HU) rfl rfl (fun _ _=>rfl)) ?_
   refine ZX ?_
   refine iZ hS (fun h29 hS => ?_) (fun h29 hS => ?_)
   ·
    refine ZX ?_
    obtain ⟨MV,yN,yL,hS⟩:=gP hS
    refine Zu (lK (s:=fJ) Tryz.underlying27 oH rfl rfl yN (bR yN yL)) ?_
    refine VL.oC (s:=fJ) (T:=80) (j:=0) (vc:=[str cW.path,i64 cW.iK,i64 cW.mode,str cW.data,i64 cW.time,i64 cW.size]) (⟨cW.path,cW.iK,cW.mode,cW.data,cW.time,cW.size⟩:aH) (by decide) rfl rfl yL rfl oH rfl rfl (Nat.le_of_ble_eq_true rfl) rfl (fun w12 hw12 haw12 hcw12 hvw12 hbw12 how12 => ?_)
    rw [← hvw12]
    replace hS:=dZ hw12 hS
    refine Zl ?_
    refine VC.aV [0,1,5,6] ?_
    obtain ⟨b35,hS⟩:=bM hS
    refine Zr (ZX ?_)
    refine VL.mt (w12,(jC+1)) [0,1,5,6] (fun _ _ h=>h) hS rfl
   refine VC.rY (fJ,jC) [0,1,5,6] (fun _ _ h=>h) hS rfl
  rintro ⟨D5,DE⟩ hS
  obtain ⟨b21,hS⟩:=bM hS
  refine Zr (ZX ?_)
  refine VL.kL (D5,DE,(oJ+1)) [0,1,5,6] (fun _ _ h=>h) (go2 hS hK1) rfl
 replace hS:=kS hS hK1
 refine Zx ?_
 obtain ⟨b38,hS⟩:=bM hS
 refine ZX ?_
 refine VL.fits (s:=fJ) (e:=80) Fo.out fun CX => ?_
 refine Zu (F3 (s:=fJ) Tryz.underlying27 oH rfl rfl b38.1 b38.2 CX) ?_
 refine VL.aDv (s:=fJ) (i:=jC.toNat) (.agg #[str [],i64 0,i64 0,str [],i64 0,i64 0]) Tryz.underlying27 aWb rfl rfl rfl (by have:=b38; dsimp only at this ⊢; omega) Fo.out fun MN H6 IP => ?_
 replace hS:=dZ H6 hS
 refine Zl ?_
 refine VC.aV [0,5] (ZX ?_)
 refine Zu (XS (s:=fJ) (q:=MN) Tryz.underlying27 oH rfl rfl b38.1 b38.2 CX IP) ?_
 exact ZE hS
instance aWs (dR:Sv aH) (p_1:bH) :
 jZ Tryz.prog 158 [dR.val,str p_1] (Sh.wQ dR.l p_1) dR.ok (X:=Sv aH) (fun x=>x.val) (fun x=>x.l) (fun x=>x.ok):=by
 refine j6 Tryz.func158 Tryz.ntmps158 fun r hS c => ?_
 unfold Sh.wQ at hS
 refine cI (kU fun uO=>ZX ?_)
 refine fM hS rfl fun aPv hS=>ZX ?_
 refine fM hS rfl fun IG hS => ?_
 refine VL.shut IG 80 (fun _ _ _ _=>trivial) ?_
 exact ZE hS
instance aUL (iX:aH) (e_1:aH) :
 gF Tryz.prog 289 [.agg #[str iX.path,i64 iX.iK,i64 iX.mode,str iX.data,i64 iX.time,i64 iX.size],.agg #[str e_1.path,i64 e_1.iK,i64 e_1.mode,str e_1.data,i64 e_1.time,i64 e_1.size]] (Sh.EM iX e_1) Mo.tt (fun r => .bool r):=by
 refine gM Tryz.func289 Tryz.ntmps289 fun r hS c => ?_
 unfold Sh.EM at hS
 refine cI (kU fun iV=>kU fun gL=>ZX ?_)
 refine Zq (Zb (ZX ?_))
 refine jK hS rfl fun kW hS=>ZX ?_
 refine VC.aV [2,3,5] ?_
 refine iZ hS (fun _ hS=>ZE hS) fun h5 hS=>ZX ?_
 refine oD hS (fun _ hS=>ZE hS) fun h11 hS=>Zk ?_
 refine Zq (ZX ?_)
 refine VC.aV [2,3,18] (Zb ?_)
 exact VC.cJ [2,3] (fun (_:Unit)=>()) (fun _ ρ=>ρ) hS (fun _ hS=>ZE hS) fun _ hS=>ZE hS
instance T4 (iX:aH) (iC:Nat) (a_1:aH) :
 gF Tryz.prog 288 [.agg #[str iX.path,i64 iX.iK,i64 iX.mode,str iX.data,i64 iX.time,i64 iX.size],ptr iC 0] (Sh.BG iX a_1) (Cells iC 0 [str a_1.path,i64 a_1.iK,i64 a_1.mode,str a_1.data,i64 a_1.time,i64 a_1.size]) (fun r => .bool r):=by
 refine gM Tryz.func288 Tryz.ntmps288 fun r hS c => ?_
 unfold Sh.BG at hS
 refine cI (kU fun iV=>ZX ?_)
 refine Zu (a7s F1 rfl rfl) ?_
 exact ZE hS
instance yX (aA:Sv aH) (dY:Nat) (dP:aH) :
 gF Tryz.prog 287 [aA.val,.func (.func 288) #[] #[ptr dY 0]] (Sh.fW aA.l dP) (aA.ok.and (Cells dY 0 [str dP.path,i64 dP.iK,i64 dP.mode,str dP.data,i64 dP.time,i64 dP.size])) (fun r=>i64 r):=by
 refine gM Tryz.func287 Tryz.ntmps287 fun r hS c => ?_
 unfold Sh.fW at hS
 refine ZX ?_
 refine Zq (ZX ?_)
 refine Zb ?_
 refine VC.iJ [0,1,7] (fun (dL:Int)=>dL) (fun dL ρ=>(8,i64 dL)::ρ) 0 [8,0,1,7] hS ?_
 rintro dL m1 y1 hS hK1
 refine ZX ?_
 refine Zq (Zc hS (fun h9 hS => ?_) (fun h9 hS => ?_))
 ·
  refine Zk ?_
  refine Zq (Zb (ZX ?_))
  obtain ⟨fD,rU,pF,hS⟩:=gP hS
  refine Zu (jA (s:=aA) Tryz.underlying27 oH rfl rfl rU (bR rU pF)) (Zu (nF  (s:=aA) F1 rfl rfl pF) ?_)
  obtain ⟨mW,uE,hS⟩:=cS hS
  refine Zu (tU (vs:=[.agg #[str fD.path,i64 fD.iK,i64 fD.mode,str fD.data,i64 fD.time,i64 fD.size]]) (caps:=[ptr dY 0]) ((T4 fD dY dP).out uE) rfl rfl (fun _ _=>rfl)) ?_
  exact ZE hS
 exact ZE hS
instance ON (aA:Sv aH) (dO:Nat) (dH:aH) :
 vL Tryz.prog 229 [aA.val,.func (.func 288) #[] #[ptr dO 0]] (Sh.fO aA.l dH) Mo.tt (Ow.star (Sv.own aA 80) (bN dO [str dH.path,i64 dH.iK,i64 dH.mode,str dH.data,i64 dH.time,i64 dH.size] 80)) (X:=Sv aH) (fun x=>x.val) (fun x=>x.l) (fun x=>Mo.tt) (fun x=>Ow.star (Sv.own x 80) (bN dO [str dH.path,i64 dH.iK,i64 dH.mode,str dH.data,i64 dH.time,i64 dH.size] 80)):=by
 refine v8 Tryz.func229 Tryz.ntmps229 fun r hS c => ?_
 unfold Sh.fO at hS
 refine ZX ?_
 obtain ⟨dK,HT,hS⟩:=cS hS
 refine Zu (l6 ((yX aA dO dH).out HT) rfl (fun _ _=>rfl)) ?_
 refine ZX ?_
 refine Zq (ZX ?_)
 refine Zc hS (fun _ hS=>ZE hS) fun h12 hS => ?_
 obtain ⟨b15,hS⟩:=bM hS
 refine Zk ?_
 refine Zq (ZX ?_)
 refine VC.aV [0,1,5,6] (Zb ?_)
 refine VC.iter (S:=Sv aH×Int×Int) (fun sg=>(sg.1.l,sg.2.1,sg.2.2)) (fun sg=>[(0,sg.1.val),(1,.func (.func 288) #[] #[ptr dO 0]),(5,i64 sg.2.1),(6,i64 sg.2.2)]) (fun sg=>Mo.tt) (fun sg=>Ow.star (bN dO [str dH.path,i64 dH.iK,i64 dH.mode,str dH.data,i64 dH.time,i64 dH.size] 80) (Ow.star (Sv.own sg.1 80) (Ow.emp))) (aA,dK,(dK+1)) [0,1,5,6] hS rfl ?_
 rintro ⟨fJ,jC,oJ⟩ m1 y1 hS hK1
 refine Zq (ZX ?_)
 refine Zc hS (fun h19 hS => ?_) (fun h19 hS => ?_)
 ·
  refine Zk ?_
  refine VC.u5 (S:=Sv aH×Int) (fun sg=>(sg.1.l,sg.2)) (fun sg=>[(0,sg.1.val),(1,.func (.func 288) #[] #[ptr dO 0]),(5,i64 sg.2),(6,i64 oJ)]) (fun sg=>Mo.tt) (fun sg=>Ow.star (bN dO [str dH.path,i64 dH.iK,i64 dH.mode,str dH.data,i64 dH.time,i64 dH.size] 80) (Ow.star (Sv.own sg.1 80) (Ow.emp))) hS ?_ ?_
  ·
   intro k7 hS
   refine Zb (ZX ?_)
   obtain ⟨cW,yM,xY,hS⟩:=gP hS
   refine Zu (lK (s:=fJ) Tryz.underlying27 oH rfl rfl yM (bR yM xY)) (Zu (XT (s:=fJ) F1 rfl rfl xY) ?_)
   refine dJ fun T0=>ZO ?_
   refine Zl ?_
   refine VC.aV [0,1,5,6,7] (ZX ?_)
   obtain ⟨zT,HU,hS⟩:=cS hS
   refine Zu (tU (vs:=[.agg #[str cW.path,i64 cW.iK,i64 cW.mode,str cW.data,i64 cW.time,i64 cW.size]]) (caps:=[ptr dO 0]) ((T4 cW dO dH).out HU) rfl rfl (fun _ _=>rfl)) ?_
   refine ZX ?_
   refine iZ hS (fun h29 hS => ?_) (fun h29 hS => ?_)
   ·
    refine ZX ?_
    obtain ⟨MV,yN,yL,hS⟩:=gP hS
    refine Zu (lK (s:=fJ) Tryz.underlying27 oH rfl rfl yN (bR yN yL)) ?_
    refine VL.oC (s:=fJ) (T:=80) (j:=0) (vc:=[str cW.path,i64 cW.iK,i64 cW.mode,str cW.data,i64 cW.time,i64 cW.size]) (⟨cW.path,cW.iK,cW.mode,cW.data,cW.time,cW.size⟩:aH) (by decide) rfl rfl yL rfl oH rfl rfl (Nat.le_of_ble_eq_true rfl) rfl (fun w12 hw12 haw12 hcw12 hvw12 hbw12 how12 => ?_)
    rw [← hvw12]
    replace hS:=dZ hw12 hS
    refine Zl ?_
    refine VC.aV [0,1,5,6] ?_
    obtain ⟨b35,hS⟩:=bM hS
    refine Zr (ZX ?_)
    refine VL.mt (w12,(jC+1)) [0,1,5,6] (fun _ _ h=>h) hS rfl
   refine VC.rY (fJ,jC) [0,1,5,6] (fun _ _ h=>h) hS rfl
  rintro ⟨D5,DE⟩ hS
  obtain ⟨b21,hS⟩:=bM hS
  refine Zr (ZX ?_)
  refine VL.kL (D5,DE,(oJ+1)) [0,1,5,6] (fun _ _ h=>h) (go2 hS hK1) rfl
 replace hS:=kS hS hK1
 refine Zx ?_
 obtain ⟨b38,hS⟩:=bM hS
 refine ZX ?_
 refine VL.fits (s:=fJ) (e:=80) Fo.out fun CX => ?_
 refine Zu (F3 (s:=fJ) Tryz.underlying27 oH rfl rfl b38.1 b38.2 CX) ?_
 refine VL.aDv (s:=fJ) (i:=jC.toNat) (.agg #[str [],i64 0,i64 0,str [],i64 0,i64 0]) Tryz.underlying27 aWb rfl rfl rfl (by have:=b38; dsimp only at this ⊢; omega) Fo.out fun MN H6 IP => ?_
 replace hS:=dZ H6 hS
 refine Zl ?_
 refine VC.aV [0,5] (ZX ?_)
 refine Zu (XS (s:=fJ) (q:=MN) Tryz.underlying27 oH rfl rfl b38.1 b38.2 CX IP) ?_
 exact ZE hS
instance aPD (iX:Int) :
 gF Tryz.prog 351 [i64 iX] (Sh.cmp_isNaN_int iX) Mo.tt (fun r => .bool r):=by
 refine gM Tryz.func351 Tryz.ntmps351 fun r hS c => ?_
 unfold Sh.cmp_isNaN_int at hS
 exact ZE hS
instance YT (iX:Int) (zP:Int) :
 gF Tryz.prog 325 [i64 iX,i64 zP] (Sh.wW iX zP) Mo.tt (fun r=>i64 r):=by
 refine gM Tryz.func325 Tryz.ntmps325 fun r hS c => ?_
 unfold Sh.wW at hS
 exact ZE hS
instance aFQ (XZ:Sv Int) :
 gF Tryz.prog 324 [XZ.val] (Sh.G5 XZ.l) XZ.ok (fun r=>i64 r):=by
 refine gM Tryz.func324 Tryz.ntmps324 fun r hS c => ?_
 unfold Sh.G5 at hS
 refine ZX ?_
 refine Zq (ZX ?_)
 refine Zb ?_
 refine VC.iJ [3,6,7] (fun (dL:Int)=>dL) (fun dL ρ=>(8,i64 dL)::ρ) 0 [8,3,6,7] hS ?_
 rintro dL m1 y1 hS hK1
 exact ZE hS
instance aBN (bP:aH) (b_1:aH) :
 gF Tryz.prog 290 [.agg #[str bP.path,i64 bP.iK,i64 bP.mode,str bP.data,i64 bP.time,i64 bP.size],.agg #[str b_1.path,i64 b_1.iK,i64 b_1.mode,str b_1.data,i64 b_1.time,i64 b_1.size]] (Sh.zX bP b_1) Mo.tt (fun r=>i64 r):=by
 refine gM Tryz.func290 Tryz.ntmps290 fun r hS c => ?_
 unfold Sh.zX at hS
 refine cI (kU fun iV=>kU fun gL=>ZX ?_)
 refine Zq ?_
 refine iB [(0,true),(1,true),(2,true),(3,true),(4,true),(5,true),(6,true),(7,true),(8,true),(9,true),(10,false),(11,true),(12,true)] ?_
 refine ZX ?_
 obtain ⟨E5,aNb,hS⟩:=cS hS
 refine Zw rfl (dU ((RC bP.path b_1.path).out aNb) rfl (fun _ _=>rfl)) ?_
 refine ZX ?_
 obtain ⟨aDg,a0h,hS⟩:=cS hS
 refine Zw rfl (dU ((YT bP.iK b_1.iK).out a0h) rfl (fun _ _=>rfl)) ?_
 refine VD.one rfl (mS hS fun a8D hS=>eV ?_)
 obtain ⟨aJ6,a0m,hS⟩:=cS hS
 refine Zw rfl (dU ((aFQ a8D).out a0m) rfl (fun _ _=>rfl)) ?_
 exact ZE hS
theorem aJF (s v:Sv aH) (i:Int) (hi:0≤i∧i≤(s.l.length:Int)) (hv:v.l≠[]) (hb:s.l.length+v.l.length≤4294967296):Ct Tryz.prog 291 [s.val,i64 i,v.val] Mo.tt (Ow.star (s.own 80) (v.own 80)) (X:=Sv aH) (fun q=>q.val) (fun q=>q.l=s.l.take i.toNat++v.l++s.l.drop i.toNat) (fun q=>Mo.tt) (fun q=>q.own 80):=by
 refine Zo Tryz.func291 Tryz.ntmps291 fun c => ?_
 have hvp:0 < v.l.length:=List.length_pos_iff.2 hv
 have hK:bD.sz aH=6:=rfl
 refine ZX ?_
 refine VL.fits (s:=s) (e:=80) Fo.out fun hf => ?_
 refine Zu (F3 (s:=s) Tryz.underlying27 oH rfl rfl hi.1 hi.2 hf) ?_
 refine ZX ?_
 refine Zq (ZX ?_)
 refine VC.nV rfl (fun h16=>absurd h16 (by omega)) (fun h16 => ?_)
 refine ZX ?_
 refine Zq (ZX ?_)
 refine VC.nV rfl (fun h22 => ?_) (fun h22 => ?_)
 ·
  refine ZX ?_
  refine VL.shut v 80 (fun _ _ _ _=>trivial) ?_
  refine VL.aOt (s:=s) (r:=v) Tryz.underlying27 Tryz.underlying27 aIq (by decide) rfl Fo.out (ap1 hb) (ap2 hb (by decide)) (by decide) (fun q hq => ?_)
  refine ZX ?_
  have e1:i.toNat=s.l.length:=by omega
  exact VC.ret (HV (.inr rfl) rfl rfl q rfl (by rw [hq,e1,List.take_length,List.drop_length,List.append_nil]) (fun _ _=>trivial) fK.out)
 have hin:i < (s.l.length:Int):=by omega
 have hne:s.l≠[]:=fun h=>by rw [h] at hin; simp at hin; omega
 have hkq:(s.l.length:Int)+(v.l.length:Int) - i=((s.l.length+v.l.length - i.toNat:Nat):Int):=by omega
 have hLn:(s.l.take i.toNat++v.l++s.l.drop i.toNat).length=s.l.length+v.l.length:=by simp only [List.length_append,List.length_take,List.length_drop]; omega
 have hfl:(s.l.take i.toNat++v.l++s.l.drop i.toNat).flatMap bD.enc=(s.l.take i.toNat).flatMap bD.enc++v.l.flatMap bD.enc++(s.l.drop i.toNat).flatMap bD.enc:=by rw [List.flatMap_append,List.flatMap_append]
 have lA:((s.l.take i.toNat).flatMap bD.enc).length=i.toNat*6:=by rw [iD,List.length_take,hK,Nat.min_eq_left (by omega)]
 have lV:(v.l.flatMap bD.enc).length=v.l.length*6:=by rw [iD,hK]
 have lS:((s.l.drop i.toNat).flatMap bD.enc).length=(s.l.length - i.toNat)*6:=by rw [iD,List.length_drop,hK]
 refine Zk ?_
 refine Zq (ZX ?_)
 refine Zu (l5 rfl rfl ⟨by omega,by omega⟩) ?_
 refine Zm (Zu (aEb (a0:=s.a) (L:=s.l.length) (C:=s.c) Tryz.underlying27 rfl) ?_)
 refine ZX ?_
 refine VC.nV rfl (fun h31 => ?_) (fun h31 => ?_)
 ·
  refine VC.shut s 80 (fun _ _ _ _=>trivial) ?_
  refine VC.shut v 80 (fun _ _ _ _=>trivial) ?_
  refine cI ?_
  refine VL.DD (φ:=s.a=some ⟨s.b,s.o,none⟩) (fun h m=>(dV.out (X:=s.ok) h m).2.2.1 hne) fun hsa => ?_
  refine VL.DD (φ:=v.a=some ⟨v.b,v.o,none⟩) (fun h m=>(dV.out (X:=v.ok) h m).2.2.1 hv) fun hva => ?_
  refine ZX ?_
  refine Zu (PX (a0:=s.a) (L:=s.l.length) (C:=s.c) (K:=6) Tryz.underlying27 oH rfl rfl hi.1 (by omega)) ?_
  refine ZX ?_
  refine Zu (l5 rfl rfl ⟨by omega,by omega⟩) ?_
  refine Zm ?_
  refine Zu (N4 rfl rfl ⟨by omega,by omega⟩) ?_
  refine VL.HH 39 rfl (congrArg (Value.int .i64) hkq) ?_
  refine VL.aIT (s:=s) (L:=i.toNat) (kq:=s.l.length+v.l.length - i.toNat) Tryz.underlying27 Tryz.underlying3 aIq (by decide) rfl hne (by omega) (by omega) (by omega) (by omega) (by decide) (by decide) fun g cs cp hcl hcp hcm hct => ?_
  rw [hK] at hcl hct
  rw [show i.toNat+(s.l.length+v.l.length - i.toNat)=s.l.length+v.l.length by omega] at hcp ⊢
  have hfit:((s.l.take i.toNat).flatMap bD.enc).length+(v.l.flatMap bD.enc).length+((s.l.drop i.toNat).flatMap bD.enc).length≤cs.length:=by
    rw [lA,lV,lS,hcl,← Nat.add_mul,← Nat.add_mul]; exact Nat.mul_le_mul_right _ (by omega)
  have hic:=OW (V:=v.l.flatMap bD.enc) (S:=(s.l.drop i.toNat).flatMap bD.enc) (by rw [lA]; exact hct) hfit
  rw [← hfl,lA,lV,lS] at hic
  refine ZX ?_
  refine Zu (lQ (b:=g) (o:=0) (L:=s.l.length+v.l.length) (C:=cp) (K:=6) Tryz.underlying27 oH rfl rfl hi.1 (by omega) hcp (by omega) rfl) ?_
  refine Zm ?_
  refine VL.HH 44 rfl (show v.val = .slice (some ⟨v.b,v.o+0*bD.sz aH,none⟩) v.l.length v.c by unfold Sv.val; rw [hva,Nat.zero_mul]; rfl) ?_
  refine VL.E9 (src:=v.l.flatMap bD.enc) Tryz.underlying27 oH pZ.out rfl (by rw [lV]; congr 1; exact (Nat.min_eq_left (by omega)).symm) (K5 (r:=v) (by decide) hv) (pO v.l) (by rw [lV,Nat.zero_add,hcl,← Nat.add_mul]; exact Nat.mul_le_mul_right _ (by omega)) (by decide) ?_
  rw [Nat.zero_add,lV]
  refine Zl ?_
  refine Zq ?_
  refine iB [(0,true),(1,true),(2,true),(3,true),(4,true),(5,true),(6,true),(7,true),(8,false)] ?_
  refine ZX ?_
  refine Zw rfl (l5 rfl rfl ⟨by omega,by omega⟩) ?_
  refine Zw rfl (lQ (b:=g) (o:=0) (L:=s.l.length+v.l.length) (C:=cp) (K:=6) Tryz.underlying27 oH rfl rfl (by omega) (by omega) hcp (by omega) rfl) ?_
  refine ZX ?_
  refine Zw rfl (lQ (b:=s.b) (o:=s.o) (L:=s.l.length) (C:=s.c) (K:=6) Tryz.underlying27 oH (show some s.val=_ by unfold Sv.val; rw [hsa]) rfl hi.1 (by omega) hf (by omega) rfl) ?_
  refine VD.one rfl ?_
  rw [show (i+(v.l.length:Int)).toNat=i.toNat+v.l.length by omega]
  refine VL.E9 (src:=(s.l.drop i.toNat).flatMap bD.enc) Tryz.underlying27 oH pZ.out rfl (by rw [lS]; congr 1; exact (Nat.min_eq_left (by omega)).symm) (VQ (r:=s) (by decide) hne i.toNat) (pO _) (by rw [lS,Nat.zero_add,hic.1,hcl,← Nat.add_mul]; exact Nat.mul_le_mul_right _ (by omega)) (by decide) ?_
  rw [Nat.zero_add,lS,Nat.add_mul]
  refine eV ?_
  refine ZX ?_
  have ho:=fun F=>FR (F:=F) (e:=80) (b:=g) (l':=s.l.take i.toNat++v.l++s.l.drop i.toNat) (Nat.le_of_eq (hic.2.1.trans hcl).symm) (by rw [iD] at hic; exact hic.2.2) hLn hcp hcm
  exact VC.ret (HV (.inr rfl) rfl rfl ⟨some ⟨g,0,none⟩,cp,_⟩ (ho Ow.emp).1 rfl (fun _ _=>trivial) (ho _).2)
 refine ZX ?_
 refine VL.open (s:=s) (e:=80) Fo.out (by omega) fun b cs hsa hcl hct _ hcm => ?_
 rw [hK] at hcl hct
 have hctA:cs.take ((s.l.take i.toNat).flatMap bD.enc).length=(s.l.take i.toNat).flatMap bD.enc:=by
   rw [lA]
   have:cs.take (i.toNat*6)=(cs.take (s.l.length*6)).take (i.toNat*6):=by rw [List.take_take,Nat.min_eq_left (Nat.mul_le_mul_right _ (by omega))]
   rw [this,hct]
   exact rL s.l i.toNat
 have hfit:((s.l.take i.toNat).flatMap bD.enc).length+(v.l.flatMap bD.enc).length+((s.l.drop i.toNat).flatMap bD.enc).length≤cs.length:=by
   refine Nat.le_trans ?_ hcl; rw [lA,lV,lS,← Nat.add_mul,← Nat.add_mul]; exact Nat.mul_le_mul_right _ (by omega)
 have hic:=OX (V:=v.l.flatMap bD.enc) (S:=(s.l.drop i.toNat).flatMap bD.enc) hctA hfit
 rw [← hfl,lA,lV,lS] at hic
 refine ZX ?_
 refine Zu (l5 rfl rfl ⟨by omega,by omega⟩) ?_
 refine Zu (PX (a0:=s.a) (L:=s.l.length) (C:=s.c) (K:=6) Tryz.underlying27 oH rfl rfl (by omega) (by omega)) ?_
 rw [show ((s.l.length:Int)+(v.l.length:Int)).toNat=s.l.length+v.l.length by omega,hsa]
 refine ZX ?_
 refine Zq (ZX ?_)
 refine Zu (l5 rfl rfl ⟨by omega,by omega⟩) ?_
 refine Zu (lQ (b:=b) (o:=0) (L:=s.l.length+v.l.length) (C:=s.c) (K:=6) Tryz.underlying27 oH rfl rfl (by omega) (by omega) (by omega) (by omega) rfl) ?_
 refine Zu (PA (tS:=27) (tR:=4) (s:=v) (b:=b) Tryz.func326 rfl rfl (by kernel_rfl) (by kernel_rfl) Tryz.underlying27 oH rfl pZ.out (fun h=>by rw [h] at hcl; simp at hcl; omega) hv) ?_
 refine ZX ?_
 refine VC.EI rfl ?_
 refine VC.shut v 80 (fun _ _ _ _=>trivial) ?_
 refine Zq ?_
 refine iB [(0,true),(1,true),(2,true),(3,true),(4,true),(5,true),(6,true),(7,true),(8,false)] ?_
 refine ZX ?_
 refine Zw rfl (l5 rfl rfl ⟨by omega,by omega⟩) ?_
 refine Zw rfl (lQ (b:=b) (o:=0) (L:=s.l.length+v.l.length) (C:=s.c) (K:=6) Tryz.underlying27 oH rfl rfl (by omega) (by omega) (by omega) (by omega) rfl) ?_
 refine ZX ?_
 refine Zw rfl (lQ (b:=b) (o:=0) (L:=s.l.length+v.l.length) (C:=s.c) (K:=6) Tryz.underlying27 oH rfl rfl hi.1 (by omega) (by omega) (by omega) rfl) ?_
 refine VD.one rfl ?_
 rw [show (i+(v.l.length:Int)).toNat=i.toNat+v.l.length by omega,Nat.zero_add,Nat.zero_add]
 refine VL.E9 (src:=(s.l.drop i.toNat).flatMap bD.enc) Tryz.underlying27 oH pZ.out rfl (by rw [lS]; congr 1; simp only [Nat.min_def]; split <;> omega) (aAk (n:=s.l.length) hct rfl) (pO _) (by refine Nat.le_trans ?_ hcl; rw [lS,← Nat.add_mul]; exact Nat.mul_le_mul_right _ (by omega)) (by decide) ?_
 rw [lS,Nat.add_mul]
 refine eV ?_
 refine ZX ?_
 refine Zu (lQ (b:=b) (o:=0) (L:=s.l.length+v.l.length) (C:=s.c) (K:=6) Tryz.underlying27 oH rfl rfl hi.1 (by omega) (by omega) (by omega) rfl) ?_
 refine Zm ?_
 refine VL.DD (φ:=v.a=some ⟨v.b,v.o,none⟩) (fun h m=>(dV.out (X:=v.ok) h m).2.2.1 hv) fun hva => ?_
 refine VL.HH 81 rfl (show v.val = .slice (some ⟨v.b,v.o+0*bD.sz aH,none⟩) v.l.length v.c by unfold Sv.val; rw [hva,Nat.zero_mul]; rfl) ?_
 rw [Nat.zero_add]
 refine VL.E9 (src:=v.l.flatMap bD.enc) Tryz.underlying27 oH pZ.out rfl (by rw [lV]; congr 1; exact (Nat.min_eq_left (by omega)).symm) (K5 (r:=v) (by decide) hv) (pO v.l) (by rw [hic.1]; refine Nat.le_trans ?_ hcl; rw [lV,← Nat.add_mul]; exact Nat.mul_le_mul_right _ (by omega)) (by decide) ?_
 rw [lV]
 refine ZX ?_
 have ho:=fun F=>FR (F:=F) (e:=80) (b:=b) (l':=s.l.take i.toNat++v.l++s.l.drop i.toNat) (by rw [hic.2.1]; exact hcl) (by rw [iD] at hic; exact hic.2.2) hLn (by omega) hcm
 exact VC.ret (HV (.inr rfl) rfl rfl ⟨some ⟨b,0,none⟩,s.c,_⟩ (ho Ow.emp).1 rfl (fun _ _=>trivial) (ho _).2)
instance PV (dR:Sv aH) (e_1:aH) :
 jZ Tryz.prog 227 [dR.val,.agg #[str e_1.path,i64 e_1.iK,i64 e_1.mode,str e_1.data,i64 e_1.time,i64 e_1.size]] (Sh.xG dR.l e_1) dR.ok (X:=Sv aH) (fun x=>x.val) (fun x=>x.l) (fun x=>x.ok):=by
 refine j6 Tryz.func227 Tryz.ntmps227 fun r hS c => ?_
 unfold Sh.xG at hS
 refine cI (kU fun uO=>ZX ?_)
 refine fM hS rfl fun aBd hS=>ZX ?_
 refine fM hS rfl fun kX hS=>Za ?_
 refine Zl ?_
 refine cI (Za ?_)
 refine Zl ?_
 refine VC.cJ [3,5] (fun (Y7:Int)=>Y7) (fun Y7 ρ=>(6,i64 Y7)::ρ) hS ?_ ?_
 ·
  intro k5 hS
  refine Zb ?_
  refine VC.iJ [3,5] (fun (VH:Int)=>VH) (fun VH ρ=>(6,i64 VH)::ρ) 0 [6,3,5] hS ?_
  rintro VH m1 y1 hS hK1
  refine Zq (Zq ?_)
  refine iB ((List.range 13).map fun k=>(k,true)) ?_
  refine ZX ?_
  refine VD.xR 15 rfl (fun h15 => ?_) (fun h15 => ?_)
  ·
   replace hS:=IB h15 hS
   refine ZX ?_
   obtain ⟨aOd,aPi,aP8,hS⟩:=gP hS
   refine Zi rfl (lK (s:=kX) Tryz.underlying27 oH rfl rfl aPi (bR aPi aP8)) ?_
   refine Zi rfl (XT (s:=kX) F1 rfl rfl aP8) ?_
   refine ZX ?_
   obtain ⟨aJa,a0w,hS⟩:=cS hS
   refine Zi rfl (dU ((aBN aOd e_1).out a0w) rfl (fun _ _=>rfl)) ?_
   exact ZE hS
  replace hS:=T6 h15 hS
  refine ZX ?_
  refine VC.aV [3,5,6,23] ?_
  refine VC.wA rfl ?_
  exact ZE hS
 rintro Y7 hS
 refine ZX ?_
 refine VL.aLg (α:=aH) (xs:=[.tmp 28]) (vs:=[.agg #[str e_1.path,i64 e_1.iK,i64 e_1.mode,str e_1.data,i64 e_1.time,i64 e_1.size]]) [⟨e_1.path,e_1.iK,e_1.mode,e_1.data,e_1.time,e_1.size⟩] Tryz.underlying27 aPY (by decide) rfl rfl rfl rfl (by decide) (by decide) (fun a8R a2E => ?_) (by decide)
 replace hS:=dZ a2E hS
 obtain ⟨b30,hS⟩:=bM hS
 refine VL.oE (aJF kX a8R Y7 b30.1 b30.2.1 b30.2.2) rfl (by decide) ?_
 intro a30 aWe
 replace hS:=dZ aWe hS
 refine VL.shut a30 80 (fun _ _ _ _=>trivial) ?_
 exact ZE hS
instance a0J (dR:Sv aH) (aBy:Sv aC) (p_2:bH) :
 jZ Tryz.prog 154 [dR.val,aBy.val,str p_2] (Sh.JT dR.l aBy.l p_2) (dR.ok.and aBy.ok) (X:=Sv aH) (fun x=>x.val) (fun x=>x.l) (fun x=>x.ok):=by
 refine j6 Tryz.func154 Tryz.ntmps154 fun r hS c => ?_
 unfold Sh.JT at hS
 refine ZX ?_
 refine jK hS rfl fun FF hS=>ZX ?_
 refine dJ fun bAF=>ZO ?_
 refine Zl ?_
 refine VC.aV [0,2,7,8] (Zq (ZX ?_))
 refine iZ hS (fun _ hS=>ZE hS) fun h16 hS=>ZX ?_
 refine Zu (cG (vs:=[(0,str p_2),(2,i64 FF.1.mode),(3,str FF.1.data)]) (cs := #[str p_2,i64 0,i64 FF.1.mode,str FF.1.data,i64 0,i64 0]) rfl (by kernel_rfl)) ?_
 exact I1 hS (PV dR (⟨p_2,0,FF.1.mode,FF.1.data,0,0⟩:aH)).out fun bAz hS=>ZE hS
instance aCh (iX:aH) (zP:aH) :
 gF Tryz.prog 70 [.agg #[str iX.path,i64 iX.iK,i64 iX.mode,str iX.data,i64 iX.time,i64 iX.size],.agg #[str zP.path,i64 zP.iK,i64 zP.mode,str zP.data,i64 zP.time,i64 zP.size]] (Sh.wR iX zP) Mo.tt (fun r => .bool r):=by
 refine gM Tryz.func70 Tryz.ntmps70 fun r hS c => ?_
 unfold Sh.wR at hS
 refine cI (kU fun iV => ?_)
 exact kU fun gL=>ZE hS
instance FV (iQ:Sv aH) (jV:Sv aH) :
 gF Tryz.prog 69 [iQ.val,jV.val,.func (.func 70) #[] #[]] (Sh.cL iQ.l jV.l) (iQ.ok.and jV.ok) (fun r => .bool r):=by
 refine gM Tryz.func69 Tryz.ntmps69 fun r hS c => ?_
 unfold Sh.cL at hS
 refine ZX ?_
 refine Zq (ZX ?_)
 refine oD hS (fun _ hS=>ZE hS) fun h14 hS=>Zk ?_
 refine Zq (ZX ?_)
 refine VC.aV [1,2,15,16,17] (Zb ?_)
 refine VC.iJ [1,2,15,16] (fun (lM:Int)=>lM) (fun lM ρ=>(17,i64 lM)::ρ) 0 [17,1,2,15,16] hS ?_
 rintro lM m1 y1 hS hK1
 refine ZX ?_
 refine Zq (Zc hS (fun h18 hS => ?_) (fun h18 hS => ?_))
 ·
  refine Zk ?_
  refine Zq (Zb (ZX ?_))
  refine yH hS rfl fun EF H7 hS=>ZX ?_
  refine dJ fun a6V=>ZX ?_
  refine yH hS rfl fun eY EL hS=>ZX ?_
  refine dJ fun a6Y=>ZO ?_
  refine Zl ?_
  refine VC.aV [1,2,15,16,17,8,9] (ZX ?_)
  obtain ⟨J9,aAv,hS⟩:=cS hS
  refine Zu (oL ((aCh EF eY).out aAv) rfl rfl (fun _ _=>rfl)) ?_
  exact ZE hS
 exact ZE hS
instance NM (bP:Sv aH) (b_1:Sv aH) :
 gF Tryz.prog 36 [bP.val,b_1.val] (Sh.pG bP.l b_1.l) (bP.ok.and b_1.ok) (fun r => .bool r):=by
 refine gM Tryz.func36 Tryz.ntmps36 fun r hS c => ?_
 unfold Sh.pG at hS
 exact ZE hS
instance a3T (aA:aM) (iS:bH) :
 jZ Tryz.prog 89 [.agg (aJ aA).toArray,str iS] (Sh.JQ aA.pl iS) aA.m (X:=aM×Er) (fun x => .tuple #[.agg (bD.enc x.1).toArray,x.2.val]) (fun x=>(x.1.pl,x.2.pl)) (fun x=>(x.1.m.and x.2.ok)):=by
 refine j6 Tryz.func89 Tryz.ntmps89 fun r hS c => ?_
 unfold Sh.JQ at hS
 refine cI ?_
 refine qA (aJ aA) fun iV => ?_
 refine dJ fun AM=>ZX ?_
 refine mS hS fun bCm hS=>ZX ?_
 refine jK hS rfl fun sD hS=>ZX ?_
 refine dJ fun bAG=>ZO ?_
 refine Zl ?_
 refine VC.aV [1,2,4,6,8] ?_
 refine VC.cJm [2,4] (fun (EP:Sv bH)=>EP.l) (fun EP ρ=>(6,EP.val)::ρ) (fun (EP:Sv bH)=>EP.ok) hS ?_ ?_
 ·
  intro k8 hS
  refine Zb (ZX ?_)
  refine Zc hS (fun h22 hS => ?_) (fun h22 hS => ?_)
  ·
   refine Zr (ZX ?_)
   refine fM hS rfl fun aXu hS=>Za ?_
   refine VL.shut aXu 9 (fun _ _ _ _=>trivial) ?_
   exact ZE hS
  refine VC.cJ [2,4,6] (fun (X2:Bool)=>X2) (fun X2 ρ=>(32,.bool X2)::ρ) hS ?_ ?_
  ·
   intro k11 hS
   refine Zr (Zm (Zu (N2 rfl) (Zm ?_)))
   refine xZ 35 hS (fun h35 hS => ?_) (fun h35 hS => ?_)
   ·
    refine ZX ?_
    obtain ⟨aQ7,aVN,hS⟩:=cS hS
    refine Zh (dU ((aG7 aA.aU iS).out aVN) rfl (fun _ _=>rfl)) ?_
    exact ZE hS
   exact ZE hS
  rintro X2 hS
  refine iZ hS (fun h32 hS => ?_) (fun h32 hS => ?_)
  ·
   refine ZX ?_
   cases hS
   exact VC.ret (Z4 (aA,(Er.no 5)) rfl)
  exact ZE hS
 rintro EP hS
 refine ZX ?_
 refine dJ fun a6v=>ZX ?_
 refine Zq (ZX ?_)
 refine Zb ?_
 refine VC.iJb [2,4,9,46,47] (fun (sg:Int×Sv aH)=>(sg.1,sg.2.l)) (fun sg ρ=>(48,i64 sg.1)::ρ) (fun sg=>sg.2.ok) a6v (fun sg=>[aA.aY.val,sg.2.val,aA.bA.val,str aA.aI,i64 aA.aG,str aA.aS,i64 aA.aO,str aA.aT,aA.aN.val,aA.aP.val,i64 aA.aQ,str aA.aK,str aA.aD,i64 aA.aE,aA.aL.val,aA.aR.val,aA.aX.val,aA.bC.val,aA.bE.val,aA.aZ.val,i64 aA.time]) (0,aA.aU) [48,2,4,9,46,47] hS ?_
 rintro ⟨X8,aC6⟩ m1 y1 hS hK1
 refine ZX ?_
 refine Zq (Zc hS (fun h49 hS => ?_) (fun h49 hS => ?_))
 ·
  refine Zk ?_
  refine Zq (Zb (cI (yH hS rfl fun aRZ bA5 hS=>ZX ?_)))
  refine Zr (ZX ?_)
  refine fR hS rfl fun aTR hS=>ZO ?_
  refine Zl ?_
  refine VC.aV [2,4,9,46,47,48] ?_
  obtain ⟨b62,hS⟩:=bM hS
  refine Zr (ZX ?_)
  refine VL.kL ((X8+1),aTR) [48,2,4,9,46,47] (fun _ _ h=>h) (go2 hS hK1) rfl
 replace hS:=kS hS hK1
 refine Zx ?_
 refine Zq (Zb (ZX ?_))
 refine jK hS rfl fun aRG hS=>ZX ?_
 refine VC.aV [2,4,9,63] (iZ hS (fun h63 hS => ?_) (fun h63 hS => ?_))
 ·
  refine ZX ?_
  cases hS
  exact VC.ret (Z4 (aA,(Er.no 10)) rfl)
 refine ZX ?_
 refine Zc hS (fun h73 hS => ?_) (fun h73 hS => ?_)
 ·
  refine ZX ?_
  cases hS
  exact VC.ret (Z4 (aA,(Er.no 4)) rfl)
 refine ZX ?_
 cases hS
 exact VC.ret (Z4 (⟨aA.aY,aC6,aA.bA,aA.aI,aA.aG,aA.aS,aA.aO,aA.aT,aA.aN,aA.aP,aA.aQ,aA.aK,aA.aD,aA.aE,aA.aL,aA.aR,aA.aX,aA.bC,aA.bE,aA.aZ,aA.time⟩,.nil) rfl)
instance T5 (dR:Sv aH) (n_1:Int) :
 jZ Tryz.prog 155 [dR.val,i64 n_1] (Sh.mO dR.l n_1) dR.ok (X:=Sv aC) (fun x=>x.val) (fun x=>x.l) (fun x=>x.ok):=by
 refine j6 Tryz.func155 Tryz.ntmps155 fun r hS c => ?_
 unfold Sh.mO at hS
 refine ZX ?_
 refine Zq (ZX ?_)
 refine Zb ?_
 refine VC.mR (⟨none,0,[]⟩:Sv aC) 78 ⟨rfl,rfl⟩ ?_
 refine VC.iter (S:=Sv aC×Int) (fun sg=>(sg.1.l,sg.2)) (fun sg=>[(1,i64 n_1),(5,sg.1.val),(8,dR.val),(9,i64 (dR.l.length:Int)),(10,i64 sg.2)]) (fun sg=>Mo.tt) (fun sg=>Ow.star (Sv.own sg.1 78) (Ow.emp)) (⟨none,0,[]⟩,0) [1,5,8,9,10] hS rfl ?_
 rintro ⟨CY,FD⟩ m1 y1 hS hK1
 refine ZX ?_
 refine Zq (Zc hS (fun h11 hS => ?_) (fun h11 hS => ?_))
 ·
  refine Zk ?_
  refine Zq (Zb (cI ?_))
  obtain ⟨FJ,aBR,aBI,hS⟩:=gP hS
  refine Zu (jA (s:=dR) Tryz.underlying27 oH rfl rfl aBR (bR aBR aBI)) (Zu (nF  (s:=dR) F1 rfl rfl aBI) ?_)
  refine dJ fun aKb=>ZX ?_
  refine Zc hS (fun h17 hS => ?_) (fun h17 hS => ?_)
  ·
   refine Zr (ZX ?_)
   refine Zu (cG (vs:=[(0,str FJ.path),(1,i64 FJ.mode),(2,str FJ.data)]) (cs := #[str FJ.path,i64 FJ.mode,str FJ.data]) rfl (by kernel_rfl)) ?_
   refine mS hS fun bDA hS=>HM hS fun aAP hS => ?_
   refine Za ?_
   refine Zl ?_
   refine VC.aV [1,5,8,9,10] ?_
   obtain ⟨b28,hS⟩:=bM hS
   refine Zr (ZX ?_)
   refine VL.kL (aAP,(FD+1)) [1,5,8,9,10] (fun _ _ h=>h) (go2 hS hK1) rfl
  refine Zk ?_
  refine VC.aV [1,5,8,9,10] ?_
  obtain ⟨b28,hS⟩:=bM hS
  refine Zr (ZX ?_)
  refine VL.kL (CY,(FD+1)) [1,5,8,9,10] (fun _ _ h=>h) (go2 hS hK1) rfl
 replace hS:=kS hS hK1
 refine Zx ?_
 refine ZX ?_
 refine VL.shut CY 78 (fun _ _ _ _=>trivial) ?_
 exact ZE hS
instance a0Q (aA:aM) (IA:Int) :
 gF Tryz.prog 292 [.agg (aJ aA).toArray,i64 IA] (Sh.JW aA.pl IA) aA.m (fun r => .bool r):=by
 refine gM Tryz.func292 Tryz.ntmps292 fun r hS c => ?_
 unfold Sh.JW at hS
 exact ZE hS
instance IK (aA:aM) (sP:Int) :
 jZ Tryz.prog 228 [.agg (aJ aA).toArray,i64 sP] (Sh.nC aA.pl sP) aA.m (X:=Sv aC) (fun x=>x.val) (fun x=>x.l) (fun x=>x.ok):=by
 refine j6 Tryz.func228 Tryz.ntmps228 fun r hS c => ?_
 unfold Sh.nC at hS
 refine cI ?_
 refine qA (aJ aA) fun iV => ?_
 refine ZX ?_
 refine Zq (ZX ?_)
 refine jK hS rfl fun rJ hS=>ZX ?_
 refine iZ hS (fun h8 hS => ?_) (fun h8 hS => ?_)
 ·
  refine ZX ?_
  cases hS
  exact VC.ret (Z1 ⟨none,0,[]⟩)
 obtain ⟨b12,hS⟩:=bM hS
 refine ZX ?_
 obtain ⟨QI,aBS,SK,hS⟩:=zW hS
 refine VL.deep QI.m SK (fun _ q=>q) ?_
 refine Zu (jA (s:=aA.bC) Tryz.underlying38 PU rfl rfl aBS (bR aBS SK)) ?_
 refine ZX ?_
 refine Zu (aG0  (s:=aA.bC) BE rfl SK rfl) ?_
 refine fM hS rfl fun aXa hS => ?_
 refine VL.shut aXa 78 (fun _ _ _ _=>trivial) ?_
 exact ZE hS
instance Y8 (aA:aM) :
 jZ Tryz.prog 157 [.agg (aJ aA).toArray] (Sh.jU aA.pl) aA.m (X:=Sv aC) (fun x=>x.val) (fun x=>x.l) (fun x=>x.ok):=by
 refine j6 Tryz.func157 Tryz.ntmps157 fun r hS c => ?_
 unfold Sh.jU at hS
 exact ZE hS
instance Y9 (bP:Sv aC) (b_1:Sv aC) (p_2:bH) :
 gF Tryz.prog 156 [bP.val,b_1.val,str p_2] (Sh.DX bP.l b_1.l p_2) (bP.ok.and b_1.ok) (fun r => .bool r):=by
 refine gM Tryz.func156 Tryz.ntmps156 fun r hS c => ?_
 unfold Sh.DX at hS
 refine ZX ?_
 refine jK hS rfl fun IS hS=>ZX ?_
 refine dJ fun bAF=>ZO ?_
 refine Zl ?_
 refine VC.aV [1,2,7,8] (ZX ?_)
 refine jK hS rfl fun sH hS=>ZX ?_
 refine dJ fun bDQ=>ZO ?_
 refine Zl ?_
 refine VC.aV [7,8,9,10] (ZX ?_)
 refine Zu (LH aPS (aPU IS.1.path IS.1.mode IS.1.data sH.1.path sH.1.mode sH.1.data) rfl rfl) (Zm ?_)
 refine nT 26 hS (fun h26 hS => ?_) (fun h26 hS => ?_)
 ·
  refine ZX ?_
  refine Zh (a3J Tryz.underlying4 rfl rfl) ?_
  exact ZE hS
 exact ZE hS
instance MD (wC:aC) (iC:Nat) (a_1:bH) :
 gF Tryz.prog 62 [.agg #[str wC.path,i64 wC.mode,str wC.data],ptr iC 0] (Sh.tP wC a_1) (Cells iC 0 [str a_1]) (fun r => .bool r):=by
 refine gM Tryz.func62 Tryz.ntmps62 fun r hS c => ?_
 unfold Sh.tP at hS
 refine cI (kU fun iV=>ZX ?_)
 refine Zu (z8 mF rfl rfl) ?_
 exact ZE hS
instance AD (aA:Sv aC) (dY:Nat) (dP:bH) :
 gF Tryz.prog 106 [aA.val,.func (.func 62) #[] #[ptr dY 0]] (Sh.gV aA.l dP) (aA.ok.and (Cells dY 0 [str dP])) (fun r=>i64 r):=by
 refine gM Tryz.func106 Tryz.ntmps106 fun r hS c => ?_
 unfold Sh.gV at hS
 refine ZX ?_
 refine Zq (ZX ?_)
 refine Zb ?_
 refine VC.iJ [0,1,7] (fun (dL:Int)=>dL) (fun dL ρ=>(8,i64 dL)::ρ) 0 [8,0,1,7] hS ?_
 rintro dL m1 y1 hS hK1
 refine ZX ?_
 refine Zq (Zc hS (fun h9 hS => ?_) (fun h9 hS => ?_))
 ·
  refine Zk ?_
  refine Zq (Zb (ZX ?_))
  obtain ⟨fD,rU,pF,hS⟩:=gP hS
  refine Zu (jA (s:=aA) Tryz.underlying26 kN rfl rfl rU (bR rU pF)) (Zu (nF  (s:=aA) BD rfl rfl pF) ?_)
  obtain ⟨mW,uE,hS⟩:=cS hS
  refine Zu (tU (vs:=[.agg #[str fD.path,i64 fD.mode,str fD.data]]) (caps:=[ptr dY 0]) ((MD fD dY dP).out uE) rfl rfl (fun _ _=>rfl)) ?_
  exact ZE hS
 exact ZE hS
instance QL (aA:Sv aC) (dO:Nat) (dH:bH) :
 vL Tryz.prog 60 [aA.val,.func (.func 62) #[] #[ptr dO 0]] (Sh.gH aA.l dH) Mo.tt (Ow.star (Sv.own aA 78) (bN dO [str dH] 9)) (X:=Sv aC) (fun x=>x.val) (fun x=>x.l) (fun x=>Mo.tt) (fun x=>Ow.star (Sv.own x 78) (bN dO [str dH] 9)):=by
 refine v8 Tryz.func60 Tryz.ntmps60 fun r hS c => ?_
 unfold Sh.gH at hS
 refine ZX ?_
 obtain ⟨dK,HT,hS⟩:=cS hS
 refine Zu (l6 ((AD aA dO dH).out HT) rfl (fun _ _=>rfl)) ?_
 refine ZX ?_
 refine Zq (ZX ?_)
 refine Zc hS (fun _ hS=>ZE hS) fun h12 hS => ?_
 obtain ⟨b15,hS⟩:=bM hS
 refine Zk ?_
 refine Zq (ZX ?_)
 refine VC.aV [0,1,5,6] (Zb ?_)
 refine VC.iter (S:=Sv aC×Int×Int) (fun sg=>(sg.1.l,sg.2.1,sg.2.2)) (fun sg=>[(0,sg.1.val),(1,.func (.func 62) #[] #[ptr dO 0]),(5,i64 sg.2.1),(6,i64 sg.2.2)]) (fun sg=>Mo.tt) (fun sg=>Ow.star (bN dO [str dH] 9) (Ow.star (Sv.own sg.1 78) (Ow.emp))) (aA,dK,(dK+1)) [0,1,5,6] hS rfl ?_
 rintro ⟨fJ,jC,oJ⟩ m1 y1 hS hK1
 refine Zq (ZX ?_)
 refine Zc hS (fun h19 hS => ?_) (fun h19 hS => ?_)
 ·
  refine Zk ?_
  refine VC.u5 (S:=Sv aC×Int) (fun sg=>(sg.1.l,sg.2)) (fun sg=>[(0,sg.1.val),(1,.func (.func 62) #[] #[ptr dO 0]),(5,i64 sg.2),(6,i64 oJ)]) (fun sg=>Mo.tt) (fun sg=>Ow.star (bN dO [str dH] 9) (Ow.star (Sv.own sg.1 78) (Ow.emp))) hS ?_ ?_
  ·
   intro k7 hS
   refine Zb (ZX ?_)
   obtain ⟨cW,yM,xY,hS⟩:=gP hS
   refine Zu (lK (s:=fJ) Tryz.underlying26 kN rfl rfl yM (bR yM xY)) (Zu (XT (s:=fJ) BD rfl rfl xY) ?_)
   refine dJ fun T0=>ZO ?_
   refine Zl ?_
   refine VC.aV [0,1,5,6,7] (ZX ?_)
   obtain ⟨zT,HU,hS⟩:=cS hS
   refine Zu (tU (vs:=[.agg #[str cW.path,i64 cW.mode,str cW.data]]) (caps:=[ptr dO 0]) ((MD cW dO dH).out HU) rfl rfl (fun _ _=>rfl)) ?_
   refine ZX ?_
   refine iZ hS (fun h29 hS => ?_) (fun h29 hS => ?_)
   ·
    refine ZX ?_
    obtain ⟨MV,yN,yL,hS⟩:=gP hS
    refine Zu (lK (s:=fJ) Tryz.underlying26 kN rfl rfl yN (bR yN yL)) ?_
    refine VL.oC (s:=fJ) (T:=78) (j:=0) (vc:=[str cW.path,i64 cW.mode,str cW.data]) (⟨cW.path,cW.mode,cW.data⟩:aC) (by decide) rfl rfl yL rfl kN rfl rfl (Nat.le_of_ble_eq_true rfl) rfl (fun w12 hw12 haw12 hcw12 hvw12 hbw12 how12 => ?_)
    rw [← hvw12]
    replace hS:=dZ hw12 hS
    refine Zl ?_
    refine VC.aV [0,1,5,6] ?_
    obtain ⟨b35,hS⟩:=bM hS
    refine Zr (ZX ?_)
    refine VL.mt (w12,(jC+1)) [0,1,5,6] (fun _ _ h=>h) hS rfl
   refine VC.rY (fJ,jC) [0,1,5,6] (fun _ _ h=>h) hS rfl
  rintro ⟨D5,DE⟩ hS
  obtain ⟨b21,hS⟩:=bM hS
  refine Zr (ZX ?_)
  refine VL.kL (D5,DE,(oJ+1)) [0,1,5,6] (fun _ _ h=>h) (go2 hS hK1) rfl
 replace hS:=kS hS hK1
 refine Zx ?_
 obtain ⟨b38,hS⟩:=bM hS
 refine ZX ?_
 refine VL.fits (s:=fJ) (e:=78) Fo.out fun CX => ?_
 refine Zu (F3 (s:=fJ) Tryz.underlying26 kN rfl rfl b38.1 b38.2 CX) ?_
 refine VL.aDv (s:=fJ) (i:=jC.toNat) (.agg #[str [],i64 0,str []]) Tryz.underlying26 aNi rfl rfl rfl (by have:=b38; dsimp only at this ⊢; omega) Fo.out fun MN H6 IP => ?_
 replace hS:=dZ H6 hS
 refine Zl ?_
 refine VC.aV [0,5] (ZX ?_)
 refine Zu (XS (s:=fJ) (q:=MN) Tryz.underlying26 kN rfl rfl b38.1 b38.2 CX IP) ?_
 exact ZE hS
instance aPN (dX:Sv aC) (p_1:bH) :
 jZ Tryz.prog 30 [dX.val,str p_1] (Sh.oG dX.l p_1) dX.ok (X:=Sv aC) (fun x=>x.val) (fun x=>x.l) (fun x=>x.ok):=by
 refine j6 Tryz.func30 Tryz.ntmps30 fun r hS c => ?_
 unfold Sh.oG at hS
 refine cI (kU fun uO=>ZX ?_)
 refine fM hS rfl fun aPv hS=>ZX ?_
 refine fM hS rfl fun IG hS => ?_
 refine VL.shut IG 78 (fun _ _ _ _=>trivial) ?_
 exact ZE hS
end Go.Proofs.YtgdabkldgphdeaaGreatDoor
end

section
set_option linter.unusedVariables false
namespace Go.Proofs.YtgdabkldgphdeaaGreatDoor
set_option maxHeartbeats 4000000
set_option maxRecDepth 100000
set_option synthInstance.maxSize 2000
set_option synthInstance.maxHeartbeats 1000000
open Go.RowKit Go.V
open Go.S
attribute [local irreducible] Go.V.Qt Go.V.VL Go.V.VC Go.V.I0 Go.S.gd Go.S.at_ Go.S.lt Go.S.jn Go.S.go Go.S.up Go.S.iter Sh.nA Sh.oF Sh.iN Sh.oG Sh.fP Sh.fN Sh.kK Sh.wQ Sh.CH Sh.pG Sh.mO Sh.wF Sh.wK Sh.uW Sh.pI Sh.BK Sh.tV Sh.BL Sh.qY Sh.jU Sh.AR Sh.qO Sh.DX Sh.xO Sh.zE Sh.rM Sh.vX Sh.yT Sh.N7 Sh.xP Sh.yE Sh.fG Sh.cK Sh.cX Sh.jW Sh.jQ Sh.iH Sh.l7 Sh.gA Sh.mL Sh.nC Sh.l8 Sh.BS Sh.BT
instance a6e (aA:aM) (dI:n4) :
 jZ Tryz.prog 90 [.agg (aJ aA).toArray,.agg #[str dI.verb,str dI.name,i64 dI.n,str dI.text,.bool dI.force,dI.todo.val]] (Sh.N7 aA.pl dI.pl) (aA.m.and dI.todo.ok) (X:=aM×Er) (fun x => .tuple #[.agg (bD.enc x.1).toArray,x.2.val]) (fun x=>(x.1.pl,x.2.pl)) (fun x=>(x.1.m.and x.2.ok)):=by
 refine j6 Tryz.func90 Tryz.ntmps90 fun r hS c => ?_
 unfold Sh.N7 at hS
 refine cI ?_
 refine qA (aJ aA) fun iV => ?_
 refine kU fun gL=>dJ fun CW=>ZX ?_
 refine Zq (ZX ?_)
 refine jK hS rfl fun uB hS=>ZX ?_
 refine VC.aV [2,3,4,17] (iZ hS (fun h17 hS => ?_) (fun h17 hS => ?_))
 ·
  refine ZX ?_
  cases hS
  exact VC.ret (Z4 (aA,(Er.no 5)) rfl)
 refine ZX ?_
 refine fR hS rfl fun aGR hS=>ZX ?_
 refine jK hS rfl fun aA6 hS=>ZX ?_
 refine dJ fun a6U=>ZO ?_
 refine Zl ?_
 refine VC.aV [2,3,4,6,8] (ZX ?_)
 refine jK hS rfl fun aHG hS=>ZX ?_
 refine dJ fun bAK=>ZO ?_
 refine Zl ?_
 refine VC.aV [2,3,4,6,8,10] (Zq ?_)
 refine VC.cJ [2,3,4] (fun (YC:Bool)=>YC) (fun YC ρ=>(68,.bool YC)::ρ) hS ?_ ?_
 ·
  intro k11 hS
  refine iB [(0,true),(1,true),(2,true),(3,true),(4,true),(5,true),(6,true),(7,true),(8,true),(10,true),(11,true),(9,false),(12,true),(13,true),(14,true),(15,true),(16,true),(17,true),(18,true),(19,true),(20,true),(21,true),(22,true),(23,true),(24,true),(25,true),(26,true),(27,true),(28,true)] ?_
  refine ZX ?_
  refine VD.split 43 rfl (fun h43 => ?_) (fun h43 => ?_)
  ·
   replace hS:=IB h43 hS
   refine ZX ?_
   refine VD.split 46 rfl (fun h46 => ?_) (fun h46 => ?_)
   ·
    replace hS:=IB h46 hS
    refine ZX ?_
    refine VD.aXN (D':=[(11,undef),(10,undef),(7,undef)]) rfl rfl rfl (by decide) (by decide) (by kernel_rfl) (bT.aFR rfl rfl rfl rfl (bT.aFR rfl rfl rfl rfl (bT.aFR rfl rfl rfl rfl (bT.nil)))) ?_
    refine ZX ?_
    refine VD.gu rfl rfl rfl (by decide) ?_
    refine VD.gu rfl rfl rfl (by decide) ?_
    refine VD.gu rfl rfl rfl (by decide) ?_
    refine VD.gu rfl rfl rfl (by decide) ?_
    refine VD.gu rfl rfl rfl (by decide) ?_
    refine VD.gu rfl rfl rfl (by decide) ?_
    refine VD.gu rfl rfl rfl (by decide) ?_
    refine VD.gu rfl rfl rfl (by decide) ?_
    exact ZE hS
   replace hS:=aLa h46 hS
   refine ZX ?_
   refine VD.a6b rfl rfl rfl ?_
   refine VL.guard rfl rfl ?_
   refine fR hS rfl fun aTG hS => ?_
   refine QT [(11,str dI.name),(10,ptr gL 1),(7,aGR.val)] (bT.aI6 rfl rfl rfl (lB mF rfl rfl) (bT.aI6 rfl rfl rfl (bU aFf rfl) (bT.aI6 rfl rfl rfl (fQ rfl) bT.nil))) ?_
   obtain ⟨aQk,aV0,hS⟩:=cS hS
   refine Zi rfl (dU ((Y9 aGR aTG dI.name).out aV0) rfl (fun _ _=>rfl)) ?_
   refine ZX ?_
   refine VD.split 55 rfl (fun h55 => ?_) (fun h55 => ?_)
   ·
    replace hS:=IB h55 hS
    refine ZX ?_
    refine VD.gu rfl rfl rfl (by decide) ?_
    refine VD.gu rfl rfl rfl (by decide) ?_
    refine VD.gu rfl rfl rfl (by decide) ?_
    refine VD.gu rfl rfl rfl (by decide) ?_
    refine VD.gu rfl rfl rfl (by decide) ?_
    refine VD.gu rfl rfl rfl (by decide) ?_
    refine VD.gu rfl rfl rfl (by decide) ?_
    refine VD.gu rfl rfl rfl (by decide) ?_
    exact ZE hS
   replace hS:=aLa h55 hS
   refine ZX ?_
   refine VD.split 57 rfl (fun h57 => ?_) (fun h57 => ?_)
   ·
    replace hS:=IB h57 hS
    refine ZX ?_
    obtain ⟨aQy,aVa,hS⟩:=cS hS
    refine Zi rfl (dU ((Y9 aGR aA.aY dI.name).out aVa) rfl (fun _ _=>rfl)) ?_
    exact ZE hS
   replace hS:=aLa h57 hS
   exact ZE hS
  replace hS:=aLa h43 hS
  refine ZX ?_
  refine VD.gu rfl rfl rfl (by decide) ?_
  refine VD.gu rfl rfl rfl (by decide) ?_
  refine VD.gu rfl rfl rfl (by decide) ?_
  refine VD.gu rfl rfl rfl (by decide) ?_
  refine VD.bAd (D':=[(11,undef),(10,undef),(7,undef)]) rfl rfl rfl (by decide) (by kernel_rfl) (bT.aN0 rfl rfl rfl (bT.aN0 rfl rfl rfl (bT.aN0 rfl rfl rfl (bT.nil)))) ?_
  refine VD.gu rfl rfl rfl (by decide) ?_
  refine VD.gu rfl rfl rfl (by decide) ?_
  refine ZX ?_
  refine VD.gu rfl rfl rfl (by decide) ?_
  refine VD.gu rfl rfl rfl (by decide) ?_
  refine VD.gu rfl rfl rfl (by decide) ?_
  refine VD.gu rfl rfl rfl (by decide) ?_
  refine VD.gu rfl rfl rfl (by decide) ?_
  refine VD.gu rfl rfl rfl (by decide) ?_
  refine VD.gu rfl rfl rfl (by decide) ?_
  refine VD.gu rfl rfl rfl (by decide) ?_
  refine VD.gu rfl rfl rfl (by decide) ?_
  refine VD.gu rfl rfl rfl (by decide) ?_
  refine VD.gu rfl rfl rfl (by decide) ?_
  exact ZE hS
 rintro YC hS
 refine iZ hS (fun h68 hS => ?_) (fun h68 hS => ?_)
 ·
  refine ZX ?_
  cases hS
  exact VC.ret (Z4 (aA,(Er.no 8)) rfl)
 refine Zk ?_
 refine Zq ?_
 refine iB [(0,true),(1,true),(2,true),(3,true),(4,true),(6,true),(7,true),(8,true),(9,true),(10,true),(5,false),(12,true),(13,true),(11,false),(14,false),(15,true),(16,true),(17,false)] ?_
 refine ZX ?_
 refine VD.one rfl (fR hS rfl fun aT8 hS=>eO (Pk 10 (Pk 9 (Pk 8 (Pk 7 (Pk 6 Pz))))) ?_)
 refine ZX ?_
 refine VD.one rfl (fR hS rfl fun aTf hS=>eO (Pk 13 (Pk 12 Pz)) ?_)
 refine VD.one rfl (ZX ?_)
 refine eV ?_
 refine ZX ?_
 refine VD.one rfl (ZX ?_)
 refine eV ?_
 refine uD ?_
 refine VC.aV [2,4] (ZX ?_)
 cases hS
 exact VC.ret (Z4 (⟨aTf,aT8,aA.bA,aA.aI,aA.aG,aA.aS,aA.aO,aA.aT,aA.aN,aA.aP,aA.aQ,aA.aK,aA.aD,aA.aE,aA.aL,aA.aR,aA.aX,aA.bC,aA.bE,aA.aZ,aA.time⟩,.nil) rfl)
theorem WE (s:Sv bH) (hb:s.l.length≤4294967296):Ct Tryz.prog 232 [s.val] Mo.tt (s.own 9) (X:=Sv bH) (fun _ => .tuple #[]) (fun q=>q.l=Go.S.tD s.l∧q.val=s.val) (fun _=>Mo.tt) (fun q=>q.own 9) :=
  Ct.sort (x9 Tryz.func232 rfl (by kernel_rfl)) (fun blk off cap ss w hH hb hs=>Tryz.slices_Sort_string blk off cap ss w hH hb hs) (fun p cap w=>Tryz.slices_Sort_string_none p cap w) s 9 hb
theorem NF (s:Sv bH) (hb:s.l.length≤4294967296):Ct Tryz.prog 233 [s.val] Mo.tt (s.own 9) (X:=Sv bH) (fun q=>q.val) (fun q=>q.l=Go.S.oR s.l) (fun _=>Mo.tt) (fun q=>q.own 9) :=
  Ct.compact (x9 Tryz.func233 rfl (by kernel_rfl)) (fun blk off cap ss w hH hb hs=>Tryz.slices_Compact_string blk off cap ss w hH hb hs) (fun p cap w=>Tryz.slices_Compact_string_empty p cap w) s 9 hb
instance aNI (dR:Sv aH) :
 vL Tryz.prog 159 [dR.val] (Sh.kK dR.l) dR.ok (Ow.emp) (X:=Sv bH) (fun x=>x.val) (fun x=>x.l) (fun x=>Mo.tt) (fun x=>Sv.own x 9):=by
 refine v8 Tryz.func159 Tryz.ntmps159 fun r hS c => ?_
 unfold Sh.kK at hS
 refine ZX ?_
 refine Zq (ZX ?_)
 refine Zb ?_
 refine VC.mR (⟨none,0,[]⟩:Sv bH) 9 ⟨rfl,rfl⟩ ?_
 refine VC.iter (S:=Sv bH×Int) (fun sg=>(sg.1.l,sg.2)) (fun sg=>[(3,sg.1.val),(6,dR.val),(7,i64 (dR.l.length:Int)),(8,i64 sg.2)]) (fun sg=>Mo.tt) (fun sg=>Ow.star (Sv.own sg.1 9) (Ow.emp)) (⟨none,0,[]⟩,0) [3,6,7,8] hS rfl ?_
 rintro ⟨oB,vK⟩ m1 y1 hS hK1
 refine ZX ?_
 refine Zq (Zc hS (fun h9 hS => ?_) (fun h9 hS => ?_))
 ·
  refine Zk ?_
  refine Zq (Zb (cI ?_))
  obtain ⟨wP,O1,KF,hS⟩:=gP hS
  refine Zu (jA (s:=dR) Tryz.underlying27 oH rfl rfl O1 (bR O1 KF)) (Zu (nF  (s:=dR) F1 rfl rfl KF) ?_)
  refine dJ fun a6R=>ZX ?_
  refine oD hS (fun h14 hS => ?_) (fun h14 hS => ?_)
  ·
   refine Zr (ZX ?_)
   refine mS hS fun a8I hS=>HM hS fun P0 hS => ?_
   refine Za ?_
   refine Zl ?_
   refine VC.aV [3,6,7,8] ?_
   obtain ⟨b20,hS⟩:=bM hS
   refine Zr (ZX ?_)
   refine VL.kL (P0,(vK+1)) [3,6,7,8] (fun _ _ h=>h) (go2 hS hK1) rfl
  refine Zk ?_
  refine VC.aV [3,6,7,8] ?_
  obtain ⟨b20,hS⟩:=bM hS
  refine Zr (ZX ?_)
  refine VL.kL (oB,(vK+1)) [3,6,7,8] (fun _ _ h=>h) (go2 hS hK1) rfl
 replace hS:=kS hS hK1
 refine Zx ?_
 obtain ⟨b22,hS⟩:=bM hS
 refine ZX ?_
 refine VL.oE (WE oB b22) rfl (by decide) ?_
 rintro a89 ⟨a2M,a4B⟩
 try dsimp only
 rw [← a4B]
 replace hS:=dZ a2M hS
 obtain ⟨b24,hS⟩:=bM hS
 refine ZX ?_
 refine VL.oE (NF a89 b24) rfl (by decide) ?_
 rintro bCV aWn
 try dsimp only
 replace hS:=dZ aWn hS
 exact ZE hS
instance XX (iQ:Sv aC) (jV:Sv aC) :
 gF Tryz.prog 68 [iQ.val,jV.val] (Sh.gA iQ.l jV.l) (iQ.ok.and jV.ok) (fun r => .bool r):=by
 refine gM Tryz.func68 Tryz.ntmps68 fun r hS c => ?_
 unfold Sh.gA at hS
 refine ZX ?_
 refine Zq (ZX ?_)
 refine oD hS (fun _ hS=>ZE hS) fun h10 hS=>Zk ?_
 refine Zq (ZX ?_)
 refine VC.aV [0,1,12,13] (Zb ?_)
 refine VC.iJ [0,1,12] (fun (jP:Int)=>jP) (fun jP ρ=>(13,i64 jP)::ρ) 0 [13,0,1,12] hS ?_
 rintro jP m1 y1 hS hK1
 refine ZX ?_
 refine Zq (Zc hS (fun h14 hS => ?_) (fun h14 hS => ?_))
 ·
  refine Zk ?_
  refine Zq (Zb (ZX ?_))
  refine Zq ?_
  refine iB ((List.range 9).map fun k=>(k,true)) ?_
  refine ZX ?_
  refine aDt hS rfl fun sO OV hS => ?_
  refine ZX ?_
  refine aDt hS rfl fun vY XK hS => ?_
  refine ZX ?_
  refine Zw rfl (aBk aPS (aPU sO.path sO.mode sO.data vY.path vY.mode vY.data) rfl rfl) ?_
  exact ZE hS
 exact ZE hS
instance qK (dX:Sv aC) (q_1:Sv aC) :
 gF Tryz.prog 35 [dX.val,q_1.val] (Sh.fN dX.l q_1.l) (dX.ok.and q_1.ok) (fun r => .bool r):=by
 refine gM Tryz.func35 Tryz.ntmps35 fun r hS c => ?_
 unfold Sh.fN at hS
 exact ZE hS
instance T7 (dX:cY) (n_1:bH) :
 gF Tryz.prog 303 [.agg #[str dX.name,i64 dX.cC],str n_1] (Sh.BL dX n_1) Mo.tt (fun r=>i64 r):=by
 refine gM Tryz.func303 Tryz.ntmps303 fun r hS c => ?_
 unfold Sh.BL at hS
 refine cI ?_
 exact kU fun iV=>ZE hS
instance LZ (iX:Sv cY) (uA:bH) :
 gF Tryz.prog 302 [iX.val,str uA,.func (.func 303) #[] #[]] (Sh.fG iX.l uA) iX.ok (fun r => .tuple #[i64 r.1,.bool r.2]):=by
 refine gM Tryz.func302 Tryz.ntmps302 fun r hS c => ?_
 unfold Sh.fG at hS
 refine ZX ?_
 refine Zq (Zb ?_)
 refine VC.iJ [0,1,2,8] (fun (sg:Int×Int)=>(sg.1,sg.2)) (fun sg ρ=>(9,i64 sg.1)::(10,i64 sg.2)::ρ) (0,(iX.l.length:Int)) [9,10,0,1,2,8] hS ?_
 rintro ⟨xF,xI⟩ m1 y1 hS hK1
 refine Zq (ZX ?_)
 refine Zc hS (fun h17 hS => ?_) (fun h17 hS => ?_)
 ·
  obtain ⟨b20,hS⟩:=bM hS
  refine Zk ?_
  refine Zb (ZX ?_)
  refine Zu (z7 Tryz.underlying3 Tryz.underlying250 rfl) ?_
  refine Zu (aG5 rfl rfl (by decide)) ?_
  refine Zu (z7 Tryz.underlying250 Tryz.underlying3 rfl) (Za ?_)
  refine Zl ?_
  refine VC.aV [0,1,2,8,9,10,11] (ZX ?_)
  refine yH hS rfl fun aAc a2W hS=>ZX ?_
  obtain ⟨QG,aIh,hS⟩:=cS hS
  refine Zu (oL ((T7 aAc uA).out aIh) rfl rfl (fun _ _=>rfl)) ?_
  refine ZX ?_
  refine VC.aV [0,1,2,8,9,10,11,31] (Zc hS (fun h31 hS => ?_) (fun h31 hS => ?_))
  ·
   obtain ⟨b33,hS⟩:=bM hS
   refine Zr (ZX ?_)
   refine VL.kL (((IntKind.wrap .i64 (GS .u64 (IntKind.wrap .u64 (xF+xI)) 1))+1),xI) [9,10,0,1,2,8] (fun _ _ h=>h) (go2 hS hK1) rfl
  refine Zr (ZX ?_)
  refine VL.kL (xF,(IntKind.wrap .i64 (GS .u64 (IntKind.wrap .u64 (xF+xI)) 1))) [9,10,0,1,2,8] (fun _ _ h=>h) (go2 hS hK1) rfl
 replace hS:=kS hS hK1
 refine Zx ?_
 refine cI (Zm ?_)
 refine Zm (Zm (Zu (rW rfl rfl) (Zm ?_)))
 refine nT 39 hS (fun h39 hS => ?_) (fun h39 hS => ?_)
 ·
  refine ZX ?_
  refine aK1 hS rfl fun aAd a2Z hS=>ZX ?_
  obtain ⟨aHJ,aIk,hS⟩:=cS hS
  refine Zh (oL ((T7 aAd uA).out aIk) rfl rfl (fun _ _=>rfl)) ?_
  exact ZE hS
 exact ZE hS
instance aH8 (aA:aM) (iS:bH) :
 gF Tryz.prog 244 [.agg (aJ aA).toArray,str iS] (Sh.tV aA.pl iS) aA.m (fun r => .tuple #[i64 r.1,.bool r.2]):=by
 refine gM Tryz.func244 Tryz.ntmps244 fun r hS c => ?_
 unfold Sh.tV at hS
 exact ZE hS
instance aBm (aA:aM) :
 gF Tryz.prog 250 [.agg (aJ aA).toArray] (Sh.uW aA.pl) aA.m (fun r => .bool r):=by
 refine gM Tryz.func250 Tryz.ntmps250 fun r hS c => ?_
 unfold Sh.uW at hS
 exact ZE hS
instance a0M (aA:aM) :
 gF Tryz.prog 234 [.agg (aJ aA).toArray] (Sh.xP aA.pl) aA.m (fun r => .bool r):=by
 refine gM Tryz.func234 Tryz.ntmps234 fun r hS c => ?_
 unfold Sh.xP at hS
 refine cI ?_
 refine qA (aJ aA) fun hG => ?_
 refine Za ?_
 refine Zl ?_
 refine cI (Zu (bU aBC rfl) ?_)
 refine Zu (lB aEY rfl rfl) (Zu (vV bY.pl (s:=aA.bC) Tryz.underlying38 rfl) (Zu (rW rfl rfl) (Zm ?_)))
 refine nT 7 hS (fun h7 hS => ?_) (fun h7 hS => ?_)
 ·
  refine ZX ?_
  obtain ⟨IZ,a7G,hS⟩:=cS hS
  refine Zh (dU ((aBm aA).out a7G) rfl (fun _ _=>rfl)) ?_
  exact ZE hS
 exact ZE hS
instance N6 (n_0:Int) :
 gF Tryz.prog 297 [i64 n_0] (Sh.vX n_0) Mo.tt (fun r => .bool r):=by
 refine gM Tryz.func297 Tryz.ntmps297 fun r hS c => ?_
 unfold Sh.vX at hS
 exact ZE hS
instance L0 (aA:Sv Int) :
 gF Tryz.prog 338 [aA.val,.func (.func 297) #[] #[]] (Sh.mL aA.l) aA.ok (fun r=>i64 r):=by
 refine gM Tryz.func338 Tryz.ntmps338 fun r hS c => ?_
 unfold Sh.mL at hS
 refine ZX ?_
 refine Zq (ZX ?_)
 refine Zb ?_
 refine VC.iJ [0,1,7] (fun (dL:Int)=>dL) (fun dL ρ=>(8,i64 dL)::ρ) 0 [8,0,1,7] hS ?_
 rintro dL m1 y1 hS hK1
 refine ZX ?_
 refine Zq (Zc hS (fun h9 hS => ?_) (fun h9 hS => ?_))
 ·
  refine Zk ?_
  refine Zq (Zb (ZX ?_))
  refine yH hS rfl fun fD pF hS=>ZX ?_
  obtain ⟨mW,uE,hS⟩:=cS hS
  refine Zu (oL ((N6 fD).out uE) rfl rfl (fun _ _=>rfl)) ?_
  exact ZE hS
 exact ZE hS
instance aEC (aA:Sv Int) :
 vL Tryz.prog 296 [aA.val,.func (.func 297) #[] #[]] (Sh.l7 aA.l) Mo.tt (Sv.own aA 3) (X:=Sv Int) (fun x=>x.val) (fun x=>x.l) (fun x=>Mo.tt) (fun x=>Sv.own x 3):=by
 refine v8 Tryz.func296 Tryz.ntmps296 fun r hS c => ?_
 unfold Sh.l7 at hS
 refine ZX ?_
 obtain ⟨dK,HT,hS⟩:=cS hS
 refine Zu (l6 ((L0 aA).out HT) rfl (fun _ _=>rfl)) ?_
 refine ZX ?_
 refine Zq (ZX ?_)
 refine Zc hS (fun _ hS=>ZE hS) fun h12 hS => ?_
 obtain ⟨b15,hS⟩:=bM hS
 refine Zk ?_
 refine Zq (ZX ?_)
 refine VC.aV [0,1,5,6] (Zb ?_)
 refine VC.iter (S:=Sv Int×Int×Int) (fun sg=>(sg.1.l,sg.2.1,sg.2.2)) (fun sg=>[(0,sg.1.val),(1,.func (.func 297) #[] #[]),(5,i64 sg.2.1),(6,i64 sg.2.2)]) (fun sg=>Mo.tt) (fun sg=>Ow.star (Sv.own sg.1 3) (Ow.emp)) (aA,dK,(dK+1)) [0,1,5,6] hS rfl ?_
 rintro ⟨fJ,jC,oJ⟩ m1 y1 hS hK1
 refine Zq (ZX ?_)
 refine Zc hS (fun h19 hS => ?_) (fun h19 hS => ?_)
 ·
  refine Zk ?_
  refine VC.u5 (S:=Sv Int×Int) (fun sg=>(sg.1.l,sg.2)) (fun sg=>[(0,sg.1.val),(1,.func (.func 297) #[] #[]),(5,i64 sg.2),(6,i64 oJ)]) (fun sg=>Mo.tt) (fun sg=>Ow.star (Sv.own sg.1 3) (Ow.emp)) hS ?_ ?_
  ·
   intro k7 hS
   refine Zb (ZX ?_)
   obtain ⟨cW,yM,xY,hS⟩:=gP hS
   refine Zu (lK (s:=fJ) Tryz.underlying57 E3 rfl rfl yM (bR yM xY)) (Zu (II (s:=fJ) 3 o5 rfl xY rfl) (Za ?_))
   refine Zl ?_
   refine VC.aV [0,1,5,6,7] (ZX ?_)
   obtain ⟨aHD,aIf,hS⟩:=cS hS
   refine Zu (oL ((N6 cW).out aIf) rfl rfl (fun _ _=>rfl)) ?_
   refine ZX ?_
   refine iZ hS (fun h29 hS => ?_) (fun h29 hS => ?_)
   ·
    refine ZX ?_
    obtain ⟨a5z,aLp,aLP,hS⟩:=gP hS
    refine Zu (lK (s:=fJ) Tryz.underlying57 E3 rfl rfl aLp (bR aLp aLP)) ?_
    refine VL.oC (s:=fJ) (T:=3) (j:=0) (vc:=[i64 cW]) (cW:Int) (by decide) rfl rfl aLP rfl E3 rfl rfl (Nat.le_of_ble_eq_true rfl) rfl (fun w11 hw11 haw11 hcw11 hvw11 hbw11 how11 => ?_)
    rw [← hvw11]
    replace hS:=dZ hw11 hS
    refine Zl ?_
    refine VC.aV [0,1,5,6] ?_
    obtain ⟨b35,hS⟩:=bM hS
    refine Zr (ZX ?_)
    refine VL.mt (w11,(jC+1)) [0,1,5,6] (fun _ _ h=>h) hS rfl
   refine VC.rY (fJ,jC) [0,1,5,6] (fun _ _ h=>h) hS rfl
  rintro ⟨D5,DE⟩ hS
  obtain ⟨b21,hS⟩:=bM hS
  refine Zr (ZX ?_)
  refine VL.kL (D5,DE,(oJ+1)) [0,1,5,6] (fun _ _ h=>h) (go2 hS hK1) rfl
 replace hS:=kS hS hK1
 refine Zx ?_
 obtain ⟨b38,hS⟩:=bM hS
 refine ZX ?_
 refine VL.fits (s:=fJ) (e:=3) Fo.out fun aPM => ?_
 refine Zu (F3 (s:=fJ) Tryz.underlying57 E3 rfl rfl b38.1 b38.2 aPM) ?_
 refine VL.aDv (s:=fJ) (i:=jC.toNat) (i64 0) Tryz.underlying57 bAZ rfl rfl rfl (by have:=b38; dsimp only at this ⊢; omega) Fo.out fun a3t aWm aYu => ?_
 replace hS:=dZ aWm hS
 refine Zl ?_
 refine VC.aV [0,5] (ZX ?_)
 refine Zu (XS (s:=fJ) (q:=a3t) Tryz.underlying57 E3 rfl rfl b38.1 b38.2 aPM aYu) ?_
 exact ZE hS
instance RO (aA:aM) (B5:Int) :
 vL Tryz.prog 236 [.agg (aJ aA).toArray,i64 B5] (Sh.rM aA.pl B5) aA.m (Ow.emp) (X:=Sv Int) (fun x=>x.val) (fun x=>x.l) (fun x=>Mo.tt) (fun x=>Sv.own x 3):=by
 refine v8 Tryz.func236 Tryz.ntmps236 fun r hS c => ?_
 unfold Sh.rM at hS
 refine cI ?_
 refine qA (aJ aA) fun iV => ?_
 refine ZX ?_
 refine VL.aLg (α:=Int) (xs:=[.tmp 8,.tmp 9]) (vs:=[i64 aA.aG,i64 B5]) [aA.aG,B5] Tryz.underlying57 aWY (by decide) rfl rfl rfl rfl (by decide) (by decide) (fun bCk a1m => ?_) (by decide)
 replace hS:=dZ a1m hS
 exact ZE hS
instance rZ (aA:Sv bY) :
 vL Tryz.prog 295 [aA.val] (Sh.iH (aA.l.map bY.pl)) aA.ok (Ow.emp) (X:=Sv bY) (fun x=>x.val) (fun x=>(x.l.map bY.pl)) (fun x=>(rK x.l)) (fun x=>Sv.own x 59):=by
 refine v8 Tryz.func295 Tryz.ntmps295 fun r hS c => ?_
 unfold Sh.iH at hS
 refine ZX ?_
 refine Zq (ZX ?_)
 refine Zu (LG (s:=aA) Tryz.underlying38 rfl) ?_
 refine Zl ?_
 refine VC.slnil (s:=aA) rfl (fun h4 => ?_) ?_
 ·
  have hS:(some [])=some r:=by
    simp [lt,gd,h4] at hS ⊢
    try exact hS
  refine cI (Za ?_)
  refine Zl ?_
  refine VC.mR (⟨none,0,[]⟩:Sv bY) 59 ⟨rfl,rfl⟩ ?_
  refine VC.aAM (s:=(⟨none,0,[]⟩:Sv bY)) rfl ?_
  cases hS
  exact VC.ret (Z1 ⟨none,0,[]⟩)
 refine ZX ?_
 refine VL.aEA (α:=bY) Tryz.underlying38 a18 (by decide) (fun ME wE BF => ?_)
 refine VL.mR ME 59 ⟨BF,wE⟩ ?_
 refine VL.aAM wE ?_
 replace hS:=dZ (congrArg (List.map bY.pl) wE) hS
 obtain ⟨b7,hS⟩:=bM hS
 refine Zm ?_
 refine VL.app (s:=ME) (r:=aA) Tryz.underlying38 aBA (by decide) rfl Fo.out (ap1 (apm b7)) (ap2 (apm b7) (by decide)) (by decide) (fun bDS aWl => ?_)
 replace hS:=dZ ((congrArg (List.map bY.pl) aWl).trans List.map_append) hS
 refine VL.aAL aWl ?_
 exact ZE hS
instance YY (aA:Sv cY) :
 vL Tryz.prog 243 [aA.val] (Sh.jQ aA.l) aA.ok (Ow.emp) (X:=Sv cY) (fun x=>x.val) (fun x=>x.l) (fun x=>Mo.tt) (fun x=>Sv.own x 76):=by
 refine v8 Tryz.func243 Tryz.ntmps243 fun r hS c => ?_
 unfold Sh.jQ at hS
 refine ZX ?_
 refine Zq (ZX ?_)
 refine Zu (LG (s:=aA) Tryz.underlying28 rfl) ?_
 refine Zl ?_
 refine VC.slnil (s:=aA) rfl (fun h4 => ?_) ?_
 ·
  have hS:(some [])=some r:=by
    simp [lt,gd,h4] at hS ⊢
    try exact hS
  refine cI (Za ?_)
  refine Zl ?_
  refine VC.mR (⟨none,0,[]⟩:Sv cY) 76 ⟨rfl,rfl⟩ ?_
  cases hS
  exact VC.ret (Z1 ⟨none,0,[]⟩)
 refine ZX ?_
 refine VL.aEA (α:=cY) Tryz.underlying28 a19 (by decide) (fun ME wE BF => ?_)
 refine VL.mR ME 76 ⟨BF,wE⟩ ?_
 replace hS:=dZ wE hS
 exact ZE hS
theorem aI8 (s:Sv cY) (i j:Int) (hi:0≤i∧i≤j∧j≤(s.l.length:Int)):Ct Tryz.prog 245 [s.val,i64 i,i64 j] Mo.tt (s.own 76) (X:=Sv cY) (fun q=>q.val) (fun q=>q.l=s.l.take i.toNat++s.l.drop j.toNat) (fun q=>Mo.tt) (fun q=>q.own 76):=by
 refine Zo Tryz.func245 Tryz.ntmps245 fun c => ?_
 obtain ⟨i0,ij,jl⟩:=hi
 have hK:bD.sz cY=2:=rfl
 refine VC.seq (VC.region ?_)
 refine Za ?_
 refine Zl ?_
 refine VC.seq (VC.region ?_)
 refine ZX ?_
 refine VL.fits (s:=s) (e:=76) Fo.out fun hf => ?_
 refine Zu (LV (s:=s) (lo':=some i) (hi':=some j) (mx':=some (s.l.length:Int)) i.toNat j.toNat s.l.length Tryz.underlying28 vT rfl rfl rfl rfl (by simp; omega) (by simp; omega) (by simp) (fun _=>rfl) (by omega) (by omega) hf (by omega)) ?_
 refine Zl ?_
 refine VC.seq (VC.seq (VC.region ?_))
 refine ZX ?_
 refine VC.nV rfl (fun hij => ?_) (fun hij => ?_)
 ·
  refine VC.seq (VC.region ?_)
  refine ZX ?_
  exact VC.ret (HV (.inr rfl) rfl rfl s rfl (by rw [hij,List.take_append_drop]) (fun _ _=>trivial) fK.out)
 have hLn:(s.l.take i.toNat++s.l.drop j.toNat).length=i.toNat+(s.l.length - j.toNat):=by simp only [List.length_append,List.length_take,List.length_drop]; omega
 refine Zk ?_
 refine VC.seq (VC.region ?_)
 refine VL.open (s:=s) (e:=76) Fo.out (by omega) fun b cs hsa hcl hct _ hcm => ?_
 rw [hK] at hcl hct
 refine ZX ?_
 obtain ⟨o2,ho2,hoj⟩ : ∃ o2,(s.sub j.toNat s.l.length s.c).val = .slice (some ⟨b,o2,none⟩) (s.l.length - j.toNat) (s.c - j.toNat)∧(j.toNat < s.c→o2=j.toNat*2):=by
   simp only [Sv.val,Sv.sub,hsa,hK]
   split
   . exact ⟨0,by simp,fun h=>by omega⟩
   . exact ⟨j.toNat*2,by simp [Addr.add]; omega,fun _=>rfl⟩
 have lS:((s.l.drop j.toNat).flatMap bD.enc).length=(s.l.length - j.toNat)*2:=by rw [iD,List.length_drop,hK]
 have lA:((s.l.take i.toNat).flatMap bD.enc).length=i.toNat*2:=by rw [iD,List.length_take,hK,Nat.min_eq_left (by omega)]
 have hw : ∀ k,k≤s.l.length→k*2≤s.l.length*2:=fun k h=>Nat.mul_le_mul_right _ h
 have hcK:s.l.length*2≤s.c*2:=Nat.mul_le_mul_right _ hf
 refine Zq ?_
 refine iB [(0,true),(1,true),(2,true),(3,true),(4,true),(5,true),(6,false),(7,true)] ?_
 refine ZX ?_
 refine Zw rfl (PX (a0:=s.a) (L:=s.l.length) (C:=s.c) (K:=2) Tryz.underlying28 vT rfl rfl i0 (by omega)) ?_
 refine ZX ?_
 refine Zw rfl (F3 (s:=s) Tryz.underlying28 vT rfl rfl (by omega) jl hf) ?_
 refine VD.one rfl ?_
 refine VL.a6N (b:=b) (L:=i.toNat) (C:=s.c) (m:=s.l.length - j.toNat) (c2:=s.c - j.toNat) (o2:=o2) (K:=2) (src:=(s.l.drop j.toNat).flatMap bD.enc) Tryz.underlying28 vT pZ.out (by rw [← ho2,← hsa]; rfl) (fun k v hk=>by
   by_cases hjc:j.toNat < s.c
   . rw [hoj hjc]
     rw [← CF,hK,List.getElem?_drop,← hct] at hk
     rw [List.getElem?_take] at hk
     split at hk
     . exact hk
     . cases hk
   . have:s.l.drop j.toNat=[]:=List.drop_of_length_le (by omega)
     rw [this] at hk; cases hk) lS (by omega) (by rw [lS,← Nat.add_mul]; exact Nat.le_trans (Nat.mul_le_mul_right _ (by omega)) hcl) (pO _) (by decide) ?_
 have hA:cs.take (i.toNat*2)=(s.l.take i.toNat).flatMap bD.enc:=by
   have:cs.take (i.toNat*2)=(cs.take (s.l.length*2)).take (i.toNat*2):=by rw [List.take_take,Nat.min_eq_left (hw _ (by omega))]
   rw [this,hct]
   exact rL s.l i.toNat
 rw [hA,lS,← Nat.add_mul]
 have hT:(s.l.take i.toNat++s.l.drop j.toNat++s.l.drop (i.toNat+(s.l.length - j.toNat))).length=s.l.length:=by rw [List.length_append,hLn,List.length_drop]; omega
 have hC2:s.c*2≤((s.l.take i.toNat).flatMap bD.enc++(s.l.drop j.toNat).flatMap bD.enc++cs.drop ((i.toNat+(s.l.length - j.toNat))*2)).length:=by
   rw [List.length_append,List.length_append,lA,lS,← Nat.add_mul,List.length_drop]
   have:=hw (i.toNat+(s.l.length - j.toNat)) (by omega)
   omega
 have hT2:((s.l.take i.toNat).flatMap bD.enc++(s.l.drop j.toNat).flatMap bD.enc++cs.drop ((i.toNat+(s.l.length - j.toNat))*2)).take ((s.l.take i.toNat++s.l.drop j.toNat++s.l.drop (i.toNat+(s.l.length - j.toNat))).length*2)=(s.l.take i.toNat++s.l.drop j.toNat++s.l.drop (i.toNat+(s.l.length - j.toNat))).flatMap bD.enc:=by
   rw [hT,List.flatMap_append,List.flatMap_append,List.take_append,List.length_append,lA,lS,← Nat.add_mul,List.take_of_length_le (by rw [List.length_append,lA,lS,← Nat.add_mul]; exact hw _ (by omega))]
   congr 1
   rw [← List.drop_take,hct]
   exact (CF s.l _)
 refine eV ?_
 refine ZD ?_
 refine uD ?_
 have hv:(Value.slice (some ⟨b,0,none⟩) (i.toNat+(s.l.length - j.toNat)) s.c)=(⟨some ⟨b,0,none⟩,s.c,s.l.take i.toNat++s.l.drop j.toNat⟩:Sv cY).val:=by simp only [Sv.val,hLn]
 rw [hv]
 have ho:=FR (F:=Ow.emp) (e:=76) (b:=b) (l':=s.l.take i.toNat++s.l.drop j.toNat++s.l.drop (i.toNat+(s.l.length - j.toNat))) (L:=s.l.length) hC2 hT2 hT hf hcm
 refine VC.seq (VC.region ?_)
 refine ZX ?_
 refine VL.a60 ho.2 ?_
 refine Zu (aEd (a0:=some ⟨b,0,none⟩) (L:=i.toNat+(s.l.length - j.toNat)) (C:=s.c) (K:=2) (lo':=some ((s.l.take i.toNat++s.l.drop j.toNat).length:Int)) (hi':=some (s.l.length:Int)) (i.toNat+(s.l.length - j.toNat)) s.l.length Tryz.underlying28 vT (by rw [← hv]; rfl) rfl rfl (by simp [hLn]) (by simp) (by omega) hf) ?_
 refine VL.aDv (s:=⟨some ⟨b,0,none⟩,s.c,s.l.take i.toNat++s.l.drop j.toNat++s.l.drop (i.toNat+(s.l.length - j.toNat))⟩) (i:=i.toNat+(s.l.length - j.toNat)) (.agg #[str [],i64 0]) Tryz.underlying28 a73 (by kernel_rfl) (by kernel_rfl) (by
   show some _=some _
   congr 2
   simp only [Sv.val,Sv.sub,hT,sliced,List.length_drop,List.length_take,hK]
   congr 1
   omega) (by simp only [hT]; omega) Fo.out fun q hq hqv => ?_
 have hql:q.l=s.l.take i.toNat++s.l.drop j.toNat:=by rw [hq]; exact List.take_left' hLn
 refine Zl ?_
 have hv2:(⟨some ⟨b,0,none⟩,s.c,s.l.take i.toNat++s.l.drop j.toNat⟩:Sv cY).val=q.val:=by rw [hqv,← hv]
 rw [hv2]
 refine VC.seq (VC.region ?_)
 refine ZX ?_
 exact VC.ret (HV (.inr rfl) rfl rfl q rfl hql (fun _ _=>trivial) fK.out)
theorem aJD (s v:Sv cY) (i:Int) (hi:0≤i∧i≤(s.l.length:Int)) (hv:v.l≠[]) (hb:s.l.length+v.l.length≤4294967296):Ct Tryz.prog 246 [s.val,i64 i,v.val] Mo.tt (Ow.star (s.own 76) (v.own 76)) (X:=Sv cY) (fun q=>q.val) (fun q=>q.l=s.l.take i.toNat++v.l++s.l.drop i.toNat) (fun q=>Mo.tt) (fun q=>q.own 76):=by
 refine Zo Tryz.func246 Tryz.ntmps246 fun c => ?_
 have hvp:0 < v.l.length:=List.length_pos_iff.2 hv
 have hK:bD.sz cY=2:=rfl
 refine ZX ?_
 refine VL.fits (s:=s) (e:=76) Fo.out fun hf => ?_
 refine Zu (F3 (s:=s) Tryz.underlying28 vT rfl rfl hi.1 hi.2 hf) ?_
 refine ZX ?_
 refine Zq (ZX ?_)
 refine VC.nV rfl (fun h16=>absurd h16 (by omega)) (fun h16 => ?_)
 refine ZX ?_
 refine Zq (ZX ?_)
 refine VC.nV rfl (fun h22 => ?_) (fun h22 => ?_)
 ·
  refine ZX ?_
  refine VL.shut v 76 (fun _ _ _ _=>trivial) ?_
  refine VL.aOt (s:=s) (r:=v) Tryz.underlying28 Tryz.underlying28 aIo (by decide) rfl Fo.out (ap1 hb) (ap2 hb (by decide)) (by decide) (fun q hq => ?_)
  refine ZX ?_
  have e1:i.toNat=s.l.length:=by omega
  exact VC.ret (HV (.inr rfl) rfl rfl q rfl (by rw [hq,e1,List.take_length,List.drop_length,List.append_nil]) (fun _ _=>trivial) fK.out)
 have hin:i < (s.l.length:Int):=by omega
 have hne:s.l≠[]:=fun h=>by rw [h] at hin; simp at hin; omega
 have hkq:(s.l.length:Int)+(v.l.length:Int) - i=((s.l.length+v.l.length - i.toNat:Nat):Int):=by omega
 have hLn:(s.l.take i.toNat++v.l++s.l.drop i.toNat).length=s.l.length+v.l.length:=by simp only [List.length_append,List.length_take,List.length_drop]; omega
 have hfl:(s.l.take i.toNat++v.l++s.l.drop i.toNat).flatMap bD.enc=(s.l.take i.toNat).flatMap bD.enc++v.l.flatMap bD.enc++(s.l.drop i.toNat).flatMap bD.enc:=by rw [List.flatMap_append,List.flatMap_append]
 have lA:((s.l.take i.toNat).flatMap bD.enc).length=i.toNat*2:=by rw [iD,List.length_take,hK,Nat.min_eq_left (by omega)]
 have lV:(v.l.flatMap bD.enc).length=v.l.length*2:=by rw [iD,hK]
 have lS:((s.l.drop i.toNat).flatMap bD.enc).length=(s.l.length - i.toNat)*2:=by rw [iD,List.length_drop,hK]
 refine Zk ?_
 refine Zq (ZX ?_)
 refine Zu (l5 rfl rfl ⟨by omega,by omega⟩) ?_
 refine Zm (Zu (aEb (a0:=s.a) (L:=s.l.length) (C:=s.c) Tryz.underlying28 rfl) ?_)
 refine ZX ?_
 refine VC.nV rfl (fun h31 => ?_) (fun h31 => ?_)
 ·
  refine VC.shut s 76 (fun _ _ _ _=>trivial) ?_
  refine VC.shut v 76 (fun _ _ _ _=>trivial) ?_
  refine cI ?_
  refine VL.DD (φ:=s.a=some ⟨s.b,s.o,none⟩) (fun h m=>(dV.out (X:=s.ok) h m).2.2.1 hne) fun hsa => ?_
  refine VL.DD (φ:=v.a=some ⟨v.b,v.o,none⟩) (fun h m=>(dV.out (X:=v.ok) h m).2.2.1 hv) fun hva => ?_
  refine ZX ?_
  refine Zu (PX (a0:=s.a) (L:=s.l.length) (C:=s.c) (K:=2) Tryz.underlying28 vT rfl rfl hi.1 (by omega)) ?_
  refine ZX ?_
  refine Zu (l5 rfl rfl ⟨by omega,by omega⟩) ?_
  refine Zm ?_
  refine Zu (N4 rfl rfl ⟨by omega,by omega⟩) ?_
  refine VL.HH 39 rfl (congrArg (Value.int .i64) hkq) ?_
  refine VL.aIT (s:=s) (L:=i.toNat) (kq:=s.l.length+v.l.length - i.toNat) Tryz.underlying28 Tryz.underlying3 aIo (by decide) rfl hne (by omega) (by omega) (by omega) (by omega) (by decide) (by decide) fun g cs cp hcl hcp hcm hct => ?_
  rw [hK] at hcl hct
  rw [show i.toNat+(s.l.length+v.l.length - i.toNat)=s.l.length+v.l.length by omega] at hcp ⊢
  have hfit:((s.l.take i.toNat).flatMap bD.enc).length+(v.l.flatMap bD.enc).length+((s.l.drop i.toNat).flatMap bD.enc).length≤cs.length:=by
    rw [lA,lV,lS,hcl,← Nat.add_mul,← Nat.add_mul]; exact Nat.mul_le_mul_right _ (by omega)
  have hic:=OW (V:=v.l.flatMap bD.enc) (S:=(s.l.drop i.toNat).flatMap bD.enc) (by rw [lA]; exact hct) hfit
  rw [← hfl,lA,lV,lS] at hic
  refine ZX ?_
  refine Zu (lQ (b:=g) (o:=0) (L:=s.l.length+v.l.length) (C:=cp) (K:=2) Tryz.underlying28 vT rfl rfl hi.1 (by omega) hcp (by omega) rfl) ?_
  refine Zm ?_
  refine VL.HH 44 rfl (show v.val = .slice (some ⟨v.b,v.o+0*bD.sz cY,none⟩) v.l.length v.c by unfold Sv.val; rw [hva,Nat.zero_mul]; rfl) ?_
  refine VL.E9 (src:=v.l.flatMap bD.enc) Tryz.underlying28 vT pZ.out rfl (by rw [lV]; congr 1; exact (Nat.min_eq_left (by omega)).symm) (K5 (r:=v) (by decide) hv) (pO v.l) (by rw [lV,Nat.zero_add,hcl,← Nat.add_mul]; exact Nat.mul_le_mul_right _ (by omega)) (by decide) ?_
  rw [Nat.zero_add,lV]
  refine Zl ?_
  refine Zq ?_
  refine iB [(0,true),(1,true),(2,true),(3,true),(4,true),(5,true),(6,true),(7,true),(8,false)] ?_
  refine ZX ?_
  refine Zw rfl (l5 rfl rfl ⟨by omega,by omega⟩) ?_
  refine Zw rfl (lQ (b:=g) (o:=0) (L:=s.l.length+v.l.length) (C:=cp) (K:=2) Tryz.underlying28 vT rfl rfl (by omega) (by omega) hcp (by omega) rfl) ?_
  refine ZX ?_
  refine Zw rfl (lQ (b:=s.b) (o:=s.o) (L:=s.l.length) (C:=s.c) (K:=2) Tryz.underlying28 vT (show some s.val=_ by unfold Sv.val; rw [hsa]) rfl hi.1 (by omega) hf (by omega) rfl) ?_
  refine VD.one rfl ?_
  rw [show (i+(v.l.length:Int)).toNat=i.toNat+v.l.length by omega]
  refine VL.E9 (src:=(s.l.drop i.toNat).flatMap bD.enc) Tryz.underlying28 vT pZ.out rfl (by rw [lS]; congr 1; exact (Nat.min_eq_left (by omega)).symm) (VQ (r:=s) (by decide) hne i.toNat) (pO _) (by rw [lS,Nat.zero_add,hic.1,hcl,← Nat.add_mul]; exact Nat.mul_le_mul_right _ (by omega)) (by decide) ?_
  rw [Nat.zero_add,lS,Nat.add_mul]
  refine eV ?_
  refine ZX ?_
  have ho:=fun F=>FR (F:=F) (e:=76) (b:=g) (l':=s.l.take i.toNat++v.l++s.l.drop i.toNat) (Nat.le_of_eq (hic.2.1.trans hcl).symm) (by rw [iD] at hic; exact hic.2.2) hLn hcp hcm
  exact VC.ret (HV (.inr rfl) rfl rfl ⟨some ⟨g,0,none⟩,cp,_⟩ (ho Ow.emp).1 rfl (fun _ _=>trivial) (ho _).2)
 refine ZX ?_
 refine VL.open (s:=s) (e:=76) Fo.out (by omega) fun b cs hsa hcl hct _ hcm => ?_
 rw [hK] at hcl hct
 have hctA:cs.take ((s.l.take i.toNat).flatMap bD.enc).length=(s.l.take i.toNat).flatMap bD.enc:=by
   rw [lA]
   have:cs.take (i.toNat*2)=(cs.take (s.l.length*2)).take (i.toNat*2):=by rw [List.take_take,Nat.min_eq_left (Nat.mul_le_mul_right _ (by omega))]
   rw [this,hct]
   exact rL s.l i.toNat
 have hfit:((s.l.take i.toNat).flatMap bD.enc).length+(v.l.flatMap bD.enc).length+((s.l.drop i.toNat).flatMap bD.enc).length≤cs.length:=by
   refine Nat.le_trans ?_ hcl; rw [lA,lV,lS,← Nat.add_mul,← Nat.add_mul]; exact Nat.mul_le_mul_right _ (by omega)
 have hic:=OX (V:=v.l.flatMap bD.enc) (S:=(s.l.drop i.toNat).flatMap bD.enc) hctA hfit
 rw [← hfl,lA,lV,lS] at hic
 refine ZX ?_
 refine Zu (l5 rfl rfl ⟨by omega,by omega⟩) ?_
 refine Zu (PX (a0:=s.a) (L:=s.l.length) (C:=s.c) (K:=2) Tryz.underlying28 vT rfl rfl (by omega) (by omega)) ?_
 rw [show ((s.l.length:Int)+(v.l.length:Int)).toNat=s.l.length+v.l.length by omega,hsa]
 refine ZX ?_
 refine Zq (ZX ?_)
 refine Zu (l5 rfl rfl ⟨by omega,by omega⟩) ?_
 refine Zu (lQ (b:=b) (o:=0) (L:=s.l.length+v.l.length) (C:=s.c) (K:=2) Tryz.underlying28 vT rfl rfl (by omega) (by omega) (by omega) (by omega) rfl) ?_
 refine Zu (PA (tS:=28) (tR:=4) (s:=v) (b:=b) Tryz.func304 rfl rfl (by kernel_rfl) (by kernel_rfl) Tryz.underlying28 vT rfl pZ.out (fun h=>by rw [h] at hcl; simp at hcl; omega) hv) ?_
 refine ZX ?_
 refine VC.EI rfl ?_
 refine VC.shut v 76 (fun _ _ _ _=>trivial) ?_
 refine Zq ?_
 refine iB [(0,true),(1,true),(2,true),(3,true),(4,true),(5,true),(6,true),(7,true),(8,false)] ?_
 refine ZX ?_
 refine Zw rfl (l5 rfl rfl ⟨by omega,by omega⟩) ?_
 refine Zw rfl (lQ (b:=b) (o:=0) (L:=s.l.length+v.l.length) (C:=s.c) (K:=2) Tryz.underlying28 vT rfl rfl (by omega) (by omega) (by omega) (by omega) rfl) ?_
 refine ZX ?_
 refine Zw rfl (lQ (b:=b) (o:=0) (L:=s.l.length+v.l.length) (C:=s.c) (K:=2) Tryz.underlying28 vT rfl rfl hi.1 (by omega) (by omega) (by omega) rfl) ?_
 refine VD.one rfl ?_
 rw [show (i+(v.l.length:Int)).toNat=i.toNat+v.l.length by omega,Nat.zero_add,Nat.zero_add]
 refine VL.E9 (src:=(s.l.drop i.toNat).flatMap bD.enc) Tryz.underlying28 vT pZ.out rfl (by rw [lS]; congr 1; simp only [Nat.min_def]; split <;> omega) (aAk (n:=s.l.length) hct rfl) (pO _) (by refine Nat.le_trans ?_ hcl; rw [lS,← Nat.add_mul]; exact Nat.mul_le_mul_right _ (by omega)) (by decide) ?_
 rw [lS,Nat.add_mul]
 refine eV ?_
 refine ZX ?_
 refine Zu (lQ (b:=b) (o:=0) (L:=s.l.length+v.l.length) (C:=s.c) (K:=2) Tryz.underlying28 vT rfl rfl hi.1 (by omega) (by omega) (by omega) rfl) ?_
 refine Zm ?_
 refine VL.DD (φ:=v.a=some ⟨v.b,v.o,none⟩) (fun h m=>(dV.out (X:=v.ok) h m).2.2.1 hv) fun hva => ?_
 refine VL.HH 81 rfl (show v.val = .slice (some ⟨v.b,v.o+0*bD.sz cY,none⟩) v.l.length v.c by unfold Sv.val; rw [hva,Nat.zero_mul]; rfl) ?_
 rw [Nat.zero_add]
 refine VL.E9 (src:=v.l.flatMap bD.enc) Tryz.underlying28 vT pZ.out rfl (by rw [lV]; congr 1; exact (Nat.min_eq_left (by omega)).symm) (K5 (r:=v) (by decide) hv) (pO v.l) (by rw [hic.1]; refine Nat.le_trans ?_ hcl; rw [lV,← Nat.add_mul]; exact Nat.mul_le_mul_right _ (by omega)) (by decide) ?_
 rw [lV]
 refine ZX ?_
 have ho:=fun F=>FR (F:=F) (e:=76) (b:=b) (l':=s.l.take i.toNat++v.l++s.l.drop i.toNat) (by rw [hic.2.1]; exact hcl) (by rw [iD] at hic; exact hic.2.2) hLn (by omega) hcm
 exact VC.ret (HV (.inr rfl) rfl rfl ⟨some ⟨b,0,none⟩,s.c,_⟩ (ho Ow.emp).1 rfl (fun _ _=>trivial) (ho _).2)
instance aBn (aA:aM) (iS:bH) (wX:Int) :
 jZ Tryz.prog 165 [.agg (aJ aA).toArray,str iS,i64 wX] (Sh.yE aA.pl iS wX) aA.m (X:=aM) (fun x => .agg (bD.enc x).toArray) (fun x=>x.pl) (fun x=>x.m):=by
 refine j6 Tryz.func165 Tryz.ntmps165 fun r hS c => ?_
 unfold Sh.yE at hS
 refine cI ?_
 refine qA (aJ aA) fun uO => ?_
 refine dJ fun QY=>ZX ?_
 refine fM hS rfl fun gQ hS=>ZO ?_
 refine Zl ?_
 refine VC.aV [1,2,3,6] (ZX ?_)
 obtain ⟨tG,a0q,hS⟩:=cS hS
 refine Zu (l6 ((aH8 (⟨aA.aY,aA.aU,gQ,aA.aI,aA.aG,aA.aS,aA.aO,aA.aT,aA.aN,aA.aP,aA.aQ,aA.aK,aA.aD,aA.aE,aA.aL,aA.aR,aA.aX,aA.bC,aA.bE,aA.aZ,aA.time⟩:aM) iS).out a0q) rfl (fun _ _=>rfl)) ?_
 refine ZX ?_
 refine Zq (Zb ?_)
 refine VC.cJ [1,2,3,6,7,8] (fun (aDW:Bool)=>aDW) (fun aDW ρ=>(21,.bool aDW)::ρ) hS (fun _ hS=>ZE hS) ?_
 rintro aDW hS
 refine iZ hS (fun h21 hS => ?_) (fun h21 hS => ?_)
 ·
  obtain ⟨b32,hS⟩:=bM hS
  obtain ⟨b33,hS⟩:=bM hS
  refine Zr (ZX ?_)
  refine VL.oE (aI8 gQ tG.1 (tG.1+1) b33) rfl (by decide) ?_
  intro aY6 a2J
  replace hS:=dZ a2J hS
  refine ZO ?_
  refine Zl ?_
  refine VC.aV [3,6] (cI (ZO ?_))
  refine Zl ?_
  refine VC.shut aY6 76 (fun _ _ _ _=>trivial) ?_
  cases hS
  exact VC.ret (Z4 ⟨aA.aY,aA.aU,aY6,aA.aI,aA.aG,aA.aS,aA.aO,aA.aT,aA.aN,aA.aP,aA.aQ,aA.aK,aA.aD,aA.aE,aA.aL,aA.aR,aA.aX,aA.bC,aA.bE,aA.aZ,aA.time⟩ rfl)
 refine ZX ?_
 refine iZ hS (fun h36 hS => ?_) (fun h36 hS => ?_)
 ·
  refine Zr (ZX ?_)
  obtain ⟨aOp,aPr,aPc,hS⟩:=gP hS
  refine Zu (lK (s:=gQ) Tryz.underlying28 vT rfl rfl aPr (bR aPr aPc)) ?_
  refine ZX ?_
  refine VL.oC (s:=gQ) (T:=76) (j:=1) (vc:=[i64 wX]) (⟨aOp.name,wX⟩:cY) (by decide) rfl rfl aPc rfl E3 rfl rfl (Nat.le_of_ble_eq_true rfl) rfl (fun w10 hw10 haw10 hcw10 hvw10 hbw10 how10 => ?_)
  rw [← hvw10]
  replace hS:=dZ hw10 hS
  refine Zl ?_
  refine VC.aV [3,6] (cI (ZO ?_))
  refine Zl ?_
  refine VC.shut w10 76 (fun _ _ _ _=>trivial) ?_
  cases hS
  exact VC.ret (Z4 ⟨aA.aY,aA.aU,w10,aA.aI,aA.aG,aA.aS,aA.aO,aA.aT,aA.aN,aA.aP,aA.aQ,aA.aK,aA.aD,aA.aE,aA.aL,aA.aR,aA.aX,aA.bC,aA.bE,aA.aZ,aA.time⟩ rfl)
 refine ZX ?_
 refine Zc hS (fun h45 hS => ?_) (fun h45 hS => ?_)
 ·
  refine Zr (ZX ?_)
  refine Zu (cG (vs:=[(0,str iS),(1,i64 wX)]) (cs := #[str iS,i64 wX]) rfl (by kernel_rfl)) ?_
  refine VL.aLg (α:=cY) (xs:=[.tmp 54]) (vs:=[.agg #[str iS,i64 wX]]) [⟨iS,wX⟩] Tryz.underlying28 aPW (by decide) rfl rfl rfl rfl (by decide) (by decide) (fun a3i aWh => ?_) (by decide)
  replace hS:=dZ aWh hS
  obtain ⟨b56,hS⟩:=bM hS
  refine VL.oE (aJD gQ a3i tG.1 b56.1 b56.2.1 b56.2.2) rfl (by decide) ?_
  intro aQI aWi
  replace hS:=dZ aWi hS
  refine ZO ?_
  refine Zl ?_
  refine VC.aV [3,6] (cI (ZO ?_))
  refine Zl ?_
  refine VC.shut aQI 76 (fun _ _ _ _=>trivial) ?_
  cases hS
  exact VC.ret (Z4 ⟨aA.aY,aA.aU,aQI,aA.aI,aA.aG,aA.aS,aA.aO,aA.aT,aA.aN,aA.aP,aA.aQ,aA.aK,aA.aD,aA.aE,aA.aL,aA.aR,aA.aX,aA.bC,aA.bE,aA.aZ,aA.time⟩ rfl)
 refine Zk ?_
 refine VC.aV [3,6] (cI (ZO ?_))
 refine Zl ?_
 refine VC.shut gQ 76 (fun _ _ _ _=>trivial) ?_
 cases hS
 exact VC.ret (Z4 ⟨aA.aY,aA.aU,gQ,aA.aI,aA.aG,aA.aS,aA.aO,aA.aT,aA.aN,aA.aP,aA.aQ,aA.aK,aA.aD,aA.aE,aA.aL,aA.aR,aA.aX,aA.bC,aA.bE,aA.aZ,aA.time⟩ rfl)
instance aHa (aA:aM) (sP:Int) :
 jZ Tryz.prog 252 [.agg (aJ aA).toArray,i64 sP] (Sh.zE aA.pl sP) aA.m (X:=aM) (fun x => .agg (bD.enc x).toArray) (fun x=>x.pl) (fun x=>x.m):=by
 refine j6 Tryz.func252 Tryz.ntmps252 fun r hS c => ?_
 unfold Sh.zE at hS
 refine cI ?_
 refine qA (aJ aA) fun iV => ?_
 refine dJ fun AM=>ZX ?_
 refine Zq (ZX ?_)
 refine VC.aV [1,2,4,13] (oD hS (fun h13 hS => ?_) (fun h13 hS => ?_))
 ·
  refine Zr (ZX ?_)
  exact I1 hS (aBn (⟨aA.aY,aA.aU,aA.bA,aA.aI,sP,aA.aS,aA.aO,aA.aT,aA.aN,aA.aP,aA.aQ,aA.aK,aA.aD,aA.aE,aA.aL,aA.aR,aA.aX,aA.bC,aA.bE,aA.aZ,aA.time⟩:aM) aA.aI sP).out fun tL hS=>ZE hS
 refine ZX ?_
 cases hS
 exact VC.ret (Z4 ⟨aA.aY,aA.aU,aA.bA,aA.aI,sP,aA.aS,aA.aO,aA.aT,aA.aN,aA.aP,aA.aQ,aA.aK,aA.aD,aA.aE,aA.aL,aA.aR,aA.aX,aA.bC,aA.bE,aA.aZ,aA.time⟩ rfl)
instance KK (aA:aM) (pK:Sv aC) (o6:Sv Int) (wO:bH) :
 jZ Tryz.prog 235 [.agg (aJ aA).toArray,pK.val,o6.val,str wO] (Sh.xO aA.pl pK.l o6.l wO) (aA.m.and (pK.ok.and o6.ok)) (X:=aM) (fun x => .agg (bD.enc x).toArray) (fun x=>x.pl) (fun x=>x.m):=by
 refine j6 Tryz.func235 Tryz.ntmps235 fun r hS c => ?_
 unfold Sh.xO at hS
 refine cI ?_
 refine qA (aJ aA) fun Y5 => ?_
 refine dJ fun aKc=>Zl ?_
 refine VC.u5 (S:=Sv bY) (fun (F6:Sv bY)=>(F6.l.map bY.pl)) (fun (F6:Sv bY)=>[(4,ptr Y5 0),(8,ptr aKc 0)]) (fun (F6:Sv bY)=>(rK F6.l)) (fun (F6:Sv bY)=>Ow.star (bN aKc [.slice none 0 0,.slice none 0 0,.slice none 0 0,str [],i64 0,str [],i64 0,str [],.slice none 0 0,.slice none 0 0,i64 0,str [],str [],i64 0,.slice none 0 0,.slice none 0 0,.slice none 0 0,.slice none 0 0,.slice none 0 0,.slice none 0 0,i64 0] 43) (Ow.star (bN Y5 [aA.aY.val,aA.aU.val,aA.bA.val,str aA.aI,i64 aA.aG,str aA.aS,i64 aA.aO,str aA.aT,aA.aN.val,aA.aP.val,i64 aA.aQ,str aA.aK,str aA.aD,i64 aA.aE,aA.aL.val,aA.aR.val,aA.aX.val,F6.val,aA.bE.val,aA.aZ.val,i64 aA.time] 43) (Ow.star (Sv.own F6 59) (Ow.emp)))) hS ?_ ?_
 ·
  intro k4 hS
  refine VC.GH (n:=5) (listed:=bl 13 507) [(0,true),(1,true),(3,true),(4,true),(5,true),(6,true),(7,true),(8,true)] mixed (by kernel_rfl) (by kernel_rfl) (by kernel_rfl) (by kernel_rfl) ?_
  refine VD.q rfl (bU aBC rfl) (by decide) ?_
  refine VD.q rfl (lB aEY rfl rfl) (by decide) ?_
  refine VD.q rfl (fQ rfl) (by decide) ?_
  refine VD.q rfl (fQ rfl) (by decide) ?_
  refine VD.q rfl (bU VA rfl) (by decide) ?_
  refine VD.q rfl (lB o5 rfl rfl) (by decide) ?_
  refine VD.q rfl (fQ rfl) (by decide) ?_
  refine VD.q rfl (cG (vs:=[(0,pK.val),(1,o6.val),(2,i64 aA.time),(3,str wO)]) (cs := #[pK.val,o6.val,i64 aA.time,str wO]) rfl (by kernel_rfl)) (by decide) ?_
  obtain ⟨J6,aPK,hS⟩:=mB hS
  obtain ⟨aOW,aPI,hS⟩:=cS hS
  refine VD.TB fun hcl => ?_
  refine VG.fork (l:=[2,9]) (n:=4) (by kernel_rfl) rfl fun i hi => ?_
  obtain rfl | rfl:i=2∨i=9:=by simpa using hi
  ·
   refine qG.of rfl ?_
   refine VL.oE ((rZ aA.bC).out aPI) rfl (by decide) ?_
   rintro VT rfl
   try dsimp only
   refine VL.E8 (D':=[(8,.agg #[pK.val,o6.val,i64 aA.time,str wO]),(6,i64 aA.time),(5,ptr Y5 20)]) (listed' := #[true,true,true,true,true,true,true,true,true,false,false,false,false]) (bT.cons rfl (cG (vs:=[(0,pK.val),(1,o6.val),(2,i64 aA.time),(3,str wO)]) (cs := #[pK.val,o6.val,i64 aA.time,str wO]) rfl (by kernel_rfl)) (bT.cons rfl (lB o5 rfl rfl) (bT.cons rfl (bU VA rfl) (bT.nil)))) (by kernel_rfl) (by kernel_rfl) ?_
   refine VG.ord [(9,false),(10,false),(11,true),(12,false)] (by kernel_rfl) (eL (by kernel_rfl)) (by kernel_rfl) ?_
   refine VD.one rfl ?_
   refine VL.lit (α:=bY) (xs:=[.tmp 17]) (vs:=[.agg #[pK.val,o6.val,i64 aA.time,str wO]]) [⟨pK,o6,aA.time,wO⟩] Tryz.underlying38 aEW (by decide) rfl rfl rfl rfl (by decide) (fun h m=>List.forall_mem_cons.2 ⟨dV.out (X:=(pK.ok.and o6.ok)) h m,fun _ h=>by cases h⟩) (by decide) (fun RP aAC => ?_) (by decide)
   obtain rfl:J6=RP.l.map bY.pl:=aPK.symm.trans (congrArg (List.map bY.pl) aAC).symm
   refine eV ?_
   refine VD.one rfl ?_
   obtain ⟨b19,hS⟩:=bM hS
   refine VL.app (s:=VT) (r:=RP) Tryz.underlying38 aBA (by decide) rfl Fo.out (ap1 (apm b19)) (ap2 (apm b19) (by decide)) (by decide) (fun P0 aBG => ?_)
   replace hS:=dZ ((congrArg (List.map bY.pl) aBG).trans List.map_append) hS
   refine VL.aAL aBG ?_
   refine eV ?_
   refine ZX ?_
   refine VD.one rfl ?_
   refine Zv  (vc:=[P0.val]) (cs':=[aA.aY.val,aA.aU.val,aA.bA.val,str aA.aI,i64 aA.aG,str aA.aS,i64 aA.aO,str aA.aT,aA.aN.val,aA.aP.val,i64 aA.aQ,str aA.aK,str aA.aD,i64 aA.aE,aA.aL.val,aA.aR.val,aA.aX.val,P0.val,aA.bE.val,aA.aZ.val,i64 aA.time]) rfl aNh ?_
   refine eV ?_
   exact ZE hS
  refine qG.of rfl ?_
  refine VL.lit (α:=bY) (xs:=[.tmp 17]) (vs:=[.agg #[pK.val,o6.val,i64 aA.time,str wO]]) [⟨pK,o6,aA.time,wO⟩] Tryz.underlying38 aEW (by decide) rfl rfl rfl rfl (by decide) (fun h m=>List.forall_mem_cons.2 ⟨dV.out (X:=(pK.ok.and o6.ok)) h m,fun _ h=>by cases h⟩) (by decide) (fun RP aAC => ?_) (by decide)
  obtain rfl:J6=RP.l.map bY.pl:=aPK.symm.trans (congrArg (List.map bY.pl) aAC).symm
  refine zU (bl 13 1019) (Pk 1 (Pk 0 Pz)) ?_
  refine VG.ord [(2,false),(10,false),(11,true),(12,false)] (by kernel_rfl) (eL (by kernel_rfl)) (by kernel_rfl) ?_
  refine VD.one rfl ?_
  refine VL.oE ((rZ aA.bC).out aPI) rfl (by decide) ?_
  rintro VT rfl
  try dsimp only
  refine eV ?_
  refine VD.one rfl ?_
  obtain ⟨b19,hS⟩:=bM hS
  refine VL.app (s:=VT) (r:=RP) Tryz.underlying38 aBA (by decide) rfl Fo.out (ap1 (apm b19)) (ap2 (apm b19) (by decide)) (by decide) (fun P0 aBG => ?_)
  replace hS:=dZ ((congrArg (List.map bY.pl) aBG).trans List.map_append) hS
  refine VL.aAL aBG ?_
  refine eV ?_
  refine ZX ?_
  refine VD.one rfl ?_
  refine Zv  (vc:=[P0.val]) (cs':=[aA.aY.val,aA.aU.val,aA.bA.val,str aA.aI,i64 aA.aG,str aA.aS,i64 aA.aO,str aA.aT,aA.aN.val,aA.aP.val,i64 aA.aQ,str aA.aK,str aA.aD,i64 aA.aE,aA.aL.val,aA.aR.val,aA.aX.val,P0.val,aA.bE.val,aA.aZ.val,i64 aA.time]) rfl aNh ?_
  refine eV ?_
  exact ZE hS
 rintro F6 hS
 refine ZX ?_
 refine VL.shut F6 59 (fun h m=>dV.out (X:=rK F6.l) h m) ?_
 exact I1 hS (aHa (⟨aA.aY,aA.aU,aA.bA,aA.aI,aA.aG,aA.aS,aA.aO,aA.aT,aA.aN,aA.aP,aA.aQ,aA.aK,aA.aD,aA.aE,aA.aL,aA.aR,aA.aX,F6,aA.bE,aA.aZ,aA.time⟩:aM) ((F6.l.map bY.pl).length:Int)).out fun bAw hS=>ZE hS
instance aUW (aA:aM) (pK:Sv aC) (S9:bH) :
 jZ Tryz.prog 160 [.agg (aJ aA).toArray,pK.val,str S9] (Sh.yT aA.pl pK.l S9) (aA.m.and (pK.ok.and Gl)) (X:=aM×Er) (fun x => .tuple #[.agg (bD.enc x.1).toArray,x.2.val]) (fun x=>(x.1.pl,x.2.pl)) (fun x=>(x.1.m.and x.2.ok)):=by
 refine j6 Tryz.func160 Tryz.ntmps160 fun r hS c => ?_
 unfold Sh.yT at hS
 refine cI ?_
 refine qA (aJ aA) fun uO => ?_
 refine dJ fun QY=>ZX ?_
 refine Zq (ZX ?_)
 refine fR hS rfl fun gQ hS=>ZX ?_
 refine oD hS (fun h14 hS => ?_) (fun h14 hS => ?_)
 ·
  refine Zq ?_
  refine iB [(0,true),(1,true),(2,false),(3,false),(4,true)] ?_
  refine ZX ?_
  refine VD.one rfl (fR hS rfl fun mV hS=>eO (Pk 0 Pz) ?_)
  refine VD.one rfl (ZX ?_)
  refine eV ?_
  exact ZE hS
 refine Zk ?_
 refine VC.aV [1,2,3,6] (Zq (ZX ?_))
 refine jK hS rfl fun sD hS=>ZX ?_
 refine iZ hS (fun h20 hS => ?_) (fun h20 hS => ?_)
 ·
  refine ZX ?_
  cases hS
  exact VC.ret (Z4 (aA,(Er.no 4)) rfl)
 refine Zk ?_
 refine cI (Za ?_)
 refine Zl ?_
 refine VC.cJ [1,2,3,6] (fun (G8:Int)=>G8) (fun G8 ρ=>(9,i64 G8)::ρ) hS (fun _ hS=>ZE hS) ?_
 rintro G8 hS
 refine VC.u5 (S:=Nat×aM) (fun sg=>((),sg.2.pl)) (fun sg=>[(6,ptr QY 0),(10,ptr sg.1 0)]) (fun sg=>sg.2.m) (fun sg=>Ow.star (bN QY [.slice none 0 0,.slice none 0 0,.slice none 0 0,str [],i64 0,str [],i64 0,str [],.slice none 0 0,.slice none 0 0,i64 0,str [],str [],i64 0,.slice none 0 0,.slice none 0 0,.slice none 0 0,.slice none 0 0,.slice none 0 0,.slice none 0 0,i64 0] 43) (Ow.star (bN uO (aJ aA) 43) (Ow.star (bN sg.1 (aJ sg.2) 43) (Ow.emp)))) hS ?_ ?_
 ·
  intro k10 hS
  refine VC.GH (n:=4) (listed:=bl 9 47) [(0,true),(1,true),(2,true),(3,true),(5,true)] mixed (by kernel_rfl) (by kernel_rfl) (by kernel_rfl) (by kernel_rfl) ?_
  refine VD.q rfl (rA qC rfl rfl) (by decide) ?_
  refine VD.q rfl (fQ rfl) (by decide) ?_
  refine VD.q rfl (rA qC rfl rfl) (by decide) ?_
  refine VD.q rfl (fQ rfl) (by decide) ?_
  refine VD.q rfl (fQ rfl) (by decide) ?_
  obtain ⟨aQ4,aKr,hS⟩:=cS hS
  obtain ⟨aCF,Q3,hS⟩:=cS hS
  refine VD.TB fun hcl => ?_
  refine VG.fork (l:=[4,7]) (n:=3) (by kernel_rfl) rfl fun i hi => ?_
  obtain rfl | rfl:i=4∨i=7:=by simpa using hi
  ·
   refine qG.of rfl ?_
   refine VL.oE ((RO aA G8).out aKr) rfl (by decide) ?_
   rintro DR rfl
   try dsimp only
   refine zU (bl 9 63) (Pk 0 Pz) ?_
   refine VG.fork (l:=[6,7]) (n:=2) (by kernel_rfl) rfl fun i hi => ?_
   obtain rfl | rfl:i=6∨i=7:=by simpa using hi
   ·
    refine qG.of rfl ?_
    refine VL.shut DR 3 (fun _ _ _ _=>trivial) ?_
    refine VL.jN ((KK aA pK DR S9).out Q3) rfl (by decide) ?_
    rintro uR rfl
    try dsimp only
    refine zU (bl 9 127) Pz ?_
    refine VG.ord [(7,false),(8,false)] (by kernel_rfl) (eL (by kernel_rfl)) (by kernel_rfl) ?_
    refine VD.one rfl (dJ fun QU=>eV ?_)
    refine VD.one rfl ?_
    refine Zv  (vc:=(aJ uR)) (cs':=(aJ uR)) rfl qL ?_
    refine eV ?_
    refine VD.mt (QU,(uR:aM)) [6,10] (fun _ _ h=>h) hS rfl
   refine qG.of rfl ?_
   refine dJ fun QU => ?_
   refine zU (bl 9 191) (Pk 0 Pz) ?_
   refine VG.ord [(6,false),(8,false)] (by kernel_rfl) (eL (by kernel_rfl)) (by kernel_rfl) ?_
   refine VD.one rfl ?_
   refine VL.shut DR 3 (fun _ _ _ _=>trivial) ?_
   refine VL.jN ((KK aA pK DR S9).out Q3) rfl (by decide) ?_
   rintro uR rfl
   try dsimp only
   refine eV ?_
   refine VD.one rfl ?_
   refine Zv  (vc:=(aJ uR)) (cs':=(aJ uR)) rfl qL ?_
   refine eV ?_
   refine VD.mt (QU,(uR:aM)) [6,10] (fun _ _ h=>h) hS rfl
  refine qG.of rfl ?_
  refine dJ fun QU => ?_
  refine zU (bl 9 175) (Pk 2 (Pk 0 Pz)) ?_
  refine VG.ord [(4,false),(6,false),(8,false)] (by kernel_rfl) (eL (by kernel_rfl)) (by kernel_rfl) ?_
  refine VD.one rfl ?_
  refine VL.oE ((RO aA G8).out aKr) rfl (by decide) ?_
  rintro DR rfl
  try dsimp only
  refine eO (Pk 0 Pz) ?_
  refine VD.one rfl ?_
  refine VL.shut DR 3 (fun _ _ _ _=>trivial) ?_
  refine VL.jN ((KK aA pK DR S9).out Q3) rfl (by decide) ?_
  rintro uR rfl
  try dsimp only
  refine eV ?_
  refine VD.one rfl ?_
  refine Zv  (vc:=(aJ uR)) (cs':=(aJ uR)) rfl qL ?_
  refine eV ?_
  refine VD.mt (QU,(uR:aM)) [6,10] (fun _ _ h=>h) hS rfl
 rintro ⟨a83,eR⟩ hS
 refine Zq (ZX ?_)
 refine oD hS (fun h43 hS => ?_) (fun h43 hS => ?_)
 ·
  refine Zr ?_
  refine Zu (cG (vs:=[]) (cs := #[str [],i64 0,str [],.slice none 0 0,.slice none 0 0,i64 0,str [],str [],i64 0,.slice none 0 0,.slice none 0 0]) rfl (by kernel_rfl)) ?_
  refine ZX ?_
  cases hS
  exact VC.ret (Z4 (⟨eR.aY,eR.aU,eR.bA,eR.aI,eR.aG,[],0,[],⟨none,0,[]⟩,⟨none,0,[]⟩,0,[],[],0,⟨none,0,[]⟩,⟨none,0,[]⟩,eR.aX,eR.bC,eR.bE,eR.aZ,eR.time⟩,.nil) rfl)
 refine ZX ?_
 cases hS
 exact VC.ret (Z4 (eR,.nil) rfl)
instance aUS (aA:aM) (C1:bH) :
 jZ Tryz.prog 91 [.agg (aJ aA).toArray,str C1] (Sh.BK aA.pl C1) (aA.m.and Gl) (X:=aM×Er) (fun x => .tuple #[.agg (bD.enc x.1).toArray,x.2.val]) (fun x=>(x.1.pl,x.2.pl)) (fun x=>(x.1.m.and x.2.ok)):=by
 refine j6 Tryz.func91 Tryz.ntmps91 fun r hS c => ?_
 unfold Sh.BK at hS
 refine cI ?_
 refine qA (aJ aA) fun iV => ?_
 refine dJ fun AM=>ZX ?_
 refine fR hS rfl fun kX hS=>ZX ?_
 refine Zq (Zb (ZX ?_))
 refine fM hS rfl fun FT hS=>ZX ?_
 refine VC.aV [1,2,4,6,11] (Zc hS (fun h11 hS => ?_) (fun h11 hS => ?_))
 ·
  refine ZX ?_
  cases hS
  exact VC.ret (Z4 (aA,(Er.no 9)) rfl)
 refine VC.u5 (S:=Bool) (fun (WT:Bool)=>WT) (fun (WT:Bool)=>[(1,str C1),(2,ptr iV 0),(4,ptr AM 0),(6,kX.val),(20,.bool WT)]) (fun (WT:Bool)=>Mo.tt) (fun (WT:Bool)=>Ow.star (bN AM [.slice none 0 0,.slice none 0 0,.slice none 0 0,str [],i64 0,str [],i64 0,str [],.slice none 0 0,.slice none 0 0,i64 0,str [],str [],i64 0,.slice none 0 0,.slice none 0 0,.slice none 0 0,.slice none 0 0,.slice none 0 0,.slice none 0 0,i64 0] 43) (Ow.star (bN iV (aJ aA) 43) (Ow.emp))) hS ?_ ?_
 ·
  intro k6 hS
  refine Zr (Zu (bU oY rfl) (Zu (bU B4 rfl) (Zu (bU Q5 rfl) (Zu (lB mF rfl rfl) (Zs (Zm ?_))))))
  refine nT 26 hS (fun h26 hS => ?_) (fun h26 hS => ?_)
  ·
   refine ZX ?_
   refine VL.mt (decide (0 < (aA.aN.l.length:Int))) [1,2,4,6,20] (fun _ _ h=>h) hS rfl
  exact ZE hS
 rintro WT hS
 refine iZ hS (fun h20 hS => ?_) (fun h20 hS => ?_)
 ·
  refine ZX ?_
  cases hS
  exact VC.ret (Z4 (aA,(Er.no 7)) rfl)
 refine VC.cJ [1,2,4,6] (fun (aD7:Bool)=>aD7) (fun aD7 ρ=>(36,.bool aD7)::ρ) hS ?_ ?_
 ·
  intro k8 hS
  refine Zr (Zu (bU oY rfl) (Zu (bU B4 rfl) (Zu (bU Q5 rfl) (Zu (lB mF rfl rfl) (Zu (N3 rfl rfl) (Zm ?_))))))
  refine UR 42 hS (fun h42 hS => ?_) (fun h42 hS => ?_)
  ·
   refine ZX ?_
   refine VL.guard rfl rfl ?_
   refine fR hS rfl fun aGY hS => ?_
   obtain ⟨aQc,aVS,hS⟩:=cS hS
   refine Zh (dU ((qK kX aGY).out aVS) rfl (fun _ _=>rfl)) ?_
   exact ZE hS
  exact ZE hS
 rintro aD7 hS
 refine iZ hS (fun h36 hS => ?_) (fun h36 hS => ?_)
 ·
  refine ZX ?_
  cases hS
  exact VC.ret (Z4 (aA,(Er.no 10)) rfl)
 exact ZE hS
instance a2a (dX:Sv aC) :
 jZ Tryz.prog 251 [dX.val] (Sh.CH dX.l) dX.ok (X:=Sv aH) (fun x=>x.val) (fun x=>x.l) (fun x=>x.ok):=by
 refine j6 Tryz.func251 Tryz.ntmps251 fun r hS c => ?_
 unfold Sh.CH at hS
 refine ZX ?_
 refine Zq (ZX ?_)
 refine Zb ?_
 refine VC.mR (⟨none,0,[]⟩:Sv aH) 80 ⟨rfl,rfl⟩ ?_
 refine VC.iter (S:=Sv aH×Int) (fun sg=>(sg.1.l,sg.2)) (fun sg=>[(3,sg.1.val),(6,dX.val),(7,i64 (dX.l.length:Int)),(8,i64 sg.2)]) (fun sg=>Mo.tt) (fun sg=>Ow.star (Sv.own sg.1 80) (Ow.emp)) (⟨none,0,[]⟩,0) [3,6,7,8] hS rfl ?_
 rintro ⟨oB,vK⟩ m1 y1 hS hK1
 refine ZX ?_
 refine Zq (Zc hS (fun h9 hS => ?_) (fun h9 hS => ?_))
 ·
  refine Zk ?_
  refine Zq (Zb (cI ?_))
  obtain ⟨wP,O1,KF,hS⟩:=gP hS
  refine Zu (jA (s:=dX) Tryz.underlying26 kN rfl rfl O1 (bR O1 KF)) (Zu (nF  (s:=dX) BD rfl rfl KF) ?_)
  refine dJ fun a6R=>ZX ?_
  refine Zr (ZX ?_)
  refine Zu (cG (vs:=[(0,str wP.path),(2,i64 wP.mode),(3,str wP.data)]) (cs := #[str wP.path,i64 0,i64 wP.mode,str wP.data,i64 0,i64 0]) rfl (by kernel_rfl)) ?_
  refine mS hS fun bCu hS=>HM hS fun a8O hS => ?_
  refine Za ?_
  refine Zl ?_
  refine VC.aV [3,6,7,8] ?_
  obtain ⟨b22,hS⟩:=bM hS
  refine Zr (ZX ?_)
  refine VL.kL (a8O,(vK+1)) [3,6,7,8] (fun _ _ h=>h) (go2 hS hK1) rfl
 replace hS:=kS hS hK1
 refine Zx ?_
 refine ZX ?_
 refine VL.shut oB 80 (fun _ _ _ _=>trivial) ?_
 exact ZE hS
instance aYS (aA:aM) :
 gF Tryz.prog 237 [.agg (aJ aA).toArray] (Sh.pI aA.pl) aA.m (fun r => .bool r):=by
 refine gM Tryz.func237 Tryz.ntmps237 fun r hS c => ?_
 unfold Sh.pI at hS
 refine cI ?_
 refine qA (aJ aA) fun hG => ?_
 refine ZX ?_
 refine Zq ?_
 refine iB [(0,true),(1,true),(2,true),(3,true),(4,false),(5,false),(6,true),(7,true)] ?_
 refine ZX ?_
 refine VD.one rfl (fR hS rfl fun zQ hS=>eO (Pk 2 (Pk 1 (Pk 0 Pz))) ?_)
 refine VD.one rfl (fR hS rfl fun IG hS=>eO (Pk 2 (Pk 1 (Pk 0 Pz))) ?_)
 obtain ⟨ZN,a7H,hS⟩:=cS hS
 refine Zw rfl (dU ((NM aA.aU IG).out a7H) rfl (fun _ _=>rfl)) ?_
 exact ZE hS
instance a3V (aA:aM) (IA:Int) :
 jZ Tryz.prog 240 [.agg (aJ aA).toArray,i64 IA] (Sh.qY aA.pl IA) aA.m (X:=bY×Bool) (fun x => .tuple #[.agg (bD.enc x.1).toArray,.bool x.2]) (fun x=>(x.1.pl,x.2)) (fun x=>x.1.m):=by
 refine j6 Tryz.func240 Tryz.ntmps240 fun r hS c => ?_
 unfold Sh.qY at hS
 refine cI ?_
 refine qA (aJ aA) fun iV => ?_
 refine dJ fun AM=>ZX ?_
 refine Zq ?_
 refine VC.cJ [1,2,4] (fun (aDQ:Bool)=>aDQ) (fun aDQ ρ=>(14,.bool aDQ)::ρ) hS ?_ ?_
 ·
  intro k4 hS
  refine Zr (Zm (Zu (rW rfl rfl) (Zm ?_)))
  refine nT 8 hS (fun _ hS=>ZE hS) fun h8 hS => ?_
  refine ZX ?_
  refine VL.mt (decide (((aA.bC.l.map bY.pl).length:Int) < IA)) [14,1,2,4] (fun _ _ h=>h) hS rfl
 rintro aDQ hS
 refine iZ hS (fun h14 hS => ?_) (fun h14 hS => ?_)
 ·
  refine cI ?_
  refine Zu (cG (vs:=[]) (cs := #[.slice none 0 0,.slice none 0 0,i64 0,str []]) rfl (by kernel_rfl)) ?_
  refine ZX ?_
  cases hS
  exact VC.ret (Z4 (⟨⟨none,0,[]⟩,⟨none,0,[]⟩,0,[]⟩,false) rfl)
 obtain ⟨b19,hS⟩:=bM hS
 refine ZX ?_
 obtain ⟨QJ,aPj,aIw,hS⟩:=zW hS
 refine VL.deep QJ.m aIw (fun _ q=>q) ?_
 refine Zu (jA (s:=aA.bC) Tryz.underlying38 PU rfl rfl aPj (bR aPj aIw)) (Zu (nF  (s:=aA.bC) SI rfl rfl aIw) ?_)
 refine ZX ?_
 cases hS
 exact VC.ret (Z4 (⟨QJ.tree,QJ.parents,QJ.time,QJ.text⟩,true) rfl)
instance B8 (aA:aM) (IA:Int) :
 jZ Tryz.prog 242 [.agg (aJ aA).toArray,i64 IA] (Sh.wK aA.pl IA) aA.m (X:=Sv aC) (fun x=>x.val) (fun x=>x.l) (fun x=>x.ok):=by
 refine j6 Tryz.func242 Tryz.ntmps242 fun r hS c => ?_
 unfold Sh.wK at hS
 refine cI ?_
 refine qA (aJ aA) fun iV => ?_
 refine ZX ?_
 refine fR hS rfl fun ⟨K9,aMP⟩ hS => ?_
 try dsimp only
 refine ZX ?_
 refine dJ fun aKa=>ZO ?_
 refine Zl ?_
 refine VC.aV [2,5] (Zq (ZX ?_))
 refine Zc hS (fun h16 hS => ?_) (fun h16 hS => ?_)
 ·
  refine ZX ?_
  cases hS
  exact VC.ret (Z1 ⟨none,0,[]⟩)
 refine Zk ?_
 refine Zq ?_
 refine iB [(0,true),(1,true),(2,true),(3,true),(4,true),(5,false),(6,true)] ?_
 refine ZX ?_
 refine aDt hS rfl fun aZp bBm hS => ?_
 refine ZX ?_
 refine VD.one rfl (fR hS rfl fun bAr hS=>eV ?_)
 exact ZE hS
theorem lP (n:Int) (b:Go.S.bS n):Ct Tryz.prog 23 [i64 n] Gl Ow.emp (X:=Unit) (fun _=>str (Go.S.kO n)) (fun _=>True) (fun _=>Mo.tt) (fun _=>Ow.emp) :=
  Ct.aNo (x9 Tryz.func23 rfl (by kernel_rfl)) fun w h m l=>(Tryz.strconv_Itoa n b.1 b.2 w (QS.var (by kernel_rfl) (dV.out (X:=QS 2 _) h m) l)).mono fun e w' ⟨h1,k,os,h2⟩=>⟨by rw [h1,aS6 b],h2▸Gr.grown w k os⟩
instance a0R (dX:Sv aC) (p_1:bH) :
 gF Tryz.prog 358 [dX.val,str p_1] (Sh.BT dX.l p_1) dX.ok (fun r => .agg #[str r.cH,i64 r.cN,str r.bZ,.bool r.is]):=by
 refine gM Tryz.func358 Tryz.ntmps358 fun r hS c => ?_
 unfold Sh.BT at hS
 refine cI (dJ fun Y5=>ZX ?_)
 refine jK hS rfl fun j4 hS=>ZX ?_
 refine dJ fun aKa=>ZO ?_
 refine Zl ?_
 refine VC.aV [4,5,6] (ZX ?_)
 refine Zu (cG (vs:=[(0,.agg #[str j4.1.path,i64 j4.1.mode,str j4.1.data]),(1,.bool j4.2)]) (cs := #[str j4.1.path,i64 j4.1.mode,str j4.1.data,.bool j4.2]) rfl (by kernel_rfl)) ?_
 exact ZE hS
instance UB (fB:lI) (dS:lI) (dD:lI) :
 gF Tryz.prog 368 [.agg #[str fB.cH,i64 fB.cN,str fB.bZ,.bool fB.is],.agg #[str dS.cH,i64 dS.cN,str dS.bZ,.bool dS.is],.agg #[str dD.cH,i64 dD.cN,str dD.bZ,.bool dD.is]] (Sh.BS fB dS dD) Mo.tt (fun r=>i64 r):=by
 refine gM Tryz.func368 Tryz.ntmps368 fun r hS c => ?_
 unfold Sh.BS at hS
 refine cI (kU fun uO=>kU fun AM=>kU fun aKa=>ZX ?_)
 refine Zq ?_
 exact VC.cJ [4,5] (fun (sC:Bool)=>sC) (fun sC ρ=>(17,.bool sC)::ρ) hS (fun _ hS=>ZE hS) fun _ hS=>ZE hS
instance aBt (aA:Sv bH) :
 jZ Tryz.prog 179 [aA.val] (Sh.jW aA.l) aA.ok (X:=Sv bH) (fun x=>x.val) (fun x=>x.l) (fun x=>x.ok):=by
 refine j6 Tryz.func179 Tryz.ntmps179 fun r hS c => ?_
 unfold Sh.jW at hS
 obtain ⟨b8,hS⟩:=bM hS
 refine ZX ?_
 refine VL.UA Tryz.underlying39 xE rfl rfl rfl b8.1 (b8.2) (by decide) fun PC tC => ?_
 replace hS:=dZ tC hS
 exact ZE hS
instance aUM (aA:bH) :
 vL Tryz.prog 373 [str aA] (Sh.wF aA) Mo.tt (Ow.emp) (X:=Sv bH) (fun x=>x.val) (fun x=>x.l) (fun x=>Mo.tt) (fun x=>Sv.own x 9):=by
 refine v8 Tryz.func373 Tryz.ntmps373 fun r hS c => ?_
 unfold Sh.wF at hS
 refine ZX ?_
 refine Zq (Zb ?_)
 refine VC.mR (⟨none,0,[]⟩:Sv bH) 9 ⟨rfl,rfl⟩ ?_
 refine VC.iter (S:=bH×Sv bH) (fun sg=>(sg.1,sg.2.l)) (fun sg=>[(0,str sg.1),(3,sg.2.val)]) (fun sg=>Mo.tt) (fun sg=>Ow.star (Sv.own sg.2 9) (Ow.emp)) (aA,⟨none,0,[]⟩) [0,3] hS rfl ?_
 rintro ⟨rH,F2⟩ m1 y1 hS hK1
 refine Zq (ZX ?_)
 refine oD hS (fun h6 hS => ?_) (fun h6 hS => ?_)
 ·
  refine Zk ?_
  refine Zb (ZX ?_)
  refine jK hS rfl fun EC hS=>Za ?_
  refine Zl ?_
  refine VC.cJ [0,3] (fun (Q8:Int)=>Q8) (fun Q8 ρ=>(4,i64 Q8)::ρ) hS ?_ ?_
  ·
   intro k5 hS
   refine ZX ?_
   refine Zc hS (fun h10 hS => ?_) (fun h10 hS => ?_)
   ·
    obtain ⟨b13,hS⟩:=bM hS
    refine Zr (ZX ?_)
    refine VL.mt ((rH.length:Int) - 1) [4,0,3] (fun _ _ h=>h) hS rfl
   exact ZE hS
  rintro Q8 hS
  obtain ⟨b17,hS⟩:=bM hS
  obtain ⟨b18,hS⟩:=bM hS
  refine ZX ?_
  obtain ⟨WY,a0r,hS⟩:=mB hS
  refine Zu (PB Tryz.underlying9 rfl rfl b18.1 b18.2 a0r) ?_
  refine mS hS fun P0 hS=>HM hS fun a8K hS => ?_
  obtain ⟨b23,hS⟩:=bM hS
  obtain ⟨b24,hS⟩:=bM hS
  refine ZX ?_
  refine Zr (ZX ?_)
  obtain ⟨aBz,aVD,hS⟩:=mB hS
  refine Zu (HE Tryz.underlying9 rfl rfl b24.1 b24.2 aVD) (Za ?_)
  refine VL.kL (aBz,a8K) [0,3] (fun _ _ h=>h) (go2 hS hK1) rfl
 exact ZE hS
instance yK (aAR:Nat) (BR:tM) (i_1:Int) (VJ:Int) :
 gF Tryz.prog 397 [ptr aAR 0,i64 i_1,i64 VJ] (Sh.oF BR.pl i_1 VJ) (BR.m.and (Cells aAR 0 [BR.a.val,BR.b.val,BR.n.val])) (fun r=>i64 r):=by
 refine gM Tryz.func397 Tryz.ntmps397 fun r hS c => ?_
 unfold Sh.oF at hS
 refine ZX ?_
 refine Zq ?_
 refine iB ((List.range 17).map fun k=>(k,true)) ?_
 refine ZX ?_
 refine Zw rfl (z8 XJ rfl rfl) ?_
 refine ZX ?_
 refine Zw rfl (z8 rR rfl rfl) ?_
 exact ZE hS
end Go.Proofs.YtgdabkldgphdeaaGreatDoor
end
