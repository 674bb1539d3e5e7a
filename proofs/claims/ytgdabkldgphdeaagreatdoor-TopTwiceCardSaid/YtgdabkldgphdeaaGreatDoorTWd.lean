/- Part of the proofs of: the law TopTwice: the same play leads to the same, each time (any acts) -/
import Derived.Test.YtgdabkldgphdeaaGreatDoorTWc
set_option linter.unusedVariables false
set_option linter.unusedSimpArgs false
set_option linter.unusedSectionVars false
section
set_option linter.unusedVariables false
namespace Go.Proofs.YtgdabkldgphdeaaGreatDoor
set_option maxHeartbeats 4000000
set_option maxRecDepth 100000
set_option synthInstance.maxSize 2000
set_option synthInstance.maxHeartbeats 1000000
open Go.RowKit Go.V
open Go.S
attribute [local irreducible] Go.V.Qt Go.V.VL Go.V.VC Go.V.I0 Go.S.gd Go.S.at_ Go.S.lt Go.S.jn Go.S.go Go.S.up Go.S.iter Sh.G6 Sh.CC Sh.JD Sh.oF Sh.wY Sh.wD Sh.iN Sh.fP Sh.kK Sh.xG Sh.mO Sh.j8 Sh.DF Sh.wF Sh.EN Sh.CI Sh.G7 Sh.EO Sh.y9 Sh.JJ Sh.DG Sh.DH Sh.zA Sh.wS Sh.AN Sh.FP Sh.pH Sh.GO Sh.ER Sh.JM Sh.uQ Sh.JN Sh.wT Sh.jB Sh.jI Sh.bQ Sh.cK Sh.cX Sh.gR Sh.fT Sh.jJ Sh.eN Sh.jH Sh.gW Sh.kD Sh.gS Sh.CA Sh.tZ Sh.zJ Sh.HJ Sh.EV Sh.CO Sh.yG Sh.BS Sh.BT Sh.AH
instance:LQ Tryz.prog 432 (.slice 437):=⟨Tryz.underlying432⟩
instance:LQ Tryz.prog 439 (.slice 443):=⟨Tryz.underlying439⟩
theorem aH2 (bP:Sv bH) (b_1:Sv bH) {r:(Unit×cR)⊕(pE×Unit)} (hS:Sh.JD bP.l b_1.l=some r) :
 Ct Tryz.prog 391 [bP.val,b_1.val] (bP.ok.and b_1.ok) (Ow.emp) (X:=(Er)⊕(Nat×tM)) (fun x=>match x with | .inl x => .tuple #[.pointer none,x.val] | .inr x => .tuple #[ptr x.1 0,.nilIface]) (fun x=>match x with | .inl x=>r = .inl ((),x.pl) | .inr x=>r = .inr (x.2.pl,())) (fun x=>match x with | .inl x=>x.ok | .inr x=>(x.2.a.ok.and (x.2.b.ok.and x.2.n.ok))) (fun x=>match x with | .inl x=>Ow.emp | .inr x=>bN x.1 [x.2.a.val,x.2.b.val,x.2.n.val] 456):=by
 refine Zo Tryz.func391 Tryz.ntmps391 fun c => ?_
 unfold Sh.JD at hS
 refine ZX ?_
 refine Zq (ZX ?_)
 refine Zc hS (fun h12 hS => ?_) (fun h12 hS => ?_)
 ·
  refine ZX ?_
  refine Zu (cG (vs:=[(0,str [108,105,110,101,115]),(1,i64 0),(2,(Er.no 4).val)]) (cs := #[str [108,105,110,101,115],i64 0,(Er.no 4).val]) rfl (by kernel_rfl)) ?_
  refine kU fun aUb => ?_
  refine VL.FB aUb ?_
  refine ZX ?_
  cases hS
  exact VC.ret (Z2 (.inl (Er.fault aUb [108,105,110,101,115] 0 (Er.no 4))))
 refine Zk ?_
 refine Zq (ZX ?_)
 refine Zc hS (fun h19 hS => ?_) (fun h19 hS => ?_)
 ·
  refine ZX ?_
  refine Zu (cG (vs:=[(0,str [108,105,110,101,115]),(1,i64 1),(2,(Er.no 4).val)]) (cs := #[str [108,105,110,101,115],i64 1,(Er.no 4).val]) rfl (by kernel_rfl)) ?_
  refine kU fun aUc => ?_
  refine VL.FB aUc ?_
  refine ZX ?_
  cases hS
  exact VC.ret (Z2 (.inl (Er.fault aUc [108,105,110,101,115] 1 (Er.no 4))))
 obtain ⟨b28,hS⟩:=bM hS
 obtain ⟨b31,hS⟩:=bM hS
 obtain ⟨b32,hS⟩:=bM hS
 obtain ⟨b33,hS⟩:=bM hS
 refine ZX ?_
 refine VL.make (α:=Int) (z:=0) Tryz.underlying57 bAW (by decide) rfl rfl b33.1 (Int.le_refl _) (by omega) (by omega) (by decide) (fun aOI a2I => ?_)
 replace hS:=dZ a2I hS
 refine Zu (cG (vs:=[(0,bP.val),(1,b_1.val),(2,aOI.val)]) (cs := #[bP.val,b_1.val,aOI.val]) rfl (by kernel_rfl)) ?_
 refine kU fun UT=>Za ?_
 refine Zl ?_
 refine VC.aV [0,1,6] ?_
 obtain ⟨b38,hS⟩:=bM hS
 refine Zq (ZX ?_)
 refine Zb ?_
 refine VC.iter (S:=Int×Sv Int) (fun sg=>(sg.1,sg.2.l)) (fun sg=>[(0,bP.val),(1,b_1.val),(6,ptr UT 0),(7,i64 sg.1)]) (fun sg=>Mo.tt) (fun sg=>Ow.star (bN UT [bP.val,b_1.val,sg.2.val] 456) (Ow.star (Sv.own sg.2 3) (Ow.emp))) (((bP.l.length:Int) - 1),aOI) [0,1,6,7] hS rfl ?_
 rintro ⟨H9,aHg⟩ m1 y1 hS hK1
 refine Zq (ZX ?_)
 refine Zc hS (fun h40 hS => ?_) (fun h40 hS => ?_)
 ·
  obtain ⟨b45,hS⟩:=bM hS
  refine Zk ?_
  refine Zq (Zb (ZX ?_))
  refine Zb ?_
  refine VC.iter (S:=Int×Sv Int) (fun sg=>(sg.1,sg.2.l)) (fun sg=>[(0,bP.val),(1,b_1.val),(6,ptr UT 0),(7,i64 H9),(8,i64 sg.1)]) (fun sg=>Mo.tt) (fun sg=>Ow.star (bN UT [bP.val,b_1.val,sg.2.val] 456) (Ow.star (Sv.own sg.2 3) (Ow.emp))) (((b_1.l.length:Int) - 1),aHg) [0,1,6,7,8] hS rfl ?_
  rintro ⟨K4,yI⟩ m2 y2 hS hK2
  refine Zq (ZX ?_)
  refine Zc hS (fun h47 hS => ?_) (fun h47 hS => ?_)
  ·
   obtain ⟨b52,hS⟩:=bM hS
   refine Zk ?_
   refine Zq (Zb (ZX ?_))
   obtain ⟨aQp,aV3,hS⟩:=cS hS
   refine Zu (l6 ((yK UT (⟨bP,b_1,yI⟩:tM) (H9+1) K4).out aV3) rfl (fun _ _=>rfl)) ?_
   obtain ⟨b58,hS⟩:=bM hS
   refine ZX ?_
   obtain ⟨aQt,aV7,hS⟩:=cS hS
   refine Zu (l6 ((yK UT (⟨bP,b_1,yI⟩:tM) H9 (K4+1)).out aV7) rfl (fun _ _=>rfl)) ?_
   refine Zu (aYI rfl) (Za ?_)
   refine Zl ?_
   refine VC.aV [0,1,6,7,8,9] ?_
   refine VC.cJ [0,1,6,7,8] (fun (VN:Int)=>VN) (fun VN ρ=>(9,i64 VN)::ρ) hS ?_ ?_
   ·
    intro k13 hS
    refine Zq ?_
    refine iB ((List.range 9).map fun k=>(k,true)) ?_
    refine ZX ?_
    refine aDt hS rfl fun aR0 bA8 hS => ?_
    refine ZX ?_
    refine aDt hS rfl fun aR2 bA9 hS => ?_
    refine ZX ?_
    refine VC.aV [0,1,6,7,8,9,69] (Zc hS (fun h69 hS => ?_) (fun h69 hS => ?_))
    ·
     obtain ⟨b72,hS⟩:=bM hS
     obtain ⟨b74,hS⟩:=bM hS
     refine Zr (ZX ?_)
     obtain ⟨aKD,aVe,hS⟩:=cS hS
     refine Zu (l6 ((yK UT (⟨bP,b_1,yI⟩:tM) (H9+1) (K4+1)).out aVe) rfl (fun _ _=>rfl)) ?_
     exact ZE hS
    exact ZE hS
   rintro VN hS
   obtain ⟨b84,hS⟩:=bM hS
   obtain ⟨b85,hS⟩:=bM hS
   obtain ⟨b87,hS⟩:=bM hS
   refine Zr (ZX ?_)
   obtain ⟨a6K,aMN,aL9,hS⟩:=gP hS
   refine Zu (lK (s:=yI) Tryz.underlying57 E3 rfl rfl aMN (bR aMN aL9)) ?_
   refine VL.oC (s:=yI) (T:=3) (j:=0) (vc:=[i64 VN]) (VN:Int) (by decide) rfl rfl aL9 rfl E3 rfl rfl (Nat.le_of_ble_eq_true rfl) rfl (fun w18 hw18 haw18 hcw18 hvw18 hbw18 how18 => ?_)
   rw [← hvw18]
   replace hS:=dZ hw18 hS
   refine Zl ?_
   refine VC.aV [0,1,6,7,8] ?_
   obtain ⟨b49,hS⟩:=bM hS
   refine Zr (ZX ?_)
   refine VL.kL ((K4 - 1),w18) [0,1,6,7,8] (fun _ _ h=>h) (go2 hS hK2) rfl
  replace hS:=kS hS hK2
  refine Zx ?_
  obtain ⟨b42,hS⟩:=bM hS
  refine Zr (ZX ?_)
  refine VL.kL ((H9 - 1),yI) [0,1,6,7] (fun _ _ h=>h) (go2 hS hK1) rfl
 replace hS:=kS hS hK1
 refine Zx ?_
 refine cI (ZO ?_)
 refine Zl ?_
 refine VC.shut aHg 3 (fun _ _ _ _=>trivial) ?_
 cases hS
 exact VC.ret (Z2 (.inr (UT,⟨bP,b_1,aHg⟩)))
instance FU (aA:Sv jE) :
 jZ Tryz.prog 393 [aA.val] (Sh.jB aA.l) aA.ok (X:=Sv jE) (fun x=>x.val) (fun x=>x.l) (fun x=>x.ok):=by
 refine j6 Tryz.func393 Tryz.ntmps393 fun r hS c => ?_
 unfold Sh.jB at hS
 obtain ⟨b8,hS⟩:=bM hS
 refine ZX ?_
 refine VL.UA Tryz.underlying439 aP1 rfl rfl rfl b8.1 (b8.2) (by decide) fun PC tC => ?_
 replace hS:=dZ tC hS
 exact ZE hS
instance YV (aAR:Nat) (BR:tM) (i_1:Int) (VJ:Int) :
 gF Tryz.prog 392 [ptr aAR 0,i64 i_1,i64 VJ] (Sh.wY BR.pl i_1 VJ) (BR.m.and (Cells aAR 0 [BR.a.val,BR.b.val,BR.n.val])) (fun r=>i64 r):=by
 refine gM Tryz.func392 Tryz.ntmps392 fun r hS c => ?_
 unfold Sh.wY at hS
 refine ZX ?_
 refine Zq (Zb ?_)
 refine VC.cJ [0,1,2] (fun (aIL:Bool)=>aIL) (fun aIL ρ=>(7,.bool aIL)::ρ) hS ?_ ?_
 ·
  intro k2 hS
  refine iB ((List.range 34).map fun k=>(k,true)) ?_
  refine ZX ?_
  refine Zw rfl (z8 rR rfl rfl) ?_
  refine ZX ?_
  refine VD.xR 15 rfl (fun h15 => ?_) (fun h15 => ?_)
  ·
   replace hS:=IB h15 hS
   refine ZX ?_
   refine Zi rfl (z8 rR rfl rfl) ?_
   refine ZX ?_
   refine VD.xR 24 rfl (fun h24 => ?_) (fun h24 => ?_)
   ·
    replace hS:=IB h24 hS
    refine ZX ?_
    refine Zi rfl (z8 rR rfl rfl) ?_
    refine ZX ?_
    refine aU5 hS rfl fun aZs bBu hS => ?_
    refine ZX ?_
    refine Zi rfl (z8 rR rfl rfl) ?_
    exact ZE hS
   replace hS:=T6 h24 hS
   exact ZE hS
  replace hS:=T6 h15 hS
  exact ZE hS
 rintro aIL hS
 refine iZ hS (fun _ hS=>ZE hS) fun h7 hS => ?_
 refine VC.cJ [] (fun (aDb:Bool)=>aDb) (fun aDb ρ=>(41,.bool aDb)::ρ) hS ?_ ?_
 ·
  intro k6 hS
  refine Zr (ZX ?_)
  refine Zu (z8 rR rfl rfl) (Zu (LF (s:=BR.a) Tryz.underlying39 rfl) (Zu (rW rfl rfl) (Zm ?_)))
  refine nT 49 hS (fun h49 hS => ?_) (fun h49 hS => ?_)
  ·
   refine ZX ?_
   refine Zh (z8 rR rfl rfl) ?_
   refine Zh (LF (s:=BR.b) Tryz.underlying39 rfl) ?_
   refine Zh (FA rfl rfl) ?_
   refine Zg ?_
   refine nT 57 hS (fun _ hS=>ZE hS) fun h57 hS => ?_
   obtain ⟨b60,hS⟩:=bM hS
   refine ZX ?_
   obtain ⟨aZc,a1R,hS⟩:=cS hS
   refine Zh (dU ((yK aAR BR (i_1+1) VJ).out a1R) rfl (fun _ _=>rfl)) ?_
   obtain ⟨b66,hS⟩:=bM hS
   refine ZX ?_
   obtain ⟨aZf,a1T,hS⟩:=cS hS
   refine Zh (dU ((yK aAR BR i_1 (VJ+1)).out a1T) rfl (fun _ _=>rfl)) ?_
   exact ZE hS
  exact ZE hS
 rintro aDb hS
 exact ZE hS
instance aUt (bP:Sv bH) (b_1:Sv bH) :
 jZ Tryz.prog 385 [bP.val,b_1.val] (Sh.G6 bP.l b_1.l) (bP.ok.and b_1.ok) (X:=Sv jE×Er) (fun x => .tuple #[x.1.val,x.2.val]) (fun x=>(x.1.l,x.2.pl)) (fun x=>(x.1.ok.and x.2.ok)):=by
 refine j6 Tryz.func385 Tryz.ntmps385 fun r hS c => ?_
 unfold Sh.G6 at hS
 refine ZX ?_
 obtain ⟨aAZ,a0l,hS⟩:=cS hS
 refine VL.oE (aH2 bP b_1 a0l) rfl (by decide) ?_
 rintro (RH | ⟨RH,NW⟩) rfl
 ·
  try dsimp only at hS
  try dsimp only
  refine ZO ?_
  refine Zl ?_
  refine VC.aV [0,1,6,7] (Zq (ZX ?_))
  refine oD hS (fun h20 hS => ?_) (fun h20 hS => ?_)
  ·
   refine ZX ?_
   cases hS
   exact VC.ret (Z2 (⟨none,0,[]⟩,RH))
  refine Zk ?_
  refine cI (Za ?_)
  refine Zl ?_
  refine VC.cJ [8] (fun (_:Unit)=>()) (fun _ ρ=>ρ) hS ?_ ?_
  ·
   intro k2 hS
   refine ZX ?_
   refine Zb ?_
   refine VC.iJ [0,1,6,8,9,10] (fun (_:Unit)=>()) (fun _ ρ=>ρ) () [0,1,6,8,9,10] hS ?_
   rintro _ m1 y1 hS hK1
   refine VC.cJ [0,1,6,8,9,10] (fun (_:Unit)=>()) (fun _ ρ=>ρ) hS ?_ ?_
   ·
    intro k3 hS
    refine cI (Zm ?_)
    refine Zm (Zu (LF (s:=bP) Tryz.underlying39 rfl) (Zu (rW rfl rfl) (Zm ?_)))
    refine nT 26 hS (fun h26 hS => ?_) (fun h26 hS => ?_)
    ·
     refine VL.runs 5 [(31,some true)] (by kernel_rfl) ?_
     refine Zl ?_
     refine VC.EI rfl ?_
     exact ZE hS
    exact ZE hS
   rintro _ hS
   exact ZE hS
  rintro _ hS
  refine ZX ?_
  refine I1 hS (FU ⟨none,0,[]⟩).out fun aYD hS=>ZX ?_
  cases hS
  exact VC.ret (Z2 (aYD,.nil))
 try dsimp only at hS
 try dsimp only
 refine ZO ?_
 refine Zl ?_
 refine VC.aV [0,1,6,7] (Zq (ZX ?_))
 refine Zu (aMa Tryz.underlying46 rfl) ?_
 refine Zl ?_
 refine VC.wA rfl ?_
 refine Zk ?_
 refine cI (Za ?_)
 refine Zl ?_
 refine VC.u5 (S:=Sv jE) (fun (yP:Sv jE)=>yP.l) (fun (yP:Sv jE)=>[(8,yP.val)]) (fun (yP:Sv jE)=>Mo.tt) (fun (yP:Sv jE)=>Ow.star (bN RH [NW.a.val,NW.b.val,NW.n.val] 456) (Ow.star (Sv.own yP 443) (Ow.emp))) hS ?_ ?_
 ·
  intro k6 hS
  refine ZX ?_
  refine Zb ?_
  refine VC.mR (⟨none,0,[]⟩:Sv jE) 443 ⟨rfl,rfl⟩ ?_
  refine VC.iter (S:=Sv jE×Int×Int) (fun sg=>(sg.1.l,sg.2.1,sg.2.2)) (fun sg=>[(0,bP.val),(1,b_1.val),(6,ptr RH 0),(8,sg.1.val),(9,i64 sg.2.1),(10,i64 sg.2.2)]) (fun sg=>Mo.tt) (fun sg=>Ow.star (bN RH [NW.a.val,NW.b.val,NW.n.val] 456) (Ow.star (Sv.own sg.1 443) (Ow.emp))) (⟨none,0,[]⟩,0,0) [0,1,6,8,9,10] hS rfl ?_
  rintro ⟨aE8,T3,JH⟩ m1 y1 hS hK1
  refine VC.cJ [0,1,6,8,9,10] (fun (_:Unit)=>()) (fun _ ρ=>ρ) hS ?_ ?_
  ·
   intro k10 hS
   refine cI (Zm ?_)
   refine Zm (Zu (LF (s:=bP) Tryz.underlying39 rfl) (Zu (rW rfl rfl) (Zm ?_)))
   refine nT 26 hS (fun h26 hS => ?_) (fun h26 hS => ?_)
   ·
    refine VL.runs 5 [(31,some true)] (by kernel_rfl) ?_
    refine Zl ?_
    refine VC.EI rfl ?_
    exact ZE hS
   exact ZE hS
  rintro _ hS
  refine Zb (ZX ?_)
  obtain ⟨TV,aVG,hS⟩:=cS hS
  refine Zu (l6 ((YV RH NW T3 JH).out aVG) rfl (fun _ _=>rfl)) ?_
  refine Za ?_
  refine Zl ?_
  refine cI (Za ?_)
  refine Zl ?_
  refine VC.cJ [0,1,6,8,11] (fun (sg:Int×Int×bH)=>(sg.1,sg.2.1,sg.2.2)) (fun sg ρ=>(9,i64 sg.1)::(10,i64 sg.2.1)::(12,str sg.2.2)::ρ) hS ?_ ?_
  ·
   intro k15 hS
   refine ZX ?_
   refine Zb (Zq (Zb ?_))
   refine VC.cJ [0,1,6,8,9,11] (fun (SM:Int)=>SM) (fun SM ρ=>(10,i64 SM)::ρ) hS ?_ ?_
   ·
    intro k17 hS
    refine Zb (Zq (Zb (Zq (Zq (ZX ?_)))))
    refine Zc hS (fun _ hS=>ZE hS) fun h37 hS=>Zk ?_
    refine Zq (ZX ?_)
    refine VC.aV [0,1,6,8,9,10,11,12,36,39] ?_
    refine Zc hS (fun _ hS=>ZE hS) fun h39 hS=>ZX ?_
    refine Zc hS (fun h41 hS => ?_) (fun h41 hS => ?_)
    ·
     refine Zx ?_
     refine Zq (ZX ?_)
     refine yH hS rfl fun aKU bA6 hS=>ZO ?_
     refine Zl ?_
     refine VC.aV [0,1,6,8,9,10,11,12] ?_
     obtain ⟨b56,hS⟩:=bM hS
     refine Zr (ZO ?_)
     refine Zl ?_
     refine VC.lX (T3,(JH+1),aKU) [9,10,12,0,1,6,8,11] (fun _ _ h=>h) hS rfl
    refine Zk ?_
    refine VC.lX (T3,JH,[]) [9,10,12,0,1,6,8,11] (fun _ _ h=>h) hS rfl
   rintro SM hS
   refine Zq (ZX ?_)
   refine yH hS rfl fun aKS bA4 hS => ?_
   obtain ⟨b50,hS⟩:=bM hS
   refine ZO ?_
   refine Zl ?_
   refine Zr (ZO ?_)
   refine Zl ?_
   refine VC.lX ((T3+1),SM,aKS) [9,10,12,0,1,6,8,11] (fun _ _ h=>h) hS rfl
  rintro ⟨aNj,aJI,SO⟩ hS
  refine Zr (ZX ?_)
  refine Zu (cG (vs:=[(0,i64 TV),(1,str SO)]) (cs := #[i64 TV,str SO]) rfl (by kernel_rfl)) ?_
  refine mS hS fun bCP hS=>HM hS fun a3l hS => ?_
  refine Za ?_
  refine VL.kL (a3l,aNj,aJI) [0,1,6,8,9,10] (fun _ _ h=>h) (go2 hS hK1) rfl
 rintro yP hS
 refine ZX ?_
 refine VL.shut yP 443 (fun _ _ _ _=>trivial) ?_
 refine fR hS rfl fun aTW hS=>ZX ?_
 cases hS
 exact VC.ret (Z2 (aTW,.nil))
instance XV (aA:Sv gZ) :
 jZ Tryz.prog 386 [aA.val] (Sh.jI aA.l) aA.ok (X:=Sv gZ) (fun x=>x.val) (fun x=>x.l) (fun x=>x.ok):=by
 refine j6 Tryz.func386 Tryz.ntmps386 fun r hS c => ?_
 unfold Sh.jI at hS
 obtain ⟨b8,hS⟩:=bM hS
 refine ZX ?_
 refine VL.UA Tryz.underlying432 aE0 rfl rfl rfl b8.1 (b8.2) (by decide) fun PC tC => ?_
 replace hS:=dZ tC hS
 exact ZE hS
instance aRk (bP:Sv bH) (b_1:Sv bH) :
 jZ Tryz.prog 381 [bP.val,b_1.val] (Sh.CC bP.l b_1.l) (bP.ok.and b_1.ok) (X:=Sv gZ×Er) (fun x => .tuple #[x.1.val,x.2.val]) (fun x=>(x.1.l,x.2.pl)) (fun x=>(x.1.ok.and x.2.ok)):=by
 refine j6 Tryz.func381 Tryz.ntmps381 fun r hS c => ?_
 unfold Sh.CC at hS
 refine ZX ?_
 refine fR hS rfl fun ⟨IF,aMW⟩ hS => ?_
 try dsimp only
 refine ZO ?_
 refine Zl ?_
 refine VC.aV [6,7] (Zq (ZX ?_))
 refine oD hS (fun h21 hS => ?_) (fun h21 hS => ?_)
 ·
  refine ZX ?_
  cases hS
  exact VC.ret (Z2 (⟨none,0,[]⟩,aMW))
 refine ZX ?_
 refine Zq (ZX ?_)
 refine Zb ?_
 refine VC.mR (⟨none,0,[]⟩:Sv gZ) 437 ⟨rfl,rfl⟩ ?_
 refine VC.iter (S:=Sv gZ×Int×Int×Bool×Int) (fun sg=>(sg.1.l,sg.2.1,sg.2.2.1,sg.2.2.2.1,sg.2.2.2.2)) (fun sg=>[(8,sg.1.val),(9,i64 sg.2.1),(10,i64 sg.2.2.1),(11,.bool sg.2.2.2.1),(23,IF.val),(24,i64 (IF.l.length:Int)),(25,i64 sg.2.2.2.2)]) (fun sg=>Mo.tt) (fun sg=>Ow.star (Sv.own sg.1 437) (Ow.emp)) (⟨none,0,[]⟩,0,0,false,0) [8,9,10,11,23,24,25] hS rfl ?_
 rintro ⟨SS,aBM,NN,aMe,CS⟩ m1 y1 hS hK1
 refine ZX ?_
 refine Zq (Zc hS (fun h26 hS => ?_) (fun h26 hS => ?_))
 ·
  refine Zk ?_
  refine Zq (Zb (cI (yH hS rfl fun L9 bBp hS=>ZX ?_)))
  refine dJ fun aFE=>ZO ?_
  refine Zl ?_
  refine VC.u5 (S:=Sv gZ) (fun (u6:Sv gZ)=>u6.l) (fun (u6:Sv gZ)=>[(8,u6.val),(9,i64 aBM),(10,i64 NN),(13,ptr aFE 0),(23,IF.val),(24,i64 (IF.l.length:Int)),(25,i64 CS)]) (fun (u6:Sv gZ)=>Mo.tt) (fun (u6:Sv gZ)=>Ow.star (bN aFE [i64 L9.op,str L9.line] 443) (Ow.star (Sv.own u6 437) (Ow.emp))) hS ?_ ?_
  ·
   intro k10 hS
   refine ZX ?_
   refine Zc hS (fun h31 hS => ?_) (fun h31 hS => ?_)
   ·
    refine VC.u5 (S:=Sv gZ) (fun (rV:Sv gZ)=>rV.l) (fun (rV:Sv gZ)=>[(8,rV.val),(9,i64 aBM),(10,i64 NN),(13,ptr aFE 0),(23,IF.val),(24,i64 (IF.l.length:Int)),(25,i64 CS)]) (fun (rV:Sv gZ)=>Mo.tt) (fun (rV:Sv gZ)=>Ow.star (bN aFE [i64 L9.op,str L9.line] 443) (Ow.star (Sv.own rV 437) (Ow.emp))) hS ?_ ?_
    ·
     intro k12 hS
     refine ZX ?_
     refine VC.aV [8,9,10,23,24,25,13,33] (iZ hS (fun h33 hS => ?_) (fun h33 hS => ?_))
     ·
      refine Zr (ZX ?_)
      refine Zu (cG (vs:=[(0,i64 aBM),(1,i64 NN)]) (cs := #[i64 aBM,i64 NN,i64 0]) rfl (by kernel_rfl)) ?_
      exact ZE hS
     exact ZE hS
    rintro rV hS
    obtain ⟨b43,hS⟩:=bM hS
    refine Zr (ZX ?_)
    obtain ⟨aCT,aLw,aLW,hS⟩:=gP hS
    refine Zu (lK (s:=rV) Tryz.underlying432 aE0 rfl rfl aLw (bR aLw aLW)) ?_
    refine ZX ?_
    refine Zu (zR (s:=rV) o5 rfl aLW rfl) ?_
    obtain ⟨b47,hS⟩:=bM hS
    refine ZX ?_
    obtain ⟨aCW,aMB,aL0,hS⟩:=gP hS
    refine Zu (lK (s:=rV) Tryz.underlying432 aE0 rfl rfl aMB (bR aMB aL0)) ?_
    refine ZX ?_
    refine VL.oC (s:=rV) (T:=437) (j:=2) (vc:=[i64 (aCT.n+1)]) (⟨aCW.a,aCW.b,(aCT.n+1)⟩:gZ) (by decide) rfl rfl aL0 rfl E3 rfl rfl (Nat.le_of_ble_eq_true rfl) rfl (fun w19 hw19 haw19 hcw19 hvw19 hbw19 how19 => ?_)
    rw [← hvw19]
    replace hS:=dZ hw19 hS
    exact ZE hS
   exact ZE hS
  rintro u6 hS
  refine cI (ZO ?_)
  refine Zl ?_
  refine VC.cJ [8,10,11,13,23,24,25] (fun (SL:Int)=>SL) (fun SL ρ=>(9,i64 SL)::ρ) hS (fun _ hS=>ZE hS) ?_
  rintro SL hS
  refine ZX ?_
  refine oD hS (fun h60 hS => ?_) (fun h60 hS => ?_)
  ·
   obtain ⟨b62,hS⟩:=bM hS
   obtain ⟨b63,hS⟩:=bM hS
   refine Zr (ZX ?_)
   refine Zr (ZX ?_)
   refine VL.kL (u6,SL,(NN+1),(decide (L9.op=1)),(CS+1)) [8,9,10,11,23,24,25] (fun _ _ h=>h) (go2 hS hK1) rfl
  obtain ⟨b63,hS⟩:=bM hS
  refine Zk ?_
  refine Zr (ZX ?_)
  refine VL.kL (u6,SL,NN,(decide (L9.op=1)),(CS+1)) [8,9,10,11,23,24,25] (fun _ _ h=>h) (go2 hS hK1) rfl
 replace hS:=kS hS hK1
 refine Zx ?_
 refine ZX ?_
 refine VL.shut SS 437 (fun _ _ _ _=>trivial) ?_
 refine fR hS rfl fun aTY hS=>ZX ?_
 cases hS
 exact VC.ret (Z2 (aTY,.nil))
instance aSe (fB:Sv bH) (B5:Sv bH) :
 jZ Tryz.prog 376 [fB.val,B5.val] (Sh.zA fB.l B5.l) (fB.ok.and B5.ok) (X:=Sv Int×Er) (fun x => .tuple #[x.1.val,x.2.val]) (fun x=>(x.1.l,x.2.pl)) (fun x=>(x.1.ok.and x.2.ok)):=by
 refine j6 Tryz.func376 Tryz.ntmps376 fun r hS c => ?_
 unfold Sh.zA at hS
 refine ZX ?_
 refine fR hS rfl fun ⟨aBZ,aX5⟩ hS => ?_
 try dsimp only
 refine ZO ?_
 refine Zl ?_
 refine VC.aV [0,6,7] (Zq (ZX ?_))
 refine oD hS (fun h19 hS => ?_) (fun h19 hS => ?_)
 ·
  refine ZX ?_
  cases hS
  exact VC.ret (Z2 (⟨none,0,[]⟩,aX5))
 refine ZX ?_
 refine mS hS fun a8L hS=>ZX ?_
 refine y7 hS (aMd a8L (fB.l.length:Int)) fun aXf hS=>ZX ?_
 refine Zq (ZX ?_)
 refine VC.aV [8,25,26,27] (Zb ?_)
 refine VC.iter (S:=Sv Int×Int) (fun sg=>(sg.1.l,sg.2)) (fun sg=>[(8,sg.1.val),(25,aBZ.val),(26,i64 (aBZ.l.length:Int)),(27,i64 sg.2)]) (fun sg=>Mo.tt) (fun sg=>Ow.star (Sv.own sg.1 3) (Ow.emp)) (aXf,0) [8,25,26,27] hS rfl ?_
 rintro ⟨yP,aAX⟩ m1 y1 hS hK1
 refine ZX ?_
 refine Zq (Zc hS (fun h28 hS => ?_) (fun h28 hS => ?_))
 ·
  refine Zk ?_
  refine Zq (Zb (cI (yH hS rfl fun KA bBr hS=>ZX ?_)))
  refine dJ fun aU9=>ZX ?_
  refine Zb ?_
  refine VC.iter (S:=Sv Int×Int) (fun sg=>(sg.1.l,sg.2)) (fun sg=>[(8,sg.1.val),(10,ptr aU9 0),(25,aBZ.val),(26,i64 (aBZ.l.length:Int)),(27,i64 aAX),(32,i64 KA.n),(33,i64 sg.2)]) (fun sg=>Mo.tt) (fun sg=>Ow.star (bN aU9 [i64 KA.a,i64 KA.b,i64 KA.n] 437) (Ow.star (Sv.own sg.1 3) (Ow.emp))) (yP,0) [8,10,25,26,27,32,33] hS rfl ?_
  rintro ⟨u6,F4⟩ m2 y2 hS hK2
  refine ZX ?_
  refine Zq (Zc hS (fun h34 hS => ?_) (fun h34 hS => ?_))
  ·
   obtain ⟨b40,hS⟩:=bM hS
   obtain ⟨b44,hS⟩:=bM hS
   refine Zk ?_
   refine Zq (Zb (ZX ?_))
   refine Zr (ZX ?_)
   obtain ⟨a6E,aLx,aLX,hS⟩:=gP hS
   refine Zu (lK (s:=u6) Tryz.underlying57 E3 rfl rfl aLx (bR aLx aLX)) ?_
   refine VL.oC (s:=u6) (T:=3) (j:=0) (vc:=[i64 (KA.b+F4)]) ((KA.b+F4):Int) (by decide) rfl rfl aLX rfl E3 rfl rfl (Nat.le_of_ble_eq_true rfl) rfl (fun w12 hw12 haw12 hcw12 hvw12 hbw12 how12 => ?_)
   rw [← hvw12]
   replace hS:=dZ hw12 hS
   refine Zl ?_
   refine VC.aV [8,10,25,26,27,32,33] ?_
   obtain ⟨b46,hS⟩:=bM hS
   refine Zr (ZX ?_)
   refine VL.kL (w12,(F4+1)) [8,10,25,26,27,32,33] (fun _ _ h=>h) (go2 hS hK2) rfl
  replace hS:=kS hS hK2
  refine Zx ?_
  obtain ⟨b47,hS⟩:=bM hS
  refine Zr (ZX ?_)
  refine VL.kL (u6,(aAX+1)) [8,25,26,27] (fun _ _ h=>h) (go2 hS hK1) rfl
 replace hS:=kS hS hK1
 refine Zx ?_
 refine cI (ZO ?_)
 refine Zl ?_
 refine VC.shut yP 3 (fun _ _ _ _=>trivial) ?_
 cases hS
 exact VC.ret (Z2 (yP,.nil))
instance aDG (aA:Sv bH) :
 vL Tryz.prog 178 [aA.val] (Sh.gR aA.l) aA.ok (Ow.emp) (X:=Sv bH) (fun x=>x.val) (fun x=>x.l) (fun x=>Mo.tt) (fun x=>Sv.own x 9):=by
 refine v8 Tryz.func178 Tryz.ntmps178 fun r hS c => ?_
 unfold Sh.gR at hS
 refine ZX ?_
 refine Zq (ZX ?_)
 refine Zu (LG (s:=aA) Tryz.underlying39 rfl) ?_
 refine Zl ?_
 refine VC.slnil (s:=aA) rfl (fun h4 => ?_) ?_
 ·
  have hS:(some [])=some r:=by
    simp [lt,gd,h4] at hS ⊢
    try exact hS
  refine cI (Za ?_)
  refine Zl ?_
  refine VC.mR (⟨none,0,[]⟩:Sv bH) 9 ⟨rfl,rfl⟩ ?_
  cases hS
  exact VC.ret (Z1 ⟨none,0,[]⟩)
 refine ZX ?_
 refine VL.aEA (α:=bH) Tryz.underlying39 a7Q (by decide) (fun ME wE BF => ?_)
 refine VL.mR ME 9 ⟨BF,wE⟩ ?_
 replace hS:=dZ wE hS
 exact ZE hS
instance aXG (dR:Sv bH) :
 vL Tryz.prog 388 [dR.val] (Sh.wS dR.l) dR.ok (Ow.emp) (X:=Sv bH) (fun x=>x.val) (fun x=>x.l) (fun x=>Mo.tt) (fun x=>Sv.own x 9):=by
 refine v8 Tryz.func388 Tryz.ntmps388 fun r hS c => ?_
 unfold Sh.wS at hS
 exact ZE hS
instance aDH (iQ:Sv bH) (jV:Sv bH) :
 gF Tryz.prog 389 [iQ.val,jV.val] (Sh.jH iQ.l jV.l) (iQ.ok.and jV.ok) (fun r => .bool r):=by
 refine gM Tryz.func389 Tryz.ntmps389 fun r hS c => ?_
 unfold Sh.jH at hS
 refine ZX ?_
 refine Zq (ZX ?_)
 refine oD hS (fun _ hS=>ZE hS) fun h10 hS=>Zk ?_
 refine Zq (ZX ?_)
 refine VC.aV [0,1,12,13] (Zb ?_)
 refine VC.iJ [0,1,12] (fun (jP:Int)=>jP) (fun jP ρ=>(13,i64 jP)::ρ) 0 [13,0,1,12] hS ?_
 rintro jP m1 y1 hS hK1
 refine ZX ?_
 refine Zq (Zc hS (fun h14 hS => ?_) (fun h14 hS => ?_))
 ·
  refine Zk ?_
  refine Zq (Zb (ZX ?_))
  refine Zq ?_
  refine iB ((List.range 9).map fun k=>(k,true)) ?_
  exact ZE hS
 exact ZE hS
instance aH6 (fB:Sv bH) (dS:Sv bH) (dD:Sv bH) :
 jZ Tryz.prog 383 [fB.val,dS.val,dD.val] (Sh.JJ fB.l dS.l dD.l) (fB.ok.and (dS.ok.and dD.ok)) (X:=jF) (fun x => .agg (bD.enc x).toArray) (fun x=>x.pl) (fun x=>x.m):=by
 refine j6 Tryz.func383 Tryz.ntmps383 fun r hS c => ?_
 unfold Sh.JJ at hS
 refine cI (dJ fun bDN=>ZX ?_)
 refine fM hS rfl fun CZ hS=>Zm ?_
 refine fM hS rfl fun DJ hS=>Zm ?_
 refine fM hS rfl fun DK hS => ?_
 refine Zu (cG (vs:=[(0,CZ.val),(1,DJ.val),(2,DK.val)]) (cs := #[CZ.val,DJ.val,DK.val,.bool false,.slice none 0 0]) rfl (by kernel_rfl)) ?_
 refine dJ fun aHf=>ZO ?_
 refine Zl ?_
 refine VC.aV [0,1,2,6,7] (Zq (Zb (ZX ?_)))
 refine jK hS rfl fun WZ hS=>ZX ?_
 refine iZ hS (fun h16 hS => ?_) (fun h16 hS => ?_)
 ·
  refine Zr (Zm ?_)
  refine fM hS rfl fun aM2 hS=>ZO ?_
  refine Zl ?_
  refine VC.aV [6,7] (cI (ZO ?_))
  refine Zl ?_
  refine VC.shut CZ 9 (fun _ _ _ _=>trivial) ?_
  refine VC.shut DJ 9 (fun _ _ _ _=>trivial) ?_
  refine VC.shut DK 9 (fun _ _ _ _=>trivial) ?_
  refine VC.shut aM2 9 (fun _ _ _ _=>trivial) ?_
  cases hS
  exact VC.ret (Z4 ⟨CZ,DJ,DK,false,aM2⟩ rfl)
 refine VC.cJ [1,6,7] (fun (aD1:Bool)=>aD1) (fun aD1 ρ=>(23,.bool aD1)::ρ) hS (fun _ hS=>ZE hS) ?_
 rintro aD1 hS
 refine iZ hS (fun h23 hS => ?_) (fun h23 hS => ?_)
 ·
  refine Zr (Zm ?_)
  refine fM hS rfl fun aHv hS=>ZO ?_
  refine Zl ?_
  refine cI (ZO ?_)
  refine Zl ?_
  refine VC.shut CZ 9 (fun _ _ _ _=>trivial) ?_
  refine VC.shut DJ 9 (fun _ _ _ _=>trivial) ?_
  refine VC.shut DK 9 (fun _ _ _ _=>trivial) ?_
  refine VC.shut aHv 9 (fun _ _ _ _=>trivial) ?_
  cases hS
  exact VC.ret (Z4 ⟨CZ,DJ,DK,false,aHv⟩ rfl)
 refine Zr (ZO ?_)
 refine Zl ?_
 refine cI (ZO ?_)
 refine Zl ?_
 refine VC.shut CZ 9 (fun _ _ _ _=>trivial) ?_
 refine VC.shut DJ 9 (fun _ _ _ _=>trivial) ?_
 refine VC.shut DK 9 (fun _ _ _ _=>trivial) ?_
 cases hS
 exact VC.ret (Z4 ⟨CZ,DJ,DK,true,⟨none,0,[]⟩⟩ rfl)
theorem aSR:cF Tryz.prog 428 3 3:=bO (n:=0) (f:=⟨_,_,3,_,_,_,_⟩) Tryz.underlying428 rfl (by kernel_rfl)
instance:kJ Tryz.prog 428 3 3:=⟨aSR⟩
theorem aSS:cF Tryz.prog 428 4 4:=bO (n:=0) (f:=⟨_,_,4,_,_,_,_⟩) Tryz.underlying428 rfl (by kernel_rfl)
instance:kJ Tryz.prog 428 4 4:=⟨aSS⟩
theorem aST:cF Tryz.prog 428 5 5:=bO (n:=0) (f:=⟨_,_,5,_,_,_,_⟩) Tryz.underlying428 rfl (by kernel_rfl)
instance:kJ Tryz.prog 428 5 5:=⟨aST⟩
theorem aSU:cF Tryz.prog 428 6 6:=bO (n:=0) (f:=⟨_,_,6,_,_,_,_⟩) Tryz.underlying428 rfl (by kernel_rfl)
instance:kJ Tryz.prog 428 6 6:=⟨aSU⟩
theorem aW2:OneCell Tryz.prog 417:=lD Tryz.underlying417 rfl
instance:MF Tryz.prog 417:=⟨aW2⟩
theorem aSO:cF Tryz.prog 428 0 0:=bO (n:=0) (f:=⟨_,_,0,_,_,_,_⟩) Tryz.underlying428 rfl (by kernel_rfl)
instance:kJ Tryz.prog 428 0 0:=⟨aSO⟩
theorem aSP:cF Tryz.prog 428 1 1:=bO (n:=0) (f:=⟨_,_,1,_,_,_,_⟩) Tryz.underlying428 rfl (by kernel_rfl)
instance:kJ Tryz.prog 428 1 1:=⟨aSP⟩
theorem aSQ:cF Tryz.prog 428 2 2:=bO (n:=0) (f:=⟨_,_,2,_,_,_,_⟩) Tryz.underlying428 rfl (by kernel_rfl)
instance:kJ Tryz.prog 428 2 2:=⟨aSQ⟩
theorem aFi:((Tryz.prog.info? 422).map fun i=>(i.size,i.zero.isSome))=some (5,true):=by kernel_rfl
instance:KP Tryz.prog 422 5:=⟨aFi⟩
theorem aF4:((Tryz.prog.info? 422).map fun i=>(i.size,i.bytes,(i.zero.map fun z=>z.cells.size)))=some (5,104,some 5):=by kernel_rfl
instance:M6 Tryz.prog 422 5 104:=⟨aF4⟩
theorem a1j:(Tryz.prog.info? 417).map (·.size)=some 1:=by kernel_rfl
instance:zO Tryz.prog 417 1:=⟨a1j⟩
theorem aSV:cF Tryz.prog 428 7 7:=bO (n:=0) (f:=⟨_,_,7,_,_,_,_⟩) Tryz.underlying428 rfl (by kernel_rfl)
instance:kJ Tryz.prog 428 7 7:=⟨aSV⟩
theorem aHn:cF Tryz.prog 422 0 0:=bO (n:=0) (f:=⟨_,_,0,_,_,_,_⟩) Tryz.underlying422 rfl (by kernel_rfl)
instance:kJ Tryz.prog 422 0 0:=⟨aHn⟩
theorem aAl (s:Sv bH):Ct Tryz.prog 179 [s.val] s.ok Ow.emp (X:=Sv bH) Sv.val (fun q=>q.l=s.l) (fun q=>q.ok) (fun _=>Ow.emp):=by
 refine Zo Tryz.func179 Tryz.ntmps179 fun c => ?_
 refine ZX ?_
 refine VL.part (s:=s) (0) (((s.l.length:Int)).toNat) Tryz.underlying39 xE rfl rfl rfl rfl (by simp) (by simp) (by simp) (by simp) (by omega) (by omega) (by decide) (fun s8 hs8 => ?_)
 refine ZX ?_
 exact VC.ret (aNe (.inr rfl) rfl rfl s8 rfl ((by simpa using hs8)) (fun _ _=>trivial))
theorem aRi (s:Sv Ck):Ct Tryz.prog 379 [s.val] s.ok Ow.emp (X:=Sv Ck) Sv.val (fun q=>q.l=s.l) (fun q=>q.ok) (fun _=>Ow.emp):=by
 refine Zo Tryz.func379 Tryz.ntmps379 fun c => ?_
 refine ZX ?_
 refine Zu (LF (s:=s) Tryz.underlying417 rfl) (Zm (Zu (LF (s:=s) Tryz.underlying417 rfl) ?_))
 refine VL.part (s:=s) (0) (((s.l.length:Int)).toNat) Tryz.underlying417 aBF rfl rfl rfl rfl (by simp) (by simp) (by simp) (by simp) (by omega) (by omega) (by decide) (fun s8 hs8 => ?_)
 refine ZX ?_
 exact VC.ret (aNe (.inr rfl) rfl rfl s8 rfl ((by simpa using hs8)) (fun _ _=>trivial))
theorem aMs (p:Nat) (bv ov tv:Sv bH) (o:Sv Ck) (fr:List Ck) (x:Ck) (s:Sh.E6) (i' j' k':Int) {r:Sh.E6} (hS:Sh.AN bv.l ov.l tv.l s i' j' k'=some r) (hR:Rel s o fr x) :
 Ct Tryz.prog 377 [ptr p 0,i64 i',i64 j',i64 k'] ((MA fr).and (bv.ok.and (ov.ok.and tv.ok))) (Ow.star (bN p [bv.val,ov.val,tv.val,i64 s.i,i64 s.j,i64 s.k,o.val,.bool s.op] 428) (Ow.star (o.own 422) (PN s.op x))) (X:=Sv Ck×List Ck×Ck) (fun _ => .tuple #[]) (fun y=>Rel r y.1 y.2.1 y.2.2) (fun y=>MA y.2.1) (fun y=>Ow.star (bN p [bv.val,ov.val,tv.val,i64 r.i,i64 r.j,i64 r.k,y.1.val,.bool r.op] 428) (Ow.star (y.1.own 422) (PN r.op y.2.2))):=by
 refine Zo Tryz.func377 Tryz.ntmps377 fun c => ?_
 refine Zq ?_
 refine VC.bAO [(0,ptr p 0),(1,i64 i'),(2,i64 j'),(3,i64 k'),(29,.bool (decide (s.i < i'∨s.j < j'∨s.k < k')))] ?_ ?_
 ·
  refine Zr (ZX ?_)
  refine VL.xR 14 rfl (fun h14 => ?_) (fun h14 => ?_)
  ·
   refine ZX ?_
   refine VL.HH 29 (v' := .bool (decide (s.i < i'∨s.j < j'∨s.k < k'))) rfl (congrArg Value.bool (by simp [h14])) ?_
   refine VL.meet (ks:=[0,1,2,3,29]) (fun _ _ h=>h) rfl
  refine ZX ?_
  refine VL.xR 22 rfl (fun h22 => ?_) (fun h22 => ?_)
  ·
   refine ZX ?_
   refine VL.HH 29 (v' := .bool (decide (s.i < i'∨s.j < j'∨s.k < k'))) rfl (congrArg Value.bool (by simp [h14,h22])) ?_
   refine VL.meet (ks:=[0,1,2,3,29]) (fun _ _ h=>h) rfl
  refine ZX ?_
  refine VL.HH 29 (v' := .bool (decide (s.i < i'∨s.j < j'∨s.k < k'))) rfl (congrArg Value.bool (by simp [h14,h22])) ?_
  refine VL.meet (ks:=[0,1,2,3,29]) (fun _ _ h=>h) rfl
 refine VC.nV rfl (fun hput => ?_) (fun hput => ?_)
 ·
  rw [Sh.AN,if_pos hput] at hS
  unfold Sh.DH at hS
  obtain ⟨⟨c1,c2,c3⟩,hS⟩:=bM hS
  obtain ⟨⟨c4,c5,c6⟩,hS⟩:=bM hS
  obtain ⟨⟨c7,c8,c9⟩,hS⟩:=bM hS
  obtain ⟨g,hg,hS⟩:=cS hS
  obtain ⟨hl,hS⟩:=bM hS
  cases hS
  have hl:o.l.length≤1048576:=by have:=congrArg List.length hR.out; rw [List.length_map] at this; omega
  refine VC.aPC s.op rfl hR ?_
  refine Zq ?_
  refine iB [(0,true),(1,true),(2,true),(3,true),(4,true),(5,true),(6,true),(7,true),(8,true),(9,true),(10,true),(11,true),(12,true),(13,true),(14,true),(15,true),(16,true),(17,true),(18,true),(19,true),(20,true),(21,true),(22,true),(23,true),(24,true),(25,true),(26,true),(27,true),(28,true),(29,true),(30,true),(31,true),(32,true),(33,true),(34,true),(35,false),(36,false),(37,false),(38,true),(39,true),(40,false)] ?_
  refine ZX ?_
  refine VD.part (s:=bv) rfl ((s.i).toNat) ((i').toNat) Tryz.underlying39 xE rfl rfl rfl rfl (by show s.i=_; omega) (by show i'=_; omega) (.inl rfl) (fun h=>by cases h) (by omega) (by omega) (by decide) (fun s44 _ hs44 => ?_)
  refine ZX ?_
  refine VD.part (s:=ov) rfl ((s.j).toNat) ((j').toNat) Tryz.underlying39 xE rfl rfl rfl rfl (by show s.j=_; omega) (by show j'=_; omega) (.inl rfl) (fun h=>by cases h) (by omega) (by omega) (by decide) (fun s54 _ hs54 => ?_)
  refine ZX ?_
  refine VD.part (s:=tv) rfl ((s.k).toNat) ((k').toNat) Tryz.underlying39 xE rfl rfl rfl rfl (by show s.k=_; omega) (by show k'=_; omega) (.inl rfl) (fun h=>by cases h) (by omega) (by omega) (by decide) (fun s64 _ hs64 => ?_)
  refine VD.one rfl ?_
  refine VL.jN ((aH6 s44 s54 s64).out (by rw [hs44,hs54,hs64]; exact hg)) rfl (by decide) ?_
  rintro x1 hx
  refine eO (Pk 4 (Pk 3 (Pk 2 Pz))) ?_
  refine VD.one rfl ?_
  refine VL.lit (α:=Ck) (xs:=[.tmp 65]) (vs:=[.agg #[x1.base.val,x1.ours.val,x1.cU.val,.bool x1.qI,x1.out.val]]) [x1] Tryz.underlying417 aFi (by decide) rfl rfl rfl rfl (by decide) (fun h m z hz=>by cases List.mem_singleton.1 hz; exact dV.out (X:=x1.m) h m) (by decide) (fun s66 hs66 => ?_) (by decide)
  refine eO (Pk 4 (Pk 3 (Pk 2 Pz))) ?_
  refine VD.one rfl ?_
  refine VL.app (s:=o) (r:=s66) Tryz.underlying417 aF4 (by decide) rfl Fo.out (by rw [hs66]; simp; omega) (by rw [hs66]; simp; omega) (by decide) (fun s67 hs67 => ?_)
  refine eV ?_
  refine ZX ?_
  refine VD.one rfl (ZX ?_)
  refine eV ?_
  refine ZX ?_
  refine Zr (ZX ?_)
  refine Zr (ZX ?_)
  refine VL.M9 (MA s67.l) (fun hp q=>by rw [hs67,hs66]; exact MA.snoc (M:=_) (dV.out (X:=MA o.l)) (dV.out (X:=x1.m)) hp q) ?_
  exact VL.nil (aNd (.inl rfl) rfl (s67,s67.l,aNn) rfl (⟨(fun q=>by cases q),(fun _=>⟨rfl,rfl⟩),(by rw [hs67,hs66,List.map_append,hR.out]; simp [hx])⟩) fK.out)
 refine Zk ?_
 refine Zr (ZO ?_)
 rw [Sh.AN,if_neg hput] at hS
 cases hS
 exact VL.nil (aNd (.inl rfl) rfl (o,fr,x) rfl (⟨hR.yes,hR.no,hR.out⟩) fK.out)
theorem aWz (p:Nat) (bv ov tv:Sv bH) (out:Sv Ck) (op:Bool) (fr:List Ck) (x:Ck) (line:bH) (i j k:Int) (hout:op=true→out.l=fr++[x]) (hnew:op=false→fr=out.l∧x=(⟨⟨none,0,[]⟩,⟨none,0,[]⟩,⟨none,0,[]⟩,false,⟨none,0,[]⟩⟩:Ck)) (hline:bv.l[i.toNat]? = some line) (i0:0≤i) (j0:0≤j) (k0:0≤k) (i1:i≤1048576) (j1:j≤1048576) (k1:k≤1048576) (hl:out.l.length≤1048576)
 (hx1:x.base.l.length≤1048576) (hx2:x.ours.l.length≤1048576) (hx3:x.cU.l.length≤1048576) (hx4:x.out.l.length≤1048576) :
 Ct Tryz.prog 378 [ptr p 0] bv.ok (Ow.star (bN p [bv.val,ov.val,tv.val,i64 i,i64 j,i64 k,out.val,.bool op] 428) (Ow.star (out.own 422) (PN op x))) (X:=Sv Ck×Ck) (fun _ => .tuple #[]) (fun x'=>x'.1.l=fr++[x'.2]∧x'.2.base.l=x.base.l++[line]∧x'.2.ours.l=x.ours.l++[line]∧x'.2.cU.l=x.cU.l++[line]∧x'.2.out.l=x.out.l++[line]∧x'.2.qI=x.qI) (fun _=>Mo.tt) (fun x=>Ow.star (bN p [bv.val,ov.val,tv.val,i64 (i+1),i64 (j+1),i64 (k+1),x.1.val,.bool true] 428) (Ow.star (x.1.own 422) (Ow.star (x.2.base.own 9) (Ow.star (x.2.ours.own 9) (Ow.star (x.2.cU.own 9) (x.2.out.own 9)))))):=by
 refine Zo Tryz.func378 Tryz.ntmps378 fun c => ?_
 refine Zq ?_
 obtain ⟨hi2,_⟩:=List.getElem?_eq_some_iff.1 hline
 refine iB ((List.range 11).map fun k=>(k,true)) ?_
 refine ZX ?_
 refine Zw rfl (jA (s:=bv) Tryz.underlying39 xE rfl rfl (by omega) (by omega)) ?_
 refine Zw rfl (I4  (s:=bv) mF rfl hline rfl) ?_
 refine ZD ?_
 refine uD ?_
 refine VC.cut (S:=Sv Ck) (fun sg=>sg.l=fr++[x]∧sg.l.length≤1048577) (fun sg=>[(0,ptr p 0),(2,str line)]) (fun sg=>Mo.tt) (fun sg=>Ow.star (bN p [bv.val,ov.val,tv.val,i64 i,i64 j,i64 k,sg.val,.bool true] 428) (Ow.star (Sv.own sg 422) (Ow.star (Sv.own x.base 9) (Ow.star (Sv.own x.ours 9) (Ow.star (Sv.own x.cU 9) (Ow.star (Sv.own x.out 9) (Ow.emp))))))) ?_ ?_
 ·
  refine ZX ?_
  refine VC.cond rfl (fun h18 => ?_) (fun h18 => ?_)
  ·
   obtain rfl:op=false:=by simpa using h18
   obtain ⟨hfr,hxn⟩:=hnew rfl
   refine VC.mono (fun _ h=>h) (E':=Ow.star (bN p [bv.val,ov.val,tv.val,i64 i,i64 j,i64 k,out.val,.bool false] 428) (Ow.star (Sv.own out 422) (Ow.emp))) (fun _ h=>h) ?_
   refine ZX ?_
   refine Zu (cG (vs:=[]) (cs := #[.slice none 0 0,.slice none 0 0,.slice none 0 0,.bool false,.slice none 0 0]) rfl (by kernel_rfl)) ?_
   refine VL.lit (α:=Ck) (xs:=[.tmp 24]) (vs:=[.agg #[.slice none 0 0,.slice none 0 0,.slice none 0 0,.bool false,.slice none 0 0]]) [(⟨⟨none,0,[]⟩,⟨none,0,[]⟩,⟨none,0,[]⟩,false,⟨none,0,[]⟩⟩:Ck)] Tryz.underlying417 aFi (by decide) rfl rfl rfl rfl (by decide) (fun h m z hz=>by cases List.mem_singleton.1 hz; exact dV.out (M:=Mo.tt) (X:=jF.m (⟨⟨none,0,[]⟩,⟨none,0,[]⟩,⟨none,0,[]⟩,false,⟨none,0,[]⟩⟩:Ck)) h trivial) (by decide) (fun s25 hs25 => ?_) (by decide)
   refine VL.app (s:=out) (r:=s25) Tryz.underlying417 aF4 (by decide) rfl Fo.out (by rw [hs25]; simp; omega) (by rw [hs25]; simp; omega) (by decide) (fun s26 hs26 => ?_)
   refine ZO ?_
   refine Zl ?_
   refine VC.mR x.out 9 ⟨by rw [hxn],by rw [hxn]⟩ ?_
   refine VC.mR x.cU 9 ⟨by rw [hxn],by rw [hxn]⟩ ?_
   refine VC.mR x.ours 9 ⟨by rw [hxn],by rw [hxn]⟩ ?_
   refine VC.mR x.base 9 ⟨by rw [hxn],by rw [hxn]⟩ ?_
   refine Zr (ZX ?_)
   refine VL.anyI s26 [0,2] (fun _ _ h=>h) ?_ rfl (by (try dsimp only); exact fK.out)
   try dsimp only
   exact ⟨by rw [hs26,hs25,hfr,hxn],by rw [hs26,hs25]; simp; omega⟩
  obtain rfl:op=true:=by simpa using h18
  refine VC.mono (fun _ h=>h) (E':=Ow.star (bN p [bv.val,ov.val,tv.val,i64 i,i64 j,i64 k,out.val,.bool true] 428) (Ow.star (out.own 422) (Ow.star (x.base.own 9) (Ow.star (x.ours.own 9) (Ow.star (x.cU.own 9) (x.out.own 9)))))) (fun _ h=>h) ?_
  refine VC.aOL out [0,2] (fun _ _ h=>h) ?_ rfl (by (try dsimp only); exact fK.out)
  try dsimp only
  exact ⟨hout rfl,by omega⟩
 rintro o hI
 try dsimp only at hI
 clear hout hnew
 obtain ⟨hout,hol⟩:=hI
 refine Zq ?_
 refine iB ((List.range 12).map fun k=>(k,true)) ?_
 refine ZX ?_
 refine Zw rfl (LF (s:=o) Tryz.underlying417 rfl) ?_
 refine Zw rfl (N4 rfl rfl ⟨by omega,by omega⟩) ?_
 have hx:=aSa hout
 have hpos:0 < o.l.length:=by rw [hout]; simp
 refine Zw rfl (lK (s:=o) Tryz.underlying417 aBF rfl rfl (by omega) (by omega)) ?_
 refine ZX ?_
 refine Zq ?_
 refine VC.aZC Mo.tt ?_
 have ex:ElC o.l (((o.l.length:Int) - 1).toNat) x:=⟨hx⟩
 refine VC.GH (n:=20) (listed:=(bl 44 1048377855)) [(0,true),(1,true),(2,true),(3,true),(4,true),(5,true),(6,true),(7,true),(8,true),(11,true),(12,true),(13,true),(14,true),(15,true),(18,true),(19,true),(20,true),(21,true),(22,true),(25,true),(26,true),(27,true),(28,true),(29,true)] mixed (by kernel_rfl) (by kernel_rfl) (by kernel_rfl) (by kernel_rfl) ?_
 refine VD.q rfl (fQ rfl) (by decide) ?_
 refine VD.q rfl (fQ rfl) (by decide) ?_
 refine VD.q rfl (fQ rfl) (by decide) ?_
 refine VD.q rfl (fQ rfl) (by decide) ?_
 refine VD.q rfl (fQ rfl) (by decide) ?_
 refine VD.q rfl (mH rfl) (by decide) ?_
 refine VD.q rfl (bU aHn rfl) (by decide) ?_
 refine VD.q rfl (zR (s:=o) rR rfl hx rfl) (by decide) ?_
 refine VD.q rfl (fQ rfl) (by decide) ?_
 refine VD.q rfl (fQ rfl) (by decide) ?_
 refine VD.q rfl (mH rfl) (by decide) ?_
 refine VD.q rfl (bU aCd rfl) (by decide) ?_
 refine VD.q rfl (zR (s:=o) rR rfl hx rfl) (by decide) ?_
 refine VD.q rfl (fQ rfl) (by decide) ?_
 refine VD.q rfl (fQ rfl) (by decide) ?_
 refine VD.q rfl (mH rfl) (by decide) ?_
 refine VD.q rfl (bU XH rfl) (by decide) ?_
 refine VD.q rfl (zR (s:=o) rR rfl hx rfl) (by decide) ?_
 refine VD.q rfl (fQ rfl) (by decide) ?_
 refine VD.q rfl (fQ rfl) (by decide) ?_
 refine VD.q rfl (mH rfl) (by decide) ?_
 refine VD.q rfl (bU Q6 rfl) (by decide) ?_
 refine VD.q rfl (zR (s:=o) rR rfl hx rfl) (by decide) ?_
 refine VD.q rfl (fQ rfl) (by decide) ?_
 refine VD.TB fun hc => ?_
 refine VG.via (S:=Sv bH×Sv bH×Sv bH×Sv bH) (fun sg=>sg.1.l=x.base.l++[line]∧sg.2.1.l=x.ours.l++[line]∧sg.2.2.1.l=x.cU.l++[line]∧sg.2.2.2.l=x.out.l++[line]) 12 (fun _=>kD4 o x) (bl 44 4294967295) (fun sg=>kB p o line [(53,sg.1.val),(60,sg.2.1.val),(67,sg.2.2.1.val),(74,sg.2.2.2.val)]) (fun sg=>Mo.tt) (fun sg=>kE p bv ov tv i j k o sg.1 sg.2.1 sg.2.2.1 sg.2.2.2) ?_ fun key255 => ?_
 ·
  rintro ⟨s53,s60,s67,s74⟩ ⟨hs53,hs60,hs67,hs74⟩
  try dsimp only at hs53 hs60 hs67 hs74
  dsimp only [kB,kE,Zp]
  refine VG.ord [(32,true),(33,true),(34,false),(35,true),(36,true),(37,false),(38,true),(39,true),(40,false),(41,true),(42,true),(43,false)] (by kernel_rfl) (eL (by kernel_rfl)) (by kernel_rfl) ?_
  refine ZX ?_
  refine VD.one rfl ?_
  refine VL.oC (s:=o) (T:=422) (j:=0) (vc:=[s53.val]) (⟨s53,x.ours,x.cU,x.qI,x.out⟩:Ck) (by decide) rfl rfl hx rfl SJ rfl rfl (Nat.le_of_ble_eq_true rfl) rfl (fun w0 hw0 haw0 hcw0 hvw0 hbw0 how0 => ?_)
  rw [← hvw0]
  try rw [← hbw0]
  try rw [← how0]
  have hew0:w0.l[(((o.l.length:Int) - 1)).toNat]? = some (⟨s53,x.ours,x.cU,x.qI,x.out⟩:Ck):=by rw [hw0]; exact List.getElem?_set_self (List.getElem?_eq_some_iff.1 hx).1
  refine eV ?_
  refine ZX ?_
  refine VD.one rfl ?_
  refine VL.oC (s:=w0) (T:=422) (j:=1) (vc:=[s60.val]) (⟨s53,s60,x.cU,x.qI,x.out⟩:Ck) (by decide) rfl rfl hew0 rfl SJ rfl rfl (Nat.le_of_ble_eq_true rfl) rfl (fun w1 hw1 haw1 hcw1 hvw1 hbw1 how1 => ?_)
  rw [← hvw1]
  try rw [← hbw1]
  try rw [← how1]
  have hew1:w1.l[(((o.l.length:Int) - 1)).toNat]? = some (⟨s53,s60,x.cU,x.qI,x.out⟩:Ck):=by rw [hw1]; exact List.getElem?_set_self (List.getElem?_eq_some_iff.1 hew0).1
  refine eV ?_
  refine ZX ?_
  refine VD.one rfl ?_
  refine VL.oC (s:=w1) (T:=422) (j:=2) (vc:=[s67.val]) (⟨s53,s60,s67,x.qI,x.out⟩:Ck) (by decide) rfl rfl hew1 rfl SJ rfl rfl (Nat.le_of_ble_eq_true rfl) rfl (fun w2 hw2 haw2 hcw2 hvw2 hbw2 how2 => ?_)
  rw [← hvw2]
  try rw [← hbw2]
  try rw [← how2]
  have hew2:w2.l[(((o.l.length:Int) - 1)).toNat]? = some (⟨s53,s60,s67,x.qI,x.out⟩:Ck):=by rw [hw2]; exact List.getElem?_set_self (List.getElem?_eq_some_iff.1 hew1).1
  refine eV ?_
  refine ZX ?_
  refine VD.one rfl ?_
  refine VL.oC (s:=w2) (T:=422) (j:=4) (vc:=[s74.val]) (⟨s53,s60,s67,x.qI,s74⟩:Ck) (by decide) rfl rfl hew2 rfl SJ rfl rfl (Nat.le_of_ble_eq_true rfl) rfl (fun w3 hw3 haw3 hcw3 hvw3 hbw3 how3 => ?_)
  rw [← hvw3]
  try rw [← hbw3]
  try rw [← how3]
  have hew3:w3.l[(((o.l.length:Int) - 1)).toNat]? = some (⟨s53,s60,s67,x.qI,s74⟩:Ck):=by rw [hw3]; exact List.getElem?_set_self (List.getElem?_eq_some_iff.1 hew2).1
  refine eV ?_
  refine ZX ?_
  refine iB [(0,true),(1,true),(2,true),(3,true),(4,true),(5,true),(6,true),(7,true),(8,true),(9,true),(10,true),(11,true),(12,true),(13,true),(14,true),(15,true),(16,true),(17,true),(18,true),(19,true),(20,false),(21,true),(22,true),(23,false),(24,true),(25,true),(26,false)] ?_
  refine ZX ?_
  refine Zw rfl (l5 rfl rfl ⟨by omega,by omega⟩) ?_
  refine ZX ?_
  refine Zw rfl (l5 rfl rfl ⟨by omega,by omega⟩) ?_
  refine ZX ?_
  refine Zw rfl (l5 rfl rfl ⟨by omega,by omega⟩) ?_
  refine ZX ?_
  refine VD.one rfl ?_
  refine Zv  (vc:=[i64 (i+1)]) (cs':=[bv.val,ov.val,tv.val,i64 (i+1),i64 j,i64 k,w3.val,.bool true]) rfl E3 ?_
  refine QT [(17,i64 (k+1)),(12,i64 (j+1))] (bT.cons rfl (l5 rfl rfl ⟨by omega,by omega⟩) (bT.cons rfl (l5 rfl rfl ⟨by omega,by omega⟩) bT.nil)) ?_
  refine ZX ?_
  refine VD.one rfl ?_
  refine Zv  (vc:=[i64 (j+1)]) (cs':=[bv.val,ov.val,tv.val,i64 (i+1),i64 (j+1),i64 k,w3.val,.bool true]) rfl E3 ?_
  refine QT [(17,i64 (k+1))] (bT.cons rfl (l5 rfl rfl ⟨by omega,by omega⟩) bT.nil) ?_
  refine ZX ?_
  refine VD.one rfl ?_
  refine Zv  (vc:=[i64 (k+1)]) (cs':=[bv.val,ov.val,tv.val,i64 (i+1),i64 (j+1),i64 (k+1),w3.val,.bool true]) rfl E3 ?_
  refine eV ?_
  have hidx:=aSb hout
  have hfin:w3.l=fr++[(⟨s53,s60,s67,x.qI,s74⟩:Ck)]:=by
    rw [hw3,hw2,hw1,hw0,hidx,hout,XN,XN,XN,XN]
  exact VD.nil (aNd (.inl rfl) rfl (w3,⟨s53,s60,s67,x.qI,s74⟩) rfl (⟨hfin,hs53,hs60,hs67,hs74,rfl⟩) fK.out)
 refine VG.via (S:=Sv bH×Sv bH×Sv bH×Sv bH) (fun sg=>sg.1.l=x.base.l++[line]∧sg.2.1.l=x.ours.l++[line]∧sg.2.2.1.l=x.cU.l++[line]∧sg.2.2.2.l=[line]) 13 (fun _=>kD3 o x) (bl 44 2147483647) (fun sg=>kB p o line (kA o 68 4 x.out.val (73,sg.2.2.2.val) [(53,sg.1.val),(60,sg.2.1.val),(67,sg.2.2.1.val)])) (fun sg=>(sg.2.2.2.ok.and Mo.tt)) (fun sg=>kE p bv ov tv i j k o sg.1 sg.2.1 sg.2.2.1 x.out) ?_ fun key127 => ?_
 ·
  rintro ⟨s53,s60,s67,s73⟩ ⟨hs53,hs60,hs67,hs73⟩
  exact VG.fork (l:=[31]) (by kernel_rfl) rfl (al1 (NO rfl (fun s hs=>key255 (s53,s60,s67,s) ⟨hs53,hs60,hs67,hs⟩) hs73 hx4 (fun _=>bT.nil)))
 refine VG.via (S:=Sv bH×Sv bH×Sv bH) (fun sg=>sg.1.l=x.base.l++[line]∧sg.2.1.l=x.ours.l++[line]∧sg.2.2.l=x.cU.l++[line]) 14 (fun _=>kD3 o x) (bl 44 1073741823) (fun sg=>kB p o line (kA o 68 4 x.out.val (72,str line) [(53,sg.1.val),(60,sg.2.1.val),(67,sg.2.2.val)])) (fun sg=>Mo.tt) (fun sg=>kE p bv ov tv i j k o sg.1 sg.2.1 sg.2.2 x.out) ?_ fun key63 => ?_
 ·
  rintro ⟨s53,s60,s67⟩ ⟨hs53,hs60,hs67⟩
  exact VG.fork (l:=[30]) (by kernel_rfl) rfl (al1 (nN rfl (fun s hs=>key127 (s53,s60,s67,s) ⟨hs53,hs60,hs67,hs⟩) (fun _=>(kP 28 27 26 Pz).out)))
 refine VG.via (S:=Sv bH×Sv bH×Sv bH×Sv bH) (fun sg=>sg.1.l=x.base.l++[line]∧sg.2.1.l=x.ours.l++[line]∧sg.2.2.1.l=[line]∧sg.2.2.2.l=[line]) 14 (fun _=>kD2 o x) (bl 44 2130706431) (fun sg=>kB p o line (kA o 61 2 x.cU.val (66,sg.2.2.1.val) (kA o 68 4 x.out.val (73,sg.2.2.2.val) [(53,sg.1.val),(60,sg.2.1.val)]))) (fun sg=>(sg.2.2.2.ok.and (sg.2.2.1.ok.and Mo.tt))) (fun sg=>kE p bv ov tv i j k o sg.1 sg.2.1 x.cU x.out) ?_ fun key95 => ?_
 ·
  rintro ⟨s53,s60,s66,s73⟩ ⟨hs53,hs60,hs66,hs73⟩
  exact VG.fork (l:=[24]) (by kernel_rfl) rfl (al1 (NO rfl (fun s hs=>key127 (s53,s60,s,s73) ⟨hs53,hs60,hs,hs73⟩) hs66 hx3 (fun _=>(kP 28 27 26 Pz).out)))
 refine VG.via (S:=Sv bH×Sv bH×Sv bH) (fun sg=>sg.1.l=x.base.l++[line]∧sg.2.1.l=x.ours.l++[line]∧sg.2.2.l=[line]) 15 (fun _=>kD2 o x) (bl 44 1056964607) (fun sg=>kB p o line (kA o 61 2 x.cU.val (66,sg.2.2.val) (kA o 68 4 x.out.val (72,str line) [(53,sg.1.val),(60,sg.2.1.val)]))) (fun sg=>(sg.2.2.ok.and Mo.tt)) (fun sg=>kE p bv ov tv i j k o sg.1 sg.2.1 x.cU x.out) ?_ fun key31 => ?_
 ·
  rintro ⟨s53,s60,s66⟩ ⟨hs53,hs60,hs66⟩
  exact VG.fork (l:=[24,30]) (by kernel_rfl) rfl (al2 (NO rfl (fun s hs=>key63 (s53,s60,s) ⟨hs53,hs60,hs⟩) hs66 hx3 (fun _=>(kP 28 27 26 Pz).out)) (nN rfl (fun s hs=>key95 (s53,s60,s66,s) ⟨hs53,hs60,hs66,hs⟩) (fun _=>(kP 28 27 26 (kP 21 20 19 Pz)).out)))
 refine VG.via (S:=Sv bH×Sv bH×Sv bH) (fun sg=>sg.1.l=x.base.l++[line]∧sg.2.1.l=x.ours.l++[line]∧sg.2.2.l=[line]) 15 (fun _=>kD2 o x) (bl 44 2122317823) (fun sg=>kB p o line (kA o 61 2 x.cU.val (65,str line) (kA o 68 4 x.out.val (73,sg.2.2.val) [(53,sg.1.val),(60,sg.2.1.val)]))) (fun sg=>(sg.2.2.ok.and Mo.tt)) (fun sg=>kE p bv ov tv i j k o sg.1 sg.2.1 x.cU x.out) ?_ fun key79 => ?_
 ·
  rintro ⟨s53,s60,s73⟩ ⟨hs53,hs60,hs73⟩
  exact VG.fork (l:=[23]) (by kernel_rfl) rfl (al1 (nN rfl (fun s hs=>key95 (s53,s60,s,s73) ⟨hs53,hs60,hs,hs73⟩) (fun _=>(kP 28 27 26 (kP 21 20 19 Pz)).out)))
 refine VG.via (S:=Sv bH×Sv bH×Sv bH×Sv bH) (fun sg=>sg.1.l=x.base.l++[line]∧sg.2.1.l=[line]∧sg.2.2.1.l=[line]∧sg.2.2.2.l=[line]) 15 (fun _=>kD1 o x) (bl 44 2130575359) (fun sg=>kB p o line (kA o 54 1 x.ours.val (59,sg.2.1.val) (kA o 61 2 x.cU.val (66,sg.2.2.1.val) (kA o 68 4 x.out.val (73,sg.2.2.2.val) [(53,sg.1.val)])))) (fun sg=>(sg.2.2.2.ok.and (sg.2.2.1.ok.and (sg.2.1.ok.and Mo.tt)))) (fun sg=>kE p bv ov tv i j k o sg.1 x.ours x.cU x.out) ?_ fun key87 => ?_
 ·
  rintro ⟨s53,s59,s66,s73⟩ ⟨hs53,hs59,hs66,hs73⟩
  exact VG.fork (l:=[17]) (by kernel_rfl) rfl (al1 (NO rfl (fun s hs=>key95 (s53,s,s66,s73) ⟨hs53,hs,hs66,hs73⟩) hs59 hx2 (fun _=>(kP 28 27 26 (kP 21 20 19 Pz)).out)))
 refine VG.via (S:=Sv bH×Sv bH) (fun sg=>sg.1.l=x.base.l++[line]∧sg.2.l=x.ours.l++[line]) 16 (fun _=>kD2 o x) (bl 44 1048575999) (fun sg=>kB p o line (kA o 61 2 x.cU.val (65,str line) (kA o 68 4 x.out.val (72,str line) [(53,sg.1.val),(60,sg.2.val)]))) (fun sg=>Mo.tt) (fun sg=>kE p bv ov tv i j k o sg.1 sg.2 x.cU x.out) ?_ fun key15 => ?_
 ·
  rintro ⟨s53,s60⟩ ⟨hs53,hs60⟩
  exact VG.fork (l:=[23,30]) (by kernel_rfl) rfl (al2 (nN rfl (fun s hs=>key31 (s53,s60,s) ⟨hs53,hs60,hs⟩) (fun _=>(kP 28 27 26 (kP 21 20 19 Pz)).out)) (nN rfl (fun s hs=>key79 (s53,s60,s) ⟨hs53,hs60,hs⟩) (fun _=>(kP 28 27 26 (kP 21 20 19 Pz)).out)))
 refine VG.via (S:=Sv bH×Sv bH×Sv bH) (fun sg=>sg.1.l=x.base.l++[line]∧sg.2.1.l=[line]∧sg.2.2.l=[line]) 16 (fun _=>kD1 o x) (bl 44 1056833535) (fun sg=>kB p o line (kA o 54 1 x.ours.val (59,sg.2.1.val) (kA o 61 2 x.cU.val (66,sg.2.2.val) (kA o 68 4 x.out.val (72,str line) [(53,sg.1.val)])))) (fun sg=>(sg.2.2.ok.and (sg.2.1.ok.and Mo.tt))) (fun sg=>kE p bv ov tv i j k o sg.1 x.ours x.cU x.out) ?_ fun key23 => ?_
 ·
  rintro ⟨s53,s59,s66⟩ ⟨hs53,hs59,hs66⟩
  exact VG.fork (l:=[17,30]) (by kernel_rfl) rfl (al2 (NO rfl (fun s hs=>key31 (s53,s,s66) ⟨hs53,hs,hs66⟩) hs59 hx2 (fun _=>(kP 28 27 26 (kP 21 20 19 Pz)).out)) (nN rfl (fun s hs=>key87 (s53,s59,s66,s) ⟨hs53,hs59,hs66,hs⟩) (fun _=>(kP 28 27 26 (kP 21 20 19 (kP 14 13 12 Pz))).out)))
 refine VG.via (S:=Sv bH×Sv bH×Sv bH) (fun sg=>sg.1.l=x.base.l++[line]∧sg.2.1.l=[line]∧sg.2.2.l=[line]) 16 (fun _=>kD1 o x) (bl 44 2122186751) (fun sg=>kB p o line (kA o 54 1 x.ours.val (59,sg.2.1.val) (kA o 61 2 x.cU.val (65,str line) (kA o 68 4 x.out.val (73,sg.2.2.val) [(53,sg.1.val)])))) (fun sg=>(sg.2.2.ok.and (sg.2.1.ok.and Mo.tt))) (fun sg=>kE p bv ov tv i j k o sg.1 x.ours x.cU x.out) ?_ fun key71 => ?_
 ·
  rintro ⟨s53,s59,s73⟩ ⟨hs53,hs59,hs73⟩
  exact VG.fork (l:=[17,23]) (by kernel_rfl) rfl (al2 (NO rfl (fun s hs=>key79 (s53,s,s73) ⟨hs53,hs,hs73⟩) hs59 hx2 (fun _=>(kP 28 27 26 (kP 21 20 19 Pz)).out)) (nN rfl (fun s hs=>key87 (s53,s59,s,s73) ⟨hs53,hs59,hs,hs73⟩) (fun _=>(kP 28 27 26 (kP 21 20 19 (kP 14 13 12 Pz))).out)))
 refine VG.via (S:=Sv bH×Sv bH×Sv bH) (fun sg=>sg.1.l=x.base.l++[line]∧sg.2.1.l=[line]∧sg.2.2.l=[line]) 16 (fun _=>kD1 o x) (bl 44 2130509823) (fun sg=>kB p o line (kA o 54 1 x.ours.val (58,str line) (kA o 61 2 x.cU.val (66,sg.2.1.val) (kA o 68 4 x.out.val (73,sg.2.2.val) [(53,sg.1.val)])))) (fun sg=>(sg.2.2.ok.and (sg.2.1.ok.and Mo.tt))) (fun sg=>kE p bv ov tv i j k o sg.1 x.ours x.cU x.out) ?_ fun key83 => ?_
 ·
  rintro ⟨s53,s66,s73⟩ ⟨hs53,hs66,hs73⟩
  exact VG.fork (l:=[16]) (by kernel_rfl) rfl (al1 (nN rfl (fun s hs=>key87 (s53,s,s66,s73) ⟨hs53,hs,hs66,hs73⟩) (fun _=>(kP 28 27 26 (kP 21 20 19 (kP 14 13 12 Pz))).out)))
 refine VG.via (S:=Sv bH×Sv bH×Sv bH×Sv bH) (fun sg=>sg.1.l=[line]∧sg.2.1.l=[line]∧sg.2.2.1.l=[line]∧sg.2.2.2.l=[line]) 16 (fun _=>kD0 o x) (bl 44 2130574335) (fun sg=>kB p o line (kA o 47 0 x.base.val (52,sg.1.val) (kA o 54 1 x.ours.val (59,sg.2.1.val) (kA o 61 2 x.cU.val (66,sg.2.2.1.val) (kA o 68 4 x.out.val (73,sg.2.2.2.val) []))))) (fun sg=>(sg.2.2.2.ok.and (sg.2.2.1.ok.and (sg.2.1.ok.and (sg.1.ok.and Mo.tt))))) (fun sg=>kE p bv ov tv i j k o x.base x.ours x.cU x.out) ?_ fun key85 => ?_
 ·
  rintro ⟨s52,s59,s66,s73⟩ ⟨hs52,hs59,hs66,hs73⟩
  exact VG.fork (l:=[10]) (by kernel_rfl) rfl (al1 (NO rfl (fun s hs=>key87 (s,s59,s66,s73) ⟨hs,hs59,hs66,hs73⟩) hs52 hx1 (fun _=>(kP 28 27 26 (kP 21 20 19 (kP 14 13 12 Pz))).out)))
 refine VG.via (S:=Sv bH×Sv bH) (fun sg=>sg.1.l=x.base.l++[line]∧sg.2.l=[line]) 17 (fun _=>kD1 o x) (bl 44 1048444927) (fun sg=>kB p o line (kA o 54 1 x.ours.val (59,sg.2.val) (kA o 61 2 x.cU.val (65,str line) (kA o 68 4 x.out.val (72,str line) [(53,sg.1.val)])))) (fun sg=>(sg.2.ok.and Mo.tt)) (fun sg=>kE p bv ov tv i j k o sg.1 x.ours x.cU x.out) ?_ fun key7 => ?_
 ·
  rintro ⟨s53,s59⟩ ⟨hs53,hs59⟩
  exact VG.fork (l:=[17,23,30]) (by kernel_rfl) rfl (al3 (NO rfl (fun s hs=>key15 (s53,s) ⟨hs53,hs⟩) hs59 hx2 (fun _=>(kP 28 27 26 (kP 21 20 19 Pz)).out)) (nN rfl (fun s hs=>key23 (s53,s59,s) ⟨hs53,hs59,hs⟩) (fun _=>(kP 28 27 26 (kP 21 20 19 (kP 14 13 12 Pz))).out)) (nN rfl (fun s hs=>key71 (s53,s59,s) ⟨hs53,hs59,hs⟩) (fun _=>(kP 28 27 26 (kP 21 20 19 (kP 14 13 12 Pz))).out)))
 refine VG.via (S:=Sv bH×Sv bH) (fun sg=>sg.1.l=x.base.l++[line]∧sg.2.l=[line]) 17 (fun _=>kD1 o x) (bl 44 1056767999) (fun sg=>kB p o line (kA o 54 1 x.ours.val (58,str line) (kA o 61 2 x.cU.val (66,sg.2.val) (kA o 68 4 x.out.val (72,str line) [(53,sg.1.val)])))) (fun sg=>(sg.2.ok.and Mo.tt)) (fun sg=>kE p bv ov tv i j k o sg.1 x.ours x.cU x.out) ?_ fun key19 => ?_
 ·
  rintro ⟨s53,s66⟩ ⟨hs53,hs66⟩
  exact VG.fork (l:=[16,30]) (by kernel_rfl) rfl (al2 (nN rfl (fun s hs=>key23 (s53,s,s66) ⟨hs53,hs,hs66⟩) (fun _=>(kP 28 27 26 (kP 21 20 19 (kP 14 13 12 Pz))).out)) (nN rfl (fun s hs=>key83 (s53,s66,s) ⟨hs53,hs66,hs⟩) (fun _=>(kP 28 27 26 (kP 21 20 19 (kP 14 13 12 Pz))).out)))
 refine VG.via (S:=Sv bH×Sv bH) (fun sg=>sg.1.l=x.base.l++[line]∧sg.2.l=[line]) 17 (fun _=>kD1 o x) (bl 44 2122121215) (fun sg=>kB p o line (kA o 54 1 x.ours.val (58,str line) (kA o 61 2 x.cU.val (65,str line) (kA o 68 4 x.out.val (73,sg.2.val) [(53,sg.1.val)])))) (fun sg=>(sg.2.ok.and Mo.tt)) (fun sg=>kE p bv ov tv i j k o sg.1 x.ours x.cU x.out) ?_ fun key67 => ?_
 ·
  rintro ⟨s53,s73⟩ ⟨hs53,hs73⟩
  exact VG.fork (l:=[16,23]) (by kernel_rfl) rfl (al2 (nN rfl (fun s hs=>key71 (s53,s,s73) ⟨hs53,hs,hs73⟩) (fun _=>(kP 28 27 26 (kP 21 20 19 (kP 14 13 12 Pz))).out)) (nN rfl (fun s hs=>key83 (s53,s,s73) ⟨hs53,hs,hs73⟩) (fun _=>(kP 28 27 26 (kP 21 20 19 (kP 14 13 12 Pz))).out)))
 refine VG.via (S:=Sv bH×Sv bH×Sv bH) (fun sg=>sg.1.l=[line]∧sg.2.1.l=[line]∧sg.2.2.l=[line]) 17 (fun _=>kD0 o x) (bl 44 1056832511) (fun sg=>kB p o line (kA o 47 0 x.base.val (52,sg.1.val) (kA o 54 1 x.ours.val (59,sg.2.1.val) (kA o 61 2 x.cU.val (66,sg.2.2.val) (kA o 68 4 x.out.val (72,str line) []))))) (fun sg=>(sg.2.2.ok.and (sg.2.1.ok.and (sg.1.ok.and Mo.tt)))) (fun sg=>kE p bv ov tv i j k o x.base x.ours x.cU x.out) ?_ fun key21 => ?_
 ·
  rintro ⟨s52,s59,s66⟩ ⟨hs52,hs59,hs66⟩
  exact VG.fork (l:=[10,30]) (by kernel_rfl) rfl (al2 (NO rfl (fun s hs=>key23 (s,s59,s66) ⟨hs,hs59,hs66⟩) hs52 hx1 (fun _=>(kP 28 27 26 (kP 21 20 19 (kP 14 13 12 Pz))).out)) (nN rfl (fun s hs=>key85 (s52,s59,s66,s) ⟨hs52,hs59,hs66,hs⟩) (fun _=>(kP 28 27 26 (kP 21 20 19 (kP 14 13 12 (kP 7 6 5 Pz)))).out)))
 refine VG.via (S:=Sv bH×Sv bH×Sv bH) (fun sg=>sg.1.l=[line]∧sg.2.1.l=[line]∧sg.2.2.l=[line]) 17 (fun _=>kD0 o x) (bl 44 2122185727) (fun sg=>kB p o line (kA o 47 0 x.base.val (52,sg.1.val) (kA o 54 1 x.ours.val (59,sg.2.1.val) (kA o 61 2 x.cU.val (65,str line) (kA o 68 4 x.out.val (73,sg.2.2.val) []))))) (fun sg=>(sg.2.2.ok.and (sg.2.1.ok.and (sg.1.ok.and Mo.tt)))) (fun sg=>kE p bv ov tv i j k o x.base x.ours x.cU x.out) ?_ fun key69 => ?_
 ·
  rintro ⟨s52,s59,s73⟩ ⟨hs52,hs59,hs73⟩
  exact VG.fork (l:=[10,23]) (by kernel_rfl) rfl (al2 (NO rfl (fun s hs=>key71 (s,s59,s73) ⟨hs,hs59,hs73⟩) hs52 hx1 (fun _=>(kP 28 27 26 (kP 21 20 19 (kP 14 13 12 Pz))).out)) (nN rfl (fun s hs=>key85 (s52,s59,s,s73) ⟨hs52,hs59,hs,hs73⟩) (fun _=>(kP 28 27 26 (kP 21 20 19 (kP 14 13 12 (kP 7 6 5 Pz)))).out)))
 refine VG.via (S:=Sv bH×Sv bH×Sv bH) (fun sg=>sg.1.l=[line]∧sg.2.1.l=[line]∧sg.2.2.l=[line]) 17 (fun _=>kD0 o x) (bl 44 2130508799) (fun sg=>kB p o line (kA o 47 0 x.base.val (52,sg.1.val) (kA o 54 1 x.ours.val (58,str line) (kA o 61 2 x.cU.val (66,sg.2.1.val) (kA o 68 4 x.out.val (73,sg.2.2.val) []))))) (fun sg=>(sg.2.2.ok.and (sg.2.1.ok.and (sg.1.ok.and Mo.tt)))) (fun sg=>kE p bv ov tv i j k o x.base x.ours x.cU x.out) ?_ fun key81 => ?_
 ·
  rintro ⟨s52,s66,s73⟩ ⟨hs52,hs66,hs73⟩
  exact VG.fork (l:=[10,16]) (by kernel_rfl) rfl (al2 (NO rfl (fun s hs=>key83 (s,s66,s73) ⟨hs,hs66,hs73⟩) hs52 hx1 (fun _=>(kP 28 27 26 (kP 21 20 19 (kP 14 13 12 Pz))).out)) (nN rfl (fun s hs=>key85 (s52,s,s66,s73) ⟨hs52,hs,hs66,hs73⟩) (fun _=>(kP 28 27 26 (kP 21 20 19 (kP 14 13 12 (kP 7 6 5 Pz)))).out)))
 refine VG.via (S:=Sv bH×Sv bH×Sv bH) (fun sg=>sg.1.l=[line]∧sg.2.1.l=[line]∧sg.2.2.l=[line]) 17 (fun _=>kD0 o x) (bl 44 2130573823) (fun sg=>kB p o line (kA o 47 0 x.base.val (51,str line) (kA o 54 1 x.ours.val (59,sg.1.val) (kA o 61 2 x.cU.val (66,sg.2.1.val) (kA o 68 4 x.out.val (73,sg.2.2.val) []))))) (fun sg=>(sg.2.2.ok.and (sg.2.1.ok.and (sg.1.ok.and Mo.tt)))) (fun sg=>kE p bv ov tv i j k o x.base x.ours x.cU x.out) ?_ fun key84 => ?_
 ·
  rintro ⟨s59,s66,s73⟩ ⟨hs59,hs66,hs73⟩
  exact VG.fork (l:=[9]) (by kernel_rfl) rfl (al1 (nN rfl (fun s hs=>key85 (s,s59,s66,s73) ⟨hs,hs59,hs66,hs73⟩) (fun _=>(kP 28 27 26 (kP 21 20 19 (kP 14 13 12 (kP 7 6 5 Pz)))).out)))
 refine VG.via (S:=Sv bH) (fun sg=>sg.l=x.base.l++[line]) 18 (fun _=>kD1 o x) (bl 44 1048379391) (fun sg=>kB p o line (kA o 54 1 x.ours.val (58,str line) (kA o 61 2 x.cU.val (65,str line) (kA o 68 4 x.out.val (72,str line) [(53,sg.val)])))) (fun sg=>Mo.tt) (fun sg=>kE p bv ov tv i j k o sg x.ours x.cU x.out) ?_ fun key3 => ?_
 ·
  rintro s53 hs53
  exact VG.fork (l:=[16,23,30]) (by kernel_rfl) rfl (al3 (nN rfl (fun s hs=>key7 (s53,s) ⟨hs53,hs⟩) (fun _=>(kP 28 27 26 (kP 21 20 19 (kP 14 13 12 Pz))).out)) (nN rfl (fun s hs=>key19 (s53,s) ⟨hs53,hs⟩) (fun _=>(kP 28 27 26 (kP 21 20 19 (kP 14 13 12 Pz))).out)) (nN rfl (fun s hs=>key67 (s53,s) ⟨hs53,hs⟩) (fun _=>(kP 28 27 26 (kP 21 20 19 (kP 14 13 12 Pz))).out)))
 refine VG.via (S:=Sv bH×Sv bH) (fun sg=>sg.1.l=[line]∧sg.2.l=[line]) 18 (fun _=>kD0 o x) (bl 44 1048443903) (fun sg=>kB p o line (kA o 47 0 x.base.val (52,sg.1.val) (kA o 54 1 x.ours.val (59,sg.2.val) (kA o 61 2 x.cU.val (65,str line) (kA o 68 4 x.out.val (72,str line) []))))) (fun sg=>(sg.2.ok.and (sg.1.ok.and Mo.tt))) (fun sg=>kE p bv ov tv i j k o x.base x.ours x.cU x.out) ?_ fun key5 => ?_
 ·
  rintro ⟨s52,s59⟩ ⟨hs52,hs59⟩
  exact VG.fork (l:=[10,23,30]) (by kernel_rfl) rfl (al3 (NO rfl (fun s hs=>key7 (s,s59) ⟨hs,hs59⟩) hs52 hx1 (fun _=>(kP 28 27 26 (kP 21 20 19 (kP 14 13 12 Pz))).out)) (nN rfl (fun s hs=>key21 (s52,s59,s) ⟨hs52,hs59,hs⟩) (fun _=>(kP 28 27 26 (kP 21 20 19 (kP 14 13 12 (kP 7 6 5 Pz)))).out)) (nN rfl (fun s hs=>key69 (s52,s59,s) ⟨hs52,hs59,hs⟩) (fun _=>(kP 28 27 26 (kP 21 20 19 (kP 14 13 12 (kP 7 6 5 Pz)))).out)))
 refine VG.via (S:=Sv bH×Sv bH) (fun sg=>sg.1.l=[line]∧sg.2.l=[line]) 18 (fun _=>kD0 o x) (bl 44 1056766975) (fun sg=>kB p o line (kA o 47 0 x.base.val (52,sg.1.val) (kA o 54 1 x.ours.val (58,str line) (kA o 61 2 x.cU.val (66,sg.2.val) (kA o 68 4 x.out.val (72,str line) []))))) (fun sg=>(sg.2.ok.and (sg.1.ok.and Mo.tt))) (fun sg=>kE p bv ov tv i j k o x.base x.ours x.cU x.out) ?_ fun key17 => ?_
 ·
  rintro ⟨s52,s66⟩ ⟨hs52,hs66⟩
  exact VG.fork (l:=[10,16,30]) (by kernel_rfl) rfl (al3 (NO rfl (fun s hs=>key19 (s,s66) ⟨hs,hs66⟩) hs52 hx1 (fun _=>(kP 28 27 26 (kP 21 20 19 (kP 14 13 12 Pz))).out)) (nN rfl (fun s hs=>key21 (s52,s,s66) ⟨hs52,hs,hs66⟩) (fun _=>(kP 28 27 26 (kP 21 20 19 (kP 14 13 12 (kP 7 6 5 Pz)))).out)) (nN rfl (fun s hs=>key81 (s52,s66,s) ⟨hs52,hs66,hs⟩) (fun _=>(kP 28 27 26 (kP 21 20 19 (kP 14 13 12 (kP 7 6 5 Pz)))).out)))
 refine VG.via (S:=Sv bH×Sv bH) (fun sg=>sg.1.l=[line]∧sg.2.l=[line]) 18 (fun _=>kD0 o x) (bl 44 2122120191) (fun sg=>kB p o line (kA o 47 0 x.base.val (52,sg.1.val) (kA o 54 1 x.ours.val (58,str line) (kA o 61 2 x.cU.val (65,str line) (kA o 68 4 x.out.val (73,sg.2.val) []))))) (fun sg=>(sg.2.ok.and (sg.1.ok.and Mo.tt))) (fun sg=>kE p bv ov tv i j k o x.base x.ours x.cU x.out) ?_ fun key65 => ?_
 ·
  rintro ⟨s52,s73⟩ ⟨hs52,hs73⟩
  exact VG.fork (l:=[10,16,23]) (by kernel_rfl) rfl (al3 (NO rfl (fun s hs=>key67 (s,s73) ⟨hs,hs73⟩) hs52 hx1 (fun _=>(kP 28 27 26 (kP 21 20 19 (kP 14 13 12 Pz))).out)) (nN rfl (fun s hs=>key69 (s52,s,s73) ⟨hs52,hs,hs73⟩) (fun _=>(kP 28 27 26 (kP 21 20 19 (kP 14 13 12 (kP 7 6 5 Pz)))).out)) (nN rfl (fun s hs=>key81 (s52,s,s73) ⟨hs52,hs,hs73⟩) (fun _=>(kP 28 27 26 (kP 21 20 19 (kP 14 13 12 (kP 7 6 5 Pz)))).out)))
 refine VG.via (S:=Sv bH×Sv bH) (fun sg=>sg.1.l=[line]∧sg.2.l=[line]) 18 (fun _=>kD0 o x) (bl 44 1056831999) (fun sg=>kB p o line (kA o 47 0 x.base.val (51,str line) (kA o 54 1 x.ours.val (59,sg.1.val) (kA o 61 2 x.cU.val (66,sg.2.val) (kA o 68 4 x.out.val (72,str line) []))))) (fun sg=>(sg.2.ok.and (sg.1.ok.and Mo.tt))) (fun sg=>kE p bv ov tv i j k o x.base x.ours x.cU x.out) ?_ fun key20 => ?_
 ·
  rintro ⟨s59,s66⟩ ⟨hs59,hs66⟩
  exact VG.fork (l:=[9,30]) (by kernel_rfl) rfl (al2 (nN rfl (fun s hs=>key21 (s,s59,s66) ⟨hs,hs59,hs66⟩) (fun _=>(kP 28 27 26 (kP 21 20 19 (kP 14 13 12 (kP 7 6 5 Pz)))).out)) (nN rfl (fun s hs=>key84 (s59,s66,s) ⟨hs59,hs66,hs⟩) (fun _=>(kP 28 27 26 (kP 21 20 19 (kP 14 13 12 (kP 7 6 5 Pz)))).out)))
 refine VG.via (S:=Sv bH×Sv bH) (fun sg=>sg.1.l=[line]∧sg.2.l=[line]) 18 (fun _=>kD0 o x) (bl 44 2122185215) (fun sg=>kB p o line (kA o 47 0 x.base.val (51,str line) (kA o 54 1 x.ours.val (59,sg.1.val) (kA o 61 2 x.cU.val (65,str line) (kA o 68 4 x.out.val (73,sg.2.val) []))))) (fun sg=>(sg.2.ok.and (sg.1.ok.and Mo.tt))) (fun sg=>kE p bv ov tv i j k o x.base x.ours x.cU x.out) ?_ fun key68 => ?_
 ·
  rintro ⟨s59,s73⟩ ⟨hs59,hs73⟩
  exact VG.fork (l:=[9,23]) (by kernel_rfl) rfl (al2 (nN rfl (fun s hs=>key69 (s,s59,s73) ⟨hs,hs59,hs73⟩) (fun _=>(kP 28 27 26 (kP 21 20 19 (kP 14 13 12 (kP 7 6 5 Pz)))).out)) (nN rfl (fun s hs=>key84 (s59,s,s73) ⟨hs59,hs,hs73⟩) (fun _=>(kP 28 27 26 (kP 21 20 19 (kP 14 13 12 (kP 7 6 5 Pz)))).out)))
 refine VG.via (S:=Sv bH×Sv bH) (fun sg=>sg.1.l=[line]∧sg.2.l=[line]) 18 (fun _=>kD0 o x) (bl 44 2130508287) (fun sg=>kB p o line (kA o 47 0 x.base.val (51,str line) (kA o 54 1 x.ours.val (58,str line) (kA o 61 2 x.cU.val (66,sg.1.val) (kA o 68 4 x.out.val (73,sg.2.val) []))))) (fun sg=>(sg.2.ok.and (sg.1.ok.and Mo.tt))) (fun sg=>kE p bv ov tv i j k o x.base x.ours x.cU x.out) ?_ fun key80 => ?_
 ·
  rintro ⟨s66,s73⟩ ⟨hs66,hs73⟩
  exact VG.fork (l:=[9,16]) (by kernel_rfl) rfl (al2 (nN rfl (fun s hs=>key81 (s,s66,s73) ⟨hs,hs66,hs73⟩) (fun _=>(kP 28 27 26 (kP 21 20 19 (kP 14 13 12 (kP 7 6 5 Pz)))).out)) (nN rfl (fun s hs=>key84 (s,s66,s73) ⟨hs,hs66,hs73⟩) (fun _=>(kP 28 27 26 (kP 21 20 19 (kP 14 13 12 (kP 7 6 5 Pz)))).out)))
 refine VG.via (S:=Sv bH) (fun sg=>sg.l=[line]) 19 (fun _=>kD0 o x) (bl 44 1048378367) (fun sg=>kB p o line (kA o 47 0 x.base.val (52,sg.val) (kA o 54 1 x.ours.val (58,str line) (kA o 61 2 x.cU.val (65,str line) (kA o 68 4 x.out.val (72,str line) []))))) (fun sg=>(sg.ok.and Mo.tt)) (fun sg=>kE p bv ov tv i j k o x.base x.ours x.cU x.out) ?_ fun key1 => ?_
 ·
  rintro s52 hs52
  exact VG.fork (l:=[10,16,23,30]) (by kernel_rfl) rfl (al4 (NO rfl (fun s hs=>key3 s hs) hs52 hx1 (fun _=>(kP 28 27 26 (kP 21 20 19 (kP 14 13 12 Pz))).out)) (nN rfl (fun s hs=>key5 (s52,s) ⟨hs52,hs⟩) (fun _=>(kP 28 27 26 (kP 21 20 19 (kP 14 13 12 (kP 7 6 5 Pz)))).out)) (nN rfl (fun s hs=>key17 (s52,s) ⟨hs52,hs⟩) (fun _=>(kP 28 27 26 (kP 21 20 19 (kP 14 13 12 (kP 7 6 5 Pz)))).out)) (nN rfl (fun s hs=>key65 (s52,s) ⟨hs52,hs⟩) (fun _=>(kP 28 27 26 (kP 21 20 19 (kP 14 13 12 (kP 7 6 5 Pz)))).out)))
 refine VG.via (S:=Sv bH) (fun sg=>sg.l=[line]) 19 (fun _=>kD0 o x) (bl 44 1048443391) (fun sg=>kB p o line (kA o 47 0 x.base.val (51,str line) (kA o 54 1 x.ours.val (59,sg.val) (kA o 61 2 x.cU.val (65,str line) (kA o 68 4 x.out.val (72,str line) []))))) (fun sg=>(sg.ok.and Mo.tt)) (fun sg=>kE p bv ov tv i j k o x.base x.ours x.cU x.out) ?_ fun key4 => ?_
 ·
  rintro s59 hs59
  exact VG.fork (l:=[9,23,30]) (by kernel_rfl) rfl (al3 (nN rfl (fun s hs=>key5 (s,s59) ⟨hs,hs59⟩) (fun _=>(kP 28 27 26 (kP 21 20 19 (kP 14 13 12 (kP 7 6 5 Pz)))).out)) (nN rfl (fun s hs=>key20 (s59,s) ⟨hs59,hs⟩) (fun _=>(kP 28 27 26 (kP 21 20 19 (kP 14 13 12 (kP 7 6 5 Pz)))).out)) (nN rfl (fun s hs=>key68 (s59,s) ⟨hs59,hs⟩) (fun _=>(kP 28 27 26 (kP 21 20 19 (kP 14 13 12 (kP 7 6 5 Pz)))).out)))
 refine VG.via (S:=Sv bH) (fun sg=>sg.l=[line]) 19 (fun _=>kD0 o x) (bl 44 1056766463) (fun sg=>kB p o line (kA o 47 0 x.base.val (51,str line) (kA o 54 1 x.ours.val (58,str line) (kA o 61 2 x.cU.val (66,sg.val) (kA o 68 4 x.out.val (72,str line) []))))) (fun sg=>(sg.ok.and Mo.tt)) (fun sg=>kE p bv ov tv i j k o x.base x.ours x.cU x.out) ?_ fun key16 => ?_
 ·
  rintro s66 hs66
  exact VG.fork (l:=[9,16,30]) (by kernel_rfl) rfl (al3 (nN rfl (fun s hs=>key17 (s,s66) ⟨hs,hs66⟩) (fun _=>(kP 28 27 26 (kP 21 20 19 (kP 14 13 12 (kP 7 6 5 Pz)))).out)) (nN rfl (fun s hs=>key20 (s,s66) ⟨hs,hs66⟩) (fun _=>(kP 28 27 26 (kP 21 20 19 (kP 14 13 12 (kP 7 6 5 Pz)))).out)) (nN rfl (fun s hs=>key80 (s66,s) ⟨hs66,hs⟩) (fun _=>(kP 28 27 26 (kP 21 20 19 (kP 14 13 12 (kP 7 6 5 Pz)))).out)))
 refine VG.via (S:=Sv bH) (fun sg=>sg.l=[line]) 19 (fun _=>kD0 o x) (bl 44 2122119679) (fun sg=>kB p o line (kA o 47 0 x.base.val (51,str line) (kA o 54 1 x.ours.val (58,str line) (kA o 61 2 x.cU.val (65,str line) (kA o 68 4 x.out.val (73,sg.val) []))))) (fun sg=>(sg.ok.and Mo.tt)) (fun sg=>kE p bv ov tv i j k o x.base x.ours x.cU x.out) ?_ fun key64 => ?_
 ·
  rintro s73 hs73
  exact VG.fork (l:=[9,16,23]) (by kernel_rfl) rfl (al3 (nN rfl (fun s hs=>key65 (s,s73) ⟨hs,hs73⟩) (fun _=>(kP 28 27 26 (kP 21 20 19 (kP 14 13 12 (kP 7 6 5 Pz)))).out)) (nN rfl (fun s hs=>key68 (s,s73) ⟨hs,hs73⟩) (fun _=>(kP 28 27 26 (kP 21 20 19 (kP 14 13 12 (kP 7 6 5 Pz)))).out)) (nN rfl (fun s hs=>key80 (s,s73) ⟨hs,hs73⟩) (fun _=>(kP 28 27 26 (kP 21 20 19 (kP 14 13 12 (kP 7 6 5 Pz)))).out)))
 exact VG.fork (l:=[9,16,23,30]) (by kernel_rfl) rfl (al4 (nN rfl (fun s hs=>key1 s hs) (fun _=>(kP 28 27 26 (kP 21 20 19 (kP 14 13 12 (kP 7 6 5 Pz)))).out)) (nN rfl (fun s hs=>key4 s hs) (fun _=>(kP 28 27 26 (kP 21 20 19 (kP 14 13 12 (kP 7 6 5 Pz)))).out)) (nN rfl (fun s hs=>key16 s hs) (fun _=>(kP 28 27 26 (kP 21 20 19 (kP 14 13 12 (kP 7 6 5 Pz)))).out)) (nN rfl (fun s hs=>key64 s hs) (fun _=>(kP 28 27 26 (kP 21 20 19 (kP 14 13 12 (kP 7 6 5 Pz)))).out)))
theorem a2e {b:List bH} {s r:Sh.E6} {o:Sv Ck} {fr:List Ck} {x:Ck} (hS:Sh.DG b s=some r) (hR:Rel s o fr x) : ∃ line,b[s.i.toNat]? = some line∧(o.l.length≤1048576∧0≤s.i∧s.i≤1048576∧0≤s.j∧s.j≤1048576∧0≤s.k∧s.k≤1048576)∧(x.base.l.length≤1048576∧x.ours.l.length≤1048576∧x.cU.l.length≤1048576∧x.out.l.length≤1048576) ∧
 r=⟨fr.map jF.pl++[⟨x.base.l++[line],x.ours.l++[line],x.cU.l++[line],x.qI,x.out.l++[line]⟩],s.i+1,s.j+1,s.k+1,true⟩:=by
 unfold Sh.DG at hS
 obtain ⟨line,n0,hl,hS⟩:=gP hS
 obtain ⟨hb,hS⟩:=bM hS
 have e:(if s.op=true then s.out else s.out++[⟨[],[],[],false,[]⟩])=fr.map jF.pl++[x.pl]:=by
   cases hop:s.op with
   | true=>rw [if_pos rfl,← hR.out,hR.yes hop,List.map_append]; rfl
   | false =>
     obtain ⟨e1,e2⟩:=hR.no hop
     rw [if_neg (by decide),← hR.out,e1,e2]; rfl
 rw [e] at hS
 unfold Go.S.lt at hS
 simp only [List.getLast?_append,List.getLast?_singleton,Option.some_or,List.dropLast_concat] at hS
 obtain ⟨hc,hS⟩:=bM hS
 cases hS
 exact ⟨line,hl,by rw [← hR.out,List.length_map] at hb; exact hb,hc,rfl⟩
theorem aS7 (p:Nat) (bv ov tv:Sv bH) (o:Sv Ck) (fr:List Ck) (x:Ck) (s:Sh.E6) {r:Sh.E6} (hS:Sh.DG bv.l s=some r) (hR:Rel s o fr x) :
 Ct Tryz.prog 378 [ptr p 0] ((MA fr).and bv.ok) (Ow.star (bN p [bv.val,ov.val,tv.val,i64 s.i,i64 s.j,i64 s.k,o.val,.bool s.op] 428) (Ow.star (o.own 422) (PN s.op x))) (X:=Sv Ck×List Ck×Ck) (fun _ => .tuple #[]) (fun y=>Rel r y.1 y.2.1 y.2.2) (fun y=>MA y.2.1) (fun y=>Ow.star (bN p [bv.val,ov.val,tv.val,i64 r.i,i64 r.j,i64 r.k,y.1.val,.bool r.op] 428) (Ow.star (y.1.own 422) (PN r.op y.2.2))):=by
 obtain ⟨line,hline,⟨hl,i0,i1,j0,j1,k0,k1⟩,⟨x1,x2,x3,x4⟩,rfl⟩:=a2e hS hR
 have hc:=aWz p bv ov tv o s.op fr x line s.i s.j s.k hR.yes hR.no hline i0 j0 k0 i1 j1 k1 hl x1 x2 x3 x4
 refine ⟨hc.entry,fun w h e m ee d l kk => ?_⟩
 have st:=St.start m ee d l kk
 exact (Ct.at hc (dV.out) (nZ.all) st).mono fun en w' ⟨r,h1,y,h2,⟨q1,q2,q3,q4,q5,q6⟩,h4⟩=>⟨r,h1,(y.1,fr,y.2),h2,⟨fun _=>q1,fun q=>(by cases q),by rw [q1,List.map_append,List.map_singleton]; simp [jF.pl,q2,q3,q4,q5,q6]⟩,h4.mono (fun hp q=>q.2.1) (by dsimp only [PN]; exact fK.out)⟩
instance a6z (a b d:Sv bH) :
 jZ Tryz.prog 372 [a.val,b.val,d.val] (Sh.CI a.l b.l d.l) (a.ok.and (b.ok.and d.ok)) (X:=Sv jF×Er) (fun x => .tuple #[x.1.val,x.2.val]) (fun x=>(x.1.l.map jF.pl,x.2.pl)) (fun x=>x.1.ok.and x.2.ok):=by
 refine j6 Tryz.func372 Tryz.ntmps372 fun r hS c => ?_
 refine Zq ?_
 unfold Sh.CI at hS
 refine Zr (ZX ?_)
 refine fR hS rfl fun ⟨s18,r18⟩ hS => ?_
 try dsimp only at hS
 refine ZX ?_
 refine Zq (ZX ?_)
 refine oD hS (fun h22 hS => ?_) (fun h22 hS => ?_)
 ·
  refine ZX ?_
  cases hS
  exact VC.ret (aNf (.inr rfl) rfl rfl rfl (⟨none,0,[]⟩,r18) rfl (rfl) (fun _ _=>trivial))
 refine ZX ?_
 refine fR hS rfl fun ⟨s27,r27⟩ hS => ?_
 try dsimp only at hS
 refine ZX ?_
 refine Zq (ZX ?_)
 refine oD hS (fun h31 hS => ?_) (fun h31 hS => ?_)
 ·
  refine ZX ?_
  cases hS
  exact VC.ret (aNf (.inr rfl) rfl rfl rfl (⟨none,0,[]⟩,r27) rfl (rfl) (fun _ _=>trivial))
 obtain ⟨gb,hS⟩:=bM hS
 obtain ⟨l,hW,hS⟩:=cS hS
 cases hS
 have hS:=hW
 unfold Sh.FP at hS
 refine ZX ?_
 refine Zu (cG (vs:=[(0,a.val),(1,b.val),(2,d.val)]) (cs := #[a.val,b.val,d.val,i64 0,i64 0,i64 0,.slice none 0 0,.bool false]) rfl (by kernel_rfl)) ?_
 refine kU fun b37=>ZX ?_
 refine Zq (ZX ?_)
 refine Zb ?_
 refine VC.mR (⟨none,0,[]⟩:Sv Ck) 422 ⟨rfl,rfl⟩ ?_
 refine VC.mono (fun _ h=>h) (E':=Ow.star ((⟨none,0,[]⟩:Sv Ck).own 422) (Ow.star (bN b37 [a.val,b.val,d.val,i64 0,i64 0,i64 0,(⟨none,0,[]⟩:Sv Ck).val,.bool false] 428) Ow.emp)) (fun _ h=>h) ?_
 refine VC.iter (S:=Int×Wr) (fun sg=>(sg.1,sg.2.s)) (fun sg=>[(0,a.val),(1,b.val),(2,d.val),(6,.slice none 0 0),(7,.nilIface),(8,s18.val),(9,r27.val),(10,s27.val),(11,ptr b37 0),(39,i64 (a.l.length:Int)),(40,i64 sg.1)]) (fun sg=>MA sg.2.fr) (fun sg=>Ow.star (bN b37 [a.val,b.val,d.val,i64 sg.2.s.i,i64 sg.2.s.j,i64 sg.2.s.k,sg.2.o.val,.bool sg.2.s.op] 428) (Ow.star (Sv.own sg.2.o 422) (Ow.star (PN sg.2.s.op sg.2.x) (Ow.emp)))) (0,wr0) [0,1,2,6,7,8,9,10,11,39,40] hS rfl (i:=⟨fun _ _ z hz=>by cases hz⟩) (l:=⟨by dsimp only [wr0]; exact fK.out⟩) ?_
 rintro ⟨n,⟨s,o,fr,x,hR⟩⟩ m1 y1 hS hK1
 refine ZX ?_
 refine Zq (Zc hS (fun h41 hS => ?_) (fun h41 hS => ?_))
 ·
  refine Zk ?_
  refine Zq (Zb (ZX ?_))
  obtain ⟨z45,nz45,hz45,hS⟩:=gP hS
  refine Zu (jA (s:=s18) Tryz.underlying57 E3 rfl rfl nz45 (bR nz45 hz45)) (Zu (I4  (s:=s18) o5 rfl hz45 rfl) (Zu (N1 rfl rfl) (Zm ?_)))
  refine nT 48 hS (fun h48 hS => ?_) (fun h48 hS => ?_)
  ·
   obtain ⟨z51,nz51,hz51,hS⟩:=gP hS
   refine ZX ?_
   refine Zh (jA (s:=s27) Tryz.underlying57 E3 rfl rfl nz51 (bR nz51 hz51)) ?_
   refine Zh (I4  (s:=s27) o5 rfl hz51 rfl) ?_
   refine ZX ?_
   refine Zc hS (fun h54 hS => ?_) (fun h54 hS => ?_)
   ·
    refine Zq ?_
    refine iB [(0,true),(1,true),(2,true),(3,true),(4,true),(5,true),(6,true),(7,true),(8,true),(9,true),(10,false)] ?_
    refine ZX ?_
    refine Zw rfl (jA (s:=s18) Tryz.underlying57 E3 rfl rfl nz45 (bR nz45 hz45)) ?_
    refine Zw rfl (I4  (s:=s18) o5 rfl hz45 rfl) ?_
    refine ZX ?_
    refine Zw rfl (jA (s:=s27) Tryz.underlying57 E3 rfl rfl nz51 (bR nz51 hz51)) ?_
    refine Zw rfl (I4  (s:=s27) o5 rfl hz51 rfl) ?_
    refine VD.one rfl ?_
    obtain ⟨w1,e1,hS⟩:=cS hS
    refine VL.oE (aMs b37 a b d o fr x s n z45 z51 e1 hR) rfl (by decide) ?_
    rintro ⟨o1,fr1,x1⟩ hR1
    dsimp only at hR1
    refine eV ?_
    refine ZX ?_
    refine Zr (Zm ?_)
    obtain ⟨w2,e2,hS⟩:=cS hS
    refine VL.oE (aS7 b37 a b d o1 fr1 x1 w1 e2 hR1) rfl (by decide) ?_
    rintro ⟨o2,fr2,x2⟩ hR2
    dsimp only at hR2
    refine Zl ?_
    refine Zr ?_
    refine Zu (l5 rfl rfl ⟨by omega,by omega⟩) ?_
    refine Zm ?_
    refine VL.kL (n+1,⟨w2,o2,fr2,x2,hR2⟩) [0,1,2,6,7,8,9,10,11,39,40] (fun _ _ h=>h) (go2 hS hK1) rfl
   refine Zk ?_
   refine Zr ?_
   refine Zu (l5 rfl rfl ⟨by omega,by omega⟩) ?_
   refine Zm ?_
   refine VL.kL (n+1,⟨s,o,fr,x,hR⟩) [0,1,2,6,7,8,9,10,11,39,40] (fun _ _ h=>h) (go2 hS hK1) rfl
  refine ZX ?_
  refine VC.wA rfl ?_
  refine Zk ?_
  refine Zr ?_
  refine Zu (l5 rfl rfl ⟨by omega,by omega⟩) ?_
  refine Zm ?_
  refine VL.kL (n+1,⟨s,o,fr,x,hR⟩) [0,1,2,6,7,8,9,10,11,39,40] (fun _ _ h=>h) (go2 hS hK1) rfl
 replace hS:=kS hS hK1
 refine Zx ?_
 refine ZX ?_
 obtain ⟨w1,e1,hS⟩:=cS hS
 refine VL.oE (aMs b37 a b d o fr x s (a.l.length:Int) (b.l.length:Int) (d.l.length:Int) e1 hR) rfl (by decide) ?_
 rintro ⟨o1,fr1,x1⟩ hR1
 dsimp only at hR1
 refine Zl ?_
 refine Zq (Zq ?_)
 cases hS
 refine Zr (ZX ?_)
 refine Zu (LF (s:=o1) Tryz.underlying417 rfl) ?_
 refine ZX ?_
 refine Zb ?_
 refine VC.aPC w1.op rfl hR1 ?_
 refine VC.aZC (MA o1.l) ?_
 refine VC.a66 o1 fun lc1 lc2 => ?_
 refine VC.a7e (S:=Int×Sv Ck) (fun sg=>0≤sg.1∧sg.1≤sg.2.l.length∧sg.2.l.length=o1.l.length∧sg.2.l.map jF.pl=w1.out) (fun sg=>[(0,a.val),(1,b.val),(2,d.val),(6,.slice none 0 0),(7,.nilIface),(8,s18.val),(9,r27.val),(10,s27.val),(11,ptr b37 0),(39,i64 (a.l.length:Int)),(40,i64 n),(81,i64 (o1.l.length:Int)),(82,i64 sg.1)]) (fun sg=>MA sg.2.l) (fun sg=>Ow.star (bN b37 [a.val,b.val,d.val,i64 w1.i,i64 w1.j,i64 w1.k,sg.2.val,.bool w1.op] 428) (Ow.star (Sv.own sg.2 422) (Ow.emp))) (fun sg=>(sg.2.l.length - sg.1).toNat) (0,o1) [0,1,2,6,7,8,9,10,11,39,40,81,82] (by (try dsimp only); exact ⟨by omega,by omega,rfl,hR1.out⟩) rfl (fun _ q=>q) (by (try dsimp only); exact fK.out) ?_
 rintro ⟨m,o3⟩ hI
 try dsimp only at hI
 obtain ⟨m0,m1,hol3,hmap⟩:=hI
 refine ZX ?_
 refine Zq ?_
 refine VC.nV rfl (fun h83 => ?_) (fun h83 => ?_)
 ·
  refine Zk ?_
  refine Zq (Zb (ZX ?_))
  obtain ⟨z90,hz90⟩ : ∃ z,o3.l[(m).toNat]? = some z:=⟨_,List.getElem?_eq_getElem (by omega)⟩
  refine Zu (lK (s:=o3) Tryz.underlying417 aBF rfl rfl (by omega) (by omega)) ?_
  refine Za ?_
  refine Zl ?_
  refine VC.M9 z90.m (fun h q=>q z90 (List.mem_of_getElem? hz90)) ?_
  refine iB [(0,true),(1,true),(2,true),(3,true),(4,true),(5,true),(6,true),(7,true),(9,true),(10,true),(11,true),(12,true),(14,true),(15,true),(16,true),(17,true),(19,true),(20,true),(21,true),(22,true),(8,false),(13,false),(18,false),(23,false),(24,true),(25,true),(26,false),(27,true),(28,true),(29,false),(30,true),(31,true),(32,false),(33,true),(34,true),(35,false)] ?_
  refine ZX ?_
  refine Zw rfl (zR (s:=o3) rR rfl hz90 rfl) ?_
  refine ZX ?_
  refine Zw rfl (zR (s:=o3) rR rfl hz90 rfl) ?_
  refine ZX ?_
  refine Zw rfl (zR (s:=o3) rR rfl hz90 rfl) ?_
  refine ZX ?_
  refine Zw rfl (zR (s:=o3) rR rfl hz90 rfl) ?_
  refine VD.one rfl ?_
  refine VL.jN (aAl z90.base) rfl (by decide) ?_
  rintro s99 hs99
  refine QT [(22,z90.out.val),(21,ptr o3.b (o3.o+((m).toNat)*bD.sz Ck+4)),(20,ptr o3.b (o3.o+((m).toNat)*bD.sz Ck+0)),(17,z90.cU.val),(16,ptr o3.b (o3.o+((m).toNat)*bD.sz Ck+2)),(15,ptr o3.b (o3.o+((m).toNat)*bD.sz Ck+0)),(12,z90.ours.val),(11,ptr o3.b (o3.o+((m).toNat)*bD.sz Ck+1)),(10,ptr o3.b (o3.o+((m).toNat)*bD.sz Ck+0))] (bT.cons rfl (zR (s:=o3) rR rfl hz90 rfl) (bT.cons rfl (bU Q6 rfl) (bT.cons rfl (mH rfl) (bT.cons rfl (zR (s:=o3) rR rfl hz90 rfl) (bT.cons rfl (bU XH rfl) (bT.cons rfl (mH rfl) (bT.cons rfl (zR (s:=o3) rR rfl hz90 rfl) (bT.cons rfl (bU aCd rfl) (bT.cons rfl (mH rfl) bT.nil))))))))) ?_
  refine VD.one rfl ?_
  refine VL.jN (aAl z90.ours) rfl (by decide) ?_
  rintro s104 hs104
  refine QT [(22,z90.out.val),(21,ptr o3.b (o3.o+((m).toNat)*bD.sz Ck+4)),(20,ptr o3.b (o3.o+((m).toNat)*bD.sz Ck+0)),(17,z90.cU.val),(16,ptr o3.b (o3.o+((m).toNat)*bD.sz Ck+2)),(15,ptr o3.b (o3.o+((m).toNat)*bD.sz Ck+0))] (bT.cons rfl (zR (s:=o3) rR rfl hz90 rfl) (bT.cons rfl (bU Q6 rfl) (bT.cons rfl (mH rfl) (bT.cons rfl (zR (s:=o3) rR rfl hz90 rfl) (bT.cons rfl (bU XH rfl) (bT.cons rfl (mH rfl) bT.nil)))))) ?_
  refine VD.one rfl ?_
  refine VL.jN (aAl z90.cU) rfl (by decide) ?_
  rintro s109 hs109
  refine QT [(22,z90.out.val),(21,ptr o3.b (o3.o+((m).toNat)*bD.sz Ck+4)),(20,ptr o3.b (o3.o+((m).toNat)*bD.sz Ck+0))] (bT.cons rfl (zR (s:=o3) rR rfl hz90 rfl) (bT.cons rfl (bU Q6 rfl) (bT.cons rfl (mH rfl) bT.nil))) ?_
  refine VD.one rfl ?_
  refine VL.jN (aAl z90.out) rfl (by decide) ?_
  rintro s114 hs114
  refine eV ?_
  refine ZX ?_
  refine VD.one rfl ?_
  refine VL.oC (s:=o3) (T:=422) (j:=0) (vc:=[s99.val]) (⟨s99,z90.ours,z90.cU,z90.qI,z90.out⟩:Ck) (by decide) rfl rfl hz90 rfl SJ rfl rfl (Nat.le_of_ble_eq_true rfl) rfl (fun w0 hw0 haw0 hcw0 hvw0 hbw0 how0 => ?_)
  rw [← hvw0]
  try rw [← hbw0]
  try rw [← how0]
  have hew0:w0.l[(m).toNat]? = some (⟨s99,z90.ours,z90.cU,z90.qI,z90.out⟩:Ck):=by rw [hw0]; exact List.getElem?_set_self (List.getElem?_eq_some_iff.1 hz90).1
  refine eV ?_
  refine ZX ?_
  refine VD.one rfl ?_
  refine VL.oC (s:=w0) (T:=422) (j:=1) (vc:=[s104.val]) (⟨s99,s104,z90.cU,z90.qI,z90.out⟩:Ck) (by decide) rfl rfl hew0 rfl SJ rfl rfl (Nat.le_of_ble_eq_true rfl) rfl (fun w1 hw1 haw1 hcw1 hvw1 hbw1 how1 => ?_)
  rw [← hvw1]
  try rw [← hbw1]
  try rw [← how1]
  have hew1:w1.l[(m).toNat]? = some (⟨s99,s104,z90.cU,z90.qI,z90.out⟩:Ck):=by rw [hw1]; exact List.getElem?_set_self (List.getElem?_eq_some_iff.1 hew0).1
  refine eV ?_
  refine ZX ?_
  refine VD.one rfl ?_
  refine VL.oC (s:=w1) (T:=422) (j:=2) (vc:=[s109.val]) (⟨s99,s104,s109,z90.qI,z90.out⟩:Ck) (by decide) rfl rfl hew1 rfl SJ rfl rfl (Nat.le_of_ble_eq_true rfl) rfl (fun w2 hw2 haw2 hcw2 hvw2 hbw2 how2 => ?_)
  rw [← hvw2]
  try rw [← hbw2]
  try rw [← how2]
  have hew2:w2.l[(m).toNat]? = some (⟨s99,s104,s109,z90.qI,z90.out⟩:Ck):=by rw [hw2]; exact List.getElem?_set_self (List.getElem?_eq_some_iff.1 hew1).1
  refine eV ?_
  refine ZX ?_
  refine VD.one rfl ?_
  refine VL.oC (s:=w2) (T:=422) (j:=4) (vc:=[s114.val]) (⟨s99,s104,s109,z90.qI,s114⟩:Ck) (by decide) rfl rfl hew2 rfl SJ rfl rfl (Nat.le_of_ble_eq_true rfl) rfl (fun w3 hw3 haw3 hcw3 hvw3 hbw3 how3 => ?_)
  rw [← hvw3]
  try rw [← hbw3]
  try rw [← how3]
  have hew3:w3.l[(m).toNat]? = some (⟨s99,s104,s109,z90.qI,s114⟩:Ck):=by rw [hw3]; exact List.getElem?_set_self (List.getElem?_eq_some_iff.1 hew2).1
  refine eV ?_
  refine ZX ?_
  have hw:w3.l=o3.l.set m.toNat ⟨s99,s104,s109,z90.qI,s114⟩:=by rw [hw3,hw2,hw1,hw0,List.set_set,List.set_set,List.set_set]
  refine Zr ?_
  refine Zu (l5 rfl rfl ⟨by omega,by omega⟩) ?_
  refine Zm ?_
  refine VL.any ((m+1),w3) [0,1,2,6,7,8,9,10,11,39,40,81,82] (fun _ _ h=>h) ?_ rfl (fun hp ⟨q4,q3,q2,q1,_,qm⟩=>by rw [hw]; exact MA.set (l:=o3.l) qm ⟨q1,q2,q3,q4⟩) (by (try dsimp only); exact fK.out)
  try dsimp only
  exact ⟨⟨by omega,by rw [hw]; simp; omega,by rw [hw]; simp; omega,by rw [hw,aLi hz90 (by simp [jF.pl,hs99,hs104,hs109,hs114])]; exact hmap⟩,by rw [hw]; simp; omega⟩
 refine Zx ?_
 refine Zq ?_
 refine VC.shut o3 422 (fun _ q z hz=>q z hz) ?_
 refine Zr (ZX ?_)
 refine VL.jN (aRi o3) rfl (by decide) ?_
 rintro s128 hs128
 refine ZX ?_
 exact VC.ret (aNf (.inr rfl) rfl rfl rfl (s128,.nil) rfl ((by rw [hs128,hmap]; rfl)) (fun _ _=>trivial))
theorem aFy (s:Sv bH) (sep:bH) (hb:s.l.length≤4294967296∧(Go.S.GM s.l sep).length≤4294967296):Ct Tryz.prog 22 [s.val,str sep] s.ok Ow.emp (X:=Unit) (fun _=>str (Go.S.GM s.l sep)) (fun _=>True) (fun _=>Mo.tt) (fun _=>Ow.emp) :=
  Ct.aNo (x9 Tryz.func22 rfl (by kernel_rfl)) fun w h m l=>by
    by_cases hl:s.l=[]
    . have:=Tryz.strings_Join_none s.a s.c ⟨⟨sep⟩⟩ w
      have e1:s.val = .slice s.a 0 s.c:=by unfold Sv.val; rw [hl]; rfl
      rw [e1]
      exact this.mono fun e w' ⟨h1,h2⟩=>⟨by rw [h1,hl]; rfl,h2▸Gr.refl w⟩
    . obtain ⟨h1,_,h3,h4,_⟩:=m
      have ha:=h3 hl
      have hx:(s.l.map fun z=>(⟨⟨z⟩⟩:ByteArray)).map (·.data.toList)=s.l:=by rw [List.map_map]; exact (List.map_congr_left fun z _=>rfl).trans (List.map_id _)
      have hc : ∀ (j:Nat) x,(s.l.map fun z=>(⟨⟨z⟩⟩:ByteArray))[j]? = some x→w.cell? ⟨s.b,s.o+j,none⟩=some (.string x):=fun j x hj=>by
        rw [List.getElem?_map] at hj
        cases hz:s.l[j]? with
        | none=>rw [hz] at hj; cases hj
        | some z =>
          rw [hz] at hj; cases hj
          have:=h4 j z hz 0 (str z) rfl
          have hs:bD.sz bH=1:=rfl
          rw [hs,Nat.mul_one] at this
          exact uP l (by simpa using this)
      have hlt:s.b < w.heap.size:=by
        have h0:0 < s.l.length:=List.length_pos_iff.2 hl
        have:=hc 0 ⟨⟨s.l[0]⟩⟩ (by simp [h0])
        rcases Nat.lt_or_ge s.b w.heap.size with q | q
        . exact q
        . simp [World.cell?,Array.getElem?_eq_none q] at this
      have:=Tryz.strings_Join s.b s.o s.c (s.l.map fun z=>⟨⟨z⟩⟩) ⟨⟨sep⟩⟩ w hc hlt (by rw [List.length_map]; omega) (by rw [List.length_map]; exact h1) (by rw [hx]; have:=hb.2; unfold Go.S.GM at this; show (Lib.join s.l sep).length≤_; omega)
      rw [hx,List.length_map] at this
      have e1:s.val = .slice (some ⟨s.b,s.o,none⟩) s.l.length s.c:=by unfold Sv.val; rw [ha]
      rw [e1]
      exact this.mono fun e w' ⟨h1,h2⟩=>⟨h1,Gr.aCk h2⟩
instance aXD (dR:Sv bH) :
 gF Tryz.prog 375 [dR.val] (Sh.DF dR.l) dR.ok (fun r=>str r):=by
 refine gM Tryz.func375 Tryz.ntmps375 fun r hS c => ?_
 unfold Sh.DF at hS
 obtain ⟨b4,hS⟩:=bM hS
 refine ZX ?_
 obtain ⟨ZL,aN9,hS⟩:=mB hS
 refine Zu (dU (aFy dR [] b4) rfl (fun _ _=>congrArg str aN9)) ?_
 exact ZE hS
instance aAH (aA:bH) (vJ:bH) :
 gF Tryz.prog 396 [str aA,str vJ] (Sh.j8 aA vJ) Mo.tt (fun r => .bool r):=by
 refine gM Tryz.func396 Tryz.ntmps396 fun r hS c => ?_
 unfold Sh.j8 at hS
 refine cI (Za ?_)
 refine Zl ?_
 refine cI (Zm ?_)
 refine Zu (zS Tryz.underlying9 rfl) (Zm (Zu (zS Tryz.underlying9 rfl) (Zu (N1 rfl rfl) (Zm ?_))))
 refine nT 10 hS (fun h10 hS => ?_) (fun h10 hS => ?_)
 ·
  obtain ⟨b16,hS⟩:=bM hS
  obtain ⟨b17,hS⟩:=bM hS
  refine ZX ?_
  obtain ⟨FH,a0n,hS⟩:=mB hS
  refine Zh (HE Tryz.underlying9 rfl rfl b17.1 b17.2 a0n) ?_
  exact ZE hS
 exact ZE hS
instance UM (aA:bH) (vJ:bH) :
 gF Tryz.prog 390 [str aA,str vJ] (Sh.tZ aA vJ) Mo.tt (fun r => .bool r):=by
 refine gM Tryz.func390 Tryz.ntmps390 fun r hS c => ?_
 unfold Sh.tZ at hS
 exact ZE hS
instance aUN (aA:bH) :
 gF Tryz.prog 384 [str aA] (Sh.EN aA) Mo.tt (fun r => .bool r):=by
 refine gM Tryz.func384 Tryz.ntmps384 fun r hS c => ?_
 unfold Sh.EN at hS
 refine cI (Za ?_)
 refine Zl ?_
 refine cI (Zm ?_)
 refine Zs ?_
 refine Zm ?_
 refine nT 5 hS (fun _ hS=>ZE hS) fun h5 hS => ?_
 refine ZX ?_
 obtain ⟨kI,GJ,hS⟩:=cS hS
 refine Zh (dU ((UM aA [10]).out GJ) rfl (fun _ _=>rfl)) ?_
 exact ZE hS
instance RB (dR:Sv bH) :
 gF Tryz.prog 380 [dR.val] (Sh.y9 dR.l) dR.ok (fun r=>str r):=by
 refine gM Tryz.func380 Tryz.ntmps380 fun r hS c => ?_
 unfold Sh.y9 at hS
 refine ZX ?_
 refine jK hS rfl fun aCN hS=>ZX ?_
 refine Zq (ZX ?_)
 refine jK hS rfl fun rJ hS=>ZX ?_
 refine iZ hS (fun h8 hS => ?_) (fun h8 hS => ?_)
 ·
  obtain ⟨b10,hS⟩:=bM hS
  refine Zr (Zm ?_)
  obtain ⟨kW,a0b,hS⟩:=mB hS
  refine Zu (nO rfl rfl b10 a0b) ?_
  exact ZE hS
 exact ZE hS
instance aUO (dF:jF) (a_1:bH) (b_2:bH) :
 gF Tryz.prog 374 [.agg #[dF.base.val,dF.ours.val,dF.cU.val,.bool dF.qI,dF.out.val],str a_1,str b_2] (Sh.EO dF.pl a_1 b_2) dF.m (fun r=>str r):=by
 refine gM Tryz.func374 Tryz.ntmps374 fun r hS c => ?_
 unfold Sh.EO at hS
 refine cI (kU fun uO=>ZX ?_)
 refine Zq ?_
 refine iB ((List.range 17).map fun k=>(k,true)) ?_
 obtain ⟨b8,hS⟩:=bM hS
 refine ZX ?_
 obtain ⟨nE,a7F,hS⟩:=mB hS
 refine Zw rfl (nO rfl rfl b8 a7F) ?_
 obtain ⟨b9,hS⟩:=bM hS
 obtain ⟨E5,aNb,hS⟩:=mB hS
 refine Zw rfl (nO rfl rfl b9 aNb) ?_
 refine ZX ?_
 obtain ⟨J3,aIa,hS⟩:=cS hS
 refine Zw rfl (dU ((RB dF.ours).out aIa) rfl (fun _ _=>rfl)) ?_
 obtain ⟨b13,hS⟩:=bM hS
 obtain ⟨aAY,a0f,hS⟩:=mB hS
 refine Zw rfl (nO rfl rfl b13 a0f) ?_
 obtain ⟨b14,hS⟩:=bM hS
 obtain ⟨aDi,a0i,hS⟩:=mB hS
 refine Zw rfl (nO rfl rfl b14 a0i) ?_
 refine ZX ?_
 obtain ⟨OG,a0o,hS⟩:=cS hS
 refine Zw rfl (dU ((RB dF.cU).out a0o) rfl (fun _ _=>rfl)) ?_
 obtain ⟨b18,hS⟩:=bM hS
 obtain ⟨aDl,a0s,hS⟩:=mB hS
 refine Zw rfl (nO rfl rfl b18 a0s) ?_
 obtain ⟨b19,hS⟩:=bM hS
 obtain ⟨aOZ,a0u,hS⟩:=mB hS
 refine Zw rfl (nO rfl rfl b19 a0u) ?_
 obtain ⟨b21,hS⟩:=bM hS
 refine ZX ?_
 obtain ⟨aJ9,aVB,hS⟩:=mB hS
 refine Zw rfl (nO rfl rfl b21 aVB) ?_
 obtain ⟨b22,hS⟩:=bM hS
 obtain ⟨aQZ,aVC,hS⟩:=mB hS
 refine Zw rfl (nO rfl rfl b22 aVC) ?_
 exact ZE hS
instance:UnD Tryz.prog 417 (.slice 422):=⟨Tryz.underlying417⟩
instance aXF (fB:bH) (dS:bH) (dD:bH) (US:bH) (UY:bH) :
 jZ Tryz.prog 369 [str fB,str dS,str dD,str US,str UY] (Sh.G7 fB dS dD US UY) Mo.tt (X:=bH×Int×Er) (fun x => .tuple #[str x.1,i64 x.2.1,x.2.2.val]) (fun x=>(x.1,x.2.1,x.2.2.pl)) (fun x=>x.2.2.ok):=by
 refine j6 Tryz.func369 Tryz.ntmps369 fun r hS c => ?_
 unfold Sh.G7 at hS
 refine ZX ?_
 refine fM hS rfl fun aXe hS=>Zm ?_
 refine fM hS rfl fun VY hS=>Zm ?_
 refine fM hS rfl fun aXh hS => ?_
 refine VL.shut aXe 9 (fun _ _ _ _=>trivial) ?_
 refine VL.shut VY 9 (fun _ _ _ _=>trivial) ?_
 refine VL.shut aXh 9 (fun _ _ _ _=>trivial) ?_
 refine fR hS rfl fun ⟨NY,aXi⟩ hS => ?_
 try dsimp only
 refine ZO ?_
 refine Zl ?_
 refine VC.aV [3,4,13,14] (Zq (ZX ?_))
 refine oD hS (fun h30 hS => ?_) (fun h30 hS => ?_)
 ·
  refine ZX ?_
  cases hS
  exact VC.ret (aF0 (.inr rfl) rfl rfl rfl rfl ([],0,aXi) rfl rfl (by (try dsimp only); exact dV.out) (fun _ _=>trivial))
 refine ZX ?_
 refine dJ fun ZT => ?_
 refine VL.a6j 5 ZT ?_
 refine ZX ?_
 refine Zq (ZX ?_)
 refine Zb ?_
 refine VC.iter (S:=Int×Int×bH) (fun sg=>(sg.1,sg.2.1,sg.2.2)) (fun sg=>[(3,str US),(4,str UY),(15,ptr ZT 0),(16,i64 sg.1),(32,NY.val),(33,i64 ((NY.l.map jF.pl).length:Int)),(34,i64 sg.2.1)]) (fun sg=>Mo.tt) (fun sg=>Ow.star (Bd 69 5 ZT sg.2.2) (Ow.emp)) (0,0,[]) [3,4,15,16,32,33,34] hS rfl ?_
 rintro ⟨VK,TL,PO⟩ m1 y1 hS hK1
 refine ZX ?_
 refine Zq (Zc hS (fun h35 hS => ?_) (fun h35 hS => ?_))
 ·
  refine Zk ?_
  refine Zq (Zb (cI ?_))
  obtain ⟨aHO,aPp,aJB,hS⟩:=zW hS
  refine VL.deep aHO.m aJB (fun _ q=>q) ?_
  refine Zu (jA (s:=NY) Tryz.underlying417 aBF rfl rfl aPp (bR aPp aJB)) (Zu (nF  (s:=NY) aLD rfl rfl aJB) ?_)
  refine dJ fun bBg=>ZX ?_
  refine Zq (ZX ?_)
  refine iZ hS (fun h39 hS => ?_) (fun h39 hS => ?_)
  ·
   obtain ⟨b41,hS⟩:=bM hS
   refine cI (ZO ?_)
   refine Zl ?_
   refine VC.aV [3,4,15,16,32,33,34,18] (ZX ?_)
   refine jK hS rfl fun aEh hS => ?_
   obtain ⟨b46,hS⟩:=bM hS
   refine VL.oE (L6 ZT PO aEh b46) rfl (by decide) ?_
   rintro _ _
   obtain ⟨aC1,aN5,hS⟩:=mB hS
   rw [aN5]
   refine Zl ?_
   refine Zx ?_
   obtain ⟨b51,hS⟩:=bM hS
   refine Zr (ZX ?_)
   refine VL.kL ((VK+1),(TL+1),aC1) [3,4,15,16,32,33,34] (fun _ _ h=>h) (go2 hS hK1) rfl
  refine Zk ?_
  refine Zr (ZX ?_)
  refine jK hS rfl fun aEk hS => ?_
  obtain ⟨b50,hS⟩:=bM hS
  refine VL.oE (L6 ZT PO aEk b50) rfl (by decide) ?_
  rintro _ _
  obtain ⟨aC2,aN6,hS⟩:=mB hS
  rw [aN6]
  refine Zl ?_
  refine VC.aV [3,4,15,16,32,33,34] ?_
  obtain ⟨b51,hS⟩:=bM hS
  refine Zr (ZX ?_)
  refine VL.kL (VK,(TL+1),aC2) [3,4,15,16,32,33,34] (fun _ _ h=>h) (go2 hS hK1) rfl
 replace hS:=kS hS hK1
 refine Zx ?_
 refine cI ?_
 refine VL.oE (aGg ZT PO) rfl (by decide) ?_
 rintro _ _
 refine ZX ?_
 cases hS
 exact VC.ret (aF0 (.inr rfl) rfl rfl rfl rfl (PO,VK,.nil) rfl rfl (by (try dsimp only); exact dV.out) (fun _ _=>trivial))
instance aUZ (fB:lI) (dS:lI) (dD:lI) (US:bH) (UY:bH) :
 gF Tryz.prog 359 [.agg #[str fB.cH,i64 fB.cN,str fB.bZ,.bool fB.is],.agg #[str dS.cH,i64 dS.cN,str dS.bZ,.bool dS.is],.agg #[str dD.cH,i64 dD.cN,str dD.bZ,.bool dD.is],str US,str UY] (Sh.EV fB dS dD US UY) Mo.tt (fun r => .tuple #[.agg #[str r.1.path,i64 r.1.mode,str r.1.data],.bool r.2]):=by
 refine gM Tryz.func359 Tryz.ntmps359 fun r hS c => ?_
 unfold Sh.EV at hS
 refine cI (kU fun UW=>kU fun QY=>kU fun aUi=>dJ fun bC2=>ZX ?_)
 refine Zq ?_
 refine iB [(0,true),(1,true),(2,true),(3,true),(4,true),(5,true),(6,true),(7,true),(8,true),(9,true),(10,true),(11,false),(12,false)] ?_
 refine ZX ?_
 obtain ⟨p7,aEV,hS⟩:=cS hS
 refine Zw rfl (dU ((UB fB dS dD).out aEV) rfl (fun _ _=>rfl)) ?_
 refine ZX ?_
 refine Zw rfl (cG (vs:=[(0,str dS.cH),(1,i64 p7),(2,str dS.bZ)]) (cs := #[str dS.cH,i64 p7,str dS.bZ]) rfl (by kernel_rfl)) ?_
 refine VD.one rfl (dJ fun bC6 => ?_)
 refine QT [(10,.agg #[str dS.cH,i64 p7,str dS.bZ]),(9,str dS.bZ),(8,ptr QY 2),(7,ptr QY 0),(6,i64 p7),(5,.agg #[str dD.cH,i64 dD.cN,str dD.bZ,.bool dD.is]),(4,.agg #[str dS.cH,i64 dS.cN,str dS.bZ,.bool dS.is]),(3,.agg #[str fB.cH,i64 fB.cN,str fB.bZ,.bool fB.is]),(2,str dS.cH),(1,ptr QY 0),(0,ptr QY 0)] (bT.cons rfl (cG (vs:=[(0,str dS.cH),(1,i64 p7),(2,str dS.bZ)]) (cs := #[str dS.cH,i64 p7,str dS.bZ]) rfl (by kernel_rfl)) (bT.cons rfl (lB mF rfl rfl) (bT.cons rfl (bU aLL rfl) (bT.cons rfl (bU aCc rfl) (bT.cons rfl (dU ((UB fB dS dD).out aEV) rfl (fun _ _=>rfl)) (bT.cons rfl (rA aAy rfl rfl) (bT.cons rfl (rA aAy rfl rfl) (bT.cons rfl (rA aAy rfl rfl) (bT.cons rfl (lB mF rfl rfl) (bT.cons rfl (bU aLK rfl) (bT.cons rfl (bU aCc rfl) bT.nil))))))))))) ?_
 refine VD.one rfl ?_
 refine Zv  (vc:=[str dS.cH,i64 p7,str dS.bZ]) (cs':=[str dS.cH,i64 p7,str dS.bZ]) rfl kN ?_
 refine eV ?_
 refine uD ?_
 refine VC.aV [3,4,5,6,7,10,12] (Zq (Zb ?_))
 refine VC.cJ [3,4,5,6,7,10,12] (fun (AK:Bool)=>AK) (fun AK ρ=>(27,.bool AK)::ρ) hS (fun _ hS=>ZE hS) ?_
 rintro AK hS
 refine iZ hS (fun _ hS=>ZE hS) fun h27 hS => ?_
 refine VC.cJ [3,4,5,6,7,10,12] (fun (aDc:Bool)=>aDc) (fun aDc ρ=>(49,.bool aDc)::ρ) hS (fun _ hS=>ZE hS) ?_
 rintro aDc hS
 refine iZ hS (fun _ hS=>ZE hS) fun h49 hS=>ZX ?_
 refine fR hS rfl fun ⟨aTa,a9m,a9n⟩ hS => ?_
 try dsimp only
 refine ZO ?_
 refine Zl ?_
 refine VC.aV [6,10,12,13,14,15] (Zq ?_)
 refine VC.cJ [6,10,12,13,14] (fun (YE:Bool)=>YE) (fun YE ρ=>(88,.bool YE)::ρ) hS ?_ ?_
 ·
  intro k13 hS
  refine Zr (Zm (Zu (aJT Tryz.underlying46 rfl) (Zm ?_)))
  refine UR 84 hS (fun _ hS=>ZE hS) fun h84 hS => ?_
  refine ZX ?_
  refine VL.mt (decide (4096 < (aTa.length:Int))) [88,6,10,12,13,14] (fun _ _ h=>h) hS rfl
 rintro YE hS
 refine iZ hS (fun h88 hS => ?_) (fun h88 hS => ?_)
 ·
  refine ZX ?_
  refine Zu (cG (vs:=[(0,str dS.cH),(1,i64 p7),(2,str dS.bZ)]) (cs := #[str dS.cH,i64 p7,str dS.bZ]) rfl (by kernel_rfl)) ?_
  exact ZE hS
 exact ZE hS
instance aYj (C3:bH) (HN:Sv aC) (aBY:Sv aC) (RS:Sv aC) (a_4:bH) (b_5:bH) :
 gF Tryz.prog 340 [str C3,HN.val,aBY.val,RS.val,str a_4,str b_5] (Sh.HJ C3 HN.l aBY.l RS.l a_4 b_5) (HN.ok.and (aBY.ok.and RS.ok)) (fun r => .tuple #[.agg #[str r.1.path,i64 r.1.mode,str r.1.data],.bool r.2.1,.bool r.2.2]):=by
 refine gM Tryz.func340 Tryz.ntmps340 fun r hS c => ?_
 unfold Sh.HJ at hS
 refine cI (dJ fun bC4=>ZX ?_)
 refine jK hS rfl fun CT hS=>ZX ?_
 refine jK hS rfl fun lN hS=>ZX ?_
 refine jK hS rfl fun kT hS=>dJ fun ZT=>dJ fun bC7=>dJ fun bC8=>ZO ?_
 refine Zl ?_
 refine VC.aV [4,5,12,15,16,17] (Zq (Zb ?_))
 refine VC.cJ [4,5,12,15,16,17] (fun (aD3:Bool)=>aD3) (fun aD3 ρ=>(27,.bool aD3)::ρ) hS ?_ ?_
 ·
  intro k9 hS
  refine Zr (ZX ?_)
  refine Zu (LH aF6 (aF8 lN.cH lN.cN lN.bZ lN.is kT.cH kT.cN kT.bZ kT.is) rfl rfl) (Zm ?_)
  refine nT 31 hS (fun _ hS=>ZE hS) fun h31 hS => ?_
  refine ZX ?_
  refine Zh (LH aF6 (aF8 CT.cH CT.cN CT.bZ CT.is kT.cH kT.cN kT.bZ kT.is) rfl rfl) ?_
  exact ZE hS
 rintro aD3 hS
 refine iZ hS (fun h27 hS => ?_) (fun h27 hS => ?_)
 ·
  refine Zq ?_
  refine iB [(0,true),(1,true),(2,true),(3,true),(4,false),(5,true),(6,true)] ?_
  refine ZX ?_
  refine Zw rfl (mG (j:=0) (n:=3) BD rfl rfl rfl) ?_
  refine ZX ?_
  refine VD.one rfl ?_
  refine Zv  (vc:=[str lN.cH,i64 lN.cN,str lN.bZ]) (cs':=[str lN.cH,i64 lN.cN,str lN.bZ]) rfl kN ?_
  refine eO (Pk 3 (Pk 2 Pz)) ?_
  exact ZE hS
 refine ZX ?_
 refine Zu (LH aF6 (aF8 CT.cH CT.cN CT.bZ CT.is lN.cH lN.cN lN.bZ lN.is) rfl rfl) ?_
 refine ZX ?_
 refine Zc hS (fun h40 hS => ?_) (fun h40 hS => ?_)
 ·
  refine Zq ?_
  refine iB [(0,true),(1,true),(2,true),(3,true),(4,false),(5,true),(6,true)] ?_
  refine ZX ?_
  refine Zw rfl (mG (j:=0) (n:=3) BD rfl rfl rfl) ?_
  refine ZX ?_
  refine VD.one rfl ?_
  refine Zv  (vc:=[str kT.cH,i64 kT.cN,str kT.bZ]) (cs':=[str kT.cH,i64 kT.cN,str kT.bZ]) rfl kN ?_
  refine eO (Pk 3 (Pk 2 Pz)) ?_
  exact ZE hS
 refine VC.cJ [4,5,12,15,16,17] (fun (X7:Bool)=>X7) (fun X7 ρ=>(48,.bool X7)::ρ) hS (fun _ hS=>ZE hS) ?_
 rintro X7 hS
 refine iZ hS (fun _ hS=>ZE hS) fun h48 hS=>ZX ?_
 refine iZ hS (fun h66 hS => ?_) (fun h66 hS => ?_)
 ·
  refine ZX ?_
  refine Zu (mG (j:=0) (n:=3) BD rfl rfl rfl) ?_
  refine Zv  (vc:=[str lN.cH,i64 lN.cN,str lN.bZ]) (cs':=[str lN.cH,i64 lN.cN,str lN.bZ]) rfl kN ?_
  exact ZE hS
 refine ZX ?_
 refine Zu (mG (j:=0) (n:=3) BD rfl rfl rfl) ?_
 refine Zv  (vc:=[str kT.cH,i64 kT.cN,str kT.bZ]) (cs':=[str kT.cH,i64 kT.cN,str kT.bZ]) rfl kN ?_
 exact ZE hS
instance aQR (C3:bH) (IJ:Sv (Sv aC)) :
 vL Tryz.prog 341 [str C3,IJ.val] (Sh.AH C3 (IJ.l.map Sv.l)) IJ.ok (Ow.emp) (X:=Sv aH) (fun x=>x.val) (fun x=>x.l) (fun x=>Mo.tt) (fun x=>Sv.own x 80):=by
 refine v8 Tryz.func341 Tryz.ntmps341 fun r hS c => ?_
 unfold Sh.AH at hS
 refine ZX ?_
 refine Zq (ZX ?_)
 refine Zu (vV Sv.l (s:=IJ) Tryz.underlying335 rfl) ?_
 refine ZX ?_
 refine Zb ?_
 refine VC.mR (⟨none,0,[]⟩:Sv aH) 80 ⟨rfl,rfl⟩ ?_
 refine VC.iter (S:=Sv aH×Int) (fun sg=>(sg.1.l,sg.2)) (fun sg=>[(0,str C3),(5,sg.1.val),(10,IJ.val),(11,i64 ((IJ.l.map Sv.l).length:Int)),(12,i64 sg.2)]) (fun sg=>Mo.tt) (fun sg=>Ow.star (Sv.own sg.1 80) (Ow.emp)) (⟨none,0,[]⟩,0) [0,5,10,11,12] hS rfl ?_
 rintro ⟨CY,J1⟩ m1 y1 hS hK1
 refine ZX ?_
 refine Zq (Zc hS (fun h13 hS => ?_) (fun h13 hS => ?_))
 ·
  refine Zk ?_
  refine Zq (Zb (ZX ?_))
  obtain ⟨W7,MK,KG,hS⟩:=zW hS
  refine VL.deep W7.ok KG (fun _ q=>q) ?_
  refine Zu (jA (s:=IJ) Tryz.underlying335 aFk rfl rfl MK (bR MK KG)) (Zu (I4  (s:=IJ) BE rfl KG rfl) ?_)
  refine ZX ?_
  refine jK hS rfl fun W4 hS=>ZX ?_
  refine dJ fun a6W=>ZO ?_
  refine Zl ?_
  refine VC.aV [0,5,10,11,12,6,8,9] (ZX ?_)
  refine iZ hS (fun h23 hS => ?_) (fun h23 hS => ?_)
  ·
   obtain ⟨b27,hS⟩:=bM hS
   refine Zr (ZX ?_)
   refine Zu (cG (vs:=[(0,str C3),(1,i64 (J1+1)),(2,i64 W4.1.mode),(3,str W4.1.data)]) (cs := #[str C3,i64 (J1+1),i64 W4.1.mode,str W4.1.data,i64 0,i64 0]) rfl (by kernel_rfl)) ?_
   refine mS hS fun bDF hS=>HM hS fun a8V hS => ?_
   refine Za ?_
   refine Zl ?_
   refine VC.aV [0,5,10,11,12] ?_
   obtain ⟨b35,hS⟩:=bM hS
   refine Zr (ZX ?_)
   refine VL.kL (a8V,(J1+1)) [0,5,10,11,12] (fun _ _ h=>h) (go2 hS hK1) rfl
  obtain ⟨b35,hS⟩:=bM hS
  refine Zk ?_
  refine Zr (ZX ?_)
  refine VL.kL (CY,(J1+1)) [0,5,10,11,12] (fun _ _ h=>h) (go2 hS hK1) rfl
 exact ZE hS
instance aAT (rQ:aC) (iC:Nat) (a_1:aC) :
 gF Tryz.prog 360 [.agg #[str rQ.path,i64 rQ.mode,str rQ.data],ptr iC 0] (Sh.yG rQ a_1) (Cells iC 0 [str a_1.path,i64 a_1.mode,str a_1.data]) (fun r => .bool r):=by
 refine gM Tryz.func360 Tryz.ntmps360 fun r hS c => ?_
 unfold Sh.yG at hS
 refine cI (kU fun iV=>ZX ?_)
 refine Zu (z8 mF rfl rfl) ?_
 exact ZE hS
instance AE (aA:Sv aC) (dY:Nat) (dP:aC) :
 gF Tryz.prog 106 [aA.val,.func (.func 360) #[] #[ptr dY 0]] (Sh.gW aA.l dP) (aA.ok.and (Cells dY 0 [str dP.path,i64 dP.mode,str dP.data])) (fun r=>i64 r):=by
 refine gM Tryz.func106 Tryz.ntmps106 fun r hS c => ?_
 unfold Sh.gW at hS
 refine ZX ?_
 refine Zq (ZX ?_)
 refine Zb ?_
 refine VC.iJ [0,1,7] (fun (dL:Int)=>dL) (fun dL ρ=>(8,i64 dL)::ρ) 0 [8,0,1,7] hS ?_
 rintro dL m1 y1 hS hK1
 refine ZX ?_
 refine Zq (Zc hS (fun h9 hS => ?_) (fun h9 hS => ?_))
 ·
  refine Zk ?_
  refine Zq (Zb (ZX ?_))
  obtain ⟨fD,rU,pF,hS⟩:=gP hS
  refine Zu (jA (s:=aA) Tryz.underlying26 kN rfl rfl rU (bR rU pF)) (Zu (nF  (s:=aA) BD rfl rfl pF) ?_)
  obtain ⟨mW,uE,hS⟩:=cS hS
  refine Zu (tU (vs:=[.agg #[str fD.path,i64 fD.mode,str fD.data]]) (caps:=[ptr dY 0]) ((aAT fD dY dP).out uE) rfl rfl (fun _ _=>rfl)) ?_
  exact ZE hS
 exact ZE hS
instance yU (aA:Sv aC) (dY:Nat) (dP:aC) :
 gF Tryz.prog 112 [aA.val,.func (.func 360) #[] #[ptr dY 0]] (Sh.fT aA.l dP) (aA.ok.and (Cells dY 0 [str dP.path,i64 dP.mode,str dP.data])) (fun r => .bool r):=by
 refine gM Tryz.func112 Tryz.ntmps112 fun r hS c => ?_
 unfold Sh.fT at hS
 refine ZX ?_
 obtain ⟨kI,GJ,hS⟩:=cS hS
 refine Zu (l6 ((AE aA dY dP).out GJ) rfl (fun _ _=>rfl)) ?_
 exact ZE hS
instance aUD (dX:Sv aC) :
 jZ Tryz.prog 342 [dX.val] (Sh.CO dX.l) dX.ok (X:=Er) (fun x=>x.val) (fun x=>x.pl) (fun x=>x.ok):=by
 refine j6 Tryz.func342 Tryz.ntmps342 fun r hS c => ?_
 unfold Sh.CO at hS
 refine ZX ?_
 refine Zq (ZX ?_)
 refine Zc hS (fun h7 hS => ?_) (fun h7 hS => ?_)
 ·
  refine ZX ?_
  refine Zu (cG (vs:=[(0,str [102,105,108,101]),(1,i64 64),(2,(Er.no 4).val)]) (cs := #[str [102,105,108,101],i64 64,(Er.no 4).val]) rfl (by kernel_rfl)) ?_
  refine kU fun PR => ?_
  refine VL.FB PR ?_
  refine ZX ?_
  cases hS
  exact VC.ret (Z1 (Er.fault PR [102,105,108,101] 64 (Er.no 4)))
 refine Zk ?_
 refine Zq (ZX ?_)
 refine Zb ?_
 refine VC.iJ [0,12,13] (fun (rG:Int)=>rG) (fun rG ρ=>(14,i64 rG)::ρ) 0 [14,0,12,13] hS ?_
 rintro rG m1 y1 hS hK1
 refine ZX ?_
 refine Zq (Zc hS (fun h15 hS => ?_) (fun h15 hS => ?_))
 ·
  refine Zk ?_
  refine Zq (Zb (ZX ?_))
  refine yH hS rfl fun aOc bBh hS=>ZX ?_
  refine dJ fun bAC => ?_
  obtain ⟨b21,hS⟩:=bM hS
  refine ZX ?_
  refine VL.sto Tryz.underlying26 kN rfl rfl b21.1 (b21.2) (by decide) fun a8M a1w => ?_
  replace hS:=dZ a1w hS
  refine ZX ?_
  obtain ⟨aA3,a1B,hS⟩:=cS hS
  refine Zu (l6 ((yU a8M bAC aOc).out a1B) rfl (fun _ _=>rfl)) ?_
  refine Zl ?_
  refine VC.aV [0,12,13,14,3,23] (iZ hS (fun h23 hS => ?_) (fun h23 hS => ?_))
  ·
   refine ZX ?_
   refine Zu (cG (vs:=[(0,str [102,105,108,101]),(1,i64 rG),(2,(Er.no 11).val)]) (cs := #[str [102,105,108,101],i64 rG,(Er.no 11).val]) rfl (by kernel_rfl)) ?_
   refine kU fun aUf => ?_
   refine VL.FB aUf ?_
   refine ZX ?_
   replace hS:=kS hS hK1
   cases hS
   exact VC.ret (Z1 (Er.fault aUf [102,105,108,101] rG (Er.no 11)))
  exact ZE hS
 replace hS:=kS hS hK1
 refine Zx ?_
 refine ZX ?_
 cases hS
 exact VC.ret (Z1 .nil)
instance aUC (fB:Sv aC) (dS:Sv aC) (dD:Sv aC) (US:bH) (UY:bH) :
 jZ Tryz.prog 301 [fB.val,dS.val,dD.val,str US,str UY] (Sh.zJ fB.l dS.l dD.l US UY) (fB.ok.and (dS.ok.and dD.ok)) (X:=cT×Er) (fun x => .tuple #[.agg (bD.enc x.1).toArray,x.2.val]) (fun x=>(x.1.pl,x.2.pl)) (fun x=>(x.1.m.and x.2.ok)):=by
 refine j6 Tryz.func301 Tryz.ntmps301 fun r hS c => ?_
 unfold Sh.zJ at hS
 refine cI (dJ fun PR=>ZX ?_)
 refine Zq (ZX ?_)
 refine VL.lit (α:=Sv aC) (xs:=[.tmp 22,.tmp 23,.tmp 24]) (vs:=[fB.val,dS.val,dD.val]) [fB,dS,dD] Tryz.underlying335 XI (by decide) rfl rfl rfl rfl (by decide) (fun h m=>List.forall_mem_cons.2 ⟨dV.out (X:=fB.ok) h m,List.forall_mem_cons.2 ⟨dV.out (X:=dS.ok) h m,List.forall_mem_cons.2 ⟨dV.out (X:=dD.ok) h m,fun _ h=>by cases h⟩⟩⟩) (by decide) (fun aOH a2A => ?_) (by decide)
 replace hS:=dZ (congrArg (List.map Sv.l) a2A) hS
 refine Zu (vV Sv.l (s:=aOH) Tryz.underlying335 rfl) ?_
 refine ZX ?_
 refine Zb ?_
 refine VC.iJ [0,1,2,3,4,10,25,26] (fun (TK:Int)=>TK) (fun TK ρ=>(27,i64 TK)::ρ) 0 [27,0,1,2,3,4,10,25,26] hS ?_
 rintro TK m1 y1 hS hK1
 refine ZX ?_
 refine Zq (Zc hS (fun h28 hS => ?_) (fun h28 hS => ?_))
 ·
  refine Zk ?_
  refine Zq (Zb (cI ?_))
  obtain ⟨aOk,aPn,aIz,hS⟩:=zW hS
  refine VL.deep aOk.ok aIz (fun _ q=>q) ?_
  refine Zu (jA (s:=aOH) Tryz.underlying335 aFk rfl rfl aPn (bR aPn aIz)) (Zu (I4  (s:=aOH) BE rfl aIz rfl) ?_)
  refine ZX ?_
  refine fR hS rfl fun V2 hS=>ZX ?_
  refine VC.aV [0,1,2,3,4,10,25,26,27,14,34] (oD hS (fun h34 hS => ?_) (fun h34 hS => ?_))
  ·
   refine cI ?_
   refine Zu (cG (vs:=[]) (cs := #[.slice none 0 0,.slice none 0 0,.slice none 0 0]) rfl (by kernel_rfl)) ?_
   refine ZX ?_
   replace hS:=kS hS hK1
   cases hS
   exact VC.ret (Z4 (⟨⟨none,0,[]⟩,⟨none,0,[]⟩,⟨none,0,[]⟩⟩,V2) rfl)
  exact ZE hS
 replace hS:=kS hS hK1
 refine Zx ?_
 refine cI (dJ fun aFF=>Zl ?_)
 refine Zq (ZX ?_)
 refine VL.lit (α:=Sv aC) (xs:=[.tmp 38,.tmp 39,.tmp 40]) (vs:=[fB.val,dS.val,dD.val]) [fB,dS,dD] Tryz.underlying335 XI (by decide) rfl rfl rfl rfl (by decide) (fun h m=>List.forall_mem_cons.2 ⟨dV.out (X:=fB.ok) h m,List.forall_mem_cons.2 ⟨dV.out (X:=dS.ok) h m,List.forall_mem_cons.2 ⟨dV.out (X:=dD.ok) h m,fun _ h=>by cases h⟩⟩⟩) (by decide) (fun bDI a2K => ?_) (by decide)
 replace hS:=dZ (congrArg (List.map Sv.l) a2K) hS
 refine fM hS rfl fun CL hS=>ZX ?_
 refine VC.aV [0,1,2,3,4,10,15,42,43,44] (Zb ?_)
 refine VC.mR (⟨none,0,[]⟩:Sv aC) 78 ⟨rfl,rfl⟩ ?_
 refine VC.mR (⟨none,0,[]⟩:Sv aH) 80 ⟨rfl,rfl⟩ ?_
 refine VC.mR (⟨none,0,[]⟩:Sv bH) 9 ⟨rfl,rfl⟩ ?_
 refine VC.YW aFF (cs':=[(⟨none,0,[]⟩:Sv aC).val,(⟨none,0,[]⟩:Sv aH).val,(⟨none,0,[]⟩:Sv bH).val]) rfl ?_
 refine VC.iter (S:=Int×Sv aC×Sv aH×Sv bH) (fun sg=>(sg.1,sg.2.1.l,sg.2.2.1.l,sg.2.2.2.l)) (fun sg=>[(0,fB.val),(1,dS.val),(2,dD.val),(3,str US),(4,str UY),(10,ptr PR 0),(15,ptr aFF 0),(42,CL.val),(43,i64 (CL.l.length:Int)),(44,i64 sg.1)]) (fun sg=>Mo.tt) (fun sg=>Ow.star (bN aFF [sg.2.1.val,sg.2.2.1.val,sg.2.2.2.val] 300) (Ow.star (bN PR [.slice none 0 0,.slice none 0 0,.slice none 0 0] 300) (Ow.star (Sv.own CL 9) (Ow.star (Sv.own sg.2.1 78) (Ow.star (Sv.own sg.2.2.1 80) (Ow.star (Sv.own sg.2.2.2 9) (Ow.emp))))))) (0,(⟨none,0,[]⟩:Sv aC),(⟨none,0,[]⟩:Sv aH),(⟨none,0,[]⟩:Sv bH)) [0,1,2,3,4,10,15,42,43,44] hS rfl ?_
 rintro ⟨KL,Z0,F7,HO⟩ m1 y1 hS hK1
 refine ZX ?_
 refine Zq (Zc hS (fun h45 hS => ?_) (fun h45 hS => ?_))
 ·
  refine Zk ?_
  refine Zq (Zb (cI ?_))
  obtain ⟨aCU,aLy,aLY,hS⟩:=gP hS
  refine Zu (lK (s:=CL) Tryz.underlying39 xE rfl rfl aLy (bR aLy aLY)) (Zu (II (s:=CL) 9 mF rfl aLY rfl) ?_)
  refine ZX ?_
  refine jK hS rfl fun F5 hS=>ZX ?_
  refine dJ fun a01=>ZO ?_
  refine Zl ?_
  refine VC.aV [0,1,2,3,4,10,15,42,43,44,17,18,19,20] ?_
  refine VC.u5 (S:=Sv aC) (fun (LR:Sv aC)=>LR.l) (fun (LR:Sv aC)=>[(0,fB.val),(1,dS.val),(2,dD.val),(3,str US),(4,str UY),(10,ptr PR 0),(15,ptr aFF 0),(17,str aCU),(20,.bool F5.2.2),(42,CL.val),(43,i64 (CL.l.length:Int)),(44,i64 KL)]) (fun (LR:Sv aC)=>Mo.tt) (fun (LR:Sv aC)=>Ow.star (bN a01 [str F5.1.path,i64 F5.1.mode,str F5.1.data] 78) (Ow.star (bN aFF [LR.val,F7.val,HO.val] 300) (Ow.star (bN PR [.slice none 0 0,.slice none 0 0,.slice none 0 0] 300) (Ow.star (Sv.own CL 9) (Ow.star (Sv.own F7 80) (Ow.star (Sv.own HO 9) (Ow.star (Sv.own LR 78) (Ow.emp)))))))) hS (fun _ hS=>ZE hS) ?_
  rintro LR hS
  refine ZX ?_
  refine iZ hS (fun h66 hS => ?_) (fun h66 hS => ?_)
  ·
   refine ZX ?_
   refine mS hS fun bCR hS=>HM hS fun a3m hS => ?_
   refine ZO ?_
   refine Zl ?_
   refine VC.aV [0,1,2,3,4,10,15,17,42,43,44] ?_
   refine iB [(0,true),(1,true),(2,true),(3,true),(4,true),(5,true),(6,false),(7,false),(8,false),(9,true),(10,false)] ?_
   refine ZX ?_
   refine VD.one rfl ?_
   refine VL.lit (α:=Sv aC) (xs:=[.tmp 76,.tmp 77,.tmp 78]) (vs:=[fB.val,dS.val,dD.val]) [fB,dS,dD] Tryz.underlying335 XI (by decide) rfl rfl rfl rfl (by decide) (fun h m=>List.forall_mem_cons.2 ⟨dV.out (X:=fB.ok) h m,List.forall_mem_cons.2 ⟨dV.out (X:=dS.ok) h m,List.forall_mem_cons.2 ⟨dV.out (X:=dD.ok) h m,fun _ h=>by cases h⟩⟩⟩) (by decide) (fun bCT aWk => ?_) (by decide)
   replace hS:=dZ (congrArg (List.map Sv.l) aWk) hS
   refine eO (Pk 1 (Pk 0 Pz)) ?_
   refine VD.one rfl (fM hS rfl fun aTe hS=>eO (Pk 1 (Pk 0 Pz)) ?_)
   refine VD.one rfl ?_
   refine VL.shut aTe 80 (fun _ _ _ _=>trivial) ?_
   refine HM hS fun a3o hS => ?_
   refine eV ?_
   refine ZX ?_
   refine VD.one rfl (ZX ?_)
   refine eV ?_
   refine uD ?_
   refine VC.aV [0,1,2,3,4,10,15,42,43,44] ?_
   obtain ⟨b83,hS⟩:=bM hS
   refine Zr (ZX ?_)
   refine VL.kL ((KL+1),LR,a3o,a3m) [0,1,2,3,4,10,15,42,43,44] (fun _ _ h=>h) (go2 hS hK1) rfl
  obtain ⟨b83,hS⟩:=bM hS
  refine Zk ?_
  refine Zr (ZX ?_)
  refine VL.kL ((KL+1),LR,F7,HO) [0,1,2,3,4,10,15,42,43,44] (fun _ _ h=>h) (go2 hS hK1) rfl
 replace hS:=kS hS hK1
 refine Zx ?_
 refine VC.aV [10,15] (Zq (ZX ?_))
 refine VL.shut Z0 78 (fun _ _ _ _=>trivial) ?_
 refine fR hS rfl fun aTh hS=>ZX ?_
 refine oD hS (fun h88 hS => ?_) (fun h88 hS => ?_)
 ·
  refine cI ?_
  refine Zu (cG (vs:=[]) (cs := #[.slice none 0 0,.slice none 0 0,.slice none 0 0]) rfl (by kernel_rfl)) ?_
  refine ZX ?_
  cases hS
  exact VC.ret (Z4 (⟨⟨none,0,[]⟩,⟨none,0,[]⟩,⟨none,0,[]⟩⟩,aTh) rfl)
 refine Zk ?_
 refine Zq ?_
 refine iB [(0,true),(1,true),(3,true),(4,true),(6,true),(7,true),(2,false),(5,false),(8,false),(9,true),(10,false),(11,true)] ?_
 refine ZX ?_
 refine VD.one rfl (fR hS rfl fun aDA hS=>eO (Pk 7 (Pk 6 (Pk 4 (Pk 3 Pz)))) ?_)
 refine VD.one rfl ?_
 refine VL.shut F7 80 (fun _ _ _ _=>trivial) ?_
 refine fR hS rfl fun aDB hS=>eO (Pk 7 (Pk 6 Pz)) ?_
 refine VD.one rfl (fM hS rfl fun XR hS=>eV ?_)
 refine Zw rfl (cG (vs:=[(0,aDA.val),(1,aDB.val),(2,XR.val)]) (cs := #[aDA.val,aDB.val,XR.val]) rfl (by kernel_rfl)) ?_
 refine VD.one rfl (ZX ?_)
 refine eV ?_
 refine ZD ?_
 refine uD ?_
 refine VC.aV [10,11] ?_
 refine VC.shut XR 9 (fun _ _ _ _=>trivial) ?_
 cases hS
 exact VC.ret (Z4 (⟨aDA,aDB,XR⟩,.nil) rfl)
instance K8 (dX:Sv aC) (p_1:bH) :
 gF Tryz.prog 299 [dX.val,str p_1] (Sh.uQ dX.l p_1) dX.ok (fun r => .agg #[str r.cH,i64 r.cN,str r.bZ,.bool r.is]):=by
 refine gM Tryz.func299 Tryz.ntmps299 fun r hS c => ?_
 unfold Sh.uQ at hS
 refine cI (dJ fun Y5=>ZX ?_)
 refine jK hS rfl fun j4 hS=>ZX ?_
 refine dJ fun aKa=>ZO ?_
 refine Zl ?_
 refine VC.aV [4,5,6] (ZX ?_)
 refine Zu (cG (vs:=[(0,.agg #[str j4.1.path,i64 j4.1.mode,str j4.1.data]),(1,.bool j4.2)]) (cs := #[str j4.1.path,i64 j4.1.mode,str j4.1.data,.bool j4.2]) rfl (by kernel_rfl)) ?_
 exact ZE hS
instance aSh (iL:Sv aC) (r_1:cT) :
 vL Tryz.prog 345 [iL.val,.agg #[r_1.files.val,r_1.entries.val,r_1.conflicts.val]] (Sh.wT iL.l r_1.pl) (iL.ok.and r_1.m) (Ow.emp) (X:=Sv bH) (fun x=>x.val) (fun x=>x.l) (fun x=>Mo.tt) (fun x=>Sv.own x 9):=by
 refine v8 Tryz.func345 Tryz.ntmps345 fun r hS c => ?_
 unfold Sh.wT at hS
 refine cI (kU fun uO=>ZX ?_)
 refine Zq (ZX ?_)
 refine VL.lit (α:=Sv aC) (xs:=[.tmp 8,.tmp 10]) (vs:=[iL.val,r_1.files.val]) [iL,r_1.files] Tryz.underlying335 XI (by decide) rfl rfl rfl rfl (by decide) (fun h m=>List.forall_mem_cons.2 ⟨dV.out (X:=iL.ok) h m,List.forall_mem_cons.2 ⟨dV.out (X:=r_1.files.ok) h m,fun _ h=>by cases h⟩⟩) (by decide) (fun bCl a1o => ?_) (by decide)
 replace hS:=dZ (congrArg (List.map Sv.l) a1o) hS
 refine fM hS rfl fun IE hS=>ZX ?_
 refine Zb ?_
 refine VC.mR (⟨none,0,[]⟩:Sv bH) 9 ⟨rfl,rfl⟩ ?_
 refine VC.iter (S:=Sv bH×Int) (fun sg=>(sg.1.l,sg.2)) (fun sg=>[(0,iL.val),(3,ptr uO 0),(5,sg.1.val),(12,IE.val),(13,i64 (IE.l.length:Int)),(14,i64 sg.2)]) (fun sg=>Mo.tt) (fun sg=>Ow.star (bN uO [r_1.files.val,r_1.entries.val,r_1.conflicts.val] 300) (Ow.star (Sv.own IE 9) (Ow.star (Sv.own sg.1 9) (Ow.emp)))) (⟨none,0,[]⟩,0) [0,3,5,12,13,14] hS rfl ?_
 rintro ⟨SR,TE⟩ m1 y1 hS hK1
 refine ZX ?_
 refine Zq (Zc hS (fun h15 hS => ?_) (fun h15 hS => ?_))
 ·
  refine Zk ?_
  refine Zq (Zb (cI ?_))
  obtain ⟨aDr,aPh,aP7,hS⟩:=gP hS
  refine Zu (lK (s:=IE) Tryz.underlying39 xE rfl rfl aPh (bR aPh aP7)) (Zu (II (s:=IE) 9 mF rfl aP7 rfl) ?_)
  refine ZX ?_
  refine Zq ?_
  refine iB ((List.range 8).map fun k=>(k,true)) ?_
  refine ZX ?_
  obtain ⟨GY,a0v,hS⟩:=cS hS
  refine Zw rfl (dU ((K8 iL aDr).out a0v) rfl (fun _ _=>rfl)) ?_
  refine ZX ?_
  obtain ⟨x6,a1C,hS⟩:=cS hS
  refine Zw rfl (dU ((K8 r_1.files aDr).out a1C) rfl (fun _ _=>rfl)) ?_
  refine Zw rfl (aBk aF5 (aF7 GY.cH GY.cN GY.bZ GY.is x6.cH x6.cN x6.bZ x6.is) rfl rfl) ?_
  refine ZX ?_
  refine VC.aV [0,3,5,12,13,14,7,25] (oD hS (fun h25 hS => ?_) (fun h25 hS => ?_))
  ·
   refine Zr (ZX ?_)
   refine mS hS fun aQH hS=>HM hS fun a3Z hS => ?_
   obtain ⟨b30,hS⟩:=bM hS
   refine ZX ?_
   refine Zr (ZX ?_)
   refine VL.kL (a3Z,(TE+1)) [0,3,5,12,13,14] (fun _ _ h=>h) (go2 hS hK1) rfl
  obtain ⟨b30,hS⟩:=bM hS
  refine Zk ?_
  refine Zr (ZX ?_)
  refine VL.kL (SR,(TE+1)) [0,3,5,12,13,14] (fun _ _ h=>h) (go2 hS hK1) rfl
 replace hS:=kS hS hK1
 refine Zx ?_
 refine ZX ?_
 refine HM hS fun a38 hS => ?_
 refine Za ?_
 refine Zl ?_
 refine VC.aV [5] ?_
 obtain ⟨b36,hS⟩:=bM hS
 refine ZX ?_
 refine VL.oE (WE a38 b36) rfl (by decide) ?_
 rintro a4C ⟨aWo,aYw⟩
 try dsimp only
 rw [← aYw]
 replace hS:=dZ aWo hS
 obtain ⟨b38,hS⟩:=bM hS
 refine ZX ?_
 refine VL.oE (NF a4C b38) rfl (by decide) ?_
 rintro bCW aWp
 try dsimp only
 replace hS:=dZ aWp hS
 exact ZE hS
instance rD (aA:Sv bH) (v_1:bH) :
 gF Tryz.prog 264 [aA.val,str v_1] (Sh.eN aA.l v_1) aA.ok (fun r => .bool r):=by
 refine gM Tryz.func264 Tryz.ntmps264 fun r hS c => ?_
 unfold Sh.eN at hS
 exact ZE hS
instance a0G (iL:Sv aC) (zY:Sv aH) (X1:Sv aC) (p_3:bH) :
 gF Tryz.prog 362 [iL.val,zY.val,X1.val,str p_3] (Sh.JN iL.l zY.l X1.l p_3) (iL.ok.and (zY.ok.and X1.ok)) (fun r => .bool r):=by
 refine gM Tryz.func362 Tryz.ntmps362 fun r hS c => ?_
 unfold Sh.JN at hS
 refine ZX ?_
 refine fR hS rfl fun aGM hS=>Zm ?_
 refine jK hS rfl fun tE hS=>dJ fun bAI=>ZX ?_
 refine Zq ?_
 refine iB [(0,true),(1,true),(2,true),(3,true),(4,true),(5,true),(6,true),(7,true),(8,true),(9,true),(10,true),(11,true),(12,true),(13,true),(15,true),(14,false),(16,true),(17,true),(18,true),(19,true)] ?_
 refine ZX ?_
 obtain ⟨uB,aAu,hS⟩:=cS hS
 refine Zw rfl (dU ((K8 X1 p_3).out aAu) rfl (fun _ _=>rfl)) ?_
 refine ZX ?_
 refine Zw rfl (LH aF5 (aF7 uB.cH uB.cN uB.bZ uB.is tE.cH tE.cN tE.bZ tE.is) rfl rfl) ?_
 refine ZX ?_
 refine VD.xR 19 rfl (fun h19 => ?_) (fun h19 => ?_)
 ·
  replace hS:=IB h19 hS
  refine ZX ?_
  obtain ⟨J8,a0z,hS⟩:=cS hS
  refine Zi rfl (dU ((K8 iL p_3).out a0z) rfl (fun _ _=>rfl)) ?_
  refine Zi rfl (LH aF5 (aF7 tE.cH tE.cN tE.bZ tE.is J8.cH J8.cN J8.bZ J8.is) rfl rfl) ?_
  refine ZX ?_
  refine VD.xR 26 rfl (fun h26 => ?_) (fun h26 => ?_)
  ·
   replace hS:=IB h26 hS
   refine ZX ?_
   refine VD.a6b rfl rfl rfl ?_
   refine VL.guard rfl rfl ?_
   refine fM hS rfl fun aXl hS => ?_
   refine QT [(15,str p_3)] (bT.aI6 rfl rfl rfl (fQ rfl) bT.nil) ?_
   obtain ⟨EB,aIi,hS⟩:=cS hS
   refine Zi rfl (l6 ((rD aXl p_3).out aIi) rfl (fun _ _=>rfl)) ?_
   exact ZE hS
  replace hS:=T6 h26 hS
  refine ZX ?_
  refine VD.aXN (D':=[(15,undef)]) rfl rfl rfl (by decide) (by decide) (by kernel_rfl) (bT.aFR rfl rfl rfl rfl (bT.nil)) ?_
  exact ZE hS
 replace hS:=T6 h19 hS
 refine ZX ?_
 refine VD.aXN (D':=[(15,undef)]) rfl rfl rfl (by decide) (by decide) (by kernel_rfl) (bT.aFR rfl rfl rfl rfl (bT.nil)) ?_
 exact ZE hS
instance aEK (C3:bH) (iC:Nat) (a_1:cT) (aU6:Nat) (a_2:aC) :
 gF Tryz.prog 364 [str C3,ptr iC 0,ptr aU6 0] (Sh.ER C3 a_1.pl a_2) (a_1.m.and ((Cells iC 0 [a_1.files.val,a_1.entries.val,a_1.conflicts.val]).and (Cells aU6 0 [str a_2.path,i64 a_2.mode,str a_2.data]))) (fun r => .bool r):=by
 refine gM Tryz.func364 Tryz.ntmps364 fun r hS c => ?_
 unfold Sh.ER at hS
 refine ZX ?_
 refine Zu (z8 BE rfl rfl) (Zm ?_)
 refine jK hS rfl fun F0 hS => ?_
 refine Zu (aNx Tryz.underlying349 rfl LU rfl rfl) (Zm ?_)
 refine xZ 10 hS (fun h10 hS => ?_) (fun h10 hS => ?_)
 ·
  refine ZX ?_
  refine Zh (z8 mF rfl rfl) ?_
  obtain ⟨TN,a0g,hS⟩:=cS hS
  refine Zh (dU ((aGJ C3 a_2.path).out a0g) rfl (fun _ _=>rfl)) ?_
  exact ZE hS
 exact ZE hS
instance GU (aA:Sv bH) (dY:Nat) (dP:cT) (K0:Nat) (GK:aC) :
 gF Tryz.prog 370 [aA.val,.func (.func 364) #[] #[ptr dY 0,ptr K0 0]] (Sh.kD aA.l dP.pl GK) (aA.ok.and (dP.m.and ((Cells dY 0 [dP.files.val,dP.entries.val,dP.conflicts.val]).and (Cells K0 0 [str GK.path,i64 GK.mode,str GK.data])))) (fun r=>i64 r):=by
 refine gM Tryz.func370 Tryz.ntmps370 fun r hS c => ?_
 unfold Sh.kD at hS
 refine ZX ?_
 refine Zq (ZX ?_)
 refine Zb ?_
 refine VC.iJ [0,1,7] (fun (dL:Int)=>dL) (fun dL ρ=>(8,i64 dL)::ρ) 0 [8,0,1,7] hS ?_
 rintro dL m1 y1 hS hK1
 refine ZX ?_
 refine Zq (Zc hS (fun h9 hS => ?_) (fun h9 hS => ?_))
 ·
  refine Zk ?_
  refine Zq (Zb (ZX ?_))
  obtain ⟨fD,rU,pF,hS⟩:=gP hS
  refine Zu (jA (s:=aA) Tryz.underlying39 xE rfl rfl rU (bR rU pF)) (Zu (I4  (s:=aA) mF rfl pF rfl) ?_)
  obtain ⟨mW,uE,hS⟩:=cS hS
  refine Zu (tU (vs:=[str fD]) (caps:=[ptr dY 0,ptr K0 0]) ((aEK fD dY dP K0 GK).out uE) rfl rfl (fun _ _=>rfl)) ?_
  exact ZE hS
 exact ZE hS
instance ET (aA:Sv bH) (dY:Nat) (dP:cT) (K0:Nat) (GK:aC) :
 gF Tryz.prog 363 [aA.val,.func (.func 364) #[] #[ptr dY 0,ptr K0 0]] (Sh.jJ aA.l dP.pl GK) (aA.ok.and (dP.m.and ((Cells dY 0 [dP.files.val,dP.entries.val,dP.conflicts.val]).and (Cells K0 0 [str GK.path,i64 GK.mode,str GK.data])))) (fun r => .bool r):=by
 refine gM Tryz.func363 Tryz.ntmps363 fun r hS c => ?_
 unfold Sh.jJ at hS
 refine ZX ?_
 obtain ⟨kI,GJ,hS⟩:=cS hS
 refine Zu (l6 ((GU aA dY dP K0 GK).out GJ) rfl (fun _ _=>rfl)) ?_
 exact ZE hS
instance a0F (iL:Sv aC) (r_1:cT) (E4:Sv aH) (nS:Sv aC) :
 vL Tryz.prog 344 [iL.val,.agg #[r_1.files.val,r_1.entries.val,r_1.conflicts.val],E4.val,nS.val] (Sh.GO iL.l r_1.pl E4.l nS.l) (iL.ok.and (r_1.m.and (E4.ok.and nS.ok))) (Ow.emp) (X:=Sv bH) (fun x=>x.val) (fun x=>x.l) (fun x=>Mo.tt) (fun x=>Sv.own x 9):=by
 refine v8 Tryz.func344 Tryz.ntmps344 fun r hS c => ?_
 unfold Sh.GO at hS
 refine cI (kU fun UW=>ZX ?_)
 refine fM hS rfl fun DO hS=>ZX ?_
 refine Zq (ZX ?_)
 refine Zb ?_
 refine VC.mR (⟨none,0,[]⟩:Sv bH) 9 ⟨rfl,rfl⟩ ?_
 refine VC.iter (S:=Sv bH×Int) (fun sg=>(sg.1.l,sg.2)) (fun sg=>[(0,iL.val),(2,E4.val),(3,nS.val),(5,ptr UW 0),(9,DO.val),(10,sg.1.val),(18,DO.val),(19,i64 (DO.l.length:Int)),(20,i64 sg.2)]) (fun sg=>Mo.tt) (fun sg=>Ow.star (bN UW [r_1.files.val,r_1.entries.val,r_1.conflicts.val] 300) (Ow.star (Sv.own DO 9) (Ow.star (Sv.own sg.1 9) (Ow.emp)))) (⟨none,0,[]⟩,0) [0,2,3,5,9,10,18,19,20] hS rfl ?_
 rintro ⟨NU,TH⟩ m1 y1 hS hK1
 refine ZX ?_
 refine Zq (Zc hS (fun h21 hS => ?_) (fun h21 hS => ?_))
 ·
  refine Zk ?_
  refine Zq (Zb (cI ?_))
  obtain ⟨aOg,aPl,aPa,hS⟩:=gP hS
  refine Zu (lK (s:=DO) Tryz.underlying39 xE rfl rfl aPl (bR aPl aPa)) (Zu (II (s:=DO) 9 mF rfl aPa rfl) ?_)
  refine ZX ?_
  refine jK hS rfl fun aA6 hS=>ZX ?_
  refine VC.aV [0,2,3,5,9,10,18,19,20,12,29] (iZ hS (fun h29 hS => ?_) (fun h29 hS => ?_))
  ·
   refine Zr (ZX ?_)
   refine mS hS fun bDE hS=>HM hS fun a8U hS => ?_
   obtain ⟨b34,hS⟩:=bM hS
   refine ZX ?_
   refine Zr (ZX ?_)
   refine VL.kL (a8U,(TH+1)) [0,2,3,5,9,10,18,19,20] (fun _ _ h=>h) (go2 hS hK1) rfl
  obtain ⟨b34,hS⟩:=bM hS
  refine Zk ?_
  refine Zr (ZX ?_)
  refine VL.kL (NU,(TH+1)) [0,2,3,5,9,10,18,19,20] (fun _ _ h=>h) (go2 hS hK1) rfl
 replace hS:=kS hS hK1
 refine Zx ?_
 refine Zq (ZX ?_)
 refine VC.aV [5,9,10,35,36,37] (Zb ?_)
 refine VC.iter (S:=Sv bH×Int) (fun sg=>(sg.1.l,sg.2)) (fun sg=>[(5,ptr UW 0),(9,DO.val),(10,sg.1.val),(35,nS.val),(36,i64 (nS.l.length:Int)),(37,i64 sg.2)]) (fun sg=>Mo.tt) (fun sg=>Ow.star (bN UW [r_1.files.val,r_1.entries.val,r_1.conflicts.val] 300) (Ow.star (Sv.own DO 9) (Ow.star (Sv.own sg.1 9) (Ow.emp)))) (NU,0) [5,9,10,35,36,37] hS rfl ?_
 rintro ⟨zZ,EX⟩ m1 y1 hS hK1
 refine ZX ?_
 refine Zq (Zc hS (fun h38 hS => ?_) (fun h38 hS => ?_))
 ·
  refine Zk ?_
  refine Zq (Zb (cI (yH hS rfl fun PL bA1 hS=>ZX ?_)))
  refine dJ fun aOv=>ZO ?_
  refine Zl ?_
  refine VC.cJ [5,9,10,14,35,36,37] (fun (_:Unit)=>()) (fun _ ρ=>ρ) hS ?_ ?_
  ·
   intro k15 hS
   refine ZX ?_
   obtain ⟨aEg,aVP,hS⟩:=cS hS
   refine Zu (l6 ((rD DO PL.path).out aVP) rfl (fun _ _=>rfl)) ?_
   refine Zm ?_
   refine xZ 45 hS (fun h45 hS => ?_) (fun h45 hS => ?_)
   ·
    refine ZX ?_
    obtain ⟨aQg,aVV,hS⟩:=cS hS
    refine Zh (dU ((K8 r_1.files PL.path).out aVV) rfl (fun _ _=>rfl)) ?_
    refine Zh (aNx Tryz.underlying349 rfl LU rfl rfl) ?_
    refine ZX ?_
    refine VC.aV [5,9,10,35,36,37,14,53] (iZ hS (fun h53 hS => ?_) (fun h53 hS => ?_))
    ·
     refine Zx ?_
     obtain ⟨b62,hS⟩:=bM hS
     refine Zr (ZX ?_)
     refine VL.kL (zZ,(EX+1)) [5,9,10,35,36,37] (fun _ _ h=>h) (go2 hS hK1) rfl
    exact ZE hS
   refine VL.runs 8 [(53,some false)] (by kernel_rfl) ?_
   refine Zl ?_
   refine VC.keep (ρ':=[(5,ptr UW 0),(9,DO.val),(10,zZ.val),(35,nS.val),(36,i64 (nS.l.length:Int)),(37,i64 EX),(14,ptr aOv 0),(53,.bool false)]) [5,9,10,35,36,37,14,53] rfl ?_
   refine VC.wA rfl ?_
   exact ZE hS
  rintro _ hS
  refine ZX ?_
  obtain ⟨aQr,aV5,hS⟩:=cS hS
  refine Zu (l6 ((ET DO UW r_1 aOv PL).out aV5) rfl (fun _ _=>rfl)) ?_
  refine Zl ?_
  refine iZ hS (fun h56 hS => ?_) (fun h56 hS => ?_)
  ·
   refine Zr (ZX ?_)
   refine mS hS fun a3j hS=>HM hS fun a3k hS => ?_
   refine Za ?_
   refine Zl ?_
   refine VC.aV [5,9,10,35,36,37] ?_
   obtain ⟨b62,hS⟩:=bM hS
   refine Zr (ZX ?_)
   refine VL.kL (a3k,(EX+1)) [5,9,10,35,36,37] (fun _ _ h=>h) (go2 hS hK1) rfl
  obtain ⟨b62,hS⟩:=bM hS
  refine Zk ?_
  refine Zr (ZX ?_)
  refine VL.kL (zZ,(EX+1)) [5,9,10,35,36,37] (fun _ _ h=>h) (go2 hS hK1) rfl
 replace hS:=kS hS hK1
 refine Zx ?_
 obtain ⟨b64,hS⟩:=bM hS
 refine ZX ?_
 refine VL.oE (WE zZ b64) rfl (by decide) ?_
 rintro a4D ⟨aWq,aYx⟩
 try dsimp only
 rw [← aYx]
 replace hS:=dZ aWq hS
 obtain ⟨b66,hS⟩:=bM hS
 refine ZX ?_
 refine VL.oE (NF a4D b66) rfl (by decide) ?_
 rintro bCX aWr
 try dsimp only
 replace hS:=dZ aWr hS
 exact ZE hS
instance a2w (dX:cT) (zY:Sv aH) (p_2:bH) :
 jZ Tryz.prog 346 [.agg #[dX.files.val,dX.entries.val,dX.conflicts.val],zY.val,str p_2] (Sh.JM dX.pl zY.l p_2) (dX.m.and zY.ok) (X:=Sv aH) (fun x=>x.val) (fun x=>x.l) (fun x=>x.ok):=by
 refine j6 Tryz.func346 Tryz.ntmps346 fun r hS c => ?_
 unfold Sh.JM at hS
 refine cI (kU fun uO=>ZX ?_)
 refine Zq (ZX ?_)
 refine jK hS rfl fun tE hS=>Zl ?_
 refine iZ hS (fun h13 hS => ?_) (fun h13 hS => ?_)
 ·
  refine Zq (ZX ?_)
  refine VC.aV [1,2,15,16,17] (Zb ?_)
  refine VC.iJm [2,15,16] (fun (sg:Sv aH×Int)=>(sg.1.l,sg.2)) (fun sg ρ=>(1,sg.1.val)::(17,i64 sg.2)::ρ) (fun sg=>sg.1.ok) (zY,0) [1,17,2,15,16] hS ?_
  rintro ⟨aFx,sC⟩ m1 y1 hS hK1
  refine ZX ?_
  refine Zq (Zc hS (fun h18 hS => ?_) (fun h18 hS => ?_))
  ·
   refine Zk ?_
   refine Zq (Zb (cI (yH hS rfl fun OJ aE2 hS=>ZX ?_)))
   refine dJ fun bDO=>ZX ?_
   refine Zc hS (fun h24 hS => ?_) (fun h24 hS => ?_)
   ·
    refine Zr (ZX ?_)
    refine fR hS rfl fun aXk hS=>Za ?_
    refine Zl ?_
    refine VC.aV [1,2,15,16,17] ?_
    obtain ⟨b28,hS⟩:=bM hS
    refine Zr (ZX ?_)
    refine VL.kL (aXk,(sC+1)) [1,17,2,15,16] (fun _ _ h=>h) (go2 hS hK1) rfl
   refine Zk ?_
   refine VC.aV [1,2,15,16,17] ?_
   obtain ⟨b28,hS⟩:=bM hS
   refine Zr (ZX ?_)
   refine VL.kL (aFx,(sC+1)) [1,17,2,15,16] (fun _ _ h=>h) (go2 hS hK1) rfl
  exact ZE hS
 refine ZX ?_
 refine jK hS rfl fun GZ hS=>dJ fun bAK=>ZO ?_
 refine Zl ?_
 refine VC.aV [1,2,9] (Zq (ZX ?_))
 refine iZ hS (fun _ hS=>ZE hS) fun h36 hS=>ZX ?_
 refine Zu (cG (vs:=[(0,str p_2),(2,i64 GZ.cN),(3,str GZ.bZ)]) (cs := #[str p_2,i64 0,i64 GZ.cN,str GZ.bZ,i64 0,i64 0]) rfl (by kernel_rfl)) ?_
 exact I1 hS (PV zY (⟨p_2,0,GZ.cN,GZ.bZ,0,0⟩:aH)).out fun a9Z hS=>ZE hS
end Go.Proofs.YtgdabkldgphdeaaGreatDoor
end
