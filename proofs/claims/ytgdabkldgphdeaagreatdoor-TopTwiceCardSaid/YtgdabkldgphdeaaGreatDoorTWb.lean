/- Part of the proofs of: the law TopTwice: the same play leads to the same, each time (any acts) -/
import Derived.Test.YtgdabkldgphdeaaGreatDoorTWa
set_option linter.unusedVariables false
set_option linter.unusedSimpArgs false
set_option linter.unusedSectionVars false
section
set_option linter.unusedVariables false
namespace Go.Proofs.YtgdabkldgphdeaaGreatDoor
set_option maxHeartbeats 4000000
set_option maxRecDepth 100000
set_option synthInstance.maxSize 2000
set_option synthInstance.maxHeartbeats 1000000
open Go.RowKit Go.V
open Go.S
attribute [local irreducible] Go.V.Qt Go.V.VL Go.V.VC Go.V.I0 Go.S.gd Go.S.at_ Go.S.lt Go.S.jn Go.S.go Go.S.up Go.S.iter Sh.jT Sh.eW Sh.iE Sh.x7 Sh.x8 Sh.qT Sh.eT Sh.gD Sh.EH Sh.oT Sh.bQ Sh.cK Sh.lF Sh.jX Sh.eS Sh.fZ Sh.cX Sh.iA Sh.kV Sh.zH Sh.nH Sh.nW Sh.qP Sh.tX Sh.pQ Sh.pR Sh.pS Sh.pT Sh.nI Sh.pU Sh.nJ Sh.nP Sh.sW Sh.sX Sh.pV Sh.nX Sh.mD Sh.sY Sh.vB Sh.pW Sh.o7 Sh.pX Sh.pY Sh.nQ Sh.lG Sh.s5 Sh.nD
instance:IfC Tryz.prog 46:=⟨⟨_,Tryz.underlying46⟩⟩
instance:UnD Tryz.prog 38 (.slice 59):=⟨Tryz.underlying38⟩
instance S5 (jO:Nat) (w_0:eF) (s_1:aM) :
 vL Tryz.prog 105 [ptr jO 0,.agg (aJ s_1).toArray] (Sh.s5 w_0.pl s_1.pl) s_1.m (Ow.star (Sv.own w_0.eU 5) (bN jO [w_0.eU.val] 168)) (X:=eF) (fun x => .tuple #[]) (fun x=>x.pl) (fun x=>Mo.tt) (fun x=>Ow.star (bN jO [x.eU.val] 168) (Sv.own x.eU 5)):=by
 refine v8 Tryz.func105 Tryz.ntmps105 fun r hS c => ?_
 unfold Sh.s5 at hS
 refine cI ?_
 refine qA (aJ s_1) fun uO => ?_
 refine ZX ?_
 refine Zu (mG (j:=0) (n:=17) MJ rfl rfl rfl) ?_
 refine y7 hS (LK jO w_0 (⟨s_1.aY,s_1.aU,s_1.bA,s_1.aI,s_1.aG,s_1.aS,s_1.aO,s_1.aT,s_1.aN,s_1.aP,s_1.aQ,s_1.aK,s_1.aD,s_1.aE,s_1.aL,s_1.aR,s_1.aX⟩:iY)).out fun CZ hS=>Zl ?_
 refine Zq ?_
 refine iB [(0,true),(1,true),(2,true),(3,true),(4,true),(5,true),(6,false),(7,false)] ?_
 refine ZX ?_
 refine VD.one rfl (mS hS fun a8F hS=>eO (Pk 2 (Pk 1 Pz)) ?_)
 refine VD.one rfl (fM hS rfl fun aMX hS=>eV ?_)
 refine uD ?_
 refine VC.aV [0,3] (Zq (ZX ?_))
 refine Zb ?_
 refine VC.iter (S:=Int×Sv UInt8) (fun sg=>(sg.1,sg.2.l)) (fun sg=>[(0,ptr jO 0),(3,ptr uO 0),(19,s_1.bC.val),(20,i64 ((s_1.bC.l.map bY.pl).length:Int)),(21,i64 sg.1)]) (fun sg=>Mo.tt) (fun sg=>Ow.star (bN jO [sg.2.val] 168) (Ow.star (bN uO (aJ s_1) 43) (Ow.star (Sv.own sg.2 5) (Ow.emp)))) (0,aMX.eU) [0,3,19,20,21] hS rfl ?_
 rintro ⟨aDX,FL⟩ m1 y1 hS hK1
 refine ZX ?_
 refine Zq (Zc hS (fun h22 hS => ?_) (fun h22 hS => ?_))
 ·
  refine Zk ?_
  refine Zq (Zb (cI ?_))
  obtain ⟨W8,aPm,aIx,hS⟩:=zW hS
  refine VL.deep W8.m aIx (fun _ q=>q) ?_
  refine Zu (jA (s:=s_1.bC) Tryz.underlying38 PU rfl rfl aPm (bR aPm aIx)) (Zu (nF  (s:=s_1.bC) SI rfl rfl aIx) ?_)
  refine dJ fun bDM=>ZX ?_
  refine y7 hS (WK jO (⟨FL⟩:eF) W8.tree).out fun a9L hS=>Zl ?_
  refine VC.aV [0,3,19,20,21,5] (Zq ?_)
  refine iB [(0,true),(1,true),(2,true),(3,true),(4,true),(5,true),(6,false),(7,false)] ?_
  refine ZX ?_
  refine VD.one rfl (mS hS fun bCF hS=>eO (Pk 2 (Pk 1 Pz)) ?_)
  refine VD.one rfl (fM hS rfl fun a9U hS=>eV ?_)
  refine uD ?_
  refine VC.aV [0,3,19,20,21,5] (Zq ?_)
  refine iB [(0,true),(1,true),(2,true),(3,true),(4,true),(5,false)] ?_
  refine ZX ?_
  refine VD.one rfl (fM hS rfl fun a9Y hS=>eV ?_)
  refine ZX ?_
  refine Zq ?_
  refine iB [(0,true),(1,true),(2,true),(3,true),(4,true),(5,false),(6,false)] ?_
  refine ZX ?_
  refine VD.one rfl (mS hS fun bCM hS=>eO (Pk 2 (Pk 1 Pz)) ?_)
  refine VD.one rfl (fM hS rfl fun aHz hS=>eV ?_)
  refine uD ?_
  refine VC.aV [0,3,19,20,21,5] ?_
  refine iB [(0,true),(1,true),(2,true),(3,true),(4,true),(5,false),(6,false)] ?_
  refine ZX ?_
  refine VD.one rfl (mS hS fun bCO hS=>eO (Pk 2 (Pk 1 Pz)) ?_)
  refine VD.one rfl (fM hS rfl fun aTP hS=>eV ?_)
  refine uD ?_
  refine VC.aV [0,3,19,20,21] ?_
  obtain ⟨b57,hS⟩:=bM hS
  refine Zr (ZX ?_)
  refine VL.kL ((aDX+1),aTP.eU) [0,3,19,20,21] (fun _ _ h=>h) (go2 hS hK1) rfl
 replace hS:=kS hS hK1
 refine Zx ?_
 refine ZX ?_
 refine y7 hS (S6 jO (⟨FL⟩:eF) s_1.bE).out fun a9h hS=>Zl ?_
 refine VC.aV [0,3] (ZX ?_)
 refine fM hS rfl fun a9k hS=>Zl ?_
 refine iB [(0,true),(1,true),(2,true),(3,true),(4,true),(5,false),(6,false)] ?_
 refine ZX ?_
 refine VD.one rfl (mS hS fun bCS hS=>eO (Pk 2 (Pk 1 Pz)) ?_)
 refine VD.one rfl (fM hS rfl fun aT6 hS=>eV ?_)
 cases hS
 exact VD.nil (rP (.inl rfl) rfl ⟨aT6.eU⟩ rfl rfl (by (try dsimp only); exact dV.out) (by (try dsimp only); exact fK.out))
instance OA (aA:Sv UInt8) :
 vL Tryz.prog 117 [aA.val] (Sh.kV aA.l) aA.ok (Ow.emp) (X:=Sv UInt8) (fun x=>x.val) (fun x=>x.l) (fun x=>Mo.tt) (fun x=>Sv.own x 5):=by
 refine v8 Tryz.func117 Tryz.ntmps117 fun r hS c => ?_
 unfold Sh.kV at hS
 refine ZX ?_
 refine Zq (ZX ?_)
 refine Zu (LG (s:=aA) Tryz.underlying67 rfl) ?_
 refine Zl ?_
 refine VC.slnil (s:=aA) rfl (fun h4 => ?_) ?_
 ·
  have hS:(some [])=some r:=by
    simp [lt,gd,h4] at hS ⊢
    try exact hS
  refine cI (Za ?_)
  refine Zl ?_
  refine VC.mR (⟨none,0,[]⟩:Sv UInt8) 5 ⟨rfl,rfl⟩ ?_
  cases hS
  exact VC.ret (Z1 ⟨none,0,[]⟩)
 refine ZX ?_
 refine VL.aEA (α:=UInt8) Tryz.underlying67 a7P (by decide) (fun ME wE BF => ?_)
 refine VL.mR ME 5 ⟨BF,wE⟩ ?_
 replace hS:=dZ wE hS
 exact ZE hS
instance aHR (aA:Sv UInt8) :
 jZ Tryz.prog 186 [aA.val] (Sh.oT aA.l) aA.ok (X:=Sv UInt8) (fun x=>x.val) (fun x=>x.l) (fun x=>x.ok):=by
 refine j6 Tryz.func186 Tryz.ntmps186 fun r hS c => ?_
 unfold Sh.oT at hS
 obtain ⟨b8,hS⟩:=bM hS
 refine ZX ?_
 refine VL.UA Tryz.underlying67 aWa rfl rfl rfl b8.1 (b8.2) (by decide) fun PC tC => ?_
 replace hS:=dZ tC hS
 exact ZE hS
instance aNE (CP:Nat) (q9:eF) :
 vL Tryz.prog 100 [ptr CP 0] (Sh.qT q9.pl) Mo.tt (Ow.star (Sv.own q9.eU 5) (bN CP [q9.eU.val] 168)) (X:=Sv UInt8) (fun x=>x.val) (fun x=>x.l) (fun x=>x.ok) (fun x=>Ow.star (bN CP [q9.eU.val] 168) (Sv.own q9.eU 5)):=by
 refine v8 Tryz.func100 Tryz.ntmps100 fun r hS c => ?_
 unfold Sh.qT at hS
 refine ZX ?_
 obtain ⟨kI,GJ,hS⟩:=cS hS
 refine VL.aEU ((OA q9.eU).out GJ) rfl (by decide) ?_
 rintro ES rfl
 try dsimp only
 refine VL.shut ES 5 (fun _ _ _ _=>trivial) ?_
 exact ZE hS
instance aTx (aA:aM) :
 jZ Tryz.prog 58 [.agg (aJ aA).toArray] (Sh.zH aA.pl) aA.m (X:=Sv UInt8) (fun x=>x.val) (fun x=>x.l) (fun x=>x.ok):=by
 refine j6 Tryz.func58 Tryz.ntmps58 fun r hS c => ?_
 unfold Sh.zH at hS
 refine cI ?_
 refine qA (aJ aA) fun hG => ?_
 refine ZX ?_
 refine dJ fun gL=>ZX ?_
 refine VL.mR (⟨none,0,[]⟩:Sv UInt8) 5 ⟨rfl,rfl⟩ ?_
 refine VL.YW gL (cs':=[(⟨none,0,[]⟩:Sv UInt8).val]) rfl ?_
 exact y7 hS (S5 gL (⟨(⟨none,0,[]⟩:Sv UInt8)⟩:eF) aA).out fun gE hS=>ZE hS
instance a09 (b_0:Sv UInt8) :
 vL Tryz.prog 74 [b_0.val] (Sh.EH b_0.l) b_0.ok (Ow.emp) (X:=Nat×bV) (fun x=>ptr x.1 0) (fun x=>x.2.pl) (fun x=>(x.2.b.ok.and x.2.err.ok)) (fun x=>bN x.1 [x.2.b.val,i64 x.2.at_,x.2.err.val] 193):=by
 refine v8 Tryz.func74 Tryz.ntmps74 fun r hS c => ?_
 unfold Sh.EH at hS
 refine ZX ?_
 refine fM hS rfl fun aBb hS => ?_
 refine Zu (cG (vs:=[(0,aBb.val)]) (cs := #[aBb.val,i64 0,.nilIface]) rfl (by kernel_rfl)) ?_
 refine kU fun QY=>Za ?_
 refine Zl ?_
 refine VC.shut aBb 5 (fun _ _ _ _=>trivial) ?_
 refine VC.YW QY (cs':=[aBb.val,i64 0,(Er.nil).val]) rfl ?_
 cases hS
 exact VC.ret (Z1 (QY,⟨aBb,0,(Er.nil)⟩))
instance aNY (vQ:Nat) (jD:bV) :
 vL Tryz.prog 203 [ptr vQ 0] (Sh.x8 jD.pl) (jD.b.ok.and jD.err.ok) (bN vQ [jD.b.val,i64 jD.at_,jD.err.val] 193) (X:=Int×Int×bV) (fun x => .tuple #[.int .u64 x.1,i64 x.2.1]) (fun x=>(x.1,x.2.1,x.2.2.pl)) (fun x=>(x.2.2.b.ok.and x.2.2.err.ok)) (fun x=>bN vQ [x.2.2.b.val,i64 x.2.2.at_,x.2.2.err.val] 193):=by
 refine v8 Tryz.func203 Tryz.ntmps203 fun r hS c => ?_
 unfold Sh.x8 at hS
 refine ZX ?_
 refine Zq (ZX ?_)
 refine Zb ?_
 refine VC.iJ [0] (fun (sg:Int×Int)=>(sg.1,sg.2)) (fun sg ρ=>(4,.int .u64 sg.1)::(7,i64 sg.2)::ρ) (0,0) [4,7,0] hS ?_
 rintro ⟨aED,zM⟩ m1 y1 hS hK1
 refine ZX ?_
 refine Zq (Zc hS (fun h8 hS => ?_) (fun h8 hS => ?_))
 ·
  refine Zk ?_
  refine Zq (Zb (ZX ?_))
  refine Zq (Zq ?_)
  refine iB ((List.range 12).map fun k=>(k,true)) ?_
  obtain ⟨b15,hS⟩:=bM hS
  refine ZX ?_
  refine VC.aV [0,4,7,5,21] (Zc hS (fun h21 hS => ?_) (fun h21 hS => ?_))
  ·
   refine ZX ?_
   replace hS:=kS hS hK1
   cases hS
   exact VC.ret (Z2 (0,3,⟨jD.b,jD.at_,jD.err⟩))
  refine Zk ?_
  refine Zq ?_
  refine iB ((List.range 13).map fun k=>(k,true)) ?_
  obtain ⟨b31,hS⟩:=bM hS
  refine ZX ?_
  refine aDt hS rfl fun KB bBv hS => ?_
  refine ZD ?_
  refine uD ?_
  refine VC.aV [0,4,7,5,6] ?_
  refine VC.cJ [0,4,5,6,7] (fun (_:Unit)=>()) (fun _ ρ=>ρ) hS ?_ ?_
  ·
   intro k4 hS
   refine cI (Zm ?_)
   refine Zu (FA rfl rfl) (Zm ?_)
   refine nT 36 hS (fun h36 hS => ?_) (fun h36 hS => ?_)
   ·
    refine Zg ?_
    refine Zh (zC rfl rfl) ?_
    refine Zt ?_
    refine Zm ?_
    refine nT 40 hS (fun h40 hS => ?_) (fun h40 hS => ?_)
    ·
     refine VL.runs 7 [(47,some true)] (by kernel_rfl) ?_
     refine Zl ?_
     refine VC.keep (ρ':=[(0,ptr vQ 0),(4,.int .u64 aED),(7,i64 zM),(5,i64 zM),(6,.int .u8 (KB.toNat:Int)),(47,.bool true)]) [0,4,7,5,6,47] rfl ?_
     refine VC.EI rfl ?_
     replace hS:=kS hS hK1
     refine Zx ?_
     refine ZX ?_
     cases hS
     exact VC.ret (Z2 (0,2,⟨jD.b,jD.at_,jD.err⟩))
    refine Zg ?_
    refine Zh (zC rfl rfl) ?_
    refine Zg ?_
    refine nT 43 hS (fun h43 hS => ?_) (fun h43 hS => ?_)
    ·
     refine ZX ?_
     refine VC.aV [0,4,7,5,6,47] (Zc hS (fun h47 hS => ?_) (fun h47 hS => ?_))
     ·
      replace hS:=kS hS hK1
      refine Zx ?_
      refine ZX ?_
      cases hS
      exact VC.ret (Z2 (0,2,⟨jD.b,jD.at_,jD.err⟩))
     exact ZE hS
    refine ZX ?_
    refine VC.aV [0,4,7,5,6,47] ?_
    refine VC.wA rfl ?_
    exact ZE hS
   refine VL.runs 4 [(40,some false)] (by kernel_rfl) ?_
   refine Zg ?_
   refine Zh (zC rfl rfl) ?_
   refine Zg ?_
   refine nT 43 hS (fun h43 hS => ?_) (fun h43 hS => ?_)
   ·
    refine ZX ?_
    refine VC.keep (ρ':=[(0,ptr vQ 0),(4,.int .u64 aED),(7,i64 zM),(5,i64 zM),(6,.int .u8 (KB.toNat:Int)),(47,.bool (decide ((KB.toNat:Int)=0)))]) [0,4,7,5,6,47] rfl ?_
    refine Zc hS (fun h47 hS => ?_) (fun h47 hS => ?_)
    ·
     replace hS:=kS hS hK1
     refine Zx ?_
     refine ZX ?_
     cases hS
     exact VC.ret (Z2 (0,2,⟨jD.b,jD.at_,jD.err⟩))
    exact ZE hS
   refine ZX ?_
   refine VC.keep (ρ':=[(0,ptr vQ 0),(4,.int .u64 aED),(7,i64 zM),(5,i64 zM),(6,.int .u8 (KB.toNat:Int)),(47,.bool false)]) [0,4,7,5,6,47] rfl ?_
   refine VC.wA rfl ?_
   exact ZE hS
  rintro _ hS
  refine ZX ?_
  refine Zu (aNv rfl rfl) (Zu (z7 Tryz.underlying5 Tryz.underlying204 rfl) ?_)
  obtain ⟨b53,hS⟩:=bM hS
  obtain ⟨b54,hS⟩:=bM hS
  refine ZX ?_
  refine Zu (aYM rfl rfl b54) (Zu (a6c rfl rfl) (Za ?_))
  refine Zl ?_
  refine VC.aV [0,4,5,6,7] (ZX ?_)
  refine Zc hS (fun h57 hS => ?_) (fun h57 hS => ?_)
  ·
   obtain ⟨b63,hS⟩:=bM hS
   obtain ⟨b64,hS⟩:=bM hS
   refine cI (ZO ?_)
   refine Zl ?_
   refine VC.aV [4] (ZX ?_)
   replace hS:=kS hS hK1
   cases hS
   exact VC.ret (Z2 ((ZY .u64 aED (sHl .u64 (IntKind.wrap .u64 (G2 .u8 (KB.toNat:Int) 127)) (7*zM))),0,⟨jD.b,(jD.at_+(zM+1)),jD.err⟩))
  obtain ⟨b68,hS⟩:=bM hS
  refine Zk ?_
  refine Zr (ZX ?_)
  refine VL.kL ((ZY .u64 aED (sHl .u64 (IntKind.wrap .u64 (G2 .u8 (KB.toNat:Int) 127)) (7*zM))),(zM+1)) [4,7,0] (fun _ _ h=>h) (go2 hS hK1) rfl
 replace hS:=kS hS hK1
 refine Zx ?_
 refine ZX ?_
 cases hS
 exact VC.ret (Z2 (0,2,⟨jD.b,jD.at_,jD.err⟩))
instance aNX (vQ:Nat) (jD:bV) (aFD:Int) (e_2:Int) :
 vL Tryz.prog 202 [ptr vQ 0,i64 aFD,i64 e_2] (Sh.x7 jD.pl aFD e_2) (jD.b.ok.and jD.err.ok) (bN vQ [jD.b.val,i64 jD.at_,jD.err.val] 193) (X:=bV) (fun x => .tuple #[]) (fun x=>x.pl) (fun x=>(x.b.ok.and x.err.ok)) (fun x=>bN vQ [x.b.val,i64 x.at_,x.err.val] 193):=by
 refine v8 Tryz.func202 Tryz.ntmps202 fun r hS c => ?_
 unfold Sh.x7 at hS
 refine Zr (ZX ?_)
 refine Zu (cG (vs:=[(0,str [98,121,116,101]),(1,i64 aFD),(2,(Er.no e_2).val)]) (cs := #[str [98,121,116,101],i64 aFD,(Er.no e_2).val]) rfl (by kernel_rfl)) ?_
 refine kU fun aUa => ?_
 refine VL.FB aUa ?_
 refine ZO ?_
 cases hS
 exact VL.nil (rP (.inl rfl) rfl ⟨jD.b,jD.at_,(Er.fault aUa [98,121,116,101] aFD (Er.no e_2))⟩ rfl rfl (by (try dsimp only); exact dV.out) (by (try dsimp only); exact fK.out))
instance aPF (vQ:Nat) (jD:bV) :
 vL Tryz.prog 123 [ptr vQ 0] (Sh.eW jD.pl) (jD.b.ok.and jD.err.ok) (bN vQ [jD.b.val,i64 jD.at_,jD.err.val] 193) (X:=Int×bV) (fun x=>i64 x.1) (fun x=>(x.1,x.2.pl)) (fun x=>(x.2.b.ok.and x.2.err.ok)) (fun x=>bN vQ [x.2.b.val,i64 x.2.at_,x.2.err.val] 193):=by
 refine v8 Tryz.func123 Tryz.ntmps123 fun r hS c => ?_
 unfold Sh.eW at hS
 refine ZX ?_
 refine Zq (ZX ?_)
 refine oD hS (fun h10 hS => ?_) (fun h10 hS => ?_)
 ·
  refine ZX ?_
  cases hS
  exact VC.ret (Z1 (0,⟨jD.b,jD.at_,jD.err⟩))
 refine Zk ?_
 refine cI (ZO ?_)
 refine Zl ?_
 refine VC.aV [0,3] (ZX ?_)
 refine fM hS rfl fun ⟨IF,aMW,aGP⟩ hS => ?_
 try dsimp only
 refine ZX ?_
 refine Zq (ZX ?_)
 refine oD hS (fun h21 hS => ?_) (fun h21 hS => ?_)
 ·
  refine ZX ?_
  refine fM hS rfl fun aGT hS=>Zl ?_
  refine VC.aV [] (ZX ?_)
  cases hS
  exact VC.ret (Z1 (0,⟨aGT.b,aGT.at_,aGT.err⟩))
 refine Zk ?_
 refine VC.aV [4] (ZX ?_)
 refine Zu (aG5 rfl rfl (by decide)) ?_
 refine Zu (z7 Tryz.underlying204 Tryz.underlying2 rfl) (Zm (Zu (aNv rfl rfl) (Zu (z7 Tryz.underlying204 Tryz.underlying2 rfl) (Zu (a7v rfl) (Zu (aYN rfl rfl) ?_)))))
 refine ZX ?_
 cases hS
 exact VC.ret (Z1 ((OP .i64 (IntKind.wrap .i64 (GS .u64 IF 1)) (IntKind.wrap .i64 (0 - (IntKind.wrap .i64 (G2 .u64 IF 1))))),⟨aGP.b,aGP.at_,aGP.err⟩))
instance aPE (vQ:Nat) (jD:bV) :
 vL Tryz.prog 129 [ptr vQ 0] (Sh.jT jD.pl) (jD.b.ok.and jD.err.ok) (bN vQ [jD.b.val,i64 jD.at_,jD.err.val] 193) (X:=Er) (fun x=>x.val) (fun x=>x.pl) (fun x=>x.ok) (fun x=>bN vQ [jD.b.val,i64 jD.at_,jD.err.val] 193):=by
 refine v8 Tryz.func129 Tryz.ntmps129 fun r hS c => ?_
 unfold Sh.jT at hS
 exact ZE hS
instance aNW (vQ:Nat) (jD:bV) :
 vL Tryz.prog 122 [ptr vQ 0] (Sh.iE jD.pl) (jD.b.ok.and jD.err.ok) (bN vQ [jD.b.val,i64 jD.at_,jD.err.val] 193) (X:=bH×bV) (fun x=>str x.1) (fun x=>(x.1,x.2.pl)) (fun x=>(x.2.b.ok.and x.2.err.ok)) (fun x=>bN vQ [x.2.b.val,i64 x.2.at_,x.2.err.val] 193):=by
 refine v8 Tryz.func122 Tryz.ntmps122 fun r hS c => ?_
 unfold Sh.iE at hS
 refine ZX ?_
 refine fM hS rfl fun ⟨aGM,NV⟩ hS => ?_
 try dsimp only
 refine ZX ?_
 refine Zq (Zb (ZX ?_))
 refine VC.aV [0,3,4,12] (oD hS (fun h12 hS => ?_) (fun h12 hS => ?_))
 ·
  refine ZX ?_
  cases hS
  exact VC.ret (Z1 ([],⟨NV.b,NV.at_,NV.err⟩))
 refine ZX ?_
 refine Zc hS (fun h18 hS => ?_) (fun h18 hS => ?_)
 ·
  refine ZX ?_
  refine fM hS rfl fun VY hS=>ZX ?_
  cases hS
  exact VC.ret (Z1 ([],⟨VY.b,VY.at_,VY.err⟩))
 refine Zq ?_
 refine iB ((List.range 13).map fun k=>(k,true)) ?_
 obtain ⟨b35,hS⟩:=bM hS
 refine ZX ?_
 refine VC.aV [0,3,4,24] (Zc hS (fun h24 hS => ?_) (fun h24 hS => ?_))
 ·
  refine ZX ?_
  refine fM hS rfl fun aGX hS=>ZX ?_
  cases hS
  exact VC.ret (Z1 ([],⟨aGX.b,aGX.at_,aGX.err⟩))
 refine Zk ?_
 refine Zq ?_
 refine iB ((List.range 17).map fun k=>(k,true)) ?_
 obtain ⟨b53,hS⟩:=bM hS
 obtain ⟨b54,hS⟩:=bM hS
 refine ZX ?_
 refine VD.a8Z rfl Tryz.underlying67 aWa rfl rfl rfl b54.1 b54.2.1 (b54.2.2) (by decide) fun aY8 a2L Qs54_4 => ?_
 replace hS:=dZ a2L hS
 refine Zw rfl (aYF (s:=aY8) Tryz.underlying67 Tryz.underlying5 Tryz.underlying9 rfl) ?_
 refine ZD ?_
 refine uD ?_
 refine VC.aV [0,4,5] ?_
 obtain ⟨b61,hS⟩:=bM hS
 refine cI (ZO ?_)
 refine Zl ?_
 refine VC.aV [5] (ZX ?_)
 cases hS
 exact VC.ret (Z1 (aY8.l,⟨NV.b,(NV.at_+aGM),NV.err⟩))
theorem S3 (qH:Nat) (bP:Sv aC) (iC:Nat) (jM:Nat) (a_1_:aW) (eG:Nat) (cQ:bV) {r:List aC×bB} (hS:Sh.sY bP.l a_1_ cQ.pl=some r) :
 Ct Tryz.prog 199 [ptr qH 0,ptr iC 0] (cQ.b.ok.and cQ.err.ok) (Ow.star (Sv.own bP 78) (Ow.star (bN qH [bP.val] 26) (Ow.star (bN eG [cQ.b.val,i64 cQ.at_,cQ.err.val] 193) (Ow.star (bN jM [ptr eG 0,.bool a_1_.bad] 148) (bN iC [ptr jM 0] 144))))) (X:=Sv aC×bV) (fun x => .tuple #[]) (fun x=>r=(x.1.l,x.2.pl)) (fun x=>(x.2.b.ok.and x.2.err.ok)) (fun x=>Ow.star (bN qH [x.1.val] 26) (Ow.star (Sv.own x.1 78) (Ow.star (bN eG [x.2.b.val,i64 x.2.at_,x.2.err.val] 193) (Ow.star (bN jM [ptr eG 0,.bool a_1_.bad] 148) (bN iC [ptr jM 0] 144))))):=by
 refine Zo Tryz.func199 Tryz.ntmps199 fun c => ?_
 unfold Sh.sY at hS
 refine iB [(0,true),(1,true),(2,true),(3,true),(4,true),(6,true),(7,true),(8,true),(9,true),(11,true),(12,true),(13,true),(14,true),(5,false),(10,false),(15,false),(16,true),(17,false),(18,false),(19,false)] ?_
 refine ZX ?_
 refine VD.one rfl (fM hS rfl fun ⟨ES,KI⟩ hS => ?_)
 try dsimp only
 refine eO (Pk 14 (Pk 13 (Pk 12 (Pk 11 (Pk 9 (Pk 8 (Pk 7 (Pk 6 (Pk 0 Pz))))))))) ?_
 refine VD.one rfl (fM hS rfl fun ⟨LA,aMT⟩ hS => ?_)
 try dsimp only
 refine eO (Pk 14 (Pk 13 (Pk 12 (Pk 11 (Pk 0 Pz))))) ?_
 refine VD.one rfl (fM hS rfl fun ⟨tK,B6⟩ hS => ?_)
 try dsimp only
 refine eO (Pk 0 Pz) ?_
 refine Zw rfl (cG (vs:=[(0,str ES),(1,i64 LA),(2,str tK)]) (cs := #[str ES,i64 LA,str tK]) rfl (by kernel_rfl)) ?_
 refine VD.one rfl (mS hS fun aY2 hS=>eO (Pk 0 Pz) ?_)
 refine VD.one rfl (HM hS fun aOF hS => ?_)
 refine eV ?_
 refine VD.one rfl (ZX ?_)
 refine eV ?_
 cases hS
 exact VD.nil (rP (.inl rfl) rfl (aOF,⟨B6.b,B6.at_,B6.err⟩) rfl rfl (by (try dsimp only); exact dV.out) (by (try dsimp only); exact fK.out))
theorem UK (cD:Nat) (dX:aW) (bF:Nat) (bJ:bV) (cO:Nat) (bG:Sv aC) (cP:Nat) {r:bB×aW×List aC} (hS:Sh.tX dX bJ.pl bG.l=some r) :
 Ct Tryz.prog 120 [ptr cD 0,.func (.func 199) #[] #[ptr cO 0,ptr cP 0]] (bJ.b.ok.and bJ.err.ok) (Ow.star (bN bF [bJ.b.val,i64 bJ.at_,bJ.err.val] 193) (Ow.star (bN cD [ptr bF 0,.bool dX.bad] 148) (Ow.star (Sv.own bG 78) (Ow.star (bN cO [bG.val] 26) (bN cP [ptr cD 0] 144))))) (X:=bV×aW×Sv aC) (fun x => .tuple #[]) (fun x=>r=(x.1.pl,x.2.1,x.2.2.l)) (fun x=>(x.1.b.ok.and x.1.err.ok)) (fun x=>Ow.star (bN bF [x.1.b.val,i64 x.1.at_,x.1.err.val] 193) (Ow.star (bN cD [ptr bF 0,.bool x.2.1.bad] 148) (Ow.star (bN cO [x.2.2.val] 26) (Ow.star (Sv.own x.2.2 78) (bN cP [ptr cD 0] 144))))):=by
 refine Zo Tryz.func120 Tryz.ntmps120 fun c => ?_
 unfold Sh.tX at hS
 refine ZX ?_
 refine fM hS rfl fun ⟨qV,kR⟩ hS => ?_
 try dsimp only
 refine Za ?_
 refine Zl ?_
 refine VC.OM [0,1,4] (fun (fI:Bool)=>fI) (fun fI ρ=>ρ) (fun (fI:Bool)=>Mo.tt) cD (fun (fI:Bool)=>[ptr bF 0,.bool fI]) hS (fun _ hS=>ZE hS) ?_
 rintro fI hS
 refine ZX ?_
 refine Zb ?_
 refine VC.iter (S:=Int×bV×Sv aC) (fun sg=>(sg.1,sg.2.1.pl,sg.2.2.l)) (fun sg=>[(0,ptr cD 0),(1,.func (.func 199) #[] #[ptr cO 0,ptr cP 0]),(4,i64 qV),(5,i64 sg.1)]) (fun sg=>sg.2.1.m) (fun sg=>Ow.star (bN bF [sg.2.1.b.val,i64 sg.2.1.at_,sg.2.1.err.val] 193) (Ow.star (bN cD [ptr bF 0,.bool fI] 148) (Ow.star (bN cO [sg.2.2.val] 26) (Ow.star (bN cP [ptr cD 0] 144) (Ow.star (Sv.own sg.2.2 78) (Ow.emp)))))) (0,(⟨kR.b,kR.at_,kR.err⟩:bV),bG) [0,1,4,5] hS rfl ?_
 rintro ⟨oI,fS,kZ⟩ m1 y1 hS hK1
 refine Zq (cI (Zm ?_))
 refine Zm (Zu (rW rfl rfl) (Zm ?_))
 refine nT 25 hS (fun h25 hS => ?_) (fun h25 hS => ?_)
 ·
  refine ZX ?_
  refine VL.guard rfl rfl ?_
  refine fM hS rfl fun aB9 hS=>ZX ?_
  refine VC.aV [0,1,4,5,32] (Zc hS (fun h32 hS => ?_) (fun h32 hS => ?_))
  ·
   refine Zk ?_
   refine Zq (Zb (Zr (Zm ?_)))
   obtain ⟨p8,MH,hS⟩:=cS hS
   refine VL.yJ (vs:=[]) (caps:=[ptr cO 0,ptr cP 0]) (S3 cO kZ cP cD (⟨fI⟩:aW) bF fS MH) rfl rfl (by decide) ?_
   rintro ⟨DS,p5⟩ rfl
   try dsimp only
   obtain ⟨b34,hS⟩:=bM hS
   refine Zl ?_
   refine Zr (ZX ?_)
   refine VL.kL ((oI+1),(⟨p5.b,p5.at_,p5.err⟩:bV),DS) [0,1,4,5] (fun _ _ h=>h) (go2 hS hK1) rfl
  replace hS:=kS hS hK1
  cases hS
  exact VC.exit (rP (.inl rfl) rfl (⟨fS.b,fS.at_,fS.err⟩,⟨fI⟩,kZ) rfl rfl (by (try dsimp only); exact dV.out) (by (try dsimp only); exact fK.out))
 refine VL.runs 7 [(32,some false)] (by kernel_rfl) ?_
 refine Zl ?_
 refine VC.wA rfl ?_
 replace hS:=kS hS hK1
 cases hS
 exact VC.exit (rP (.inl rfl) rfl (⟨fS.b,fS.at_,fS.err⟩,⟨fI⟩,kZ) rfl rfl (by (try dsimp only); exact dV.out) (by (try dsimp only); exact fK.out))
theorem q7 (cD:Nat) (dX:aW) (bF:Nat) (bJ:bV) {r:List aC×bB×aW} (hS:Sh.mD dX bJ.pl=some r) :
 Ct Tryz.prog 118 [ptr cD 0] (bJ.b.ok.and bJ.err.ok) (Ow.star (bN bF [bJ.b.val,i64 bJ.at_,bJ.err.val] 193) (bN cD [ptr bF 0,.bool dX.bad] 148)) (X:=Sv aC×bV×aW) (fun x=>x.1.val) (fun x=>r=(x.1.l,x.2.1.pl,x.2.2)) (fun x=>(x.1.ok.and (x.2.1.b.ok.and x.2.1.err.ok))) (fun x=>Ow.star (bN bF [x.2.1.b.val,i64 x.2.1.at_,x.2.1.err.val] 193) (bN cD [ptr bF 0,.bool x.2.2.bad] 148)):=by
 refine Zo Tryz.func118 Tryz.ntmps118 fun c => ?_
 unfold Sh.mD at hS
 refine cI (kU fun hG=>ZX ?_)
 refine dJ fun gL=>ZX ?_
 refine VL.mR (⟨none,0,[]⟩:Sv aC) 78 ⟨rfl,rfl⟩ ?_
 refine VL.YW gL (cs':=[(⟨none,0,[]⟩:Sv aC).val]) rfl ?_
 refine y7 hS (UK cD dX bF bJ gL (⟨none,0,[]⟩:Sv aC) hG) fun ⟨wG,ML,O6⟩ hS => ?_
 try dsimp only
 refine ZX ?_
 refine VL.shut O6 78 (fun _ _ _ _=>trivial) ?_
 refine fR hS rfl fun KJ hS=>ZX ?_
 cases hS
 exact VC.ret (Z1 (KJ,⟨wG.b,wG.at_,wG.err⟩,⟨ML.bad⟩))
theorem OB (qH:Nat) (bP:Sv aH) (iC:Nat) (jM:Nat) (a_1_:aW) (eG:Nat) (cQ:bV) {r:List aH×bB} (hS:Sh.nW bP.l a_1_ cQ.pl=some r) :
 Ct Tryz.prog 200 [ptr qH 0,ptr iC 0] (cQ.b.ok.and cQ.err.ok) (Ow.star (Sv.own bP 80) (Ow.star (bN qH [bP.val] 27) (Ow.star (bN eG [cQ.b.val,i64 cQ.at_,cQ.err.val] 193) (Ow.star (bN jM [ptr eG 0,.bool a_1_.bad] 148) (bN iC [ptr jM 0] 144))))) (X:=Sv aH×bV) (fun x => .tuple #[]) (fun x=>r=(x.1.l,x.2.pl)) (fun x=>(x.2.b.ok.and x.2.err.ok)) (fun x=>Ow.star (bN qH [x.1.val] 27) (Ow.star (Sv.own x.1 80) (Ow.star (bN eG [x.2.b.val,i64 x.2.at_,x.2.err.val] 193) (Ow.star (bN jM [ptr eG 0,.bool a_1_.bad] 148) (bN iC [ptr jM 0] 144))))):=by
 refine Zo Tryz.func200 Tryz.ntmps200 fun c => ?_
 unfold Sh.nW at hS
 refine iB [(0,true),(1,true),(2,true),(3,true),(4,true),(6,true),(7,true),(8,true),(9,true),(11,true),(12,true),(13,true),(14,true),(16,true),(17,true),(18,true),(19,true),(21,true),(22,true),(23,true),(24,true),(26,true),(27,true),(28,true),(29,true),(5,false),(10,false),(15,false),(20,false),(25,false),(30,false),(31,true),(32,false),(33,false),(34,false)] ?_
 refine ZX ?_
 refine VD.one rfl (fM hS rfl fun ⟨ES,KI⟩ hS => ?_)
 try dsimp only
 refine eO (Pk 29 (Pk 28 (Pk 27 (Pk 26 (Pk 24 (Pk 23 (Pk 22 (Pk 21 (Pk 19 (Pk 18 (Pk 17 (Pk 16 (Pk 14 (Pk 13 (Pk 12 (Pk 11 (Pk 9 (Pk 8 (Pk 7 (Pk 6 (Pk 0 Pz))))))))))))))))))))) ?_
 refine VD.one rfl (fM hS rfl fun ⟨LA,aMT⟩ hS => ?_)
 try dsimp only
 refine eO (Pk 29 (Pk 28 (Pk 27 (Pk 26 (Pk 24 (Pk 23 (Pk 22 (Pk 21 (Pk 19 (Pk 18 (Pk 17 (Pk 16 (Pk 14 (Pk 13 (Pk 12 (Pk 11 (Pk 0 Pz))))))))))))))))) ?_
 refine VD.one rfl (fM hS rfl fun ⟨tK,B6⟩ hS => ?_)
 try dsimp only
 refine eO (Pk 29 (Pk 28 (Pk 27 (Pk 26 (Pk 24 (Pk 23 (Pk 22 (Pk 21 (Pk 19 (Pk 18 (Pk 17 (Pk 16 (Pk 0 Pz))))))))))))) ?_
 refine VD.one rfl (fM hS rfl fun ⟨aM3,bAq⟩ hS => ?_)
 try dsimp only
 refine eO (Pk 29 (Pk 28 (Pk 27 (Pk 26 (Pk 24 (Pk 23 (Pk 22 (Pk 21 (Pk 0 Pz))))))))) ?_
 refine VD.one rfl (fM hS rfl fun ⟨aGV,bBA⟩ hS => ?_)
 try dsimp only
 refine eO (Pk 29 (Pk 28 (Pk 27 (Pk 26 (Pk 0 Pz))))) ?_
 refine VD.one rfl (fM hS rfl fun ⟨V2,aGW⟩ hS => ?_)
 try dsimp only
 refine eO (Pk 0 Pz) ?_
 refine Zw rfl (cG (vs:=[(0,str ES),(1,i64 LA),(2,i64 tK),(3,str aM3),(4,i64 aGV),(5,i64 V2)]) (cs := #[str ES,i64 LA,i64 tK,str aM3,i64 aGV,i64 V2]) rfl (by kernel_rfl)) ?_
 refine VD.one rfl (mS hS fun bDG hS=>eO (Pk 0 Pz) ?_)
 refine VD.one rfl (HM hS fun a8W hS => ?_)
 refine eV ?_
 refine VD.one rfl (ZX ?_)
 refine eV ?_
 cases hS
 exact VD.nil (rP (.inl rfl) rfl (a8W,⟨aGW.b,aGW.at_,aGW.err⟩) rfl rfl (by (try dsimp only); exact dV.out) (by (try dsimp only); exact fK.out))
theorem P4 (cD:Nat) (dX:aW) (bF:Nat) (bJ:bV) (cO:Nat) (bG:Sv aH) (cP:Nat) {r:bB×aW×List aH} (hS:Sh.pQ dX bJ.pl bG.l=some r) :
 Ct Tryz.prog 120 [ptr cD 0,.func (.func 200) #[] #[ptr cO 0,ptr cP 0]] (bJ.b.ok.and bJ.err.ok) (Ow.star (bN bF [bJ.b.val,i64 bJ.at_,bJ.err.val] 193) (Ow.star (bN cD [ptr bF 0,.bool dX.bad] 148) (Ow.star (Sv.own bG 80) (Ow.star (bN cO [bG.val] 27) (bN cP [ptr cD 0] 144))))) (X:=bV×aW×Sv aH) (fun x => .tuple #[]) (fun x=>r=(x.1.pl,x.2.1,x.2.2.l)) (fun x=>(x.1.b.ok.and x.1.err.ok)) (fun x=>Ow.star (bN bF [x.1.b.val,i64 x.1.at_,x.1.err.val] 193) (Ow.star (bN cD [ptr bF 0,.bool x.2.1.bad] 148) (Ow.star (bN cO [x.2.2.val] 27) (Ow.star (Sv.own x.2.2 80) (bN cP [ptr cD 0] 144))))):=by
 refine Zo Tryz.func120 Tryz.ntmps120 fun c => ?_
 unfold Sh.pQ at hS
 refine ZX ?_
 refine fM hS rfl fun ⟨qV,kR⟩ hS => ?_
 try dsimp only
 refine Za ?_
 refine Zl ?_
 refine VC.OM [0,1,4] (fun (fI:Bool)=>fI) (fun fI ρ=>ρ) (fun (fI:Bool)=>Mo.tt) cD (fun (fI:Bool)=>[ptr bF 0,.bool fI]) hS (fun _ hS=>ZE hS) ?_
 rintro fI hS
 refine ZX ?_
 refine Zb ?_
 refine VC.iter (S:=Int×bV×Sv aH) (fun sg=>(sg.1,sg.2.1.pl,sg.2.2.l)) (fun sg=>[(0,ptr cD 0),(1,.func (.func 200) #[] #[ptr cO 0,ptr cP 0]),(4,i64 qV),(5,i64 sg.1)]) (fun sg=>sg.2.1.m) (fun sg=>Ow.star (bN bF [sg.2.1.b.val,i64 sg.2.1.at_,sg.2.1.err.val] 193) (Ow.star (bN cD [ptr bF 0,.bool fI] 148) (Ow.star (bN cO [sg.2.2.val] 27) (Ow.star (bN cP [ptr cD 0] 144) (Ow.star (Sv.own sg.2.2 80) (Ow.emp)))))) (0,(⟨kR.b,kR.at_,kR.err⟩:bV),bG) [0,1,4,5] hS rfl ?_
 rintro ⟨oI,fS,kZ⟩ m1 y1 hS hK1
 refine Zq (cI (Zm ?_))
 refine Zm (Zu (rW rfl rfl) (Zm ?_))
 refine nT 25 hS (fun h25 hS => ?_) (fun h25 hS => ?_)
 ·
  refine ZX ?_
  refine VL.guard rfl rfl ?_
  refine fM hS rfl fun aB9 hS=>ZX ?_
  refine VC.aV [0,1,4,5,32] (Zc hS (fun h32 hS => ?_) (fun h32 hS => ?_))
  ·
   refine Zk ?_
   refine Zq (Zb (Zr (Zm ?_)))
   obtain ⟨p8,MH,hS⟩:=cS hS
   refine VL.yJ (vs:=[]) (caps:=[ptr cO 0,ptr cP 0]) (OB cO kZ cP cD (⟨fI⟩:aW) bF fS MH) rfl rfl (by decide) ?_
   rintro ⟨DS,p5⟩ rfl
   try dsimp only
   obtain ⟨b34,hS⟩:=bM hS
   refine Zl ?_
   refine Zr (ZX ?_)
   refine VL.kL ((oI+1),(⟨p5.b,p5.at_,p5.err⟩:bV),DS) [0,1,4,5] (fun _ _ h=>h) (go2 hS hK1) rfl
  replace hS:=kS hS hK1
  cases hS
  exact VC.exit (rP (.inl rfl) rfl (⟨fS.b,fS.at_,fS.err⟩,⟨fI⟩,kZ) rfl rfl (by (try dsimp only); exact dV.out) (by (try dsimp only); exact fK.out))
 refine VL.runs 7 [(32,some false)] (by kernel_rfl) ?_
 refine Zl ?_
 refine VC.wA rfl ?_
 replace hS:=kS hS hK1
 cases hS
 exact VC.exit (rP (.inl rfl) rfl (⟨fS.b,fS.at_,fS.err⟩,⟨fI⟩,kZ) rfl rfl (by (try dsimp only); exact dV.out) (by (try dsimp only); exact fK.out))
instance UN (aA:Sv aH) :
 jZ Tryz.prog 201 [aA.val] (Sh.cK aA.l) aA.ok (X:=Sv aH) (fun x=>x.val) (fun x=>x.l) (fun x=>x.ok):=by
 refine j6 Tryz.func201 Tryz.ntmps201 fun r hS c => ?_
 unfold Sh.cK at hS
 obtain ⟨b8,hS⟩:=bM hS
 refine ZX ?_
 refine VL.UA Tryz.underlying27 oH rfl rfl rfl b8.1 (b8.2) (by decide) fun PC tC => ?_
 replace hS:=dZ tC hS
 exact ZE hS
theorem uK (cD:Nat) (dX:aW) (bF:Nat) (bJ:bV) {r:List aH×bB×aW} (hS:Sh.nH dX bJ.pl=some r) :
 Ct Tryz.prog 119 [ptr cD 0] (bJ.b.ok.and bJ.err.ok) (Ow.star (bN bF [bJ.b.val,i64 bJ.at_,bJ.err.val] 193) (bN cD [ptr bF 0,.bool dX.bad] 148)) (X:=Sv aH×bV×aW) (fun x=>x.1.val) (fun x=>r=(x.1.l,x.2.1.pl,x.2.2)) (fun x=>(x.1.ok.and (x.2.1.b.ok.and x.2.1.err.ok))) (fun x=>Ow.star (bN bF [x.2.1.b.val,i64 x.2.1.at_,x.2.1.err.val] 193) (bN cD [ptr bF 0,.bool x.2.2.bad] 148)):=by
 refine Zo Tryz.func119 Tryz.ntmps119 fun c => ?_
 unfold Sh.nH at hS
 refine cI (kU fun hG=>ZX ?_)
 refine dJ fun gL=>ZX ?_
 refine VL.mR (⟨none,0,[]⟩:Sv aH) 80 ⟨rfl,rfl⟩ ?_
 refine VL.YW gL (cs':=[(⟨none,0,[]⟩:Sv aH).val]) rfl ?_
 refine y7 hS (P4 cD dX bF bJ gL (⟨none,0,[]⟩:Sv aH) hG) fun ⟨wG,ML,O6⟩ hS => ?_
 try dsimp only
 refine ZX ?_
 refine VL.shut O6 80 (fun _ _ _ _=>trivial) ?_
 refine fR hS rfl fun KJ hS=>ZX ?_
 cases hS
 exact VC.ret (Z1 (KJ,⟨wG.b,wG.at_,wG.err⟩,⟨ML.bad⟩))
theorem S0 (qH:Nat) (bP:iY) (iC:Nat) (jM:Nat) (a_1_:aW) (eG:Nat) (cQ:bV) {r:eH×bB} (hS:Sh.sW bP.pl a_1_ cQ.pl=some r) :
 Ct Tryz.prog 121 [ptr qH 0,ptr iC 0] (bP.work.ok.and (bP.index.ok.and (bP.cZ.ok.and (bP.eA.ok.and (bP.dB.ok.and (bP.eC.ok.and ((rK bP.gB.l).and (cQ.b.ok.and cQ.err.ok)))))))) (Ow.star (Sv.own bP.refs 76) (Ow.star (Sv.own bP.gB 142) (Ow.star (bN qH (mQ bP) 37) (Ow.star (bN eG [cQ.b.val,i64 cQ.at_,cQ.err.val] 193) (Ow.star (bN jM [ptr eG 0,.bool a_1_.bad] 148) (bN iC [ptr jM 0] 144)))))) (X:=iY×bV) (fun x => .tuple #[]) (fun x=>r=(x.1.pl,x.2.pl)) (fun x=>(x.1.work.ok.and (x.1.index.ok.and (x.1.cZ.ok.and (x.1.eA.ok.and (x.1.dB.ok.and (x.1.eC.ok.and ((rK x.1.gB.l).and (x.2.b.ok.and x.2.err.ok))))))))) (fun x=>Ow.star (bN qH (mQ x.1) 37) (Ow.star (Sv.own x.1.refs 76) (Ow.star (Sv.own x.1.gB 142) (Ow.star (bN eG [x.2.b.val,i64 x.2.at_,x.2.err.val] 193) (Ow.star (bN jM [ptr eG 0,.bool a_1_.bad] 148) (bN iC [ptr jM 0] 144)))))):=by
 refine Zo Tryz.func121 Tryz.ntmps121 fun c => ?_
 unfold Sh.sW at hS
 refine iB [(0,true),(1,true),(2,true),(3,true),(4,true),(5,true),(7,true),(8,true),(9,true),(10,true),(6,false),(11,false),(12,true),(13,false),(14,false),(15,true),(16,false)] ?_
 refine ZX ?_
 refine VD.one rfl (fM hS rfl fun ⟨O9,aPx⟩ hS => ?_)
 try dsimp only
 refine eO (Pk 10 (Pk 9 (Pk 8 (Pk 7 (Pk 1 (Pk 0 Pz)))))) ?_
 refine VD.one rfl (fM hS rfl fun ⟨aMU,aGN⟩ hS => ?_)
 try dsimp only
 refine eO (Pk 1 (Pk 0 Pz)) ?_
 refine Zw rfl (cG (vs:=[(0,str O9),(1,i64 aMU)]) (cs := #[str O9,i64 aMU]) rfl (by kernel_rfl)) ?_
 refine VD.one rfl (mS hS fun a8B hS=>eO (Pk 1 (Pk 0 Pz)) ?_)
 refine VD.one rfl (HM hS fun aOD hS => ?_)
 refine eV ?_
 refine ZX ?_
 refine VD.one rfl (ZX ?_)
 refine eV ?_
 cases hS
 exact VD.nil (rP (.inl rfl) rfl (⟨bP.work,bP.index,aOD,bP.cB,bP.cA,bP.fE,bP.eM,bP.fF,bP.cZ,bP.eA,bP.eX,bP.dM,bP.bW,bP.bX,bP.dB,bP.eC,bP.gB⟩,⟨aGN.b,aGN.at_,aGN.err⟩) rfl rfl (by (try dsimp only); exact dV.out) (by (try dsimp only); exact fK.out))
theorem P5 (cD:Nat) (dX:aW) (bF:Nat) (bJ:bV) (cO:Nat) (bG:iY) (cP:Nat) {r:bB×aW×eH} (hS:Sh.pR dX bJ.pl bG.pl=some r) :
 Ct Tryz.prog 120 [ptr cD 0,.func (.func 121) #[] #[ptr cO 0,ptr cP 0]] (bJ.b.ok.and (bJ.err.ok.and (bG.work.ok.and (bG.index.ok.and (bG.cZ.ok.and (bG.eA.ok.and (bG.dB.ok.and (bG.eC.ok.and (rK bG.gB.l))))))))) (Ow.star (bN bF [bJ.b.val,i64 bJ.at_,bJ.err.val] 193) (Ow.star (bN cD [ptr bF 0,.bool dX.bad] 148) (Ow.star (Sv.own bG.refs 76) (Ow.star (Sv.own bG.gB 142) (Ow.star (bN cO (mQ bG) 37) (bN cP [ptr cD 0] 144)))))) (X:=bV×aW×iY) (fun x => .tuple #[]) (fun x=>r=(x.1.pl,x.2.1,x.2.2.pl)) (fun x=>(x.1.b.ok.and (x.1.err.ok.and (x.2.2.work.ok.and (x.2.2.index.ok.and (x.2.2.cZ.ok.and (x.2.2.eA.ok.and (x.2.2.dB.ok.and (x.2.2.eC.ok.and (rK x.2.2.gB.l)))))))))) (fun x=>Ow.star (bN bF [x.1.b.val,i64 x.1.at_,x.1.err.val] 193) (Ow.star (bN cD [ptr bF 0,.bool x.2.1.bad] 148) (Ow.star (bN cO (mQ x.2.2) 37) (Ow.star (Sv.own x.2.2.refs 76) (Ow.star (Sv.own x.2.2.gB 142) (bN cP [ptr cD 0] 144)))))):=by
 refine Zo Tryz.func120 Tryz.ntmps120 fun c => ?_
 unfold Sh.pR at hS
 refine ZX ?_
 refine fM hS rfl fun ⟨qV,kR⟩ hS => ?_
 try dsimp only
 refine Za ?_
 refine Zl ?_
 refine VC.OM [0,1,4] (fun (fI:Bool)=>fI) (fun fI ρ=>ρ) (fun (fI:Bool)=>Mo.tt) cD (fun (fI:Bool)=>[ptr bF 0,.bool fI]) hS (fun _ hS=>ZE hS) ?_
 rintro fI hS
 refine ZX ?_
 refine Zb ?_
 refine VC.iter (S:=Int×bV×Sv aC×Sv aH×Sv cY×bH×Int×bH×Int×bH×Sv bK×Sv bK×Int×bH×bH×Int×Sv aH×Sv aC×Sv bL) (fun sg=>(sg.1,sg.2.1.pl,sg.2.2.1.l,sg.2.2.2.1.l,sg.2.2.2.2.1.l,sg.2.2.2.2.2.1,sg.2.2.2.2.2.2.1,sg.2.2.2.2.2.2.2.1,sg.2.2.2.2.2.2.2.2.1,sg.2.2.2.2.2.2.2.2.2.1,sg.2.2.2.2.2.2.2.2.2.2.1.l,sg.2.2.2.2.2.2.2.2.2.2.2.1.l,sg.2.2.2.2.2.2.2.2.2.2.2.2.1,sg.2.2.2.2.2.2.2.2.2.2.2.2.2.1,sg.2.2.2.2.2.2.2.2.2.2.2.2.2.2.1,sg.2.2.2.2.2.2.2.2.2.2.2.2.2.2.2.1,sg.2.2.2.2.2.2.2.2.2.2.2.2.2.2.2.2.1.l,sg.2.2.2.2.2.2.2.2.2.2.2.2.2.2.2.2.2.1.l,(sg.2.2.2.2.2.2.2.2.2.2.2.2.2.2.2.2.2.2.l.map bL.pl))) (fun sg=>[(0,ptr cD 0),(1,.func (.func 121) #[] #[ptr cO 0,ptr cP 0]),(4,i64 qV),(5,i64 sg.1)]) (fun sg=>(sg.2.1.m.and (sg.2.2.1.ok.and (sg.2.2.2.1.ok.and (sg.2.2.2.2.2.2.2.2.2.2.1.ok.and (sg.2.2.2.2.2.2.2.2.2.2.2.1.ok.and (sg.2.2.2.2.2.2.2.2.2.2.2.2.2.2.2.2.1.ok.and (sg.2.2.2.2.2.2.2.2.2.2.2.2.2.2.2.2.2.1.ok.and (rK sg.2.2.2.2.2.2.2.2.2.2.2.2.2.2.2.2.2.2.l))))))))) (fun sg=>Ow.star (bN bF [sg.2.1.b.val,i64 sg.2.1.at_,sg.2.1.err.val] 193) (Ow.star (bN cD [ptr bF 0,.bool fI] 148) (Ow.star (bN cO [sg.2.2.1.val,sg.2.2.2.1.val,sg.2.2.2.2.1.val,str sg.2.2.2.2.2.1,i64 sg.2.2.2.2.2.2.1,str sg.2.2.2.2.2.2.2.1,i64 sg.2.2.2.2.2.2.2.2.1,str sg.2.2.2.2.2.2.2.2.2.1,sg.2.2.2.2.2.2.2.2.2.2.1.val,sg.2.2.2.2.2.2.2.2.2.2.2.1.val,i64 sg.2.2.2.2.2.2.2.2.2.2.2.2.1,str sg.2.2.2.2.2.2.2.2.2.2.2.2.2.1,str sg.2.2.2.2.2.2.2.2.2.2.2.2.2.2.1,i64 sg.2.2.2.2.2.2.2.2.2.2.2.2.2.2.2.1,sg.2.2.2.2.2.2.2.2.2.2.2.2.2.2.2.2.1.val,sg.2.2.2.2.2.2.2.2.2.2.2.2.2.2.2.2.2.1.val,sg.2.2.2.2.2.2.2.2.2.2.2.2.2.2.2.2.2.2.val] 37) (Ow.star (bN cP [ptr cD 0] 144) (Ow.star (Sv.own sg.2.2.2.2.1 76) (Ow.star (Sv.own sg.2.2.2.2.2.2.2.2.2.2.2.2.2.2.2.2.2.2 142) (Ow.emp))))))) (0,(⟨kR.b,kR.at_,kR.err⟩:bV),bG.work,bG.index,bG.refs,bG.cB,bG.cA,bG.fE,bG.eM,bG.fF,bG.cZ,bG.eA,bG.eX,bG.dM,bG.bW,bG.bX,bG.dB,bG.eC,bG.gB) [0,1,4,5] hS rfl ?_
 rintro ⟨oI,fS,kZ,G3,aFM,aFN,Z3,Z5,Z6,Z7,Z8,Z9,R2,R3,R4,R5,R6,R7,R8⟩ m1 y1 hS hK1
 refine Zq (cI (Zm ?_))
 refine Zm (Zu (rW rfl rfl) (Zm ?_))
 refine nT 25 hS (fun h25 hS => ?_) (fun h25 hS => ?_)
 ·
  refine ZX ?_
  refine VL.guard rfl rfl ?_
  refine fM hS rfl fun a9P hS=>ZX ?_
  refine VC.aV [0,1,4,5,32] (Zc hS (fun h32 hS => ?_) (fun h32 hS => ?_))
  ·
   refine Zk ?_
   refine Zq (Zb (Zr (Zm ?_)))
   obtain ⟨uM,aVH,hS⟩:=cS hS
   refine VL.yJ (vs:=[]) (caps:=[ptr cO 0,ptr cP 0]) (S0 cO (⟨kZ,G3,aFM,aFN,Z3,Z5,Z6,Z7,Z8,Z9,R2,R3,R4,R5,R6,R7,R8⟩:iY) cP cD (⟨fI⟩:aW) bF fS aVH) rfl rfl (by decide) ?_
   rintro ⟨qW,aCs⟩ rfl
   try dsimp only
   obtain ⟨b34,hS⟩:=bM hS
   refine Zl ?_
   refine Zr (ZX ?_)
   refine VL.kL ((oI+1),(⟨aCs.b,aCs.at_,aCs.err⟩:bV),qW.work,qW.index,qW.refs,qW.cB,qW.cA,qW.fE,qW.eM,qW.fF,qW.cZ,qW.eA,qW.eX,qW.dM,qW.bW,qW.bX,qW.dB,qW.eC,qW.gB) [0,1,4,5] (fun _ _ h=>h) (go2 hS hK1) rfl
  replace hS:=kS hS hK1
  cases hS
  exact VC.exit (rP (.inl rfl) rfl (⟨fS.b,fS.at_,fS.err⟩,⟨fI⟩,⟨kZ,G3,aFM,aFN,Z3,Z5,Z6,Z7,Z8,Z9,R2,R3,R4,R5,R6,R7,R8⟩) rfl rfl (by (try dsimp only); exact dV.out) (by (try dsimp only); exact fK.out))
 refine VL.runs 7 [(32,some false)] (by kernel_rfl) ?_
 refine Zl ?_
 refine VC.wA rfl ?_
 replace hS:=kS hS hK1
 cases hS
 exact VC.exit (rP (.inl rfl) rfl (⟨fS.b,fS.at_,fS.err⟩,⟨fI⟩,⟨kZ,G3,aFM,aFN,Z3,Z5,Z6,Z7,Z8,Z9,R2,R3,R4,R5,R6,R7,R8⟩) rfl rfl (by (try dsimp only); exact dV.out) (by (try dsimp only); exact fK.out))
theorem I5 (cD:Nat) (dX:aW) (bF:Nat) (bJ:bV) {r:mM×bB} (hS:Sh.qP dX bJ.pl=some r) :
 Ct Tryz.prog 124 [ptr cD 0] (bJ.b.ok.and bJ.err.ok) (Ow.star (bN bF [bJ.b.val,i64 bJ.at_,bJ.err.val] 193) (bN cD [ptr bF 0,.bool dX.bad] 148)) (X:=mM×bV) (fun x => .agg #[str x.1.branch,i64 x.1.cC]) (fun x=>r=(x.1,x.2.pl)) (fun x=>(x.2.b.ok.and x.2.err.ok)) (fun x=>Ow.star (bN bF [x.2.b.val,i64 x.2.at_,x.2.err.val] 193) (bN cD [ptr bF 0,.bool dX.bad] 148)):=by
 refine Zo Tryz.func124 Tryz.ntmps124 fun c => ?_
 unfold Sh.qP at hS
 refine cI (dJ fun iV=>Zl ?_)
 refine Zq ?_
 refine iB [(0,true),(1,true),(2,true),(3,true),(5,true),(6,true),(7,true),(8,true),(4,false),(9,false),(10,true),(11,false)] ?_
 refine ZX ?_
 refine VD.one rfl (fM hS rfl fun ⟨zQ,aPw⟩ hS => ?_)
 try dsimp only
 refine eO (Pk 8 (Pk 7 (Pk 6 Pz))) ?_
 refine VD.one rfl (fM hS rfl fun ⟨gQ,RF⟩ hS => ?_)
 try dsimp only
 refine eV ?_
 refine Zw rfl (cG (vs:=[(0,str zQ),(1,i64 gQ)]) (cs := #[str zQ,i64 gQ]) rfl (by kernel_rfl)) ?_
 refine VD.one rfl (ZX ?_)
 refine eV ?_
 refine ZX ?_
 cases hS
 exact VC.ret (Z4 (⟨zQ,gQ⟩,⟨RF.b,RF.at_,RF.err⟩) rfl)
theorem QD (qH:Nat) (bP:Sv bK) (iC:Nat) (jM:Nat) (a_1_:aW) (eG:Nat) (cQ:bV) {r:List bK×bB} (hS:Sh.pX bP.l a_1_ cQ.pl=some r) :
 Ct Tryz.prog 275 [ptr qH 0,ptr iC 0] (cQ.b.ok.and cQ.err.ok) (Ow.star (Sv.own bP 139) (Ow.star (bN qH [bP.val] 31) (Ow.star (bN eG [cQ.b.val,i64 cQ.at_,cQ.err.val] 193) (Ow.star (bN jM [ptr eG 0,.bool a_1_.bad] 148) (bN iC [ptr jM 0] 144))))) (X:=Sv bK×bV) (fun x => .tuple #[]) (fun x=>r=(x.1.l,x.2.pl)) (fun x=>(x.2.b.ok.and x.2.err.ok)) (fun x=>Ow.star (bN qH [x.1.val] 31) (Ow.star (Sv.own x.1 139) (Ow.star (bN eG [x.2.b.val,i64 x.2.at_,x.2.err.val] 193) (Ow.star (bN jM [ptr eG 0,.bool a_1_.bad] 148) (bN iC [ptr jM 0] 144))))):=by
 refine Zo Tryz.func275 Tryz.ntmps275 fun c => ?_
 unfold Sh.pX at hS
 refine iB [(0,true),(1,true),(2,true),(3,true),(4,true),(6,true),(7,true),(8,true),(9,true),(11,true),(12,true),(13,true),(14,true),(5,false),(10,false),(15,false),(16,true),(17,false),(18,false),(19,false)] ?_
 refine ZX ?_
 refine VD.one rfl (fM hS rfl fun ⟨ES,KI⟩ hS => ?_)
 try dsimp only
 refine eO (Pk 14 (Pk 13 (Pk 12 (Pk 11 (Pk 9 (Pk 8 (Pk 7 (Pk 6 (Pk 0 Pz))))))))) ?_
 refine VD.one rfl (fM hS rfl fun ⟨LA,aMT⟩ hS => ?_)
 try dsimp only
 refine eO (Pk 14 (Pk 13 (Pk 12 (Pk 11 (Pk 0 Pz))))) ?_
 refine VD.one rfl (fM hS rfl fun ⟨tK,B6⟩ hS => ?_)
 try dsimp only
 refine eO (Pk 0 Pz) ?_
 refine Zw rfl (cG (vs:=[(0,str ES),(1,i64 LA),(2,str tK)]) (cs := #[str ES,i64 LA,str tK]) rfl (by kernel_rfl)) ?_
 refine VD.one rfl (mS hS fun aY2 hS=>eO (Pk 0 Pz) ?_)
 refine VD.one rfl (HM hS fun aOF hS => ?_)
 refine eV ?_
 refine VD.one rfl (ZX ?_)
 refine eV ?_
 cases hS
 exact VD.nil (rP (.inl rfl) rfl (aOF,⟨B6.b,B6.at_,B6.err⟩) rfl rfl (by (try dsimp only); exact dV.out) (by (try dsimp only); exact fK.out))
theorem P6 (cD:Nat) (dX:aW) (bF:Nat) (bJ:bV) (cO:Nat) (bG:Sv bK) (cP:Nat) {r:bB×aW×List bK} (hS:Sh.pS dX bJ.pl bG.l=some r) :
 Ct Tryz.prog 120 [ptr cD 0,.func (.func 275) #[] #[ptr cO 0,ptr cP 0]] (bJ.b.ok.and bJ.err.ok) (Ow.star (bN bF [bJ.b.val,i64 bJ.at_,bJ.err.val] 193) (Ow.star (bN cD [ptr bF 0,.bool dX.bad] 148) (Ow.star (Sv.own bG 139) (Ow.star (bN cO [bG.val] 31) (bN cP [ptr cD 0] 144))))) (X:=bV×aW×Sv bK) (fun x => .tuple #[]) (fun x=>r=(x.1.pl,x.2.1,x.2.2.l)) (fun x=>(x.1.b.ok.and x.1.err.ok)) (fun x=>Ow.star (bN bF [x.1.b.val,i64 x.1.at_,x.1.err.val] 193) (Ow.star (bN cD [ptr bF 0,.bool x.2.1.bad] 148) (Ow.star (bN cO [x.2.2.val] 31) (Ow.star (Sv.own x.2.2 139) (bN cP [ptr cD 0] 144))))):=by
 refine Zo Tryz.func120 Tryz.ntmps120 fun c => ?_
 unfold Sh.pS at hS
 refine ZX ?_
 refine fM hS rfl fun ⟨qV,kR⟩ hS => ?_
 try dsimp only
 refine Za ?_
 refine Zl ?_
 refine VC.OM [0,1,4] (fun (fI:Bool)=>fI) (fun fI ρ=>ρ) (fun (fI:Bool)=>Mo.tt) cD (fun (fI:Bool)=>[ptr bF 0,.bool fI]) hS (fun _ hS=>ZE hS) ?_
 rintro fI hS
 refine ZX ?_
 refine Zb ?_
 refine VC.iter (S:=Int×bV×Sv bK) (fun sg=>(sg.1,sg.2.1.pl,sg.2.2.l)) (fun sg=>[(0,ptr cD 0),(1,.func (.func 275) #[] #[ptr cO 0,ptr cP 0]),(4,i64 qV),(5,i64 sg.1)]) (fun sg=>sg.2.1.m) (fun sg=>Ow.star (bN bF [sg.2.1.b.val,i64 sg.2.1.at_,sg.2.1.err.val] 193) (Ow.star (bN cD [ptr bF 0,.bool fI] 148) (Ow.star (bN cO [sg.2.2.val] 31) (Ow.star (bN cP [ptr cD 0] 144) (Ow.star (Sv.own sg.2.2 139) (Ow.emp)))))) (0,(⟨kR.b,kR.at_,kR.err⟩:bV),bG) [0,1,4,5] hS rfl ?_
 rintro ⟨oI,fS,kZ⟩ m1 y1 hS hK1
 refine Zq (cI (Zm ?_))
 refine Zm (Zu (rW rfl rfl) (Zm ?_))
 refine nT 25 hS (fun h25 hS => ?_) (fun h25 hS => ?_)
 ·
  refine ZX ?_
  refine VL.guard rfl rfl ?_
  refine fM hS rfl fun aB9 hS=>ZX ?_
  refine VC.aV [0,1,4,5,32] (Zc hS (fun h32 hS => ?_) (fun h32 hS => ?_))
  ·
   refine Zk ?_
   refine Zq (Zb (Zr (Zm ?_)))
   obtain ⟨p8,MH,hS⟩:=cS hS
   refine VL.yJ (vs:=[]) (caps:=[ptr cO 0,ptr cP 0]) (QD cO kZ cP cD (⟨fI⟩:aW) bF fS MH) rfl rfl (by decide) ?_
   rintro ⟨DS,p5⟩ rfl
   try dsimp only
   obtain ⟨b34,hS⟩:=bM hS
   refine Zl ?_
   refine Zr (ZX ?_)
   refine VL.kL ((oI+1),(⟨p5.b,p5.at_,p5.err⟩:bV),DS) [0,1,4,5] (fun _ _ h=>h) (go2 hS hK1) rfl
  replace hS:=kS hS hK1
  cases hS
  exact VC.exit (rP (.inl rfl) rfl (⟨fS.b,fS.at_,fS.err⟩,⟨fI⟩,kZ) rfl rfl (by (try dsimp only); exact dV.out) (by (try dsimp only); exact fK.out))
 refine VL.runs 7 [(32,some false)] (by kernel_rfl) ?_
 refine Zl ?_
 refine VC.wA rfl ?_
 replace hS:=kS hS hK1
 cases hS
 exact VC.exit (rP (.inl rfl) rfl (⟨fS.b,fS.at_,fS.err⟩,⟨fI⟩,kZ) rfl rfl (by (try dsimp only); exact dV.out) (by (try dsimp only); exact fK.out))
instance ZC (aA:Sv bK) :
 jZ Tryz.prog 85 [aA.val] (Sh.iA aA.l) aA.ok (X:=Sv bK) (fun x=>x.val) (fun x=>x.l) (fun x=>x.ok):=by
 refine j6 Tryz.func85 Tryz.ntmps85 fun r hS c => ?_
 unfold Sh.iA at hS
 obtain ⟨b8,hS⟩:=bM hS
 refine ZX ?_
 refine VL.UA Tryz.underlying31 KE rfl rfl rfl b8.1 (b8.2) (by decide) fun PC tC => ?_
 replace hS:=dZ tC hS
 exact ZE hS
theorem IL (cD:Nat) (dX:aW) (bF:Nat) (bJ:bV) {r:List bK×bB×aW} (hS:Sh.o7 dX bJ.pl=some r) :
 Ct Tryz.prog 204 [ptr cD 0] (bJ.b.ok.and bJ.err.ok) (Ow.star (bN bF [bJ.b.val,i64 bJ.at_,bJ.err.val] 193) (bN cD [ptr bF 0,.bool dX.bad] 148)) (X:=Sv bK×bV×aW) (fun x=>x.1.val) (fun x=>r=(x.1.l,x.2.1.pl,x.2.2)) (fun x=>(x.1.ok.and (x.2.1.b.ok.and x.2.1.err.ok))) (fun x=>Ow.star (bN bF [x.2.1.b.val,i64 x.2.1.at_,x.2.1.err.val] 193) (bN cD [ptr bF 0,.bool x.2.2.bad] 148)):=by
 refine Zo Tryz.func204 Tryz.ntmps204 fun c => ?_
 unfold Sh.o7 at hS
 refine cI (kU fun hG=>ZX ?_)
 refine dJ fun gL=>ZX ?_
 refine VL.mR (⟨none,0,[]⟩:Sv bK) 139 ⟨rfl,rfl⟩ ?_
 refine VL.YW gL (cs':=[(⟨none,0,[]⟩:Sv bK).val]) rfl ?_
 refine y7 hS (P6 cD dX bF bJ gL (⟨none,0,[]⟩:Sv bK) hG) fun ⟨wG,ML,O6⟩ hS => ?_
 try dsimp only
 refine ZX ?_
 refine VL.shut O6 139 (fun _ _ _ _=>trivial) ?_
 refine fR hS rfl fun KJ hS=>ZX ?_
 cases hS
 exact VC.ret (Z1 (KJ,⟨wG.b,wG.at_,wG.err⟩,⟨ML.bad⟩))
theorem WI (cD:Nat) (dX:aW) (bF:Nat) (bJ:bV) {r:mN×bB×aW} (hS:Sh.vB dX bJ.pl=some r) :
 Ct Tryz.prog 125 [ptr cD 0] (bJ.b.ok.and bJ.err.ok) (Ow.star (bN bF [bJ.b.val,i64 bJ.at_,bJ.err.val] 193) (bN cD [ptr bF 0,.bool dX.bad] 148)) (X:=pN×bV×aW) (fun x => .agg (bD.enc x.1).toArray) (fun x=>r=(x.1.pl,x.2.1.pl,x.2.2)) (fun x=>(x.1.m.and (x.2.1.b.ok.and x.2.1.err.ok))) (fun x=>Ow.star (bN bF [x.2.1.b.val,i64 x.2.1.at_,x.2.1.err.val] 193) (bN cD [ptr bF 0,.bool x.2.2.bad] 148)):=by
 refine Zo Tryz.func125 Tryz.ntmps125 fun c => ?_
 unfold Sh.vB at hS
 refine cI (dJ fun iV=>Zl ?_)
 refine Zq ?_
 refine iB [(0,true),(1,true),(2,true),(3,true),(5,true),(6,true),(7,true),(8,true),(10,true),(11,true),(12,true),(13,true),(15,true),(17,true),(19,true),(20,true),(21,true),(22,true),(24,true),(25,true),(26,true),(27,true),(29,true),(31,true),(33,true),(4,false),(9,false),(14,false),(16,false),(18,false),(23,false),(28,false),(30,false),(32,false),(34,false),(35,true),(36,false)] ?_
 refine ZX ?_
 refine VD.one rfl (fM hS rfl fun ⟨zQ,aPw⟩ hS => ?_)
 try dsimp only
 refine eO (Pk 27 (Pk 26 (Pk 25 (Pk 22 (Pk 21 (Pk 20 (Pk 13 (Pk 12 (Pk 11 (Pk 8 (Pk 7 (Pk 6 Pz)))))))))))) ?_
 refine VD.one rfl (fM hS rfl fun ⟨gQ,RF⟩ hS => ?_)
 try dsimp only
 refine eO (Pk 27 (Pk 26 (Pk 25 (Pk 22 (Pk 21 (Pk 20 (Pk 13 (Pk 12 (Pk 11 Pz))))))))) ?_
 refine VD.one rfl (fM hS rfl fun ⟨mV,DP⟩ hS => ?_)
 try dsimp only
 refine eO (Pk 27 (Pk 26 (Pk 25 (Pk 22 (Pk 21 (Pk 20 Pz)))))) ?_
 refine VD.one rfl (y7 hS (IL cD dX bF DP) fun ⟨NX,VW,aM0⟩ hS => ?_)
 try dsimp only
 refine eO (Pk 27 (Pk 26 (Pk 25 (Pk 22 (Pk 21 (Pk 20 Pz)))))) ?_
 refine VD.one rfl (y7 hS (IL cD aM0 bF VW) fun ⟨aB5,bAp,aM1⟩ hS => ?_)
 try dsimp only
 refine eO (Pk 27 (Pk 26 (Pk 25 (Pk 22 (Pk 21 (Pk 20 Pz)))))) ?_
 refine VD.one rfl (fM hS rfl fun ⟨aGU,bAx⟩ hS => ?_)
 try dsimp only
 refine eO (Pk 27 (Pk 26 (Pk 25 Pz))) ?_
 refine VD.one rfl (fM hS rfl fun ⟨V1,aXt⟩ hS => ?_)
 try dsimp only
 refine eV ?_
 refine VD.one rfl (y7 hS (I5 cD aM1 bF aXt) fun ⟨RK,aXv⟩ hS => ?_)
 try dsimp only
 refine eV ?_
 refine VD.one rfl (y7 hS (uK cD aM1 bF aXv) fun ⟨aCr,aSs,aSt⟩ hS => ?_)
 try dsimp only
 refine eV ?_
 refine VD.one rfl (y7 hS (q7 cD aSt bF aSs) fun ⟨aCv,aCw,aSw⟩ hS => ?_)
 try dsimp only
 refine eV ?_
 refine Zw rfl (cG (vs:=[(0,str zQ),(1,i64 gQ),(2,str mV),(3,NX.val),(4,aB5.val),(5,i64 aGU),(6,str V1),(7,.agg #[str RK.branch,i64 RK.cC]),(8,aCr.val),(9,aCv.val)]) (cs := #[str zQ,i64 gQ,str mV,NX.val,aB5.val,i64 aGU,str V1,str RK.branch,i64 RK.cC,aCr.val,aCv.val]) rfl (by kernel_rfl)) ?_
 refine VD.one rfl (ZX ?_)
 refine eV ?_
 refine ZX ?_
 cases hS
 exact VC.ret (Z4 (⟨zQ,gQ,mV,NX,aB5,aGU,V1,RK.branch,RK.cC,aCr,aCv⟩,⟨aCw.b,aCw.at_,aCw.err⟩,⟨aSw.bad⟩) rfl)
theorem S2 (qH:Nat) (bP:iY) (iC:Nat) (jM:Nat) (a_1_:aW) (eG:Nat) (cQ:bV) {r:eH×bB×aW} (hS:Sh.sX bP.pl a_1_ cQ.pl=some r) :
 Ct Tryz.prog 126 [ptr qH 0,ptr iC 0] (bP.work.ok.and (bP.index.ok.and (bP.cZ.ok.and (bP.eA.ok.and (bP.dB.ok.and (bP.eC.ok.and ((rK bP.gB.l).and (cQ.b.ok.and cQ.err.ok)))))))) (Ow.star (Sv.own bP.refs 76) (Ow.star (Sv.own bP.gB 142) (Ow.star (bN qH (mQ bP) 37) (Ow.star (bN eG [cQ.b.val,i64 cQ.at_,cQ.err.val] 193) (Ow.star (bN jM [ptr eG 0,.bool a_1_.bad] 148) (bN iC [ptr jM 0] 144)))))) (X:=iY×bV×aW) (fun x => .tuple #[]) (fun x=>r=(x.1.pl,x.2.1.pl,x.2.2)) (fun x=>(x.1.work.ok.and (x.1.index.ok.and (x.1.cZ.ok.and (x.1.eA.ok.and (x.1.dB.ok.and (x.1.eC.ok.and ((rK x.1.gB.l).and (x.2.1.b.ok.and x.2.1.err.ok))))))))) (fun x=>Ow.star (bN qH (mQ x.1) 37) (Ow.star (Sv.own x.1.refs 76) (Ow.star (Sv.own x.1.gB 142) (Ow.star (bN eG [x.2.1.b.val,i64 x.2.1.at_,x.2.1.err.val] 193) (Ow.star (bN jM [ptr eG 0,.bool x.2.2.bad] 148) (bN iC [ptr jM 0] 144)))))):=by
 refine Zo Tryz.func126 Tryz.ntmps126 fun c => ?_
 unfold Sh.sX at hS
 refine iB [(0,true),(1,true),(2,true),(3,true),(4,true),(5,true),(7,true),(9,true),(11,true),(12,true),(13,true),(14,true),(6,false),(8,false),(10,false),(15,false),(16,true),(17,false),(18,false),(19,true),(20,false)] ?_
 refine ZX ?_
 refine VD.one rfl (fM hS rfl fun ⟨O9,aPx⟩ hS => ?_)
 try dsimp only
 refine eO (Pk 14 (Pk 13 (Pk 12 (Pk 11 (Pk 9 (Pk 7 (Pk 1 (Pk 0 Pz)))))))) ?_
 refine VD.one rfl (y7 hS (q7 jM a_1_ eG aPx) fun ⟨K9,aMP,aXT⟩ hS => ?_)
 try dsimp only
 refine eO (Pk 14 (Pk 13 (Pk 12 (Pk 11 (Pk 9 (Pk 1 (Pk 0 Pz))))))) ?_
 refine VD.one rfl (y7 hS (q7 jM aXT eG aMP) fun ⟨gQ,RF,aXV⟩ hS => ?_)
 try dsimp only
 refine eO (Pk 14 (Pk 13 (Pk 12 (Pk 11 (Pk 1 (Pk 0 Pz)))))) ?_
 refine VD.one rfl (fM hS rfl fun ⟨mV,DP⟩ hS => ?_)
 try dsimp only
 refine eO (Pk 1 (Pk 0 Pz)) ?_
 refine Zw rfl (cG (vs:=[(0,i64 O9),(1,K9.val),(2,gQ.val),(3,str mV)]) (cs := #[i64 O9,K9.val,gQ.val,str mV]) rfl (by kernel_rfl)) ?_
 refine VD.one rfl ?_
 refine VL.lit (α:=bL) (xs:=[.tmp 18]) (vs:=[.agg #[i64 O9,K9.val,gQ.val,str mV]]) [⟨O9,K9,gQ,mV⟩] Tryz.underlying35 aBD (by decide) rfl rfl rfl rfl (by decide) (fun h m=>List.forall_mem_cons.2 ⟨dV.out (X:=(K9.ok.and gQ.ok)) h m,fun _ h=>by cases h⟩) (by decide) (fun aOE aIu => ?_) (by decide)
 replace hS:=dZ (congrArg (List.map bL.pl) aIu) hS
 refine eO (Pk 1 (Pk 0 Pz)) ?_
 refine VD.one rfl ?_
 obtain ⟨b20,hS⟩:=bM hS
 refine VL.app (s:=bP.gB) (r:=aOE) Tryz.underlying35 U7 (by decide) rfl Fo.out (ap1 (apm b20)) (ap2 (apm b20) (by decide)) (by decide) (fun aOG aBH => ?_)
 replace hS:=dZ ((congrArg (List.map bL.pl) aBH).trans List.map_append) hS
 refine VL.aAL aBH ?_
 refine eV ?_
 refine ZX ?_
 refine VD.one rfl (ZX ?_)
 refine eV ?_
 cases hS
 exact VD.nil (rP (.inl rfl) rfl (⟨bP.work,bP.index,bP.refs,bP.cB,bP.cA,bP.fE,bP.eM,bP.fF,bP.cZ,bP.eA,bP.eX,bP.dM,bP.bW,bP.bX,bP.dB,bP.eC,aOG⟩,⟨DP.b,DP.at_,DP.err⟩,⟨aXV.bad⟩) rfl rfl (by (try dsimp only); exact dV.out) (by (try dsimp only); exact fK.out))
theorem P7 (cD:Nat) (dX:aW) (bF:Nat) (bJ:bV) (cO:Nat) (bG:iY) (cP:Nat) {r:bB×aW×eH} (hS:Sh.pT dX bJ.pl bG.pl=some r) :
 Ct Tryz.prog 120 [ptr cD 0,.func (.func 126) #[] #[ptr cO 0,ptr cP 0]] (bJ.b.ok.and (bJ.err.ok.and (bG.work.ok.and (bG.index.ok.and (bG.cZ.ok.and (bG.eA.ok.and (bG.dB.ok.and (bG.eC.ok.and (rK bG.gB.l))))))))) (Ow.star (bN bF [bJ.b.val,i64 bJ.at_,bJ.err.val] 193) (Ow.star (bN cD [ptr bF 0,.bool dX.bad] 148) (Ow.star (Sv.own bG.refs 76) (Ow.star (Sv.own bG.gB 142) (Ow.star (bN cO (mQ bG) 37) (bN cP [ptr cD 0] 144)))))) (X:=bV×aW×iY) (fun x => .tuple #[]) (fun x=>r=(x.1.pl,x.2.1,x.2.2.pl)) (fun x=>(x.1.b.ok.and (x.1.err.ok.and (x.2.2.work.ok.and (x.2.2.index.ok.and (x.2.2.cZ.ok.and (x.2.2.eA.ok.and (x.2.2.dB.ok.and (x.2.2.eC.ok.and (rK x.2.2.gB.l)))))))))) (fun x=>Ow.star (bN bF [x.1.b.val,i64 x.1.at_,x.1.err.val] 193) (Ow.star (bN cD [ptr bF 0,.bool x.2.1.bad] 148) (Ow.star (bN cO (mQ x.2.2) 37) (Ow.star (Sv.own x.2.2.refs 76) (Ow.star (Sv.own x.2.2.gB 142) (bN cP [ptr cD 0] 144)))))):=by
 refine Zo Tryz.func120 Tryz.ntmps120 fun c => ?_
 unfold Sh.pT at hS
 refine ZX ?_
 refine fM hS rfl fun ⟨qV,kR⟩ hS => ?_
 try dsimp only
 refine Za ?_
 refine Zl ?_
 refine VC.OM [0,1,4] (fun (fI:Bool)=>fI) (fun fI ρ=>ρ) (fun (fI:Bool)=>Mo.tt) cD (fun (fI:Bool)=>[ptr bF 0,.bool fI]) hS (fun _ hS=>ZE hS) ?_
 rintro fI hS
 refine ZX ?_
 refine Zb ?_
 refine VC.iter (S:=Int×bV×Bool×Sv aC×Sv aH×Sv cY×bH×Int×bH×Int×bH×Sv bK×Sv bK×Int×bH×bH×Int×Sv aH×Sv aC×Sv bL) (fun sg=>(sg.1,sg.2.1.pl,sg.2.2.1,sg.2.2.2.1.l,sg.2.2.2.2.1.l,sg.2.2.2.2.2.1.l,sg.2.2.2.2.2.2.1,sg.2.2.2.2.2.2.2.1,sg.2.2.2.2.2.2.2.2.1,sg.2.2.2.2.2.2.2.2.2.1,sg.2.2.2.2.2.2.2.2.2.2.1,sg.2.2.2.2.2.2.2.2.2.2.2.1.l,sg.2.2.2.2.2.2.2.2.2.2.2.2.1.l,sg.2.2.2.2.2.2.2.2.2.2.2.2.2.1,sg.2.2.2.2.2.2.2.2.2.2.2.2.2.2.1,sg.2.2.2.2.2.2.2.2.2.2.2.2.2.2.2.1,sg.2.2.2.2.2.2.2.2.2.2.2.2.2.2.2.2.1,sg.2.2.2.2.2.2.2.2.2.2.2.2.2.2.2.2.2.1.l,sg.2.2.2.2.2.2.2.2.2.2.2.2.2.2.2.2.2.2.1.l,(sg.2.2.2.2.2.2.2.2.2.2.2.2.2.2.2.2.2.2.2.l.map bL.pl))) (fun sg=>[(0,ptr cD 0),(1,.func (.func 126) #[] #[ptr cO 0,ptr cP 0]),(4,i64 qV),(5,i64 sg.1)]) (fun sg=>(sg.2.1.m.and (sg.2.2.2.1.ok.and (sg.2.2.2.2.1.ok.and (sg.2.2.2.2.2.2.2.2.2.2.2.1.ok.and (sg.2.2.2.2.2.2.2.2.2.2.2.2.1.ok.and (sg.2.2.2.2.2.2.2.2.2.2.2.2.2.2.2.2.2.1.ok.and (sg.2.2.2.2.2.2.2.2.2.2.2.2.2.2.2.2.2.2.1.ok.and (rK sg.2.2.2.2.2.2.2.2.2.2.2.2.2.2.2.2.2.2.2.l))))))))) (fun sg=>Ow.star (bN bF [sg.2.1.b.val,i64 sg.2.1.at_,sg.2.1.err.val] 193) (Ow.star (bN cD [ptr bF 0,.bool sg.2.2.1] 148) (Ow.star (bN cO [sg.2.2.2.1.val,sg.2.2.2.2.1.val,sg.2.2.2.2.2.1.val,str sg.2.2.2.2.2.2.1,i64 sg.2.2.2.2.2.2.2.1,str sg.2.2.2.2.2.2.2.2.1,i64 sg.2.2.2.2.2.2.2.2.2.1,str sg.2.2.2.2.2.2.2.2.2.2.1,sg.2.2.2.2.2.2.2.2.2.2.2.1.val,sg.2.2.2.2.2.2.2.2.2.2.2.2.1.val,i64 sg.2.2.2.2.2.2.2.2.2.2.2.2.2.1,str sg.2.2.2.2.2.2.2.2.2.2.2.2.2.2.1,str sg.2.2.2.2.2.2.2.2.2.2.2.2.2.2.2.1,i64 sg.2.2.2.2.2.2.2.2.2.2.2.2.2.2.2.2.1,sg.2.2.2.2.2.2.2.2.2.2.2.2.2.2.2.2.2.1.val,sg.2.2.2.2.2.2.2.2.2.2.2.2.2.2.2.2.2.2.1.val,sg.2.2.2.2.2.2.2.2.2.2.2.2.2.2.2.2.2.2.2.val] 37) (Ow.star (bN cP [ptr cD 0] 144) (Ow.star (Sv.own sg.2.2.2.2.2.1 76) (Ow.star (Sv.own sg.2.2.2.2.2.2.2.2.2.2.2.2.2.2.2.2.2.2.2 142) (Ow.emp))))))) (0,(⟨kR.b,kR.at_,kR.err⟩:bV),fI,bG.work,bG.index,bG.refs,bG.cB,bG.cA,bG.fE,bG.eM,bG.fF,bG.cZ,bG.eA,bG.eX,bG.dM,bG.bW,bG.bX,bG.dB,bG.eC,bG.gB) [0,1,4,5] hS rfl ?_
 rintro ⟨oI,fS,NC,FL,ND,yI,F8,F9,GA,GB,GC,GD,GF,AX,AY,AZ,A6,A7,A8,A9⟩ m1 y1 hS hK1
 refine Zq (cI (Zm ?_))
 refine Zm (Zu (rW rfl rfl) (Zm ?_))
 refine nT 25 hS (fun h25 hS => ?_) (fun h25 hS => ?_)
 ·
  refine ZX ?_
  refine VL.guard rfl rfl ?_
  refine fM hS rfl fun a9Q hS=>ZX ?_
  refine VC.aV [0,1,4,5,32] (Zc hS (fun h32 hS => ?_) (fun h32 hS => ?_))
  ·
   refine Zk ?_
   refine Zq (Zb (Zr (Zm ?_)))
   obtain ⟨tH,aVI,hS⟩:=cS hS
   refine VL.yJ (vs:=[]) (caps:=[ptr cO 0,ptr cP 0]) (S2 cO (⟨FL,ND,yI,F8,F9,GA,GB,GC,GD,GF,AX,AY,AZ,A6,A7,A8,A9⟩:iY) cP cD (⟨NC⟩:aW) bF fS aVI) rfl rfl (by decide) ?_
   rintro ⟨qX,aCt,aSu⟩ rfl
   try dsimp only
   obtain ⟨b34,hS⟩:=bM hS
   refine Zl ?_
   refine Zr (ZX ?_)
   refine VL.kL ((oI+1),(⟨aCt.b,aCt.at_,aCt.err⟩:bV),aSu.bad,qX.work,qX.index,qX.refs,qX.cB,qX.cA,qX.fE,qX.eM,qX.fF,qX.cZ,qX.eA,qX.eX,qX.dM,qX.bW,qX.bX,qX.dB,qX.eC,qX.gB) [0,1,4,5] (fun _ _ h=>h) (go2 hS hK1) rfl
  replace hS:=kS hS hK1
  cases hS
  exact VC.exit (rP (.inl rfl) rfl (⟨fS.b,fS.at_,fS.err⟩,⟨NC⟩,⟨FL,ND,yI,F8,F9,GA,GB,GC,GD,GF,AX,AY,AZ,A6,A7,A8,A9⟩) rfl rfl (by (try dsimp only); exact dV.out) (by (try dsimp only); exact fK.out))
 refine VL.runs 7 [(32,some false)] (by kernel_rfl) ?_
 refine Zl ?_
 refine VC.wA rfl ?_
 replace hS:=kS hS hK1
 cases hS
 exact VC.exit (rP (.inl rfl) rfl (⟨fS.b,fS.at_,fS.err⟩,⟨NC⟩,⟨FL,ND,yI,F8,F9,GA,GB,GC,GD,GF,AX,AY,AZ,A6,A7,A8,A9⟩) rfl rfl (by (try dsimp only); exact dV.out) (by (try dsimp only); exact fK.out))
instance ZB (aA:Sv cY) :
 jZ Tryz.prog 127 [aA.val] (Sh.jX aA.l) aA.ok (X:=Sv cY) (fun x=>x.val) (fun x=>x.l) (fun x=>x.ok):=by
 refine j6 Tryz.func127 Tryz.ntmps127 fun r hS c => ?_
 unfold Sh.jX at hS
 obtain ⟨b8,hS⟩:=bM hS
 refine ZX ?_
 refine VL.UA Tryz.underlying28 vT rfl rfl rfl b8.1 (b8.2) (by decide) fun PC tC => ?_
 replace hS:=dZ tC hS
 exact ZE hS
instance UO (aA:Sv bL) :
 vL Tryz.prog 128 [aA.val] (Sh.eS (aA.l.map bL.pl)) (rK aA.l) (Sv.own aA 142) (X:=Sv bL) (fun x=>x.val) (fun x=>(x.l.map bL.pl)) (fun x=>(rK x.l)) (fun x=>Sv.own x 142):=by
 refine v8 Tryz.func128 Tryz.ntmps128 fun r hS c => ?_
 unfold Sh.eS at hS
 refine ZX ?_
 refine Zu (vV bL.pl (s:=aA) Tryz.underlying35 rfl) (Zm (Zu (vV bL.pl (s:=aA) Tryz.underlying35 rfl) ?_))
 obtain ⟨b8,hS⟩:=bM hS
 refine VL.aUr (s:=aA) Tryz.underlying35 oA rfl rfl rfl b8.1 (aCj b8.2) Fo.out (by decide) fun PC tC => ?_
 refine VL.a7g (s:=aA) (s':=PC) (fun z hz=>by rw [tC] at hz; exact List.mem_of_mem_take hz) ?_
 replace hS:=dZ ((congrArg (List.map bL.pl) tC).trans List.map_take) hS
 exact ZE hS
theorem LJ (cD:Nat) (dX:aW) (bF:Nat) (bJ:bV) {r:eH×bB×aW} (hS:Sh.nP dX bJ.pl=some r) :
 Ct Tryz.prog 75 [ptr cD 0] (bJ.b.ok.and bJ.err.ok) (Ow.star (bN bF [bJ.b.val,i64 bJ.at_,bJ.err.val] 193) (bN cD [ptr bF 0,.bool dX.bad] 148)) (X:=iY×bV×aW) (fun x => .agg (bD.enc x.1).toArray) (fun x=>r=(x.1.pl,x.2.1.pl,x.2.2)) (fun x=>(x.1.m.and (x.2.1.b.ok.and x.2.1.err.ok))) (fun x=>Ow.star (bN bF [x.2.1.b.val,i64 x.2.1.at_,x.2.1.err.val] 193) (bN cD [ptr bF 0,.bool x.2.2.bad] 148)):=by
 refine Zo Tryz.func75 Tryz.ntmps75 fun c => ?_
 unfold Sh.nP at hS
 refine cI (kU fun hG=>dJ fun C4=>Zl ?_)
 refine VC.u5 (S:=Nat×bV×Bool×Sv aC×Sv aH×bH×Int×bH×Int×bH×Int×bH×bH×Int) (fun sg=>((),sg.2.1.pl,sg.2.2.1,sg.2.2.2.1.l,sg.2.2.2.2.1.l,sg.2.2.2.2.2.1,sg.2.2.2.2.2.2.1,sg.2.2.2.2.2.2.2.1,sg.2.2.2.2.2.2.2.2.1,sg.2.2.2.2.2.2.2.2.2.1,sg.2.2.2.2.2.2.2.2.2.2.1,sg.2.2.2.2.2.2.2.2.2.2.2.1,sg.2.2.2.2.2.2.2.2.2.2.2.2.1,sg.2.2.2.2.2.2.2.2.2.2.2.2.2)) (fun sg=>[(1,ptr hG 0),(2,ptr C4 0),(3,ptr sg.1 0)]) (fun sg=>(sg.2.1.m.and (sg.2.2.2.1.ok.and sg.2.2.2.2.1.ok))) (fun sg=>Ow.star (bN C4 [.slice none 0 0,.slice none 0 0,.slice none 0 0,str [],i64 0,str [],i64 0,str [],.slice none 0 0,.slice none 0 0,i64 0,str [],str [],i64 0,.slice none 0 0,.slice none 0 0,.slice none 0 0] 37) (Ow.star (bN hG [ptr cD 0] 144) (Ow.star (bN bF [sg.2.1.b.val,i64 sg.2.1.at_,sg.2.1.err.val] 193) (Ow.star (bN cD [ptr bF 0,.bool sg.2.2.1] 148) (Ow.star (bN sg.1 [sg.2.2.2.1.val,sg.2.2.2.2.1.val,.slice none 0 0,str sg.2.2.2.2.2.1,i64 sg.2.2.2.2.2.2.1,str sg.2.2.2.2.2.2.2.1,i64 sg.2.2.2.2.2.2.2.2.1,str sg.2.2.2.2.2.2.2.2.2.1,.slice none 0 0,.slice none 0 0,i64 sg.2.2.2.2.2.2.2.2.2.2.1,str sg.2.2.2.2.2.2.2.2.2.2.2.1,str sg.2.2.2.2.2.2.2.2.2.2.2.2.1,i64 sg.2.2.2.2.2.2.2.2.2.2.2.2.2,.slice none 0 0,.slice none 0 0,.slice none 0 0] 37) (Ow.emp)))))) hS ?_ ?_
 ·
  intro k17 hS
  refine VC.GH (n:=5) (listed:=bl 7 5) [(0,true),(2,true)] mixed (by kernel_rfl) (by kernel_rfl) (by kernel_rfl) (by kernel_rfl) ?_
  refine VD.q rfl (lB aFj rfl rfl) (by decide) ?_
  refine VD.q rfl (lB aFj rfl rfl) (by decide) ?_
  obtain ⟨aJy,aPL,hS⟩:=cS hS
  obtain ⟨aDp,aIl,hS⟩:=cS hS
  refine VD.TB fun hcl => ?_
  refine VG.fork (l:=[1,5]) (n:=4) (by kernel_rfl) rfl fun i hi => ?_
  obtain rfl | rfl:i=1∨i=5:=by simpa using hi
  ·
   refine qG.of rfl ?_
   refine VL.oE (q7 cD dX bF bJ aPL) rfl (by decide) ?_
   rintro ⟨mP,SU,SV⟩ rfl
   try dsimp only
   refine zU (bl 7 7) (Pk 2 Pz) ?_
   refine VG.fork (l:=[3,5]) (n:=3) (by kernel_rfl) rfl fun i hi => ?_
   obtain rfl | rfl:i=3∨i=5:=by simpa using hi
   ·
    refine qG.of rfl ?_
    refine VL.oE (uK cD SV bF SU aIl) rfl (by decide) ?_
    rintro ⟨lZ,xK,N0⟩ rfl
    try dsimp only
    refine zU (bl 7 15) Pz ?_
    refine VG.ord [(4,true),(5,false),(6,false)] (by kernel_rfl) (eL (by kernel_rfl)) (by kernel_rfl) ?_
    refine Zw rfl (cG (vs:=[(0,mP.val),(1,lZ.val)]) (cs := #[mP.val,lZ.val,.slice none 0 0,str [],i64 0,str [],i64 0,str [],.slice none 0 0,.slice none 0 0,i64 0,str [],str [],i64 0,.slice none 0 0,.slice none 0 0,.slice none 0 0]) rfl (by kernel_rfl)) ?_
    refine VD.one rfl (dJ fun UU => ?_)
    refine QT [(4,.agg #[mP.val,lZ.val,.slice none 0 0,str [],i64 0,str [],i64 0,str [],.slice none 0 0,.slice none 0 0,i64 0,str [],str [],i64 0,.slice none 0 0,.slice none 0 0,.slice none 0 0])] (bT.cons rfl (cG (vs:=[(0,mP.val),(1,lZ.val)]) (cs := #[mP.val,lZ.val,.slice none 0 0,str [],i64 0,str [],i64 0,str [],.slice none 0 0,.slice none 0 0,i64 0,str [],str [],i64 0,.slice none 0 0,.slice none 0 0,.slice none 0 0]) rfl (by kernel_rfl)) bT.nil) ?_
    refine VD.one rfl ?_
    refine Zv  (vc:=[mP.val,lZ.val,.slice none 0 0,str [],i64 0,str [],i64 0,str [],.slice none 0 0,.slice none 0 0,i64 0,str [],str [],i64 0,.slice none 0 0,.slice none 0 0,.slice none 0 0]) (cs':=[mP.val,lZ.val,.slice none 0 0,str [],i64 0,str [],i64 0,str [],.slice none 0 0,.slice none 0 0,i64 0,str [],str [],i64 0,.slice none 0 0,.slice none 0 0,.slice none 0 0]) rfl aIs ?_
    refine eV ?_
    refine VD.mt (UU,(⟨xK.b,xK.at_,xK.err⟩:bV),N0.bad,mP,lZ,[],0,[],0,[],0,[],[],0) [1,2,3] (fun _ _ h=>h) hS rfl
   refine qG.of rfl ?_
   refine dJ fun UU => ?_
   refine zU (bl 7 39) (Pk 2 Pz) ?_
   refine VG.ord [(3,false),(4,true),(6,false)] (by kernel_rfl) (eL (by kernel_rfl)) (by kernel_rfl) ?_
   refine VD.one rfl ?_
   refine VL.oE (uK cD SV bF SU aIl) rfl (by decide) ?_
   rintro ⟨lZ,xK,N0⟩ rfl
   try dsimp only
   refine eV ?_
   refine Zw rfl (cG (vs:=[(0,mP.val),(1,lZ.val)]) (cs := #[mP.val,lZ.val,.slice none 0 0,str [],i64 0,str [],i64 0,str [],.slice none 0 0,.slice none 0 0,i64 0,str [],str [],i64 0,.slice none 0 0,.slice none 0 0,.slice none 0 0]) rfl (by kernel_rfl)) ?_
   refine VD.one rfl ?_
   refine Zv  (vc:=[mP.val,lZ.val,.slice none 0 0,str [],i64 0,str [],i64 0,str [],.slice none 0 0,.slice none 0 0,i64 0,str [],str [],i64 0,.slice none 0 0,.slice none 0 0,.slice none 0 0]) (cs':=[mP.val,lZ.val,.slice none 0 0,str [],i64 0,str [],i64 0,str [],.slice none 0 0,.slice none 0 0,i64 0,str [],str [],i64 0,.slice none 0 0,.slice none 0 0,.slice none 0 0]) rfl aIs ?_
   refine eV ?_
   refine VD.mt (UU,(⟨xK.b,xK.at_,xK.err⟩:bV),N0.bad,mP,lZ,[],0,[],0,[],0,[],[],0) [1,2,3] (fun _ _ h=>h) hS rfl
  refine qG.of rfl ?_
  refine dJ fun UU => ?_
  refine zU (bl 7 37) (Pk 2 (Pk 0 Pz)) ?_
  refine VG.ord [(1,false),(3,false),(4,true),(6,false)] (by kernel_rfl) (eL (by kernel_rfl)) (by kernel_rfl) ?_
  refine VD.one rfl ?_
  refine VL.oE (q7 cD dX bF bJ aPL) rfl (by decide) ?_
  rintro ⟨mP,SU,SV⟩ rfl
  try dsimp only
  refine eO (Pk 2 Pz) ?_
  refine VD.one rfl ?_
  refine VL.oE (uK cD SV bF SU aIl) rfl (by decide) ?_
  rintro ⟨lZ,xK,N0⟩ rfl
  try dsimp only
  refine eV ?_
  refine Zw rfl (cG (vs:=[(0,mP.val),(1,lZ.val)]) (cs := #[mP.val,lZ.val,.slice none 0 0,str [],i64 0,str [],i64 0,str [],.slice none 0 0,.slice none 0 0,i64 0,str [],str [],i64 0,.slice none 0 0,.slice none 0 0,.slice none 0 0]) rfl (by kernel_rfl)) ?_
  refine VD.one rfl ?_
  refine Zv  (vc:=[mP.val,lZ.val,.slice none 0 0,str [],i64 0,str [],i64 0,str [],.slice none 0 0,.slice none 0 0,i64 0,str [],str [],i64 0,.slice none 0 0,.slice none 0 0,.slice none 0 0]) (cs':=[mP.val,lZ.val,.slice none 0 0,str [],i64 0,str [],i64 0,str [],.slice none 0 0,.slice none 0 0,i64 0,str [],str [],i64 0,.slice none 0 0,.slice none 0 0,.slice none 0 0]) rfl aIs ?_
  refine eV ?_
  refine VD.mt (UU,(⟨xK.b,xK.at_,xK.err⟩:bV),N0.bad,mP,lZ,[],0,[],0,[],0,[],[],0) [1,2,3] (fun _ _ h=>h) hS rfl
 rintro ⟨aPe,FZ,aUo,kZ,G3,aPA,aPB,aIZ,aI0,aI1,aEQ,aER,aES,aET⟩ hS
 refine ZX ?_
 refine VL.mR (⟨none,0,[]⟩:Sv cY) 76 ⟨rfl,rfl⟩ ?_
 refine VL.mR (⟨none,0,[]⟩:Sv bL) 142 ⟨rfl,rfl⟩ ?_
 refine VL.aAM (s:=(⟨none,0,[]⟩:Sv bL)) rfl ?_
 refine VL.YW aPe (cs':=[kZ.val,G3.val,(⟨none,0,[]⟩:Sv cY).val,str aPA,i64 aPB,str aIZ,i64 aI0,str aI1,(⟨none,0,[]⟩:Sv bK).val,(⟨none,0,[]⟩:Sv bK).val,i64 aEQ,str aER,str aES,i64 aET,(⟨none,0,[]⟩:Sv aH).val,(⟨none,0,[]⟩:Sv aC).val,(⟨none,0,[]⟩:Sv bL).val]) rfl ?_
 refine y7 hS (P5 cD (⟨aUo⟩:aW) bF FZ aPe (⟨kZ,G3,(⟨none,0,[]⟩:Sv cY),aPA,aPB,aIZ,aI0,aI1,(⟨none,0,[]⟩:Sv bK),(⟨none,0,[]⟩:Sv bK),aEQ,aER,aES,aET,(⟨none,0,[]⟩:Sv aH),(⟨none,0,[]⟩:Sv aC),(⟨none,0,[]⟩:Sv bL)⟩:iY) hG) fun ⟨aSi,aHs,XO⟩ hS => ?_
 try dsimp only
 refine Zl ?_
 refine Zq ?_
 refine iB [(0,true),(2,true),(1,false),(4,true),(3,false),(5,false),(6,true),(7,false)] ?_
 refine ZX ?_
 refine VD.one rfl (y7 hS (I5 cD aHs bF aSi) fun ⟨aHt,aSj⟩ hS => ?_)
 try dsimp only
 refine eO (Pk 2 Pz) ?_
 refine ZX ?_
 refine VD.one rfl (y7 hS (WI cD aHs bF aSj) fun ⟨z6,aSk,aSl⟩ hS => ?_)
 try dsimp only
 refine eO (Pk 4 Pz) ?_
 refine VD.one rfl (ZX ?_)
 refine eV ?_
 refine ZX ?_
 refine VD.one rfl (ZX ?_)
 refine eV ?_
 refine uD ?_
 refine VC.aV [1,2,3] (ZX ?_)
 refine y7 hS (P7 cD aSl bF aSk aPe (⟨XO.work,XO.index,XO.refs,aHt.branch,aHt.cC,z6.kind,z6.other,z6.text,z6.C9,z6.todo,z6.made,z6.branch,z6.cB,z6.cA,z6.index,z6.work,XO.gB⟩:iY) hG) fun ⟨aCp,aSm,sR⟩ hS => ?_
 try dsimp only
 refine Zl ?_
 refine Zq ?_
 refine iB [(0,true),(1,true),(3,true),(4,true),(2,false),(6,true),(5,false),(7,false),(8,true),(9,false)] ?_
 refine ZX ?_
 refine VD.one rfl ?_
 refine VL.shut sR.refs 76 (fun _ _ _ _=>trivial) ?_
 refine fR hS rfl fun aSn hS=>eO (Pk 4 (Pk 3 Pz)) ?_
 refine ZX ?_
 refine VD.one rfl (fM hS rfl fun aCq hS=>eO (Pk 6 Pz) ?_)
 refine VD.one rfl (ZX ?_)
 refine eV ?_
 refine ZX ?_
 refine VD.one rfl (ZX ?_)
 refine eV ?_
 refine uD ?_
 refine VC.aV [2,3] (cI (ZO ?_))
 refine Zl ?_
 refine VC.shut aCq 142 (fun h m=>dV.out (X:=rK aCq.l) h m) ?_
 cases hS
 exact VC.ret (Z4 (⟨sR.work,sR.index,aSn,sR.cB,sR.cA,sR.fE,sR.eM,sR.fF,sR.cZ,sR.eA,sR.eX,sR.dM,sR.bW,sR.bX,sR.dB,sR.eC,aCq⟩,⟨aCp.b,aCp.at_,aCp.err⟩,⟨aSm.bad⟩) rfl)
theorem OC (qH:Nat) (bP:Sv Int) (iC:Nat) (jM:Nat) (a_1_:aW) (eG:Nat) (cQ:bV) {r:List Int×bB} (hS:Sh.nX bP.l a_1_ cQ.pl=some r) :
 Ct Tryz.prog 269 [ptr qH 0,ptr iC 0] (cQ.b.ok.and cQ.err.ok) (Ow.star (Sv.own bP 3) (Ow.star (bN qH [bP.val] 57) (Ow.star (bN eG [cQ.b.val,i64 cQ.at_,cQ.err.val] 193) (Ow.star (bN jM [ptr eG 0,.bool a_1_.bad] 148) (bN iC [ptr jM 0] 144))))) (X:=Sv Int×bV) (fun x => .tuple #[]) (fun x=>r=(x.1.l,x.2.pl)) (fun x=>(x.2.b.ok.and x.2.err.ok)) (fun x=>Ow.star (bN qH [x.1.val] 57) (Ow.star (Sv.own x.1 3) (Ow.star (bN eG [x.2.b.val,i64 x.2.at_,x.2.err.val] 193) (Ow.star (bN jM [ptr eG 0,.bool a_1_.bad] 148) (bN iC [ptr jM 0] 144))))):=by
 refine Zo Tryz.func269 Tryz.ntmps269 fun c => ?_
 unfold Sh.nX at hS
 refine iB [(0,true),(1,true),(2,true),(3,true),(4,true),(5,false),(6,false),(7,false),(8,false)] ?_
 refine ZX ?_
 refine VD.one rfl (fM hS rfl fun ⟨ES,KI⟩ hS => ?_)
 try dsimp only
 refine eO (Pk 0 Pz) ?_
 refine VD.one rfl (mS hS fun a6g hS=>eO (Pk 0 Pz) ?_)
 refine VD.one rfl (HM hS fun aY9 hS => ?_)
 refine eV ?_
 refine VD.one rfl (ZX ?_)
 refine eV ?_
 cases hS
 exact VD.nil (rP (.inl rfl) rfl (aY9,⟨KI.b,KI.at_,KI.err⟩) rfl rfl (by (try dsimp only); exact dV.out) (by (try dsimp only); exact fK.out))
theorem P9 (cD:Nat) (dX:aW) (bF:Nat) (bJ:bV) (cO:Nat) (bG:Sv Int) (cP:Nat) {r:bB×aW×List Int} (hS:Sh.pU dX bJ.pl bG.l=some r) :
 Ct Tryz.prog 120 [ptr cD 0,.func (.func 269) #[] #[ptr cO 0,ptr cP 0]] (bJ.b.ok.and bJ.err.ok) (Ow.star (bN bF [bJ.b.val,i64 bJ.at_,bJ.err.val] 193) (Ow.star (bN cD [ptr bF 0,.bool dX.bad] 148) (Ow.star (Sv.own bG 3) (Ow.star (bN cO [bG.val] 57) (bN cP [ptr cD 0] 144))))) (X:=bV×aW×Sv Int) (fun x => .tuple #[]) (fun x=>r=(x.1.pl,x.2.1,x.2.2.l)) (fun x=>(x.1.b.ok.and x.1.err.ok)) (fun x=>Ow.star (bN bF [x.1.b.val,i64 x.1.at_,x.1.err.val] 193) (Ow.star (bN cD [ptr bF 0,.bool x.2.1.bad] 148) (Ow.star (bN cO [x.2.2.val] 57) (Ow.star (Sv.own x.2.2 3) (bN cP [ptr cD 0] 144))))):=by
 refine Zo Tryz.func120 Tryz.ntmps120 fun c => ?_
 unfold Sh.pU at hS
 refine ZX ?_
 refine fM hS rfl fun ⟨qV,kR⟩ hS => ?_
 try dsimp only
 refine Za ?_
 refine Zl ?_
 refine VC.OM [0,1,4] (fun (fI:Bool)=>fI) (fun fI ρ=>ρ) (fun (fI:Bool)=>Mo.tt) cD (fun (fI:Bool)=>[ptr bF 0,.bool fI]) hS (fun _ hS=>ZE hS) ?_
 rintro fI hS
 refine ZX ?_
 refine Zb ?_
 refine VC.iter (S:=Int×bV×Sv Int) (fun sg=>(sg.1,sg.2.1.pl,sg.2.2.l)) (fun sg=>[(0,ptr cD 0),(1,.func (.func 269) #[] #[ptr cO 0,ptr cP 0]),(4,i64 qV),(5,i64 sg.1)]) (fun sg=>sg.2.1.m) (fun sg=>Ow.star (bN bF [sg.2.1.b.val,i64 sg.2.1.at_,sg.2.1.err.val] 193) (Ow.star (bN cD [ptr bF 0,.bool fI] 148) (Ow.star (bN cO [sg.2.2.val] 57) (Ow.star (bN cP [ptr cD 0] 144) (Ow.star (Sv.own sg.2.2 3) (Ow.emp)))))) (0,(⟨kR.b,kR.at_,kR.err⟩:bV),bG) [0,1,4,5] hS rfl ?_
 rintro ⟨oI,fS,kZ⟩ m1 y1 hS hK1
 refine Zq (cI (Zm ?_))
 refine Zm (Zu (rW rfl rfl) (Zm ?_))
 refine nT 25 hS (fun h25 hS => ?_) (fun h25 hS => ?_)
 ·
  refine ZX ?_
  refine VL.guard rfl rfl ?_
  refine fM hS rfl fun aB9 hS=>ZX ?_
  refine VC.aV [0,1,4,5,32] (Zc hS (fun h32 hS => ?_) (fun h32 hS => ?_))
  ·
   refine Zk ?_
   refine Zq (Zb (Zr (Zm ?_)))
   obtain ⟨p8,MH,hS⟩:=cS hS
   refine VL.yJ (vs:=[]) (caps:=[ptr cO 0,ptr cP 0]) (OC cO kZ cP cD (⟨fI⟩:aW) bF fS MH) rfl rfl (by decide) ?_
   rintro ⟨DS,p5⟩ rfl
   try dsimp only
   obtain ⟨b34,hS⟩:=bM hS
   refine Zl ?_
   refine Zr (ZX ?_)
   refine VL.kL ((oI+1),(⟨p5.b,p5.at_,p5.err⟩:bV),DS) [0,1,4,5] (fun _ _ h=>h) (go2 hS hK1) rfl
  replace hS:=kS hS hK1
  cases hS
  exact VC.exit (rP (.inl rfl) rfl (⟨fS.b,fS.at_,fS.err⟩,⟨fI⟩,kZ) rfl rfl (by (try dsimp only); exact dV.out) (by (try dsimp only); exact fK.out))
 refine VL.runs 7 [(32,some false)] (by kernel_rfl) ?_
 refine Zl ?_
 refine VC.wA rfl ?_
 replace hS:=kS hS hK1
 cases hS
 exact VC.exit (rP (.inl rfl) rfl (⟨fS.b,fS.at_,fS.err⟩,⟨fI⟩,kZ) rfl rfl (by (try dsimp only); exact dV.out) (by (try dsimp only); exact fK.out))
instance aIH (aA:Sv Int) :
 jZ Tryz.prog 270 [aA.val] (Sh.lF aA.l) aA.ok (X:=Sv Int) (fun x=>x.val) (fun x=>x.l) (fun x=>x.ok):=by
 refine j6 Tryz.func270 Tryz.ntmps270 fun r hS c => ?_
 unfold Sh.lF at hS
 obtain ⟨b8,hS⟩:=bM hS
 refine ZX ?_
 refine VL.UA Tryz.underlying57 E3 rfl rfl rfl b8.1 (b8.2) (by decide) fun PC tC => ?_
 replace hS:=dZ tC hS
 exact ZE hS
theorem QB (cD:Nat) (dX:aW) (bF:Nat) (bJ:bV) {r:List Int×bB×aW} (hS:Sh.pV dX bJ.pl=some r) :
 Ct Tryz.prog 189 [ptr cD 0] (bJ.b.ok.and bJ.err.ok) (Ow.star (bN bF [bJ.b.val,i64 bJ.at_,bJ.err.val] 193) (bN cD [ptr bF 0,.bool dX.bad] 148)) (X:=Sv Int×bV×aW) (fun x=>x.1.val) (fun x=>r=(x.1.l,x.2.1.pl,x.2.2)) (fun x=>(x.1.ok.and (x.2.1.b.ok.and x.2.1.err.ok))) (fun x=>Ow.star (bN bF [x.2.1.b.val,i64 x.2.1.at_,x.2.1.err.val] 193) (bN cD [ptr bF 0,.bool x.2.2.bad] 148)):=by
 refine Zo Tryz.func189 Tryz.ntmps189 fun c => ?_
 unfold Sh.pV at hS
 refine cI (kU fun hG=>ZX ?_)
 refine dJ fun gL=>ZX ?_
 refine VL.mR (⟨none,0,[]⟩:Sv Int) 3 ⟨rfl,rfl⟩ ?_
 refine VL.YW gL (cs':=[(⟨none,0,[]⟩:Sv Int).val]) rfl ?_
 refine y7 hS (P9 cD dX bF bJ gL (⟨none,0,[]⟩:Sv Int) hG) fun ⟨wG,ML,O6⟩ hS => ?_
 try dsimp only
 refine ZX ?_
 refine VL.shut O6 3 (fun _ _ _ _=>trivial) ?_
 refine fR hS rfl fun KJ hS=>ZX ?_
 cases hS
 exact VC.ret (Z1 (KJ,⟨wG.b,wG.at_,wG.err⟩,⟨ML.bad⟩))
theorem QC (qH:Nat) (bP:aM) (iC:Nat) (jM:Nat) (a_1_:aW) (eG:Nat) (cQ:bV) {r:aF×bB×aW} (hS:Sh.pW bP.pl a_1_ cQ.pl=some r) :
 Ct Tryz.prog 188 [ptr qH 0,ptr iC 0] (bP.aY.ok.and (bP.aU.ok.and (bP.bA.ok.and (bP.aN.ok.and (bP.aP.ok.and (bP.aL.ok.and (bP.aR.ok.and (bP.aX.ok.and ((rK bP.bC.l).and (bP.bE.ok.and (bP.aZ.ok.and (cQ.b.ok.and cQ.err.ok)))))))))))) (Ow.star (Sv.own bP.bC 59) (Ow.star (bN qH (aJ bP) 43) (Ow.star (bN eG [cQ.b.val,i64 cQ.at_,cQ.err.val] 193) (Ow.star (bN jM [ptr eG 0,.bool a_1_.bad] 148) (bN iC [ptr jM 0] 144))))) (X:=aM×bV×aW) (fun x => .tuple #[]) (fun x=>r=(x.1.pl,x.2.1.pl,x.2.2)) (fun x=>(x.1.aY.ok.and (x.1.aU.ok.and (x.1.bA.ok.and (x.1.aN.ok.and (x.1.aP.ok.and (x.1.aL.ok.and (x.1.aR.ok.and (x.1.aX.ok.and ((rK x.1.bC.l).and (x.1.bE.ok.and (x.1.aZ.ok.and (x.2.1.b.ok.and x.2.1.err.ok))))))))))))) (fun x=>Ow.star (bN qH (aJ x.1) 43) (Ow.star (Sv.own x.1.bC 59) (Ow.star (bN eG [x.2.1.b.val,i64 x.2.1.at_,x.2.1.err.val] 193) (Ow.star (bN jM [ptr eG 0,.bool x.2.2.bad] 148) (bN iC [ptr jM 0] 144))))):=by
 refine Zo Tryz.func188 Tryz.ntmps188 fun c => ?_
 unfold Sh.pW at hS
 refine iB [(0,true),(1,true),(2,true),(4,true),(6,true),(7,true),(8,true),(9,true),(11,true),(12,true),(13,true),(14,true),(3,false),(5,false),(10,false),(15,false),(16,true),(17,false),(18,false),(19,true),(20,false)] ?_
 refine ZX ?_
 refine VD.one rfl (y7 hS (q7 jM a_1_ eG cQ) fun ⟨aBc,a2y,a2z⟩ hS => ?_)
 try dsimp only
 refine eO (Pk 14 (Pk 13 (Pk 12 (Pk 11 (Pk 9 (Pk 8 (Pk 7 (Pk 6 (Pk 4 (Pk 1 (Pk 0 Pz))))))))))) ?_
 refine VD.one rfl (y7 hS (QB jM a2z eG a2y) fun ⟨zQ,aPw,a3D⟩ hS => ?_)
 try dsimp only
 refine eO (Pk 14 (Pk 13 (Pk 12 (Pk 11 (Pk 9 (Pk 8 (Pk 7 (Pk 6 (Pk 1 (Pk 0 Pz)))))))))) ?_
 refine VD.one rfl (fM hS rfl fun ⟨gQ,RF⟩ hS => ?_)
 try dsimp only
 refine eO (Pk 14 (Pk 13 (Pk 12 (Pk 11 (Pk 1 (Pk 0 Pz)))))) ?_
 refine VD.one rfl (fM hS rfl fun ⟨mV,DP⟩ hS => ?_)
 try dsimp only
 refine eO (Pk 1 (Pk 0 Pz)) ?_
 refine Zw rfl (cG (vs:=[(0,aBc.val),(1,zQ.val),(2,i64 gQ),(3,str mV)]) (cs := #[aBc.val,zQ.val,i64 gQ,str mV]) rfl (by kernel_rfl)) ?_
 refine VD.one rfl ?_
 refine VL.lit (α:=bY) (xs:=[.tmp 18]) (vs:=[.agg #[aBc.val,zQ.val,i64 gQ,str mV]]) [⟨aBc,zQ,gQ,mV⟩] Tryz.underlying38 aEW (by decide) rfl rfl rfl rfl (by decide) (fun h m=>List.forall_mem_cons.2 ⟨dV.out (X:=(aBc.ok.and zQ.ok)) h m,fun _ h=>by cases h⟩) (by decide) (fun aOE aIu => ?_) (by decide)
 replace hS:=dZ (congrArg (List.map bY.pl) aIu) hS
 refine eO (Pk 1 (Pk 0 Pz)) ?_
 refine VD.one rfl ?_
 obtain ⟨b20,hS⟩:=bM hS
 refine VL.app (s:=bP.bC) (r:=aOE) Tryz.underlying38 aBA (by decide) rfl Fo.out (ap1 (apm b20)) (ap2 (apm b20) (by decide)) (by decide) (fun aOG aBH => ?_)
 replace hS:=dZ ((congrArg (List.map bY.pl) aBH).trans List.map_append) hS
 refine VL.aAL aBH ?_
 refine eV ?_
 refine ZX ?_
 refine VD.one rfl (ZX ?_)
 refine eV ?_
 cases hS
 exact VD.nil (rP (.inl rfl) rfl (⟨bP.aY,bP.aU,bP.bA,bP.aI,bP.aG,bP.aS,bP.aO,bP.aT,bP.aN,bP.aP,bP.aQ,bP.aK,bP.aD,bP.aE,bP.aL,bP.aR,bP.aX,aOG,bP.bE,bP.aZ,bP.time⟩,⟨DP.b,DP.at_,DP.err⟩,⟨a3D.bad⟩) rfl rfl (by (try dsimp only); exact dV.out) (by (try dsimp only); exact fK.out))
theorem P8 (cD:Nat) (dX:aW) (bF:Nat) (bJ:bV) (cO:Nat) (bG:aM) (cP:Nat) {r:bB×aW×aF} (hS:Sh.nI dX bJ.pl bG.pl=some r) :
 Ct Tryz.prog 120 [ptr cD 0,.func (.func 188) #[] #[ptr cO 0,ptr cP 0]] (bJ.b.ok.and (bJ.err.ok.and (bG.aY.ok.and (bG.aU.ok.and (bG.bA.ok.and (bG.aN.ok.and (bG.aP.ok.and (bG.aL.ok.and (bG.aR.ok.and (bG.aX.ok.and ((rK bG.bC.l).and (bG.bE.ok.and bG.aZ.ok)))))))))))) (Ow.star (bN bF [bJ.b.val,i64 bJ.at_,bJ.err.val] 193) (Ow.star (bN cD [ptr bF 0,.bool dX.bad] 148) (Ow.star (Sv.own bG.bC 59) (Ow.star (bN cO (aJ bG) 43) (bN cP [ptr cD 0] 144))))) (X:=bV×aW×aM) (fun x => .tuple #[]) (fun x=>r=(x.1.pl,x.2.1,x.2.2.pl)) (fun x=>(x.1.b.ok.and (x.1.err.ok.and (x.2.2.aY.ok.and (x.2.2.aU.ok.and (x.2.2.bA.ok.and (x.2.2.aN.ok.and (x.2.2.aP.ok.and (x.2.2.aL.ok.and (x.2.2.aR.ok.and (x.2.2.aX.ok.and ((rK x.2.2.bC.l).and (x.2.2.bE.ok.and x.2.2.aZ.ok))))))))))))) (fun x=>Ow.star (bN bF [x.1.b.val,i64 x.1.at_,x.1.err.val] 193) (Ow.star (bN cD [ptr bF 0,.bool x.2.1.bad] 148) (Ow.star (bN cO (aJ x.2.2) 43) (Ow.star (Sv.own x.2.2.bC 59) (bN cP [ptr cD 0] 144))))):=by
 refine Zo Tryz.func120 Tryz.ntmps120 fun c => ?_
 unfold Sh.nI at hS
 refine ZX ?_
 refine fM hS rfl fun ⟨qV,kR⟩ hS => ?_
 try dsimp only
 refine Za ?_
 refine Zl ?_
 refine VC.OM [0,1,4] (fun (fI:Bool)=>fI) (fun fI ρ=>ρ) (fun (fI:Bool)=>Mo.tt) cD (fun (fI:Bool)=>[ptr bF 0,.bool fI]) hS (fun _ hS=>ZE hS) ?_
 rintro fI hS
 refine ZX ?_
 refine Zb ?_
 refine VC.iter (S:=Int×bV×Bool×Sv aC×Sv aH×Sv cY×bH×Int×bH×Int×bH×Sv bK×Sv bK×Int×bH×bH×Int×Sv aH×Sv aC×Sv bL×Sv bY×Sv bH×Sv bH×Int) (fun sg=>(sg.1,sg.2.1.pl,sg.2.2.1,sg.2.2.2.1.l,sg.2.2.2.2.1.l,sg.2.2.2.2.2.1.l,sg.2.2.2.2.2.2.1,sg.2.2.2.2.2.2.2.1,sg.2.2.2.2.2.2.2.2.1,sg.2.2.2.2.2.2.2.2.2.1,sg.2.2.2.2.2.2.2.2.2.2.1,sg.2.2.2.2.2.2.2.2.2.2.2.1.l,sg.2.2.2.2.2.2.2.2.2.2.2.2.1.l,sg.2.2.2.2.2.2.2.2.2.2.2.2.2.1,sg.2.2.2.2.2.2.2.2.2.2.2.2.2.2.1,sg.2.2.2.2.2.2.2.2.2.2.2.2.2.2.2.1,sg.2.2.2.2.2.2.2.2.2.2.2.2.2.2.2.2.1,sg.2.2.2.2.2.2.2.2.2.2.2.2.2.2.2.2.2.1.l,sg.2.2.2.2.2.2.2.2.2.2.2.2.2.2.2.2.2.2.1.l,(sg.2.2.2.2.2.2.2.2.2.2.2.2.2.2.2.2.2.2.2.1.l.map bL.pl),(sg.2.2.2.2.2.2.2.2.2.2.2.2.2.2.2.2.2.2.2.2.1.l.map bY.pl),sg.2.2.2.2.2.2.2.2.2.2.2.2.2.2.2.2.2.2.2.2.2.1.l,sg.2.2.2.2.2.2.2.2.2.2.2.2.2.2.2.2.2.2.2.2.2.2.1.l,sg.2.2.2.2.2.2.2.2.2.2.2.2.2.2.2.2.2.2.2.2.2.2.2)) (fun sg=>[(0,ptr cD 0),(1,.func (.func 188) #[] #[ptr cO 0,ptr cP 0]),(4,i64 qV),(5,i64 sg.1)]) (fun sg=>(sg.2.1.m.and (sg.2.2.2.1.ok.and (sg.2.2.2.2.1.ok.and (sg.2.2.2.2.2.1.ok.and (sg.2.2.2.2.2.2.2.2.2.2.2.1.ok.and (sg.2.2.2.2.2.2.2.2.2.2.2.2.1.ok.and (sg.2.2.2.2.2.2.2.2.2.2.2.2.2.2.2.2.2.1.ok.and (sg.2.2.2.2.2.2.2.2.2.2.2.2.2.2.2.2.2.2.1.ok.and (sg.2.2.2.2.2.2.2.2.2.2.2.2.2.2.2.2.2.2.2.1.ok.and ((rK sg.2.2.2.2.2.2.2.2.2.2.2.2.2.2.2.2.2.2.2.2.1.l).and (sg.2.2.2.2.2.2.2.2.2.2.2.2.2.2.2.2.2.2.2.2.2.1.ok.and sg.2.2.2.2.2.2.2.2.2.2.2.2.2.2.2.2.2.2.2.2.2.2.1.ok)))))))))))) (fun sg=>Ow.star (bN bF [sg.2.1.b.val,i64 sg.2.1.at_,sg.2.1.err.val] 193) (Ow.star (bN cD [ptr bF 0,.bool sg.2.2.1] 148) (Ow.star (bN cO [sg.2.2.2.1.val,sg.2.2.2.2.1.val,sg.2.2.2.2.2.1.val,str sg.2.2.2.2.2.2.1,i64 sg.2.2.2.2.2.2.2.1,str sg.2.2.2.2.2.2.2.2.1,i64 sg.2.2.2.2.2.2.2.2.2.1,str sg.2.2.2.2.2.2.2.2.2.2.1,sg.2.2.2.2.2.2.2.2.2.2.2.1.val,sg.2.2.2.2.2.2.2.2.2.2.2.2.1.val,i64 sg.2.2.2.2.2.2.2.2.2.2.2.2.2.1,str sg.2.2.2.2.2.2.2.2.2.2.2.2.2.2.1,str sg.2.2.2.2.2.2.2.2.2.2.2.2.2.2.2.1,i64 sg.2.2.2.2.2.2.2.2.2.2.2.2.2.2.2.2.1,sg.2.2.2.2.2.2.2.2.2.2.2.2.2.2.2.2.2.1.val,sg.2.2.2.2.2.2.2.2.2.2.2.2.2.2.2.2.2.2.1.val,sg.2.2.2.2.2.2.2.2.2.2.2.2.2.2.2.2.2.2.2.1.val,sg.2.2.2.2.2.2.2.2.2.2.2.2.2.2.2.2.2.2.2.2.1.val,sg.2.2.2.2.2.2.2.2.2.2.2.2.2.2.2.2.2.2.2.2.2.1.val,sg.2.2.2.2.2.2.2.2.2.2.2.2.2.2.2.2.2.2.2.2.2.2.1.val,i64 sg.2.2.2.2.2.2.2.2.2.2.2.2.2.2.2.2.2.2.2.2.2.2.2] 43) (Ow.star (bN cP [ptr cD 0] 144) (Ow.star (Sv.own sg.2.2.2.2.2.2.2.2.2.2.2.2.2.2.2.2.2.2.2.2.1 59) (Ow.emp)))))) (0,(⟨kR.b,kR.at_,kR.err⟩:bV),fI,bG.aY,bG.aU,bG.bA,bG.aI,bG.aG,bG.aS,bG.aO,bG.aT,bG.aN,bG.aP,bG.aQ,bG.aK,bG.aD,bG.aE,bG.aL,bG.aR,bG.aX,bG.bC,bG.bE,bG.aZ,bG.time) [0,1,4,5] hS rfl ?_
 rintro ⟨oI,fS,NC,FL,ND,yI,F8,F9,GA,GB,GC,GD,GF,AX,AY,AZ,A6,A7,A8,A9,R9,SA,SB,SC⟩ m1 y1 hS hK1
 refine Zq (cI (Zm ?_))
 refine Zm (Zu (rW rfl rfl) (Zm ?_))
 refine nT 25 hS (fun h25 hS => ?_) (fun h25 hS => ?_)
 ·
  refine ZX ?_
  refine VL.guard rfl rfl ?_
  refine fM hS rfl fun a9R hS=>ZX ?_
  refine VC.aV [0,1,4,5,32] (Zc hS (fun h32 hS => ?_) (fun h32 hS => ?_))
  ·
   refine Zk ?_
   refine Zq (Zb (Zr (Zm ?_)))
   obtain ⟨pL,aVJ,hS⟩:=cS hS
   refine VL.yJ (vs:=[]) (caps:=[ptr cO 0,ptr cP 0]) (QC cO (⟨FL,ND,yI,F8,F9,GA,GB,GC,GD,GF,AX,AY,AZ,A6,A7,A8,A9,R9,SA,SB,SC⟩:aM) cP cD (⟨NC⟩:aW) bF fS aVJ) rfl rfl (by decide) ?_
   rintro ⟨mX,aCu,aSv⟩ rfl
   try dsimp only
   obtain ⟨b34,hS⟩:=bM hS
   refine Zl ?_
   refine Zr (ZX ?_)
   refine VL.kL ((oI+1),(⟨aCu.b,aCu.at_,aCu.err⟩:bV),aSv.bad,mX.aY,mX.aU,mX.bA,mX.aI,mX.aG,mX.aS,mX.aO,mX.aT,mX.aN,mX.aP,mX.aQ,mX.aK,mX.aD,mX.aE,mX.aL,mX.aR,mX.aX,mX.bC,mX.bE,mX.aZ,mX.time) [0,1,4,5] (fun _ _ h=>h) (go2 hS hK1) rfl
  replace hS:=kS hS hK1
  cases hS
  exact VC.exit (rP (.inl rfl) rfl (⟨fS.b,fS.at_,fS.err⟩,⟨NC⟩,⟨FL,ND,yI,F8,F9,GA,GB,GC,GD,GF,AX,AY,AZ,A6,A7,A8,A9,R9,SA,SB,SC⟩) rfl rfl (by (try dsimp only); exact dV.out) (by (try dsimp only); exact fK.out))
 refine VL.runs 7 [(32,some false)] (by kernel_rfl) ?_
 refine Zl ?_
 refine VC.wA rfl ?_
 replace hS:=kS hS hK1
 cases hS
 exact VC.exit (rP (.inl rfl) rfl (⟨fS.b,fS.at_,fS.err⟩,⟨NC⟩,⟨FL,ND,yI,F8,F9,GA,GB,GC,GD,GF,AX,AY,AZ,A6,A7,A8,A9,R9,SA,SB,SC⟩) rfl rfl (by (try dsimp only); exact dV.out) (by (try dsimp only); exact fK.out))
instance T9 (aA:Sv bY) :
 jZ Tryz.prog 190 [aA.val] (Sh.fZ (aA.l.map bY.pl)) aA.ok (X:=Sv bY) (fun x=>x.val) (fun x=>(x.l.map bY.pl)) (fun x=>x.ok):=by
 refine j6 Tryz.func190 Tryz.ntmps190 fun r hS c => ?_
 unfold Sh.fZ at hS
 obtain ⟨b8,hS⟩:=bM hS
 refine ZX ?_
 refine VL.UA Tryz.underlying38 PU rfl rfl rfl b8.1 (aCj b8.2) (by decide) fun PC tC => ?_
 replace hS:=dZ ((congrArg (List.map bY.pl) tC).trans List.map_take) hS
 exact ZE hS
theorem QE (qH:Nat) (bP:Sv bH) (iC:Nat) (jM:Nat) (a_1_:aW) (eG:Nat) (cQ:bV) {r:List bH×bB} (hS:Sh.pY bP.l a_1_ cQ.pl=some r) :
 Ct Tryz.prog 271 [ptr qH 0,ptr iC 0] (cQ.b.ok.and cQ.err.ok) (Ow.star (Sv.own bP 9) (Ow.star (bN qH [bP.val] 39) (Ow.star (bN eG [cQ.b.val,i64 cQ.at_,cQ.err.val] 193) (Ow.star (bN jM [ptr eG 0,.bool a_1_.bad] 148) (bN iC [ptr jM 0] 144))))) (X:=Sv bH×bV) (fun x => .tuple #[]) (fun x=>r=(x.1.l,x.2.pl)) (fun x=>(x.2.b.ok.and x.2.err.ok)) (fun x=>Ow.star (bN qH [x.1.val] 39) (Ow.star (Sv.own x.1 9) (Ow.star (bN eG [x.2.b.val,i64 x.2.at_,x.2.err.val] 193) (Ow.star (bN jM [ptr eG 0,.bool a_1_.bad] 148) (bN iC [ptr jM 0] 144))))):=by
 refine Zo Tryz.func271 Tryz.ntmps271 fun c => ?_
 unfold Sh.pY at hS
 refine iB [(0,true),(1,true),(2,true),(3,true),(4,true),(5,false),(6,false),(7,false),(8,false)] ?_
 refine ZX ?_
 refine VD.one rfl (fM hS rfl fun ⟨ES,KI⟩ hS => ?_)
 try dsimp only
 refine eO (Pk 0 Pz) ?_
 refine VD.one rfl (mS hS fun a6g hS=>eO (Pk 0 Pz) ?_)
 refine VD.one rfl (HM hS fun aY9 hS => ?_)
 refine eV ?_
 refine VD.one rfl (ZX ?_)
 refine eV ?_
 cases hS
 exact VD.nil (rP (.inl rfl) rfl (aY9,⟨KI.b,KI.at_,KI.err⟩) rfl rfl (by (try dsimp only); exact dV.out) (by (try dsimp only); exact fK.out))
theorem QA (cD:Nat) (dX:aW) (bF:Nat) (bJ:bV) (cO:Nat) (bG:Sv bH) (cP:Nat) {r:bB×aW×List bH} (hS:Sh.nJ dX bJ.pl bG.l=some r) :
 Ct Tryz.prog 120 [ptr cD 0,.func (.func 271) #[] #[ptr cO 0,ptr cP 0]] (bJ.b.ok.and bJ.err.ok) (Ow.star (bN bF [bJ.b.val,i64 bJ.at_,bJ.err.val] 193) (Ow.star (bN cD [ptr bF 0,.bool dX.bad] 148) (Ow.star (Sv.own bG 9) (Ow.star (bN cO [bG.val] 39) (bN cP [ptr cD 0] 144))))) (X:=bV×aW×Sv bH) (fun x => .tuple #[]) (fun x=>r=(x.1.pl,x.2.1,x.2.2.l)) (fun x=>(x.1.b.ok.and x.1.err.ok)) (fun x=>Ow.star (bN bF [x.1.b.val,i64 x.1.at_,x.1.err.val] 193) (Ow.star (bN cD [ptr bF 0,.bool x.2.1.bad] 148) (Ow.star (bN cO [x.2.2.val] 39) (Ow.star (Sv.own x.2.2 9) (bN cP [ptr cD 0] 144))))):=by
 refine Zo Tryz.func120 Tryz.ntmps120 fun c => ?_
 unfold Sh.nJ at hS
 refine ZX ?_
 refine fM hS rfl fun ⟨qV,kR⟩ hS => ?_
 try dsimp only
 refine Za ?_
 refine Zl ?_
 refine VC.OM [0,1,4] (fun (fI:Bool)=>fI) (fun fI ρ=>ρ) (fun (fI:Bool)=>Mo.tt) cD (fun (fI:Bool)=>[ptr bF 0,.bool fI]) hS (fun _ hS=>ZE hS) ?_
 rintro fI hS
 refine ZX ?_
 refine Zb ?_
 refine VC.iter (S:=Int×bV×Sv bH) (fun sg=>(sg.1,sg.2.1.pl,sg.2.2.l)) (fun sg=>[(0,ptr cD 0),(1,.func (.func 271) #[] #[ptr cO 0,ptr cP 0]),(4,i64 qV),(5,i64 sg.1)]) (fun sg=>sg.2.1.m) (fun sg=>Ow.star (bN bF [sg.2.1.b.val,i64 sg.2.1.at_,sg.2.1.err.val] 193) (Ow.star (bN cD [ptr bF 0,.bool fI] 148) (Ow.star (bN cO [sg.2.2.val] 39) (Ow.star (bN cP [ptr cD 0] 144) (Ow.star (Sv.own sg.2.2 9) (Ow.emp)))))) (0,(⟨kR.b,kR.at_,kR.err⟩:bV),bG) [0,1,4,5] hS rfl ?_
 rintro ⟨oI,fS,kZ⟩ m1 y1 hS hK1
 refine Zq (cI (Zm ?_))
 refine Zm (Zu (rW rfl rfl) (Zm ?_))
 refine nT 25 hS (fun h25 hS => ?_) (fun h25 hS => ?_)
 ·
  refine ZX ?_
  refine VL.guard rfl rfl ?_
  refine fM hS rfl fun aB9 hS=>ZX ?_
  refine VC.aV [0,1,4,5,32] (Zc hS (fun h32 hS => ?_) (fun h32 hS => ?_))
  ·
   refine Zk ?_
   refine Zq (Zb (Zr (Zm ?_)))
   obtain ⟨p8,MH,hS⟩:=cS hS
   refine VL.yJ (vs:=[]) (caps:=[ptr cO 0,ptr cP 0]) (QE cO kZ cP cD (⟨fI⟩:aW) bF fS MH) rfl rfl (by decide) ?_
   rintro ⟨DS,p5⟩ rfl
   try dsimp only
   obtain ⟨b34,hS⟩:=bM hS
   refine Zl ?_
   refine Zr (ZX ?_)
   refine VL.kL ((oI+1),(⟨p5.b,p5.at_,p5.err⟩:bV),DS) [0,1,4,5] (fun _ _ h=>h) (go2 hS hK1) rfl
  replace hS:=kS hS hK1
  cases hS
  exact VC.exit (rP (.inl rfl) rfl (⟨fS.b,fS.at_,fS.err⟩,⟨fI⟩,kZ) rfl rfl (by (try dsimp only); exact dV.out) (by (try dsimp only); exact fK.out))
 refine VL.runs 7 [(32,some false)] (by kernel_rfl) ?_
 refine Zl ?_
 refine VC.wA rfl ?_
 replace hS:=kS hS hK1
 cases hS
 exact VC.exit (rP (.inl rfl) rfl (⟨fS.b,fS.at_,fS.err⟩,⟨fI⟩,kZ) rfl rfl (by (try dsimp only); exact dV.out) (by (try dsimp only); exact fK.out))
instance aEB (aA:Sv bH) :
 vL Tryz.prog 179 [aA.val] (Sh.cX aA.l) Mo.tt (Sv.own aA 9) (X:=Sv bH) (fun x=>x.val) (fun x=>x.l) (fun x=>Mo.tt) (fun x=>Sv.own x 9):=by
 refine v8 Tryz.func179 Tryz.ntmps179 fun r hS c => ?_
 unfold Sh.cX at hS
 obtain ⟨b8,hS⟩:=bM hS
 refine ZX ?_
 refine VL.aUr (s:=aA) Tryz.underlying39 xE rfl rfl rfl b8.1 (b8.2) Fo.out (by decide) fun PC tC => ?_
 replace hS:=dZ tC hS
 exact ZE hS
end Go.Proofs.YtgdabkldgphdeaaGreatDoor
end

section
set_option linter.unusedVariables false
namespace Go.Proofs.YtgdabkldgphdeaaGreatDoor
set_option maxHeartbeats 4000000
set_option maxRecDepth 100000
set_option synthInstance.maxSize 2000
set_option synthInstance.maxHeartbeats 1000000
open Go.RowKit Go.V
open Go.S
attribute [local irreducible] Go.V.Qt Go.V.VL Go.V.VC Go.V.I0 Go.S.gd Go.S.at_ Go.S.lt Go.S.jn Go.S.go Go.S.up Go.S.iter Sh.C7 Sh.C8 Sh.I8 Sh.xC Sh.xD Sh.BA Sh.I9 Sh.JC Sh.jT Sh.eW Sh.B2 Sh.EH Sh.iN Sh.oS Sh.fP Sh.mT Sh.qB Sh.mJ Sh.jG Sh.AO Sh.B7 Sh.yS Sh.nB Sh.qO Sh.bQ Sh.fZ Sh.cX Sh.iA Sh.cE Sh.gS Sh.CN Sh.zH Sh.pJ Sh.nI Sh.nJ Sh.nP Sh.sZ Sh.o8 Sh.wN Sh.l8 Sh.r8 Sh.zI Sh.r9 Sh.nL Sh.oW Sh.D7 Sh.M4 Sh.JX Sh.EW Sh.D9
instance:LQ Tryz.prog 25 (.slice 78):=⟨Tryz.underlying25⟩
theorem IM (cD:Nat) (dX:aW) (bF:Nat) (bJ:bV) {r:List bH×bB×aW} (hS:Sh.o8 dX bJ.pl=some r) :
 Ct Tryz.prog 191 [ptr cD 0] (bJ.b.ok.and bJ.err.ok) (Ow.star (bN bF [bJ.b.val,i64 bJ.at_,bJ.err.val] 193) (bN cD [ptr bF 0,.bool dX.bad] 148)) (X:=Sv bH×bV×aW) (fun x=>x.1.val) (fun x=>r=(x.1.l,x.2.1.pl,x.2.2)) (fun x=>(x.2.1.b.ok.and x.2.1.err.ok)) (fun x=>Ow.star (Sv.own x.1 9) (Ow.star (bN bF [x.2.1.b.val,i64 x.2.1.at_,x.2.1.err.val] 193) (bN cD [ptr bF 0,.bool x.2.2.bad] 148))):=by
 refine Zo Tryz.func191 Tryz.ntmps191 fun c => ?_
 unfold Sh.o8 at hS
 refine cI (kU fun hG=>ZX ?_)
 refine dJ fun gL=>ZX ?_
 refine VL.mR (⟨none,0,[]⟩:Sv bH) 9 ⟨rfl,rfl⟩ ?_
 refine VL.YW gL (cs':=[(⟨none,0,[]⟩:Sv bH).val]) rfl ?_
 refine y7 hS (QA cD dX bF bJ gL (⟨none,0,[]⟩:Sv bH) hG) fun ⟨wG,ML,O6⟩ hS => ?_
 try dsimp only
 refine ZX ?_
 refine fM hS rfl fun KJ hS=>ZX ?_
 cases hS
 exact VC.ret (Z1 (KJ,⟨wG.b,wG.at_,wG.err⟩,⟨ML.bad⟩))
theorem S4 (cD:Nat) (dX:aW) (bF:Nat) (bJ:bV) {r:aF×bB×aW} (hS:Sh.sZ dX bJ.pl=some r) :
 Ct Tryz.prog 104 [ptr cD 0] (bJ.b.ok.and bJ.err.ok) (Ow.star (bN bF [bJ.b.val,i64 bJ.at_,bJ.err.val] 193) (bN cD [ptr bF 0,.bool dX.bad] 148)) (X:=aM×bV×aW) (fun x => .agg (bD.enc x.1).toArray) (fun x=>r=(x.1.pl,x.2.1.pl,x.2.2)) (fun x=>(x.1.m.and (x.2.1.b.ok.and x.2.1.err.ok))) (fun x=>Ow.star (bN bF [x.2.1.b.val,i64 x.2.1.at_,x.2.1.err.val] 193) (bN cD [ptr bF 0,.bool x.2.2.bad] 148)):=by
 refine Zo Tryz.func104 Tryz.ntmps104 fun c => ?_
 unfold Sh.sZ at hS
 refine cI (kU fun hG=>dJ fun C4=>ZX ?_)
 refine y7 hS (LJ cD dX bF bJ) fun ⟨gE,a3A,a3B⟩ hS => ?_
 try dsimp only
 refine Zu (cG (vs:=[(0,.agg (mQ gE).toArray)]) (cs := #[gE.work.val,gE.index.val,gE.refs.val,str gE.cB,i64 gE.cA,str gE.fE,i64 gE.eM,str gE.fF,gE.cZ.val,gE.eA.val,i64 gE.eX,str gE.dM,str gE.bW,i64 gE.bX,gE.dB.val,gE.eC.val,gE.gB.val,.slice none 0 0,.slice none 0 0,.slice none 0 0,i64 0]) rfl (by kernel_rfl)) ?_
 refine dJ fun Y4=>ZX ?_
 refine VL.mR (⟨none,0,[]⟩:Sv bY) 59 ⟨rfl,rfl⟩ ?_
 refine VL.aAM (s:=(⟨none,0,[]⟩:Sv bY)) rfl ?_
 refine VL.YW Y4 (cs':=[gE.work.val,gE.index.val,gE.refs.val,str gE.cB,i64 gE.cA,str gE.fE,i64 gE.eM,str gE.fF,gE.cZ.val,gE.eA.val,i64 gE.eX,str gE.dM,str gE.bW,i64 gE.bX,gE.dB.val,gE.eC.val,gE.gB.val,(⟨none,0,[]⟩:Sv bY).val,(⟨none,0,[]⟩:Sv bH).val,(⟨none,0,[]⟩:Sv bH).val,i64 0]) rfl ?_
 refine y7 hS (P8 cD a3B bF a3A Y4 (⟨gE.work,gE.index,gE.refs,gE.cB,gE.cA,gE.fE,gE.eM,gE.fF,gE.cZ,gE.eA,gE.eX,gE.dM,gE.bW,gE.bX,gE.dB,gE.eC,gE.gB,(⟨none,0,[]⟩:Sv bY),(⟨none,0,[]⟩:Sv bH),(⟨none,0,[]⟩:Sv bH),0⟩:aM) hG) fun ⟨aJS,a3I,wH⟩ hS => ?_
 try dsimp only
 refine ZX ?_
 refine VL.shut wH.bC 59 (fun h m=>dV.out (X:=rK wH.bC.l) h m) ?_
 refine fR hS rfl fun aXY hS=>ZO ?_
 refine Zl ?_
 refine VC.aV [1,2,3] (Zq ?_)
 refine iB [(0,true),(2,true),(1,false),(3,false),(4,true),(5,true),(6,false)] ?_
 refine ZX ?_
 refine VD.one rfl (y7 hS (IM cD a3I bF aJS) fun ⟨aB0,aX7,aX8⟩ hS => ?_)
 try dsimp only
 refine eO (Pk 2 Pz) ?_
 refine VD.one rfl (y7 hS (IM cD aX8 bF aX7) fun ⟨aB4,bAm,aXb⟩ hS => ?_)
 try dsimp only
 refine eV ?_
 refine Zw rfl (cG (vs:=[(0,aB0.val),(1,aB4.val)]) (cs := #[aB0.val,aB4.val]) rfl (by kernel_rfl)) ?_
 refine ZX ?_
 refine VD.one rfl (ZX ?_)
 refine eV ?_
 refine ZX ?_
 refine fM hS rfl fun ⟨aXg,aGS⟩ hS => ?_
 try dsimp only
 refine ZO ?_
 refine Zl ?_
 refine VC.aV [2,3] (cI (ZO ?_))
 refine Zl ?_
 refine VC.shut aB0 9 (fun _ _ _ _=>trivial) ?_
 refine VC.shut aB4 9 (fun _ _ _ _=>trivial) ?_
 cases hS
 exact VC.ret (Z4 (⟨wH.aY,wH.aU,wH.bA,wH.aI,wH.aG,wH.aS,wH.aO,wH.aT,wH.aN,wH.aP,wH.aQ,wH.aK,wH.aD,wH.aE,wH.aL,wH.aR,wH.aX,aXY,aB0,aB4,aXg⟩,⟨aGS.b,aGS.at_,aGS.err⟩,⟨aXb.bad⟩) rfl)
instance aAA (vQ:Nat) (jD:bV) :
 gF Tryz.prog 130 [ptr vQ 0] (Sh.B2 jD.pl) (jD.b.ok.and (jD.err.ok.and (Cells vQ 0 [jD.b.val,i64 jD.at_,jD.err.val]))) (fun r=>i64 r):=by
 refine gM Tryz.func130 Tryz.ntmps130 fun r hS c => ?_
 unfold Sh.B2 at hS
 refine ZX ?_
 refine Zq (ZX ?_)
 refine Zu (z8 aEZ rfl rfl) ?_
 refine ZX ?_
 refine oD hS (fun _ hS=>ZE hS) fun h7 hS=>Zk ?_
 refine Zq ?_
 refine iB ((List.range 11).map fun k=>(k,true)) ?_
 refine ZX ?_
 refine Zw rfl (z8 aP0 rfl rfl) ?_
 refine ZX ?_
 refine Zw rfl (z8 o5 rfl rfl) ?_
 exact ZE hS
theorem LI (cD:Nat) (dX:aW) (bF:Nat) (bJ:bV) {r:cR} (hS:Sh.pJ dX bJ.pl=some r) :
 Ct Tryz.prog 76 [ptr cD 0] (bJ.b.ok.and bJ.err.ok) (Ow.star (bN bF [bJ.b.val,i64 bJ.at_,bJ.err.val] 193) (bN cD [ptr bF 0,.bool dX.bad] 148)) (X:=Er) (fun x=>x.val) (fun x=>r=x.pl) (fun x=>x.ok) (fun x=>Ow.star (bN bF [bJ.b.val,i64 bJ.at_,bJ.err.val] 193) (bN cD [ptr bF 0,.bool dX.bad] 148)):=by
 refine Zo Tryz.func76 Tryz.ntmps76 fun c => ?_
 unfold Sh.pJ at hS
 refine ZX ?_
 refine Zq (Zb (ZX ?_))
 refine fM hS rfl fun O9 hS=>ZX ?_
 refine oD hS (fun _ hS=>ZE hS) fun h3 hS => ?_
 refine VC.cJ [] (fun (CR:Bool)=>CR) (fun CR ρ=>(15,.bool CR)::ρ) hS ?_ ?_
 ·
  intro k4 hS
  refine Zr (Zm (Zu (mH rfl) (Zu (bU aHm rfl) (Zu (lB LU rfl rfl) (Zm ?_)))))
  refine xZ 20 hS (fun _ hS=>ZE hS) fun h20 hS => ?_
  refine ZX ?_
  obtain ⟨aGy,a1D,hS⟩:=cS hS
  refine Zh (l6 ((aAA bF bJ).out a1D) rfl (fun _ _=>rfl)) ?_
  exact ZE hS
 rintro CR hS
 refine iZ hS (fun h15 hS => ?_) (fun h15 hS => ?_)
 ·
  refine ZX ?_
  cases hS
  exact VC.ret (Z1 (Er.no 2))
 refine ZX ?_
 cases hS
 exact VC.ret (Z1 .nil)
instance aTw (b_0:Sv UInt8) :
 jZ Tryz.prog 57 [b_0.val] (Sh.CN b_0.l) b_0.ok (X:=aM×Er) (fun x => .tuple #[.agg (bD.enc x.1).toArray,x.2.val]) (fun x=>(x.1.pl,x.2.pl)) (fun x=>(x.1.m.and x.2.ok)):=by
 refine j6 Tryz.func57 Tryz.ntmps57 fun r hS c => ?_
 unfold Sh.CN at hS
 refine cI (dJ fun iV=>ZX ?_)
 refine fM hS rfl fun ⟨aBd,a3G⟩ hS => ?_
 try dsimp only
 refine Zu (cG (vs:=[(0,ptr aBd 0)]) (cs := #[ptr aBd 0,.bool false]) rfl (by kernel_rfl)) ?_
 refine kU fun ZR=>ZX ?_
 refine y7 hS (S4 ZR (⟨false⟩:aW) aBd a3G) fun ⟨IE,aXW,aXX⟩ hS => ?_
 try dsimp only
 refine dJ fun bAD=>ZO ?_
 refine Zl ?_
 refine VC.aV [2,4,5] (Zq (ZX ?_))
 refine y7 hS (LI ZR aXX aBd aXW) fun aX4 hS=>ZX ?_
 refine oD hS (fun h16 hS => ?_) (fun h16 hS => ?_)
 ·
  refine cI ?_
  refine Zu (cG (vs:=[]) (cs := #[.slice none 0 0,.slice none 0 0,.slice none 0 0,str [],i64 0,str [],i64 0,str [],.slice none 0 0,.slice none 0 0,i64 0,str [],str [],i64 0,.slice none 0 0,.slice none 0 0,.slice none 0 0,.slice none 0 0,.slice none 0 0,.slice none 0 0,i64 0]) rfl (by kernel_rfl)) ?_
  refine ZX ?_
  cases hS
  exact VC.ret (Z4 (⟨⟨none,0,[]⟩,⟨none,0,[]⟩,⟨none,0,[]⟩,[],0,[],0,[],⟨none,0,[]⟩,⟨none,0,[]⟩,0,[],[],0,⟨none,0,[]⟩,⟨none,0,[]⟩,⟨none,0,[]⟩,⟨none,0,[]⟩,⟨none,0,[]⟩,⟨none,0,[]⟩,0⟩,aX4) rfl)
 refine ZX ?_
 cases hS
 exact VC.ret (Z4 (IE,.nil) rfl)
instance aG6 (aA:aM) :
 jZ Tryz.prog 29 [.agg (aJ aA).toArray] (Sh.nB aA.pl) aA.m (X:=aM) (fun x => .agg (bD.enc x).toArray) (fun x=>x.pl) (fun x=>x.m):=by
 refine j6 Tryz.func29 Tryz.ntmps29 fun r hS c => ?_
 unfold Sh.nB at hS
 refine cI ?_
 refine qA (aJ aA) fun hG => ?_
 refine dJ fun C4=>ZX ?_
 refine fR hS rfl fun a3E hS=>fR hS rfl fun ⟨KJ,bCB⟩ hS => ?_
 try dsimp only
 refine ZX ?_
 exact dJ fun bDL=>ZE hS
theorem aJE (s v:Sv aC) (i:Int) (hi:0≤i∧i≤(s.l.length:Int)) (hv:v.l≠[]) (hb:s.l.length+v.l.length≤4294967296):Ct Tryz.prog 67 [s.val,i64 i,v.val] Mo.tt (Ow.star (s.own 78) (v.own 78)) (X:=Sv aC) (fun q=>q.val) (fun q=>q.l=s.l.take i.toNat++v.l++s.l.drop i.toNat) (fun q=>Mo.tt) (fun q=>q.own 78):=by
 refine Zo Tryz.func67 Tryz.ntmps67 fun c => ?_
 have hvp:0 < v.l.length:=List.length_pos_iff.2 hv
 have hK:bD.sz aC=3:=rfl
 refine ZX ?_
 refine VL.fits (s:=s) (e:=78) Fo.out fun hf => ?_
 refine Zu (F3 (s:=s) Tryz.underlying26 kN rfl rfl hi.1 hi.2 hf) ?_
 refine ZX ?_
 refine Zq (ZX ?_)
 refine VC.nV rfl (fun h16=>absurd h16 (by omega)) (fun h16 => ?_)
 refine ZX ?_
 refine Zq (ZX ?_)
 refine VC.nV rfl (fun h22 => ?_) (fun h22 => ?_)
 ·
  refine ZX ?_
  refine VL.shut v 78 (fun _ _ _ _=>trivial) ?_
  refine VL.aOt (s:=s) (r:=v) Tryz.underlying26 Tryz.underlying25 aIp (by decide) rfl Fo.out (ap1 hb) (ap2 hb (by decide)) (by decide) (fun q hq => ?_)
  refine ZX ?_
  have e1:i.toNat=s.l.length:=by omega
  exact VC.ret (HV (.inr rfl) rfl rfl q rfl (by rw [hq,e1,List.take_length,List.drop_length,List.append_nil]) (fun _ _=>trivial) fK.out)
 have hin:i < (s.l.length:Int):=by omega
 have hne:s.l≠[]:=fun h=>by rw [h] at hin; simp at hin; omega
 have hkq:(s.l.length:Int)+(v.l.length:Int) - i=((s.l.length+v.l.length - i.toNat:Nat):Int):=by omega
 have hLn:(s.l.take i.toNat++v.l++s.l.drop i.toNat).length=s.l.length+v.l.length:=by simp only [List.length_append,List.length_take,List.length_drop]; omega
 have hfl:(s.l.take i.toNat++v.l++s.l.drop i.toNat).flatMap bD.enc=(s.l.take i.toNat).flatMap bD.enc++v.l.flatMap bD.enc++(s.l.drop i.toNat).flatMap bD.enc:=by rw [List.flatMap_append,List.flatMap_append]
 have lA:((s.l.take i.toNat).flatMap bD.enc).length=i.toNat*3:=by rw [iD,List.length_take,hK,Nat.min_eq_left (by omega)]
 have lV:(v.l.flatMap bD.enc).length=v.l.length*3:=by rw [iD,hK]
 have lS:((s.l.drop i.toNat).flatMap bD.enc).length=(s.l.length - i.toNat)*3:=by rw [iD,List.length_drop,hK]
 refine Zk ?_
 refine Zq (ZX ?_)
 refine Zu (l5 rfl rfl ⟨by omega,by omega⟩) ?_
 refine Zm (Zu (aEb (a0:=s.a) (L:=s.l.length) (C:=s.c) Tryz.underlying26 rfl) ?_)
 refine ZX ?_
 refine VC.nV rfl (fun h31 => ?_) (fun h31 => ?_)
 ·
  refine VC.shut s 78 (fun _ _ _ _=>trivial) ?_
  refine VC.shut v 78 (fun _ _ _ _=>trivial) ?_
  refine cI ?_
  refine VL.DD (φ:=s.a=some ⟨s.b,s.o,none⟩) (fun h m=>(dV.out (X:=s.ok) h m).2.2.1 hne) fun hsa => ?_
  refine VL.DD (φ:=v.a=some ⟨v.b,v.o,none⟩) (fun h m=>(dV.out (X:=v.ok) h m).2.2.1 hv) fun hva => ?_
  refine ZX ?_
  refine Zu (PX (a0:=s.a) (L:=s.l.length) (C:=s.c) (K:=3) Tryz.underlying26 kN rfl rfl hi.1 (by omega)) ?_
  refine ZX ?_
  refine Zu (l5 rfl rfl ⟨by omega,by omega⟩) ?_
  refine Zm ?_
  refine Zu (N4 rfl rfl ⟨by omega,by omega⟩) ?_
  refine VL.HH 39 rfl (congrArg (Value.int .i64) hkq) ?_
  refine VL.aIT (s:=s) (L:=i.toNat) (kq:=s.l.length+v.l.length - i.toNat) Tryz.underlying26 Tryz.underlying3 aIp (by decide) rfl hne (by omega) (by omega) (by omega) (by omega) (by decide) (by decide) fun g cs cp hcl hcp hcm hct => ?_
  rw [hK] at hcl hct
  rw [show i.toNat+(s.l.length+v.l.length - i.toNat)=s.l.length+v.l.length by omega] at hcp ⊢
  have hfit:((s.l.take i.toNat).flatMap bD.enc).length+(v.l.flatMap bD.enc).length+((s.l.drop i.toNat).flatMap bD.enc).length≤cs.length:=by
    rw [lA,lV,lS,hcl,← Nat.add_mul,← Nat.add_mul]; exact Nat.mul_le_mul_right _ (by omega)
  have hic:=OW (V:=v.l.flatMap bD.enc) (S:=(s.l.drop i.toNat).flatMap bD.enc) (by rw [lA]; exact hct) hfit
  rw [← hfl,lA,lV,lS] at hic
  refine ZX ?_
  refine Zu (lQ (b:=g) (o:=0) (L:=s.l.length+v.l.length) (C:=cp) (K:=3) Tryz.underlying26 kN rfl rfl hi.1 (by omega) hcp (by omega) rfl) ?_
  refine Zm ?_
  refine VL.HH 44 rfl (show v.val = .slice (some ⟨v.b,v.o+0*bD.sz aC,none⟩) v.l.length v.c by unfold Sv.val; rw [hva,Nat.zero_mul]; rfl) ?_
  refine VL.E9 (src:=v.l.flatMap bD.enc) Tryz.underlying26 kN pZ.out rfl (by rw [lV]; congr 1; exact (Nat.min_eq_left (by omega)).symm) (K5 (r:=v) (by decide) hv) (pO v.l) (by rw [lV,Nat.zero_add,hcl,← Nat.add_mul]; exact Nat.mul_le_mul_right _ (by omega)) (by decide) ?_
  rw [Nat.zero_add,lV]
  refine Zl ?_
  refine Zq ?_
  refine iB [(0,true),(1,true),(2,true),(3,true),(4,true),(5,true),(6,true),(7,true),(8,false)] ?_
  refine ZX ?_
  refine Zw rfl (l5 rfl rfl ⟨by omega,by omega⟩) ?_
  refine Zw rfl (lQ (b:=g) (o:=0) (L:=s.l.length+v.l.length) (C:=cp) (K:=3) Tryz.underlying26 kN rfl rfl (by omega) (by omega) hcp (by omega) rfl) ?_
  refine ZX ?_
  refine Zw rfl (lQ (b:=s.b) (o:=s.o) (L:=s.l.length) (C:=s.c) (K:=3) Tryz.underlying26 kN (show some s.val=_ by unfold Sv.val; rw [hsa]) rfl hi.1 (by omega) hf (by omega) rfl) ?_
  refine VD.one rfl ?_
  rw [show (i+(v.l.length:Int)).toNat=i.toNat+v.l.length by omega]
  refine VL.E9 (src:=(s.l.drop i.toNat).flatMap bD.enc) Tryz.underlying26 kN pZ.out rfl (by rw [lS]; congr 1; exact (Nat.min_eq_left (by omega)).symm) (VQ (r:=s) (by decide) hne i.toNat) (pO _) (by rw [lS,Nat.zero_add,hic.1,hcl,← Nat.add_mul]; exact Nat.mul_le_mul_right _ (by omega)) (by decide) ?_
  rw [Nat.zero_add,lS,Nat.add_mul]
  refine eV ?_
  refine ZX ?_
  have ho:=fun F=>FR (F:=F) (e:=78) (b:=g) (l':=s.l.take i.toNat++v.l++s.l.drop i.toNat) (Nat.le_of_eq (hic.2.1.trans hcl).symm) (by rw [iD] at hic; exact hic.2.2) hLn hcp hcm
  exact VC.ret (HV (.inr rfl) rfl rfl ⟨some ⟨g,0,none⟩,cp,_⟩ (ho Ow.emp).1 rfl (fun _ _=>trivial) (ho _).2)
 refine ZX ?_
 refine VL.open (s:=s) (e:=78) Fo.out (by omega) fun b cs hsa hcl hct _ hcm => ?_
 rw [hK] at hcl hct
 have hctA:cs.take ((s.l.take i.toNat).flatMap bD.enc).length=(s.l.take i.toNat).flatMap bD.enc:=by
   rw [lA]
   have:cs.take (i.toNat*3)=(cs.take (s.l.length*3)).take (i.toNat*3):=by rw [List.take_take,Nat.min_eq_left (Nat.mul_le_mul_right _ (by omega))]
   rw [this,hct]
   exact rL s.l i.toNat
 have hfit:((s.l.take i.toNat).flatMap bD.enc).length+(v.l.flatMap bD.enc).length+((s.l.drop i.toNat).flatMap bD.enc).length≤cs.length:=by
   refine Nat.le_trans ?_ hcl; rw [lA,lV,lS,← Nat.add_mul,← Nat.add_mul]; exact Nat.mul_le_mul_right _ (by omega)
 have hic:=OX (V:=v.l.flatMap bD.enc) (S:=(s.l.drop i.toNat).flatMap bD.enc) hctA hfit
 rw [← hfl,lA,lV,lS] at hic
 refine ZX ?_
 refine Zu (l5 rfl rfl ⟨by omega,by omega⟩) ?_
 refine Zu (PX (a0:=s.a) (L:=s.l.length) (C:=s.c) (K:=3) Tryz.underlying26 kN rfl rfl (by omega) (by omega)) ?_
 rw [show ((s.l.length:Int)+(v.l.length:Int)).toNat=s.l.length+v.l.length by omega,hsa]
 refine ZX ?_
 refine Zq (ZX ?_)
 refine Zu (l5 rfl rfl ⟨by omega,by omega⟩) ?_
 refine Zu (lQ (b:=b) (o:=0) (L:=s.l.length+v.l.length) (C:=s.c) (K:=3) Tryz.underlying26 kN rfl rfl (by omega) (by omega) (by omega) (by omega) rfl) ?_
 refine Zu (PA (tS:=25) (tR:=4) (s:=v) (b:=b) Tryz.func115 rfl rfl (by kernel_rfl) (by kernel_rfl) Tryz.underlying25 kN rfl pZ.out (fun h=>by rw [h] at hcl; simp at hcl; omega) hv) ?_
 refine ZX ?_
 refine VC.EI rfl ?_
 refine VC.shut v 78 (fun _ _ _ _=>trivial) ?_
 refine Zq ?_
 refine iB [(0,true),(1,true),(2,true),(3,true),(4,true),(5,true),(6,true),(7,true),(8,false)] ?_
 refine ZX ?_
 refine Zw rfl (l5 rfl rfl ⟨by omega,by omega⟩) ?_
 refine Zw rfl (lQ (b:=b) (o:=0) (L:=s.l.length+v.l.length) (C:=s.c) (K:=3) Tryz.underlying26 kN rfl rfl (by omega) (by omega) (by omega) (by omega) rfl) ?_
 refine ZX ?_
 refine Zw rfl (lQ (b:=b) (o:=0) (L:=s.l.length+v.l.length) (C:=s.c) (K:=3) Tryz.underlying26 kN rfl rfl hi.1 (by omega) (by omega) (by omega) rfl) ?_
 refine VD.one rfl ?_
 rw [show (i+(v.l.length:Int)).toNat=i.toNat+v.l.length by omega,Nat.zero_add,Nat.zero_add]
 refine VL.E9 (src:=(s.l.drop i.toNat).flatMap bD.enc) Tryz.underlying26 kN pZ.out rfl (by rw [lS]; congr 1; simp only [Nat.min_def]; split <;> omega) (aAk (n:=s.l.length) hct rfl) (pO _) (by refine Nat.le_trans ?_ hcl; rw [lS,← Nat.add_mul]; exact Nat.mul_le_mul_right _ (by omega)) (by decide) ?_
 rw [lS,Nat.add_mul]
 refine eV ?_
 refine ZX ?_
 refine Zu (lQ (b:=b) (o:=0) (L:=s.l.length+v.l.length) (C:=s.c) (K:=3) Tryz.underlying26 kN rfl rfl hi.1 (by omega) (by omega) (by omega) rfl) ?_
 refine Zm ?_
 refine VL.DD (φ:=v.a=some ⟨v.b,v.o,none⟩) (fun h m=>(dV.out (X:=v.ok) h m).2.2.1 hv) fun hva => ?_
 refine VL.HH 81 rfl (show v.val = .slice (some ⟨v.b,v.o+0*bD.sz aC,none⟩) v.l.length v.c by unfold Sv.val; rw [hva,Nat.zero_mul]; rfl) ?_
 rw [Nat.zero_add]
 refine VL.E9 (src:=v.l.flatMap bD.enc) Tryz.underlying26 kN pZ.out rfl (by rw [lV]; congr 1; exact (Nat.min_eq_left (by omega)).symm) (K5 (r:=v) (by decide) hv) (pO v.l) (by rw [hic.1]; refine Nat.le_trans ?_ hcl; rw [lV,← Nat.add_mul]; exact Nat.mul_le_mul_right _ (by omega)) (by decide) ?_
 rw [lV]
 refine ZX ?_
 have ho:=fun F=>FR (F:=F) (e:=78) (b:=b) (l':=s.l.take i.toNat++v.l++s.l.drop i.toNat) (by rw [hic.2.1]; exact hcl) (by rw [iD] at hic; exact hic.2.2) hLn (by omega) hcm
 exact VC.ret (HV (.inr rfl) rfl rfl ⟨some ⟨b,0,none⟩,s.c,_⟩ (ho Ow.emp).1 rfl (fun _ _=>trivial) (ho _).2)
instance OT (dX:Sv aC) (MI:aC) :
 jZ Tryz.prog 34 [dX.val,.agg #[str MI.path,i64 MI.mode,str MI.data]] (Sh.mT dX.l MI) dX.ok (X:=Sv aC) (fun x=>x.val) (fun x=>x.l) (fun x=>x.ok):=by
 refine j6 Tryz.func34 Tryz.ntmps34 fun r hS c => ?_
 unfold Sh.mT at hS
 refine cI (kU fun uO=>ZX ?_)
 refine fM hS rfl fun CZ hS=>ZX ?_
 refine jK hS rfl fun TP hS=>ZO ?_
 refine Zl ?_
 refine VC.aV [3,5,6,7] (Zq (ZX ?_))
 refine iZ hS (fun h17 hS => ?_) (fun h17 hS => ?_)
 ·
  refine ZX ?_
  obtain ⟨aKO,aBT,aBJ,hS⟩:=gP hS
  refine Zu (lK (s:=CZ) Tryz.underlying26 kN rfl rfl aBT (bR aBT aBJ)) ?_
  refine VL.oC (s:=CZ) (T:=78) (j:=0) (vc:=[str MI.path,i64 MI.mode,str MI.data]) (⟨MI.path,MI.mode,MI.data⟩:aC) (by decide) rfl rfl aBJ rfl kN rfl rfl (Nat.le_of_ble_eq_true rfl) rfl (fun w5 hw5 haw5 hcw5 hvw5 hbw5 how5 => ?_)
  rw [← hvw5]
  replace hS:=dZ hw5 hS
  refine ZX ?_
  refine VL.shut w5 78 (fun _ _ _ _=>trivial) ?_
  exact ZE hS
 refine ZX ?_
 refine VL.aLg (α:=aC) (xs:=[.tmp 26]) (vs:=[.agg #[str MI.path,i64 MI.mode,str MI.data]]) [⟨MI.path,MI.mode,MI.data⟩] Tryz.underlying25 aPX (by decide) rfl rfl rfl rfl (by decide) (by decide) (fun a8Q a2D => ?_) (by decide)
 replace hS:=dZ a2D hS
 obtain ⟨b28,hS⟩:=bM hS
 refine VL.oE (aJE CZ a8Q TP.1 b28.1 b28.2.1 b28.2.2) rfl (by decide) ?_
 intro aQH aWc
 replace hS:=dZ aWc hS
 refine VL.shut aQH 78 (fun _ _ _ _=>trivial) ?_
 exact ZE hS
instance aYQ (aA:aM) (p_1:bH) (O0:Int) (OR:bH) :
 jZ Tryz.prog 14 [.agg (aJ aA).toArray,str p_1,i64 O0,str OR] (Sh.yS aA.pl p_1 O0 OR) (aA.m.and Gl) (X:=aM×Er) (fun x => .tuple #[.agg (bD.enc x.1).toArray,x.2.val]) (fun x=>(x.1.pl,x.2.pl)) (fun x=>(x.1.m.and x.2.ok)):=by
 refine j6 Tryz.func14 Tryz.ntmps14 fun r hS c => ?_
 unfold Sh.yS at hS
 refine cI ?_
 refine qA (aJ aA) fun Y5 => ?_
 refine dJ fun aKc=>ZX ?_
 refine Zu (cG (vs:=[(0,str p_1),(1,i64 O0),(2,str OR)]) (cs := #[str p_1,i64 O0,str OR]) rfl (by kernel_rfl)) ?_
 refine dJ fun ZR=>ZO ?_
 refine Zl ?_
 refine VC.aV [1,4,8,10] (ZX ?_)
 refine jK hS rfl fun aA4 hS=>ZX ?_
 refine dJ fun aNS=>ZO ?_
 refine Zl ?_
 refine VC.aV [1,4,8,10,12] (ZX ?_)
 refine mS hS fun bDC hS=>fR hS rfl fun bBD hS=>fR hS rfl fun bBE hS=>Za ?_
 refine Zl ?_
 refine VC.cJm [4,8,10] (fun (wZ:Er)=>wZ.pl) (fun wZ ρ=>(13,wZ.val)::ρ) (fun (wZ:Er)=>wZ.ok) hS ?_ ?_
 ·
  intro k11 hS
  refine Zb (ZX ?_)
  refine oD hS (fun _ hS=>ZE hS) fun h31 hS=>Zq ?_
  refine iB [(0,true),(1,true),(2,true),(3,true),(6,true),(7,true),(8,true),(9,true),(4,false),(5,true),(10,true),(11,true)] ?_
  refine ZX ?_
  refine VD.one rfl (fR hS rfl fun a9V hS=>eO (Pk 9 (Pk 8 (Pk 7 (Pk 6 Pz)))) ?_)
  refine ZX ?_
  refine VC.aV [4,8,10,12,13,34] (Zc hS (fun h34 hS => ?_) (fun h34 hS => ?_))
  ·
   refine Zr (ZX ?_)
   refine VL.mt (Er.no 11) [13,4,8,10] (fun _ _ h=>h) hS rfl
  refine VC.cJ [4,8,10,13] (fun (EY:Bool)=>EY) (fun EY ρ=>(47,.bool EY)::ρ) hS ?_ ?_
  ·
   intro k14 hS
   refine Zr (Zm (Zu (N2 rfl) (Zm ?_)))
   refine xZ 50 hS (fun h50 hS => ?_) (fun h50 hS => ?_)
   ·
    refine ZX ?_
    refine VL.mt (decide (64≤(aA.aY.l.length:Int))) [47,4,8,10,13] (fun _ _ h=>h) hS rfl
   exact ZE hS
  rintro EY hS
  refine iZ hS (fun h47 hS => ?_) (fun h47 hS => ?_)
  ·
   refine Zr (ZX ?_)
   refine VL.mt (Er.no 4) [13,4,8,10] (fun _ _ h=>h) hS rfl
  exact ZE hS
 rintro wZ hS
 refine Zq (ZX ?_)
 refine oD hS (fun h59 hS => ?_) (fun h59 hS => ?_)
 ·
  refine ZX ?_
  refine fR hS rfl fun aTT hS=>Zm ?_
  refine Zu (cG (vs:=[(0,str [102,105,108,101]),(1,i64 0),(2,wZ.val)]) (cs := #[str [102,105,108,101],i64 0,wZ.val]) rfl (by generalize wZ=z0; cases z0 <;> kernel_rfl)) ?_
  refine kU fun aOx => ?_
  refine VL.FB aOx ?_
  refine ZX ?_
  cases hS
  exact VC.ret (Z4 (aTT,(Er.fault aOx [102,105,108,101] 0 wZ)) rfl)
 refine ZX ?_
 refine fR hS rfl fun mY hS=>dJ fun bBe=>ZX ?_
 refine I1 hS (OT mY.aY (⟨p_1,O0,OR⟩:aC)).out fun aT3 hS=>ZO ?_
 refine Zl ?_
 refine VC.aV [8,14] (ZX ?_)
 cases hS
 exact VC.ret (Z4 (⟨aT3,mY.aU,mY.bA,mY.aI,mY.aG,mY.aS,mY.aO,mY.aT,mY.aN,mY.aP,mY.aQ,mY.aK,mY.aD,mY.aE,mY.aL,mY.aR,mY.aX,mY.bC,mY.bE,mY.aZ,mY.time⟩,.nil) rfl)
instance aOA (aA:aM) (p_1:bH) (data_2:bH) :
 jZ Tryz.prog 25 [.agg (aJ aA).toArray,str p_1,str data_2] (Sh.B7 aA.pl p_1 data_2) (aA.m.and Gl) (X:=aM) (fun x => .agg (bD.enc x).toArray) (fun x=>x.pl) (fun x=>x.m):=by
 refine j6 Tryz.func25 Tryz.ntmps25 fun r hS c => ?_
 unfold Sh.B7 at hS
 refine cI ?_
 refine qA (aJ aA) fun uO => ?_
 refine dJ fun QY=>ZX ?_
 refine fR hS rfl fun ⟨RG,aMV⟩ hS => ?_
 try dsimp only
 refine ZX ?_
 exact dJ fun aKb=>ZE hS
instance aEI (aA:bH) (rC:bH) :
 gF Tryz.prog 80 [str aA,str rC] (Sh.mJ aA rC) Mo.tt (fun r => .tuple #[str r.1,str r.2.1,.bool r.2.2]):=by
 refine gM Tryz.func80 Tryz.ntmps80 fun r hS c => ?_
 unfold Sh.mJ at hS
 refine ZX ?_
 refine Zq (ZX ?_)
 refine jK hS rfl fun dK hS=>ZX ?_
 refine VC.aV [0,1,7,12] (Zc hS (fun h12 hS => ?_) (fun h12 hS => ?_))
 ·
  refine Zq ?_
  refine iB ((List.range 12).map fun k=>(k,true)) ?_
  obtain ⟨b15,hS⟩:=bM hS
  refine ZX ?_
  obtain ⟨J5,a0j,hS⟩:=mB hS
  refine Zw rfl (PB Tryz.underlying9 rfl rfl b15.1 b15.2 a0j) ?_
  obtain ⟨b20,hS⟩:=bM hS
  obtain ⟨b21,hS⟩:=bM hS
  refine ZX ?_
  obtain ⟨aA1,aIe,hS⟩:=mB hS
  refine Zw rfl (HE Tryz.underlying9 rfl rfl b21.1 b21.2 aIe) ?_
  refine ZX ?_
  cases hS
  exact VC.ret (aF0 (.inr rfl) rfl rfl rfl rfl () rfl trivial (fun _ _=>trivial) (fun _ _=>trivial))
 refine ZX ?_
 cases hS
 exact VC.ret (aF0 (.inr rfl) rfl rfl rfl rfl () rfl trivial (fun _ _=>trivial) (fun _ _=>trivial))
instance aUY (aA:bH) (rC:bH) :
 gF Tryz.prog 45 [str aA,str rC] (Sh.wN aA rC) Mo.tt (fun r => .tuple #[str r.1,str r.2.1,.bool r.2.2]):=by
 refine gM Tryz.func45 Tryz.ntmps45 fun r hS c => ?_
 unfold Sh.wN at hS
 refine ZX ?_
 refine jK hS rfl fun aHK hS=>ZX ?_
 cases hS
 exact VC.ret (aF0 (.inr rfl) rfl rfl rfl rfl () rfl trivial (fun _ _=>trivial) (fun _ _=>trivial))
instance aZz (w_0:Sv bH) :
 gF Tryz.prog 138 [w_0.val] (Sh.xD w_0.l) w_0.ok (fun r=>str r):=by
 refine gM Tryz.func138 Tryz.ntmps138 fun r hS c => ?_
 unfold Sh.xD at hS
 refine ZX ?_
 refine Zq (ZX ?_)
 refine Zc hS (fun _ hS=>ZE hS) fun h5 hS=>ZX ?_
 obtain ⟨aNC,aJP,aJC,hS⟩:=gP hS
 refine Zu (jA (s:=w_0) Tryz.underlying39 xE rfl rfl aJP (bR aJP aJC)) (Zu (I4  (s:=w_0) mF rfl aJC rfl) ?_)
 exact ZE hS
instance aZy (aA:bH) :
 gF Tryz.prog 139 [str aA] (Sh.I8 aA) Mo.tt (fun r => .bool r):=by
 refine gM Tryz.func139 Tryz.ntmps139 fun r hS c => ?_
 unfold Sh.I8 at hS
 refine cI (Za ?_)
 refine Zl ?_
 refine cI (Zm ?_)
 refine Zu (N3 rfl rfl) (Zm ?_)
 refine UR 5 hS (fun h5 hS => ?_) (fun h5 hS => ?_)
 ·
  refine ZX ?_
  obtain ⟨aNC,aJP,aJC,hS⟩:=gP hS
  refine Zh (yR Tryz.underlying9 rfl rfl aJP aJC) ?_
  refine Zh (N1 rfl rfl) ?_
  refine Zt ?_
  refine Zm ?_
  refine nT 10 hS (fun h10 hS => ?_) (fun h10 hS => ?_)
  ·
   refine ZX ?_
   obtain ⟨aZn,a2m,a2P,hS⟩:=gP hS
   refine Zh (yR Tryz.underlying9 rfl rfl a2m a2P) ?_
   exact ZE hS
  exact ZE hS
 exact ZE hS
instance aZx (aA:bH) :
 gF Tryz.prog 140 [str aA] (Sh.C8 aA) Mo.tt (fun r => .tuple #[i64 r.1,.bool r.2]):=by
 refine gM Tryz.func140 Tryz.ntmps140 fun r hS c => ?_
 unfold Sh.C8 at hS
 refine ZX ?_
 refine Zq ?_
 refine VC.cJ [0] (fun (aDZ:Bool)=>aDZ) (fun aDZ ρ=>(23,.bool aDZ)::ρ) hS ?_ ?_
 ·
  intro k2 hS
  refine Zr (Zm (Zs (Zm ?_)))
  refine nT 9 hS (fun _ hS=>ZE hS) fun h9 hS => ?_
  refine Zg ?_
  refine Zh (zS Tryz.underlying9 rfl) ?_
  refine Zh (zC rfl rfl) ?_
  refine Zf ?_
  refine Zm ?_
  refine nT 14 hS (fun _ hS=>ZE hS) fun h14 hS => ?_
  refine Zg ?_
  refine Zh (zS Tryz.underlying9 rfl) ?_
  refine Zh (zC rfl rfl) ?_
  refine Zg ?_
  refine nT 18 hS (fun h18 hS => ?_) (fun h18 hS => ?_)
  ·
   refine ZX ?_
   obtain ⟨aOe,a2r,a2T,hS⟩:=gP hS
   refine Zh (yR Tryz.underlying9 rfl rfl a2r a2T) ?_
   refine ZX ?_
   refine VL.mt (decide ((aOe.toNat:Int)=48)) [23,0] (fun _ _ h=>h) hS rfl
  exact ZE hS
 rintro aDZ hS
 refine iZ hS (fun _ hS=>ZE hS) fun h23 hS => ?_
 obtain ⟨b25,hS⟩:=bM hS
 refine ZX ?_
 refine Zq (ZX ?_)
 refine VL.s2b Tryz.underlying9 Tryz.underlying67 Tryz.underlying5 rfl b25 (by decide) fun bCy a2B => ?_
 replace hS:=dZ a2B hS
 refine ZX ?_
 refine Zb ?_
 refine VC.iJ [25,26] (fun (sg:Int×Int)=>(sg.1,sg.2)) (fun sg ρ=>(4,i64 sg.1)::(27,i64 sg.2)::ρ) (0,0) [4,27,25,26] hS ?_
 rintro ⟨NQ,AK⟩ m1 y1 hS hK1
 refine ZX ?_
 refine Zq (Zc hS (fun h28 hS => ?_) (fun h28 hS => ?_))
 ·
  refine Zk ?_
  refine Zq (Zb (cI (yH hS rfl fun TX bBs hS=>ZX ?_)))
  refine Zq ?_
  refine VC.cJ [4,6,25,26,27] (fun (aD8:Bool)=>aD8) (fun aD8 ρ=>(36,.bool aD8)::ρ) hS ?_ ?_
  ·
   intro k10 hS
   refine Zr (Zm (Zu (rW rfl rfl) (Zm ?_)))
   refine nT 33 hS (fun _ hS=>ZE hS) fun h33 hS => ?_
   refine ZX ?_
   refine VL.mt (decide (57 < (TX.toNat:Int))) [36,4,6,25,26,27] (fun _ _ h=>h) hS rfl
  rintro aD8 hS
  refine iZ hS (fun _ hS=>ZE hS) fun h36 hS => ?_
  obtain ⟨b38,hS⟩:=bM hS
  obtain ⟨b40,hS⟩:=bM hS
  refine Zk ?_
  refine Zr (ZX ?_)
  refine Zu (aQC rfl rfl (aQX b40)) (Zu (z7 Tryz.underlying5 Tryz.underlying3 rfl) ?_)
  obtain ⟨b42,hS⟩:=bM hS
  refine ZO ?_
  refine Zl ?_
  refine VC.aV [4,25,26,27] ?_
  obtain ⟨b43,hS⟩:=bM hS
  refine Zr (ZX ?_)
  refine VL.kL (((10*NQ)+(IntKind.wrap .i64 ((TX.toNat:Int) - 48))),(AK+1)) [4,27,25,26] (fun _ _ h=>h) (go2 hS hK1) rfl
 exact ZE hS
instance aHV (aFO:Nat) (dF:n4) (w_1:Sv bH) :
 vL Tryz.prog 82 [ptr aFO 0,w_1.val] (Sh.JC dF.pl w_1.l) (dF.todo.ok.and w_1.ok) (bN aFO [str dF.verb,str dF.name,i64 dF.n,str dF.text,.bool dF.force,dF.todo.val] 83) (X:=Bool×n4) (fun x => .bool x.1) (fun x=>(x.1,x.2.pl)) (fun x=>x.2.todo.ok) (fun x=>bN aFO [str x.2.verb,str x.2.name,i64 x.2.n,str x.2.text,.bool x.2.force,x.2.todo.val] 83):=by
 refine v8 Tryz.func82 Tryz.ntmps82 fun r hS c => ?_
 unfold Sh.JC at hS
 refine cI (Za ?_)
 refine Zl ?_
 refine cI (ZO ?_)
 refine Zl ?_
 refine VC.OM [0,5,6] (fun (sg:Sv bH×Bool)=>(sg.1.l,sg.2)) (fun sg ρ=>(1,sg.1.val)::ρ) (fun sg=>sg.1.ok) aFO (fun sg=>[str dF.verb,str dF.name,i64 dF.n,str dF.text,.bool sg.2,dF.todo.val]) hS ?_ ?_
 ·
  intro k3 hS
  refine ZX ?_
  refine Zb ?_
  refine VC.cJ [0,1,5,6] (fun (aDO:Bool)=>aDO) (fun aDO ρ=>(11,.bool aDO)::ρ) hS (fun _ hS=>ZE hS) ?_
  rintro aDO hS
  refine iZ hS (fun h11 hS => ?_) (fun h11 hS => ?_)
  ·
   refine VC.cJ [0,1,5,6] (fun (CS:Bool)=>CS) (fun CS ρ=>(25,.bool CS)::ρ) hS (fun _ hS=>ZE hS) ?_
   rintro CS hS
   refine iZ hS (fun h25 hS => ?_) (fun h25 hS => ?_)
   ·
    refine iB [(0,true),(1,true),(2,true),(3,true),(4,true),(5,true),(6,true),(7,true),(8,false),(9,true)] ?_
    obtain ⟨b30,hS⟩:=bM hS
    obtain ⟨b31,hS⟩:=bM hS
    refine ZX ?_
    refine VD.a6i rfl Tryz.underlying39 xE rfl rfl b31.1 (b31.2) (by decide) fun aY5 a2H Qs31_9 => ?_
    replace hS:=dZ a2H hS
    refine ZX ?_
    refine VD.one rfl (ZX ?_)
    refine QT [(5,aY5.val),(4,i64 ((w_1.l.length:Int) - 1)),(3,i64 (w_1.l.length:Int))] (bT.cons rfl ((Qs31_9 rfl rfl)) (bT.cons rfl (N4 rfl rfl b30) (bT.cons rfl (LF (s:=w_1) Tryz.underlying39 rfl) bT.nil))) ?_
    refine ZX ?_
    refine VD.mt (aY5,true) [1,0,5,6] (fun _ _ h=>h) hS rfl
   refine VC.rY (w_1,dF.force) [1,0,5,6] (fun _ _ h=>h) hS rfl
  refine VC.rY (w_1,dF.force) [1,0,5,6] (fun _ _ h=>h) hS rfl
 rintro ⟨UD,aHh⟩ hS
 refine VC.OM [1] (fun (sg:Int×Bool×bH×Int)=>(sg.1,sg.2.1,sg.2.2.1,sg.2.2.2)) (fun sg ρ=>(5,i64 sg.1)::(6,.bool sg.2.1)::ρ) (fun sg=>Mo.tt) aFO (fun sg=>[str dF.verb,str sg.2.2.1,i64 sg.2.2.2,str dF.text,.bool aHh,dF.todo.val]) hS ?_ ?_
 ·
  intro k15 hS
  refine ZX ?_
  refine Zb ?_
  refine VC.cJ [0,1] (fun (_:Unit)=>()) (fun _ ρ=>ρ) hS ?_ ?_
  ·
   intro k16 hS
   refine Zb ?_
   refine VC.cJ [0,1] (fun (_:Unit)=>()) (fun _ ρ=>ρ) hS ?_ ?_
   ·
    intro k17 hS
    refine Zb ?_
    refine VC.cJ [0,1] (fun (_:Unit)=>()) (fun _ ρ=>ρ) hS ?_ ?_
    ·
     intro k18 hS
     refine Zb ?_
     refine VC.cJ [0,1] (fun (_:Unit)=>()) (fun _ ρ=>ρ) hS ?_ ?_
     ·
      intro k19 hS
      refine Zb (Zq (Zb (Zq (Zq (ZX ?_)))))
      refine Zc hS (fun h38 hS => ?_) (fun h38 hS => ?_)
      ·
       refine Zx ?_
       refine ZX ?_
       refine VC.aV [0,1,5,6,58] (Zc hS (fun h58 hS => ?_) (fun h58 hS => ?_))
       ·
        refine VC.lX (0,true,dF.name,dF.n) [5,6,1] (fun _ _ h=>h) hS rfl
       exact ZE hS
      refine Zk ?_
      refine VC.cJ [0,1,5,6,37] (fun (_:Unit)=>()) (fun _ ρ=>ρ) hS (fun _ hS=>ZE hS) ?_
      rintro _ hS
      refine Zq (ZX ?_)
      refine Zc hS (fun _ hS=>ZE hS) fun h45 hS=>Zk ?_
      refine Zq (ZX ?_)
      refine Zc hS (fun _ hS=>ZE hS) fun h47 hS=>Zk ?_
      refine Zq (ZX ?_)
      refine Zc hS (fun h49 hS => ?_) (fun h49 hS => ?_)
      ·
       refine Zk ?_
       refine Zc hS (fun _ hS=>ZE hS) fun h49 hS=>Zk ?_
       refine VC.aV [1,5,6] (VC.lX (0,true,dF.name,dF.n) [5,6,1] (fun _ _ h=>h) hS rfl)
      refine ZX ?_
      refine Zc hS (fun h49 hS => ?_) (fun h49 hS => ?_)
      ·
       refine Zk ?_
       refine VC.aV [0,1,5,6,49] ?_
       refine Zc hS (fun _ hS=>ZE hS) fun h49 hS=>Zk ?_
       refine VC.lX (0,true,dF.name,dF.n) [5,6,1] (fun _ _ h=>h) hS rfl
      refine ZX ?_
      refine VC.aV [0,1,5,6,37,49] (Zc hS (fun h49 hS => ?_) (fun h49 hS => ?_))
      ·
       refine Zk ?_
       refine Zc hS (fun _ hS=>ZE hS) fun h49 hS=>Zk ?_
       refine VC.lX (0,true,dF.name,dF.n) [5,6,1] (fun _ _ h=>h) hS rfl
      refine ZX ?_
      refine Zc hS (fun h49 hS => ?_) (fun h49 hS => ?_)
      ·
       refine Zk ?_
       refine Zc hS (fun _ hS=>ZE hS) fun h49 hS=>Zk ?_
       refine VC.lX (0,true,dF.name,dF.n) [5,6,1] (fun _ _ h=>h) hS rfl
      refine ZX ?_
      refine Zc hS (fun h49 hS => ?_) (fun h49 hS => ?_)
      ·
       refine Zk ?_
       refine Zc hS (fun _ hS=>ZE hS) fun h49 hS=>Zk ?_
       refine VC.lX (0,true,dF.name,dF.n) [5,6,1] (fun _ _ h=>h) hS rfl
      refine Zr (ZX ?_)
      refine Zc hS (fun _ hS=>ZE hS) fun h49 hS=>Zk ?_
      refine VC.lX (0,true,dF.name,dF.n) [5,6,1] (fun _ _ h=>h) hS rfl
     rintro _ hS
     refine Zq (ZX ?_)
     refine jK hS rfl fun KO hS=>ZO ?_
     refine Zl ?_
     refine Zr (ZO ?_)
     refine Zl ?_
     refine VC.aV [1,5,6] (VC.lX (1,(!decide (KO=[])),KO,dF.n) [5,6,1] (fun _ _ h=>h) hS rfl)
    rintro _ hS
    refine Zq (ZX ?_)
    refine jK hS rfl fun aRH hS=>jK hS rfl fun aRK hS=>Zl ?_
    refine iZ hS (fun h71 hS => ?_) (fun h71 hS => ?_)
    ·
     refine Zr (ZX ?_)
     refine jK hS rfl fun aRL hS=>jK hS rfl fun aCP hS=>ZO ?_
     refine Zl ?_
     refine VC.aV [1,5,6] (VC.lX (1,aCP.2,dF.name,aCP.1) [5,6,1] (fun _ _ h=>h) hS rfl)
    refine ZX ?_
    refine jK hS rfl fun aCR hS=>ZO ?_
    refine Zl ?_
    refine VC.aV [0,1,5] (Zr (ZO ?_))
    refine Zl ?_
    refine VC.lX (1,(!decide (aCR=[])),aCR,dF.n) [5,6,1] (fun _ _ h=>h) hS rfl
   rintro _ hS
   refine Zq (ZX ?_)
   refine jK hS rfl fun YO hS=>ZO ?_
   refine Zl ?_
   refine VC.cJ [0,1,5] (fun (RT:Bool)=>RT) (fun RT ρ=>(106,.bool RT)::ρ) hS (fun _ hS=>ZE hS) ?_
   rintro RT hS
   refine iZ hS (fun h106 hS => ?_) (fun h106 hS => ?_)
   ·
    refine Zr (ZX ?_)
    refine yH hS rfl fun aNB a9I hS=>ZX ?_
    refine jK hS rfl fun WV hS=>ZO ?_
    refine Zl ?_
    refine VC.aV [1,5,6] (VC.lX (2,WV.2,YO,WV.1) [5,6,1] (fun _ _ h=>h) hS rfl)
   refine Zr (Za ?_)
   refine Zl ?_
   refine VC.lX (2,false,YO,dF.n) [5,6,1] (fun _ _ h=>h) hS rfl
  rintro _ hS
  refine Zq (ZX ?_)
  refine Zr (ZX ?_)
  refine jK hS rfl fun aMy hS=>jK hS rfl fun WX hS=>ZO ?_
  refine Zl ?_
  refine VC.aV [1,5,6] (VC.lX (1,WX.2,dF.name,WX.1) [5,6,1] (fun _ _ h=>h) hS rfl)
 rintro ⟨aDM,aPu,F7,HO⟩ hS
 refine cI (Zm ?_)
 refine Zm ?_
 refine xZ 127 hS (fun h127 hS => ?_) (fun h127 hS => ?_)
 ·
  refine ZX ?_
  cases hS
  exact VC.ret (Z1 ((decide ((UD.l.length:Int)=aDM)),⟨dF.verb,F7,HO,dF.text,aHh,dF.todo⟩))
 refine VL.runs 6 [(4,some false)] (by kernel_rfl) ?_
 refine Zl ?_
 cases hS
 exact VC.ret (Z1 (false,⟨dF.verb,F7,HO,dF.text,aHh,dF.todo⟩))
instance a06 (aE4:bH) :
 jZ Tryz.prog 46 [str aE4] (Sh.I9 aE4) Mo.tt (X:=n4×Bool) (fun x => .tuple #[.agg (bD.enc x.1).toArray,.bool x.2]) (fun x=>(x.1.pl,x.2)) (fun x=>x.1.m):=by
 refine j6 Tryz.func46 Tryz.ntmps46 fun r hS c => ?_
 unfold Sh.I9 at hS
 refine cI (dJ fun iV=>ZX ?_)
 refine jK hS rfl fun l9 hS=>ZO ?_
 refine Zl ?_
 refine VC.aV [2,4,5,6] (ZX ?_)
 refine Zu (cG (vs:=[(0,str l9.1)]) (cs := #[str l9.1,str [],i64 0,str [],.bool false,.slice none 0 0]) rfl (by kernel_rfl)) ?_
 refine dJ fun aUi=>ZX ?_
 refine Zq ?_
 refine VC.cJ [2,5,6,7] (fun (aD0:Bool)=>aD0) (fun aD0 ρ=>(23,.bool aD0)::ρ) hS (fun _ hS=>ZE hS) ?_
 rintro aD0 hS
 refine iZ hS (fun h23 hS => ?_) (fun h23 hS => ?_)
 ·
  refine cI (ZO ?_)
  refine Zl ?_
  refine cI (Zu (rA aPP rfl rfl) ?_)
  refine Zm (Zu (N2 rfl) (Zm ?_))
  refine xZ 29 hS (fun h29 hS => ?_) (fun h29 hS => ?_)
  ·
   refine VL.runs 3 [(32,some true)] (by kernel_rfl) ?_
   refine ZX ?_
   refine VC.keep (ρ':=[(2,ptr iV 0),(3,.bool true)]) [2,3] rfl ?_
   cases hS
   exact VC.ret (Z4 (⟨l9.1,[],0,l9.2.1,false,⟨none,0,[]⟩⟩,true) rfl)
  refine ZX ?_
  cases hS
  exact VC.ret (Z4 (⟨l9.1,[],0,l9.2.1,false,⟨none,0,[]⟩⟩,(!decide (l9.2.1=[]))) rfl)
 refine Zk ?_
 refine cI (Za ?_)
 refine Zl ?_
 refine VC.cJm [2,7] (fun (aBw:Sv bH)=>aBw.l) (fun aBw ρ=>(8,aBw.val)::ρ) (fun (aBw:Sv bH)=>aBw.ok) hS ?_ ?_
 ·
  intro k7 hS
  refine ZX ?_
  refine iZ hS (fun _ hS=>ZE hS) fun h33 hS=>VC.rY ⟨none,0,[]⟩ [8,2,7] (fun _ _ h=>h) hS rfl
 rintro aBw hS
 refine ZX ?_
 refine VL.YW aUi (cs':=[str l9.1,str [],i64 0,str [],.bool false,(⟨none,0,[]⟩:Sv bK).val]) rfl ?_
 refine y7 hS (aHV aUi (⟨l9.1,[],0,[],false,(⟨none,0,[]⟩:Sv bK)⟩:n4) aBw).out fun ⟨aXz,RL⟩ hS => ?_
 try dsimp only
 refine ZX ?_
 cases hS
 exact VC.ret (Z4 (⟨RL.verb,RL.name,RL.n,RL.text,RL.force,RL.todo⟩,aXz) rfl)
instance aZw  :
 jZ Tryz.prog 53 [] Sh.C7 Mo.tt (X:=Sv bH) (fun x=>x.val) (fun x=>x.l) (fun x=>x.ok):=by
 refine j6 Tryz.func53 Tryz.ntmps53 fun r hS c => ?_
 unfold Sh.C7 at hS
 exact ZE hS
instance JV (aA:Sv bH) (v_1:bH) :
 gF Tryz.prog 52 [aA.val,str v_1] (Sh.gS aA.l v_1) aA.ok (fun r=>i64 r):=by
 refine gM Tryz.func52 Tryz.ntmps52 fun r hS c => ?_
 unfold Sh.gS at hS
 refine ZX ?_
 refine Zq (ZX ?_)
 refine Zb ?_
 refine VC.iJ [0,1,7] (fun (dL:Int)=>dL) (fun dL ρ=>(8,i64 dL)::ρ) 0 [8,0,1,7] hS ?_
 rintro dL m1 y1 hS hK1
 exact ZE hS
instance a0A (aEf:bH) :
 gF Tryz.prog 47 [str aEf] (Sh.BA aEf) Mo.tt (fun r=>i64 r):=by
 refine gM Tryz.func47 Tryz.ntmps47 fun r hS c => ?_
 unfold Sh.BA at hS
 exact ZE hS
instance KD (dF:n4) (SF:Er) :
 jZ Tryz.prog 48 [.agg #[str dF.verb,str dF.name,i64 dF.n,str dF.text,.bool dF.force,dF.todo.val],SF.val] (Sh.xC dF.pl SF.pl) (dF.todo.ok.and SF.ok) (X:=Er) (fun x=>x.val) (fun x=>x.pl) (fun x=>x.ok):=by
 refine j6 Tryz.func48 Tryz.ntmps48 fun r hS c => ?_
 unfold Sh.xC at hS
 refine cI (kU fun iV=>ZX ?_)
 refine jK hS rfl fun rJ hS=>Zm ?_
 refine Zu (cG (vs:=[(0,str [99,109,100]),(1,i64 rJ),(2,SF.val)]) (cs := #[str [99,109,100],i64 rJ,SF.val]) rfl (by generalize SF=z0; cases z0 <;> kernel_rfl)) ?_
 refine kU fun ZR => ?_
 refine VL.FB ZR ?_
 refine ZX ?_
 cases hS
 exact VC.ret (Z1 (Er.fault ZR [99,109,100] rJ SF))
instance FY (aA:bH) (dI:Int) :
 gF Tryz.prog 141 [str aA,.int .u8 dI] (Sh.nL aA dI) Mo.tt (fun r=>str r):=by
 refine gM Tryz.func141 Tryz.ntmps141 fun r hS c => ?_
 unfold Sh.nL at hS
 refine ZX ?_
 refine Zq (Zb ?_)
 refine VC.iJ [1] (fun (rH:bH)=>rH) (fun rH ρ=>(0,str rH)::ρ) aA [0,1] hS ?_
 rintro rH m1 y1 hS hK1
 refine Zq (cI (Zm ?_))
 refine Zu (zS Tryz.underlying9 rfl) (Zu (zC rfl rfl) (Zm ?_))
 refine nT 8 hS (fun h8 hS => ?_) (fun h8 hS => ?_)
 ·
  refine ZX ?_
  obtain ⟨aHM,a2l,a2N,hS⟩:=gP hS
  refine Zh (yR Tryz.underlying9 rfl rfl a2l a2N) ?_
  refine ZX ?_
  refine VC.aV [0,1,13] (Zc hS (fun h13 hS => ?_) (fun h13 hS => ?_))
  ·
   obtain ⟨b15,hS⟩:=bM hS
   refine Zk ?_
   refine Zb (Zr (Zm ?_))
   obtain ⟨FG,aAs,hS⟩:=mB hS
   refine Zu (HE Tryz.underlying9 rfl rfl b15.1 b15.2 aAs) (Za ?_)
   exact ZE hS
  exact ZE hS
 refine VL.runs 5 [(13,some false)] (by kernel_rfl) ?_
 refine Zl ?_
 refine VC.wA rfl ?_
 exact ZE hS
instance WM (aA:bH) (sQ:bH) :
 gF Tryz.prog 83 [str aA,str sQ] (Sh.r9 aA sQ) Mo.tt (fun r=>str r):=by
 refine gM Tryz.func83 Tryz.ntmps83 fun r hS c => ?_
 unfold Sh.r9 at hS
 refine ZX ?_
 refine Zq ?_
 refine VC.cJ [0,1] (fun (J0:Bool)=>J0) (fun J0 ρ=>(12,.bool J0)::ρ) hS (fun _ hS=>ZE hS) ?_
 rintro J0 hS
 refine iZ hS (fun _ hS=>ZE hS) fun h12 hS=>Zk ?_
 refine Zq ?_
 refine VC.cJ [0,1] (fun (J2:Bool)=>J2) (fun J2 ρ=>(21,.bool J2)::ρ) hS ?_ ?_
 ·
  intro k4 hS
  refine Zr (Zm (Zu (zS Tryz.underlying9 rfl) (Zu (FA rfl rfl) (Zm ?_))))
  refine nT 17 hS (fun h17 hS => ?_) (fun h17 hS => ?_)
  ·
   refine ZX ?_
   obtain ⟨OJ,aJN,aE2,hS⟩:=gP hS
   refine Zh (yR Tryz.underlying9 rfl rfl aJN aE2) ?_
   refine ZX ?_
   refine VL.mt (decide ((OJ.toNat:Int) < 128)) [21,0,1] (fun _ _ h=>h) hS rfl
  exact ZE hS
 rintro J2 hS
 refine iZ hS (fun h21 hS => ?_) (fun h21 hS => ?_)
 ·
  refine ZX ?_
  obtain ⟨aAb,aJO,aIy,hS⟩:=gP hS
  refine Zu (yR Tryz.underlying9 rfl rfl aJO aIy) ?_
  exact Zcq hS (FY aA (aAb.toNat:Int)).out fun TS hS=>ZE hS
 exact ZE hS
instance a3y (aA:bH) :
 gF Tryz.prog 145 [str aA] (Sh.M4 aA) Mo.tt (fun r => .tuple #[str r.1,str r.2]):=by
 refine gM Tryz.func145 Tryz.ntmps145 fun r hS c => ?_
 unfold Sh.M4 at hS
 refine ZX ?_
 refine jK hS rfl fun ZM hS=>ZX ?_
 refine Zq (ZX ?_)
 refine Zc hS (fun _ hS=>ZE hS) fun h8 hS=>Zk ?_
 refine Zq ?_
 refine iB ((List.range 9).map fun k=>(k,true)) ?_
 obtain ⟨b12,hS⟩:=bM hS
 refine ZX ?_
 obtain ⟨l9,a0d,hS⟩:=mB hS
 refine Zw rfl (PB Tryz.underlying9 rfl rfl b12.1 b12.2 a0d) ?_
 obtain ⟨b15,hS⟩:=bM hS
 refine ZX ?_
 obtain ⟨FG,aAs,hS⟩:=mB hS
 refine Zw rfl (HE Tryz.underlying9 rfl rfl b15.1 b15.2 aAs) ?_
 obtain ⟨uB,aAu,hS⟩:=cS hS
 refine Zw rfl (dU ((WM FG [32]).out aAu) rfl (fun _ _=>rfl)) ?_
 exact ZE hS
instance OO (aA:bH) (dI:Int) :
 gF Tryz.prog 220 [str aA,.int .u8 dI] (Sh.oW aA dI) Mo.tt (fun r=>str r):=by
 refine gM Tryz.func220 Tryz.ntmps220 fun r hS c => ?_
 unfold Sh.oW at hS
 refine ZX ?_
 refine Zq (Zb ?_)
 refine VC.iJ [1] (fun (rH:bH)=>rH) (fun rH ρ=>(0,str rH)::ρ) aA [0,1] hS ?_
 rintro rH m1 y1 hS hK1
 refine Zq (cI (Zm ?_))
 refine Zu (zS Tryz.underlying9 rfl) (Zu (zC rfl rfl) (Zm ?_))
 refine nT 8 hS (fun h8 hS => ?_) (fun h8 hS => ?_)
 ·
  obtain ⟨b12,hS⟩:=bM hS
  refine ZX ?_
  obtain ⟨BZ,a2o,aP5,hS⟩:=gP hS
  refine Zh (yR Tryz.underlying9 rfl rfl a2o aP5) ?_
  refine ZX ?_
  refine VC.aV [0,1,16] (Zc hS (fun h16 hS => ?_) (fun h16 hS => ?_))
  ·
   obtain ⟨b20,hS⟩:=bM hS
   obtain ⟨b21,hS⟩:=bM hS
   refine Zk ?_
   refine Zb (Zr (ZX ?_))
   obtain ⟨aA1,aIe,hS⟩:=mB hS
   refine Zu (PB Tryz.underlying9 rfl rfl b21.1 b21.2 aIe) (Za ?_)
   exact ZE hS
  exact ZE hS
 refine VL.runs 8 [(16,some false)] (by kernel_rfl) ?_
 refine Zl ?_
 refine VC.wA rfl ?_
 exact ZE hS
instance aUA (aA:bH) (sQ:bH) :
 gF Tryz.prog 146 [str aA,str sQ] (Sh.zI aA sQ) Mo.tt (fun r=>str r):=by
 refine gM Tryz.func146 Tryz.ntmps146 fun r hS c => ?_
 unfold Sh.zI at hS
 refine ZX ?_
 refine Zq ?_
 refine VC.cJ [0,1] (fun (J0:Bool)=>J0) (fun J0 ρ=>(12,.bool J0)::ρ) hS (fun _ hS=>ZE hS) ?_
 rintro J0 hS
 refine iZ hS (fun _ hS=>ZE hS) fun h12 hS=>Zk ?_
 refine Zq ?_
 refine VC.cJ [0,1] (fun (J2:Bool)=>J2) (fun J2 ρ=>(21,.bool J2)::ρ) hS ?_ ?_
 ·
  intro k4 hS
  refine Zr (Zm (Zu (zS Tryz.underlying9 rfl) (Zu (FA rfl rfl) (Zm ?_))))
  refine nT 17 hS (fun h17 hS => ?_) (fun h17 hS => ?_)
  ·
   refine ZX ?_
   obtain ⟨OJ,aJN,aE2,hS⟩:=gP hS
   refine Zh (yR Tryz.underlying9 rfl rfl aJN aE2) ?_
   refine ZX ?_
   refine VL.mt (decide ((OJ.toNat:Int) < 128)) [21,0,1] (fun _ _ h=>h) hS rfl
  exact ZE hS
 rintro J2 hS
 refine iZ hS (fun h21 hS => ?_) (fun h21 hS => ?_)
 ·
  refine Zq ?_
  refine iB ((List.range 8).map fun k=>(k,true)) ?_
  refine ZX ?_
  obtain ⟨aAb,aJO,aIy,hS⟩:=gP hS
  refine Zw rfl (yR Tryz.underlying9 rfl rfl aJO aIy) ?_
  obtain ⟨TS,a1E,hS⟩:=cS hS
  refine Zw rfl (dU ((OO aA (aAb.toNat:Int)).out a1E) rfl (fun _ _=>rfl)) ?_
  refine ZX ?_
  obtain ⟨aOi,a2t,a2X,hS⟩:=gP hS
  refine Zw rfl (yR Tryz.underlying9 rfl rfl a2t a2X) ?_
  obtain ⟨aHD,aIf,hS⟩:=cS hS
  refine Zw rfl (dU ((FY TS (aOi.toNat:Int)).out aIf) rfl (fun _ _=>rfl)) ?_
  exact ZE hS
 exact ZE hS
instance a0U (aA:bH) :
 gF Tryz.prog 147 [str aA] (Sh.D9 aA) Mo.tt (fun r => .tuple #[.bool r.1,.bool r.2]):=by
 refine gM Tryz.func147 Tryz.ntmps147 fun r hS c => ?_
 unfold Sh.D9 at hS
 refine ZX ?_
 refine Zq (ZX ?_)
 refine Zb ?_
 refine VC.cJ [] (fun (_:Unit)=>()) (fun _ ρ=>ρ) hS ?_ ?_
 ·
  intro k1 hS
  refine Zb (Zb (Zb (Zb ?_)))
  exact VC.cJ [] (fun (_:Unit)=>()) (fun _ ρ=>ρ) hS (fun _ hS=>ZE hS) fun _ hS=>ZE hS
 rintro _ hS
 exact ZE hS
instance aU0 (aA:bH) :
 gF Tryz.prog 148 [str aA] (Sh.EW aA) Mo.tt (fun r => .tuple #[i64 r.1,.bool r.2]):=by
 refine gM Tryz.func148 Tryz.ntmps148 fun r hS c => ?_
 unfold Sh.EW at hS
 refine ZX ?_
 refine Zq ?_
 refine VC.cJ [0] (fun (aDT:Bool)=>aDT) (fun aDT ρ=>(18,.bool aDT)::ρ) hS ?_ ?_
 ·
  intro k2 hS
  refine Zr (Zm (Zs (Zm ?_)))
  refine nT 9 hS (fun _ hS=>ZE hS) fun h9 hS => ?_
  refine Zg ?_
  refine Zh (zS Tryz.underlying9 rfl) ?_
  refine Zh (zC rfl rfl) ?_
  refine Zf ?_
  refine Zm ?_
  refine nT 14 hS (fun _ hS=>ZE hS) fun h14 hS => ?_
  refine ZX ?_
  obtain ⟨aOb,a2p,a2R,hS⟩:=gP hS
  refine Zh (yR Tryz.underlying9 rfl rfl a2p a2R) ?_
  refine ZX ?_
  refine VL.mt (decide ((aOb.toNat:Int)=48)) [18,0] (fun _ _ h=>h) hS rfl
 rintro aDT hS
 refine iZ hS (fun _ hS=>ZE hS) fun h18 hS => ?_
 obtain ⟨b20,hS⟩:=bM hS
 refine ZX ?_
 refine Zq (ZX ?_)
 refine VL.s2b Tryz.underlying9 Tryz.underlying67 Tryz.underlying5 rfl b20 (by decide) fun bCt a1v => ?_
 replace hS:=dZ a1v hS
 refine ZX ?_
 refine Zb ?_
 refine VC.iJ [20,21] (fun (sg:Int×Int)=>(sg.1,sg.2)) (fun sg ρ=>(4,i64 sg.1)::(22,i64 sg.2)::ρ) (0,0) [4,22,20,21] hS ?_
 rintro ⟨NQ,aDY⟩ m1 y1 hS hK1
 refine ZX ?_
 refine Zq (Zc hS (fun h23 hS => ?_) (fun h23 hS => ?_))
 ·
  refine Zk ?_
  refine Zq (Zb (cI (yH hS rfl fun cW xY hS=>ZX ?_)))
  refine Zq ?_
  refine VC.cJ [4,6,20,21,22] (fun (aD4:Bool)=>aD4) (fun aD4 ρ=>(31,.bool aD4)::ρ) hS ?_ ?_
  ·
   intro k10 hS
   refine Zr (Zm (Zu (rW rfl rfl) (Zm ?_)))
   refine nT 28 hS (fun _ hS=>ZE hS) fun h28 hS => ?_
   refine ZX ?_
   refine VL.mt (decide (57 < (cW.toNat:Int))) [31,4,6,20,21,22] (fun _ _ h=>h) hS rfl
  rintro aD4 hS
  refine iZ hS (fun _ hS=>ZE hS) fun h31 hS => ?_
  obtain ⟨b33,hS⟩:=bM hS
  obtain ⟨b35,hS⟩:=bM hS
  refine Zk ?_
  refine Zr (ZX ?_)
  refine Zu (aQC rfl rfl (aQX b35)) (Zu (z7 Tryz.underlying5 Tryz.underlying3 rfl) ?_)
  obtain ⟨b37,hS⟩:=bM hS
  refine ZO ?_
  refine Zl ?_
  refine VC.aV [4,20,21,22] ?_
  obtain ⟨b38,hS⟩:=bM hS
  refine Zr (ZX ?_)
  refine VL.kL (((10*NQ)+(IntKind.wrap .i64 ((cW.toNat:Int) - 48))),(aDY+1)) [4,22,20,21] (fun _ _ h=>h) (go2 hS hK1) rfl
 exact ZE hS
instance a0S (aA:bH) :
 gF Tryz.prog 84 [str aA] (Sh.JX aA) Mo.tt (fun r => .tuple #[.agg #[str r.1.verb,i64 r.1.cC,str r.1.text],i64 r.2]):=by
 refine gM Tryz.func84 Tryz.ntmps84 fun r hS c => ?_
 unfold Sh.JX at hS
 refine cI (dJ fun iV=>ZX ?_)
 refine jK hS rfl fun J5 hS=>ZX ?_
 refine Zq (ZX ?_)
 refine jK hS rfl fun J7 hS=>ZX ?_
 refine VC.aV [2,4,5,20] (Zc hS (fun h20 hS => ?_) (fun h20 hS => ?_))
 ·
  refine cI ?_
  refine Zu (cG (vs:=[]) (cs := #[str [],i64 0,str []]) rfl (by kernel_rfl)) ?_
  exact ZE hS
 refine Zk ?_
 refine Zq (ZX ?_)
 refine jK hS rfl fun aA4 hS=>ZO ?_
 refine Zl ?_
 refine VC.aV [2,4,5,6] (ZX ?_)
 refine iZ hS (fun h28 hS => ?_) (fun h28 hS => ?_)
 ·
  refine cI ?_
  refine Zu (cG (vs:=[]) (cs := #[str [],i64 0,str []]) rfl (by kernel_rfl)) ?_
  exact ZE hS
 refine ZX ?_
 refine jK hS rfl fun aA9 hS=>ZO ?_
 refine Zl ?_
 refine VC.aV [2,4,8,9,10] (ZX ?_)
 refine jK hS rfl fun aHH hS=>ZX ?_
 refine Zq (ZX ?_)
 refine VC.aV [2,4,9,10,11,42] (iZ hS (fun h42 hS => ?_) (fun h42 hS => ?_))
 ·
  refine cI ?_
  refine Zu (cG (vs:=[]) (cs := #[str [],i64 0,str []]) rfl (by kernel_rfl)) ?_
  exact ZE hS
 refine Zk ?_
 refine VC.cJ [2,4,11] (fun (LL:bH)=>LL) (fun LL ρ=>(9,str LL)::ρ) hS ?_ ?_
 ·
  intro k8 hS
  refine ZX ?_
  refine Zb (ZX ?_)
  refine Zc hS (fun h49 hS => ?_) (fun h49 hS => ?_)
  ·
   refine Zq ?_
   refine VC.cJ [2,4,9,11] (fun (aDd:Bool)=>aDd) (fun aDd ρ=>(56,.bool aDd)::ρ) hS (fun _ hS=>ZE hS) ?_
   rintro aDd hS
   refine iZ hS (fun h56 hS => ?_) (fun h56 hS => ?_)
   ·
    refine cI ?_
    refine Zu (cG (vs:=[]) (cs := #[str [],i64 0,str []]) rfl (by kernel_rfl)) ?_
    exact ZE hS
   refine ZX ?_
   refine Zc hS (fun h60 hS => ?_) (fun h60 hS => ?_)
   ·
    refine cI ?_
    refine Zu (cG (vs:=[]) (cs := #[str [],i64 0,str []]) rfl (by kernel_rfl)) ?_
    exact ZE hS
   exact ZE hS
  refine Zq (ZX ?_)
  refine jK hS rfl fun YK hS=>ZX ?_
  refine VC.aV [2,4,11,47] (oD hS (fun h47 hS => ?_) (fun h47 hS => ?_))
  ·
   refine cI ?_
   refine Zu (cG (vs:=[]) (cs := #[str [],i64 0,str []]) rfl (by kernel_rfl)) ?_
   exact ZE hS
  exact ZE hS
 rintro LL hS
 refine ZX ?_
 refine Zu (cG (vs:=[(0,str J5.1),(1,i64 aHH.1),(2,str LL)]) (cs := #[str J5.1,i64 aHH.1,str LL]) rfl (by kernel_rfl)) ?_
 exact ZE hS
instance aYl (aA:bH) :
 jZ Tryz.prog 49 [str aA] (Sh.D7 aA) Mo.tt (X:=Sv bK×Er) (fun x => .tuple #[x.1.val,x.2.val]) (fun x=>(x.1.l,x.2.pl)) (fun x=>(x.1.ok.and x.2.ok)):=by
 refine j6 Tryz.func49 Tryz.ntmps49 fun r hS c => ?_
 unfold Sh.D7 at hS
 refine ZX ?_
 refine Zq (ZX ?_)
 refine fR hS rfl fun qV hS=>ZX ?_
 refine Zb ?_
 refine VC.mR (⟨none,0,[]⟩:Sv bK) 139 ⟨rfl,rfl⟩ ?_
 refine VC.iter (S:=Sv bK×Int) (fun sg=>(sg.1.l,sg.2)) (fun sg=>[(4,sg.1.val),(10,qV.val),(11,i64 (qV.l.length:Int)),(12,i64 sg.2)]) (fun sg=>Mo.tt) (fun sg=>Ow.star (Sv.own sg.1 139) (Ow.emp)) (⟨none,0,[]⟩,0) [4,10,11,12] hS rfl ?_
 rintro ⟨ID,CQ⟩ m1 y1 hS hK1
 refine ZX ?_
 refine Zq (Zc hS (fun h13 hS => ?_) (fun h13 hS => ?_))
 ·
  refine Zk ?_
  refine Zq (Zb (ZX ?_))
  refine yH hS rfl fun aHN aP6 hS=>ZX ?_
  refine jK hS rfl fun J6 hS=>Za ?_
  refine Zl ?_
  refine Zq (cI (Zm ?_))
  refine Zs ?_
  refine Zm ?_
  refine nT 21 hS (fun h21 hS => ?_) (fun h21 hS => ?_)
  ·
   refine VL.runs 4 [(25,some true)] (by kernel_rfl) ?_
   refine Zl ?_
   refine VC.keep (ρ':=[(4,ID.val),(10,qV.val),(11,i64 (qV.l.length:Int)),(12,i64 CQ),(5,i64 CQ),(6,str J6),(25,.bool true)]) [4,10,11,12,5,6,25] rfl ?_
   refine VC.EI rfl ?_
   refine Zx ?_
   obtain ⟨b50,hS⟩:=bM hS
   refine Zr (ZX ?_)
   refine VL.kL (ID,(CQ+1)) [4,10,11,12] (fun _ _ h=>h) (go2 hS hK1) rfl
  refine ZX ?_
  obtain ⟨aZr,a2s,a2V,hS⟩:=gP hS
  refine Zh (yR Tryz.underlying9 rfl rfl a2s a2V) ?_
  refine ZX ?_
  refine VC.aV [4,10,11,12,5,6,25] (Zc hS (fun h25 hS => ?_) (fun h25 hS => ?_))
  ·
   refine Zx ?_
   obtain ⟨b50,hS⟩:=bM hS
   refine Zr (ZX ?_)
   refine VL.kL (ID,(CQ+1)) [4,10,11,12] (fun _ _ h=>h) (go2 hS hK1) rfl
  refine ZX ?_
  refine jK hS rfl fun FI hS=>ZX ?_
  refine dJ fun bAH=>ZO ?_
  refine Zl ?_
  refine VC.aV [4,10,11,12,5,7,8] (Zq (ZX ?_))
  refine oD hS (fun h32 hS => ?_) (fun h32 hS => ?_)
  ·
   refine ZX ?_
   refine Zu (cG (vs:=[(0,str [108,105,110,101]),(1,i64 CQ),(2,(Er.no FI.2).val)]) (cs := #[str [108,105,110,101],i64 CQ,(Er.no FI.2).val]) rfl (by kernel_rfl)) ?_
   refine kU fun aUh => ?_
   refine VL.FB aUh ?_
   refine ZX ?_
   replace hS:=kS hS hK1
   cases hS
   exact VC.ret (Z2 (⟨none,0,[]⟩,(Er.fault aUh [108,105,110,101] CQ (Er.no FI.2))))
  refine Zk ?_
  refine Zq (ZX ?_)
  refine Zc hS (fun h41 hS => ?_) (fun h41 hS => ?_)
  ·
   refine ZX ?_
   refine Zu (cG (vs:=[(0,str [108,105,110,101]),(1,i64 32),(2,(Er.no 4).val)]) (cs := #[str [108,105,110,101],i64 32,(Er.no 4).val]) rfl (by kernel_rfl)) ?_
   refine kU fun aOw => ?_
   refine VL.FB aOw ?_
   refine ZX ?_
   replace hS:=kS hS hK1
   cases hS
   exact VC.ret (Z2 (⟨none,0,[]⟩,(Er.fault aOw [108,105,110,101] 32 (Er.no 4))))
  refine Zk ?_
  refine VC.aV [4,10,11,12,7] (Zr (ZX ?_))
  refine mS hS fun bCL hS=>HM hS fun a3e hS => ?_
  obtain ⟨b50,hS⟩:=bM hS
  refine ZX ?_
  refine Zr (ZX ?_)
  refine VL.kL (a3e,(CQ+1)) [4,10,11,12] (fun _ _ h=>h) (go2 hS hK1) rfl
 replace hS:=kS hS hK1
 refine Zx ?_
 refine ZX ?_
 refine VL.shut ID 139 (fun _ _ _ _=>trivial) ?_
 refine fR hS rfl fun aTK hS=>ZX ?_
 cases hS
 exact VC.ret (Z2 (aTK,.nil))
instance aGF (SP:bH) :
 gF Tryz.prog 149 [str SP] (Sh.AO SP) Mo.tt (fun r => .bool r):=by
 refine gM Tryz.func149 Tryz.ntmps149 fun r hS c => ?_
 unfold Sh.AO at hS
 obtain ⟨b6,hS⟩:=bM hS
 refine ZX ?_
 refine Zq (ZX ?_)
 refine VL.s2b Tryz.underlying9 Tryz.underlying67 Tryz.underlying5 rfl b6 (by decide) fun bDR a77 => ?_
 replace hS:=dZ a77 hS
 refine ZX ?_
 refine Zb ?_
 refine VC.iJ [0,6,7] (fun (WU:Int)=>WU) (fun WU ρ=>(8,i64 WU)::ρ) 0 [8,0,6,7] hS ?_
 rintro WU m1 y1 hS hK1
 refine ZX ?_
 refine Zq (Zc hS (fun h9 hS => ?_) (fun h9 hS => ?_))
 ·
  refine Zk ?_
  refine Zq (Zb (ZX ?_))
  refine yH hS rfl fun G0 aE1 hS=>ZO ?_
  refine Zl ?_
  refine VC.cJ [0,6,7,8] (fun (aD6:Bool)=>aD6) (fun aD6 ρ=>(34,.bool aD6)::ρ) hS ?_ ?_
  ·
   intro k6 hS
   refine Zr (Zm (Zu (rW rfl rfl) (Zm ?_)))
   refine nT 15 hS (fun h15 hS => ?_) (fun h15 hS => ?_)
   ·
    refine VL.runs 4 [(19,some true)] (by kernel_rfl) ?_
    refine Zg ?_
    refine Zh (FA rfl rfl) ?_
    refine Zg ?_
    refine nT 22 hS (fun _ hS=>ZE hS) fun h22 hS => ?_
    refine Zg ?_
    refine Zh (aAN rfl rfl) ?_
    refine Zg ?_
    refine UR 25 hS (fun h25 hS => ?_) (fun h25 hS => ?_)
    ·
     refine Zg ?_
     refine Zh (rW rfl rfl) ?_
     refine Zg ?_
     refine nT 28 hS (fun _ hS=>ZE hS) fun h28 hS => ?_
     refine ZX ?_
     refine VL.mt (decide (57 < (G0.toNat:Int))) [34,0,6,7,8] (fun _ _ h=>h) hS rfl
    exact ZE hS
   refine Zg ?_
   refine Zh (zC rfl rfl) ?_
   refine Zf ?_
   refine Zm ?_
   refine nT 19 hS (fun h19 hS => ?_) (fun h19 hS => ?_)
   ·
    refine Zg ?_
    refine Zh (FA rfl rfl) ?_
    refine Zg ?_
    refine nT 22 hS (fun _ hS=>ZE hS) fun h22 hS => ?_
    refine Zg ?_
    refine Zh (aAN rfl rfl) ?_
    refine Zg ?_
    refine UR 25 hS (fun h25 hS => ?_) (fun h25 hS => ?_)
    ·
     refine Zg ?_
     refine Zh (rW rfl rfl) ?_
     refine Zg ?_
     refine nT 28 hS (fun _ hS=>ZE hS) fun h28 hS => ?_
     refine ZX ?_
     refine VL.mt (decide (57 < (G0.toNat:Int))) [34,0,6,7,8] (fun _ _ h=>h) hS rfl
    exact ZE hS
   exact ZE hS
  rintro aD6 hS
  exact ZE hS
 exact ZE hS
end Go.Proofs.YtgdabkldgphdeaaGreatDoor
end
