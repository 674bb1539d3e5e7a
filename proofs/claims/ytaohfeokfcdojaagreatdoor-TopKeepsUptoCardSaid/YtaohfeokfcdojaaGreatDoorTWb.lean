/- Part of the proofs of: the law TopKeeps: what is changed and not committed is there, or put aside, behind every command that does not say otherwise (any acts, any line), where what is read is of bulk at most 1048576 -/
import Derived.Test.YtaohfeokfcdojaaGreatDoorTWa
set_option linter.unusedVariables false
set_option linter.unusedSimpArgs false
set_option linter.unusedSectionVars false
section
set_option linter.unusedVariables false
namespace Go.Proofs.YtaohfeokfcdojaaGreatDoor
set_option maxHeartbeats 4000000
set_option maxRecDepth 100000
set_option synthInstance.maxSize 2000
set_option synthInstance.maxHeartbeats 1000000
open Go.RowKit Go.V
open Go.S
attribute [local irreducible] Go.V.Qt Go.V.VL Go.V.VC Go.V.HA Go.S.gd Go.S.at_ Go.S.lt Go.S.jn Go.S.go Go.S.up Go.S.iter Sh.jB Sh.eM Sh.gK Sh.wY Sh.wZ Sh.pN Sh.eH Sh.fV Sh.DA Sh.nR Sh.bO Sh.cG Sh.kW Sh.jH Sh.eG Sh.fT Sh.cL Sh.gH Sh.kG Sh.yD Sh.mL Sh.mZ Sh.pI Sh.sX Sh.oJ Sh.oK Sh.oL Sh.oM Sh.mM Sh.oN Sh.mN Sh.mS Sh.rF Sh.rG Sh.oO Sh.nA Sh.lT Sh.rH Sh.uG Sh.oP Sh.nY Sh.oQ Sh.oR Sh.mT Sh.kY Sh.rK Sh.mG
instance:IfC Tryz.prog 28:=⟨⟨_,Tryz.underlying28⟩⟩
instance:UnD Tryz.prog 44 (.slice 61):=⟨Tryz.underlying44⟩
instance RE (iX:Nat) (w_0:dX) (s_1:aL) :
 uL Tryz.prog 90 [ptr iX 0,.agg (aI s_1).toArray] (Sh.rK w_0.pl s_1.pl) s_1.m (Ow.star (Sv.own w_0.eZ 5) (bM iX [w_0.eZ.val] 117)) (X:=dX) (fun x => .tuple #[]) (fun x=>x.pl) (fun x=>Mo.tt) (fun x=>Ow.star (bM iX [x.eZ.val] 117) (Sv.own x.eZ 5)):=by
 refine uV Tryz.func90 Tryz.ntmps90 fun r hS c => ?_
 unfold Sh.rK at hS
 refine cI ?_
 refine qC (aI s_1) fun rX => ?_
 refine ZX ?_
 refine Zu (oY (j:=0) (n:=17) QV rfl rfl rfl) ?_
 refine x6 hS (J6 iX w_0 (⟨s_1.aU,s_1.aS,s_1.aZ,s_1.aH,s_1.aG,s_1.aR,s_1.aM,s_1.aT,s_1.aN,s_1.aP,s_1.aO,s_1.aJ,s_1.aD,s_1.aE,s_1.aK,s_1.aQ,s_1.aW⟩:iY)).out fun BV hS=>Zl ?_
 refine Zq ?_
 refine hU [(0,true),(1,true),(2,true),(3,true),(4,true),(5,true),(6,false),(7,false)] ?_
 refine ZX ?_
 refine VD.one rfl (tE hS fun a6K hS=>eL (Pk 2 (Pk 1 Pz)) ?_)
 refine VD.one rfl (fJ hS rfl fun aKs hS=>eY ?_)
 refine xE ?_
 refine VC.bD [0,3] (Zq (ZX ?_))
 refine Zb ?_
 refine VC.iter (S:=Int×Sv UInt8) (fun sg=>(sg.1,sg.2.l)) (fun sg=>[(0,ptr iX 0),(3,ptr rX 0),(19,s_1.aX.val),(20,i64 ((s_1.aX.l.map cD.pl).length:Int)),(21,i64 sg.1)]) (fun sg=>Mo.tt) (fun sg=>Ow.star (bM iX [sg.2.val] 117) (Ow.star (bM rX (aI s_1) 49) (Ow.star (Sv.own sg.2 5) (Ow.emp)))) (0,aKs.eZ) [0,3,19,20,21] hS rfl ?_
 rintro ⟨aF7,D4⟩ m1 y1 hS hK1
 refine ZX ?_
 refine Zq (Zc hS (fun h22 hS => ?_) (fun h22 hS => ?_))
 ·
  refine Zk ?_
  refine Zq (Zb (cI ?_))
  obtain ⟨VH,aOT,aHc,hS⟩:=DT hS
  refine VL.deep VH.m aHc (fun _ q=>q) ?_
  refine Zu (jY (s:=s_1.aX) Tryz.underlying44 XX rfl rfl aOT (bQ aOT aHc)) (Zu (sR  (s:=s_1.aX) aDL rfl rfl aHc) ?_)
  refine dG fun bBY=>ZX ?_
  refine x6 hS (UU iX (⟨D4⟩:dX) VH.tree).out fun a7F hS=>Zl ?_
  refine VC.bD [0,3,19,20,21,5] (Zq ?_)
  refine hU [(0,true),(1,true),(2,true),(3,true),(4,true),(5,true),(6,false),(7,false)] ?_
  refine ZX ?_
  refine VD.one rfl (tE hS fun bAS hS=>eL (Pk 2 (Pk 1 Pz)) ?_)
  refine VD.one rfl (fJ hS rfl fun a7O hS=>eY ?_)
  refine xE ?_
  refine VC.bD [0,3,19,20,21,5] (Zq ?_)
  refine hU [(0,true),(1,true),(2,true),(3,true),(4,true),(5,false)] ?_
  refine ZX ?_
  refine VD.one rfl (fJ hS rfl fun a7S hS=>eY ?_)
  refine ZX ?_
  refine Zq ?_
  refine hU [(0,true),(1,true),(2,true),(3,true),(4,true),(5,false),(6,false)] ?_
  refine ZX ?_
  refine VD.one rfl (tE hS fun bAX hS=>eL (Pk 2 (Pk 1 Pz)) ?_)
  refine VD.one rfl (fJ hS rfl fun aGk hS=>eY ?_)
  refine xE ?_
  refine VC.bD [0,3,19,20,21,5] ?_
  refine hU [(0,true),(1,true),(2,true),(3,true),(4,true),(5,false),(6,false)] ?_
  refine ZX ?_
  refine VD.one rfl (tE hS fun bA0 hS=>eL (Pk 2 (Pk 1 Pz)) ?_)
  refine VD.one rfl (fJ hS rfl fun a7b hS=>eY ?_)
  exact ZE hS
 replace hS:=lQ hS hK1
 refine Zx ?_
 refine ZX ?_
 refine x6 hS (RF iX (⟨D4⟩:dX) s_1.bF).out fun a7g hS=>Zl ?_
 refine VC.bD [0,3] (ZX ?_)
 refine fJ hS rfl fun a7k hS=>Zl ?_
 refine hU [(0,true),(1,true),(2,true),(3,true),(4,true),(5,false),(6,false)] ?_
 refine ZX ?_
 refine VD.one rfl (tE hS fun bA5 hS=>eL (Pk 2 (Pk 1 Pz)) ?_)
 refine VD.one rfl (fJ hS rfl fun aSB hS=>eY ?_)
 cases hS
 exact VD.nil (rL (.inl rfl) rfl ⟨aSB.eZ⟩ rfl rfl (by (try dsimp only); exact dM.out) (by (try dsimp only); exact fL.out))
instance MN (aA:Sv UInt8) :
 uL Tryz.prog 127 [aA.val] (Sh.kG aA.l) aA.ok (Ow.emp) (X:=Sv UInt8) (fun x=>x.val) (fun x=>x.l) (fun x=>Mo.tt) (fun x=>Sv.own x 5):=by
 refine uV Tryz.func127 Tryz.ntmps127 fun r hS c => ?_
 unfold Sh.kG at hS
 refine ZX ?_
 refine Zq (ZX ?_)
 refine Zu (J1 (s:=aA) Tryz.underlying109 rfl) ?_
 refine Zl ?_
 refine VC.slnil (s:=aA) rfl (fun h4 => ?_) ?_
 ·
  have hS:(some [])=some r:=by
    simp [lt,gd,h4] at hS ⊢
    try exact hS
  refine cI (Za ?_)
  refine Zl ?_
  refine VC.lU (⟨none,0,[]⟩:Sv UInt8) 5 ⟨rfl,rfl⟩ ?_
  cases hS
  exact VC.ret (Z1 ⟨none,0,[]⟩)
 refine ZX ?_
 refine VL.aCq (α:=UInt8) Tryz.underlying109 a5Y (by decide) (fun KT uY AA => ?_)
 refine VL.lU KT 5 ⟨AA,uY⟩ ?_
 replace hS:=dR uY hS
 exact ZE hS
instance aFw (aA:Sv UInt8) :
 jG Tryz.prog 126 [aA.val] (Sh.nR aA.l) aA.ok (X:=Sv UInt8) (fun x=>x.val) (fun x=>x.l) (fun x=>x.ok):=by
 refine jO Tryz.func126 Tryz.ntmps126 fun r hS c => ?_
 unfold Sh.nR at hS
 obtain ⟨b8,hS⟩:=bX hS
 refine ZX ?_
 refine VL.SH Tryz.underlying109 aVF rfl rfl rfl b8.1 (b8.2) (by decide) fun NW rP => ?_
 replace hS:=dR rP hS
 exact ZE hS
instance aL5 (BO:Nat) (yN:dX) :
 uL Tryz.prog 59 [ptr BO 0] (Sh.pN yN.pl) Mo.tt (Ow.star (Sv.own yN.eZ 5) (bM BO [yN.eZ.val] 117)) (X:=Sv UInt8) (fun x=>x.val) (fun x=>x.l) (fun x=>x.ok) (fun x=>Ow.star (bM BO [yN.eZ.val] 117) (Sv.own yN.eZ 5)):=by
 refine uV Tryz.func59 Tryz.ntmps59 fun r hS c => ?_
 unfold Sh.pN at hS
 refine ZX ?_
 obtain ⟨kK,E4,hS⟩:=dU hS
 refine VL.aDK ((MN yN.eZ).out E4) rfl (by decide) ?_
 rintro DI rfl
 try dsimp only
 refine VL.shut DI 5 (fun _ _ _ _=>trivial) ?_
 exact ZE hS
instance aS0 (aA:aL) :
 jG Tryz.prog 47 [.agg (aI aA).toArray] (Sh.yD aA.pl) aA.m (X:=Sv UInt8) (fun x=>x.val) (fun x=>x.l) (fun x=>x.ok):=by
 refine jO Tryz.func47 Tryz.ntmps47 fun r hS c => ?_
 unfold Sh.yD at hS
 refine cI ?_
 refine qC (aI aA) fun iS => ?_
 refine ZX ?_
 refine dG fun oU=>ZX ?_
 refine VL.lU (⟨none,0,[]⟩:Sv UInt8) 5 ⟨rfl,rfl⟩ ?_
 refine VL.YA oU (cs':=[(⟨none,0,[]⟩:Sv UInt8).val]) rfl ?_
 exact x6 hS (RE oU (⟨(⟨none,0,[]⟩:Sv UInt8)⟩:dX) aA).out fun fW hS=>ZE hS
instance aZF (b_0:Sv UInt8) :
 uL Tryz.prog 87 [b_0.val] (Sh.DA b_0.l) b_0.ok (Ow.emp) (X:=Nat×bT) (fun x=>ptr x.1 0) (fun x=>x.2.pl) (fun x=>(x.2.b.ok.and x.2.err.ok)) (fun x=>bM x.1 [x.2.b.val,i64 x.2.at_,x.2.err.val] 205):=by
 refine uV Tryz.func87 Tryz.ntmps87 fun r hS c => ?_
 unfold Sh.DA at hS
 refine ZX ?_
 refine fJ hS rfl fun aAZ hS => ?_
 refine Zu (cA (vs:=[(0,aAZ.val)]) (cs := #[aAZ.val,i64 0,.nilIface]) rfl (by kernel_rfl)) ?_
 refine kF fun O6=>Za ?_
 refine Zl ?_
 refine VC.shut aAZ 5 (fun _ _ _ _=>trivial) ?_
 refine VC.YA O6 (cs':=[aAZ.val,i64 0,(Er.nil).val]) rfl ?_
 cases hS
 exact VC.ret (Z1 (O6,⟨aAZ,0,(Er.nil)⟩))
instance aLp (uO:Nat) (iK:bT) :
 uL Tryz.prog 241 [ptr uO 0] (Sh.wZ iK.pl) (iK.b.ok.and iK.err.ok) (bM uO [iK.b.val,i64 iK.at_,iK.err.val] 205) (X:=Int×Int×bT) (fun x => .tuple #[.int .u64 x.1,i64 x.2.1]) (fun x=>(x.1,x.2.1,x.2.2.pl)) (fun x=>(x.2.2.b.ok.and x.2.2.err.ok)) (fun x=>bM uO [x.2.2.b.val,i64 x.2.2.at_,x.2.2.err.val] 205):=by
 refine uV Tryz.func241 Tryz.ntmps241 fun r hS c => ?_
 unfold Sh.wZ at hS
 refine ZX ?_
 refine Zq (ZX ?_)
 refine Zb ?_
 refine VC.iJ [0] (fun (sg:Int×Int)=>(sg.1,sg.2)) (fun sg ρ=>(4,.int .u64 sg.1)::(7,i64 sg.2)::ρ) (0,0) [4,7,0] hS ?_
 rintro ⟨aCt,yK⟩ m1 y1 hS hK1
 refine ZX ?_
 refine Zq (Zc hS (fun h8 hS => ?_) (fun h8 hS => ?_))
 ·
  refine Zk ?_
  refine Zq (Zb (ZX ?_))
  refine Zq (Zq ?_)
  refine hU ((List.range 12).map fun k=>(k,true)) ?_
  obtain ⟨b15,hS⟩:=bX hS
  refine ZX ?_
  refine VC.bD [0,4,7,5,21] (Zc hS (fun h21 hS => ?_) (fun h21 hS => ?_))
  ·
   refine ZX ?_
   replace hS:=lQ hS hK1
   cases hS
   exact VC.ret (Z2 (0,3,⟨iK.b,iK.at_,iK.err⟩))
  refine Zk ?_
  refine Zq ?_
  refine hU ((List.range 13).map fun k=>(k,true)) ?_
  obtain ⟨b31,hS⟩:=bX hS
  refine ZX ?_
  refine aCk hS rfl fun I0 bAH hS => ?_
  refine ZD ?_
  refine xE ?_
  refine VC.bD [0,4,7,5,6] ?_
  refine VC.cJ [0,4,5,6,7] (fun (_:Unit)=>()) (fun _ ρ=>ρ) hS ?_ ?_
  ·
   intro k4 hS
   refine cI (Zm ?_)
   refine Zu (KE rfl rfl) (Zm ?_)
   refine oT 36 hS (fun h36 hS => ?_) (fun h36 hS => ?_)
   ·
    refine Zg ?_
    refine Zh (wV rfl rfl) ?_
    refine Zt ?_
    refine Zm ?_
    refine oT 40 hS (fun h40 hS => ?_) (fun h40 hS => ?_)
    ·
     refine VL.runs 7 [(47,some true)] (by kernel_rfl) ?_
     refine Zl ?_
     refine VC.keep (ρ':=[(0,ptr uO 0),(4,.int .u64 aCt),(7,i64 yK),(5,i64 yK),(6,.int .u8 (I0.toNat:Int)),(47,.bool true)]) [0,4,7,5,6,47] rfl ?_
     refine VC.DB rfl ?_
     replace hS:=lQ hS hK1
     refine Zx ?_
     refine ZX ?_
     cases hS
     exact VC.ret (Z2 (0,2,⟨iK.b,iK.at_,iK.err⟩))
    refine Zg ?_
    refine Zh (wV rfl rfl) ?_
    refine Zg ?_
    refine oT 43 hS (fun h43 hS => ?_) (fun h43 hS => ?_)
    ·
     refine ZX ?_
     refine VC.bD [0,4,7,5,6,47] (Zc hS (fun h47 hS => ?_) (fun h47 hS => ?_))
     ·
      replace hS:=lQ hS hK1
      refine Zx ?_
      refine ZX ?_
      cases hS
      exact VC.ret (Z2 (0,2,⟨iK.b,iK.at_,iK.err⟩))
     exact ZE hS
    refine ZX ?_
    refine VC.bD [0,4,7,5,6,47] ?_
    refine VC.uW rfl ?_
    exact ZE hS
   refine VL.runs 4 [(40,some false)] (by kernel_rfl) ?_
   refine Zg ?_
   refine Zh (wV rfl rfl) ?_
   refine Zg ?_
   refine oT 43 hS (fun h43 hS => ?_) (fun h43 hS => ?_)
   ·
    refine ZX ?_
    refine VC.keep (ρ':=[(0,ptr uO 0),(4,.int .u64 aCt),(7,i64 yK),(5,i64 yK),(6,.int .u8 (I0.toNat:Int)),(47,.bool (decide ((I0.toNat:Int)=0)))]) [0,4,7,5,6,47] rfl ?_
    refine Zc hS (fun h47 hS => ?_) (fun h47 hS => ?_)
    ·
     replace hS:=lQ hS hK1
     refine Zx ?_
     refine ZX ?_
     cases hS
     exact VC.ret (Z2 (0,2,⟨iK.b,iK.at_,iK.err⟩))
    exact ZE hS
   refine ZX ?_
   refine VC.keep (ρ':=[(0,ptr uO 0),(4,.int .u64 aCt),(7,i64 yK),(5,i64 yK),(6,.int .u8 (I0.toNat:Int)),(47,.bool false)]) [0,4,7,5,6,47] rfl ?_
   refine VC.uW rfl ?_
   exact ZE hS
  rintro _ hS
  refine ZX ?_
  refine Zu (aMW rfl rfl) (Zu (yW Tryz.underlying5 Tryz.underlying262 rfl) ?_)
  obtain ⟨b53,hS⟩:=bX hS
  obtain ⟨b54,hS⟩:=bX hS
  refine ZX ?_
  refine Zu (aWo rfl rfl b54) (Zu (a4k rfl rfl) (Za ?_))
  refine Zl ?_
  refine VC.bD [0,4,5,6,7] (ZX ?_)
  refine Zc hS (fun h57 hS => ?_) (fun h57 hS => ?_)
  ·
   obtain ⟨b63,hS⟩:=bX hS
   obtain ⟨b64,hS⟩:=bX hS
   refine cI (ZO ?_)
   refine Zl ?_
   refine VC.bD [4] (ZX ?_)
   replace hS:=lQ hS hK1
   cases hS
   exact VC.ret (Z2 ((XN .u64 aCt (sHl .u64 (IntKind.wrap .u64 (FN .u8 (I0.toNat:Int) 127)) (7*yK))),0,⟨iK.b,(iK.at_+(yK+1)),iK.err⟩))
  obtain ⟨b68,hS⟩:=bX hS
  refine Zk ?_
  refine Zr (ZX ?_)
  refine VL.PX ((XN .u64 aCt (sHl .u64 (IntKind.wrap .u64 (FN .u8 (I0.toNat:Int) 127)) (7*yK))),(yK+1)) [4,7,0] (fun _ _ h=>h) (go2 hS hK1) rfl
 replace hS:=lQ hS hK1
 refine Zx ?_
 refine ZX ?_
 cases hS
 exact VC.ret (Z2 (0,2,⟨iK.b,iK.at_,iK.err⟩))
instance aLo (uO:Nat) (iK:bT) (aDw:Int) (e_2:Int) :
 uL Tryz.prog 242 [ptr uO 0,i64 aDw,i64 e_2] (Sh.wY iK.pl aDw e_2) (iK.b.ok.and iK.err.ok) (bM uO [iK.b.val,i64 iK.at_,iK.err.val] 205) (X:=bT) (fun x => .tuple #[]) (fun x=>x.pl) (fun x=>(x.b.ok.and x.err.ok)) (fun x=>bM uO [x.b.val,i64 x.at_,x.err.val] 205):=by
 refine uV Tryz.func242 Tryz.ntmps242 fun r hS c => ?_
 unfold Sh.wY at hS
 refine Zr (ZX ?_)
 refine Zu (cA (vs:=[(0,str [98,121,116,101]),(1,i64 aDw),(2,(Er.no e_2).val)]) (cs := #[str [98,121,116,101],i64 aDw,(Er.no e_2).val]) rfl (by kernel_rfl)) ?_
 refine kF fun aTO => ?_
 refine VL.DV aTO ?_
 refine ZO ?_
 cases hS
 exact VL.nil (rL (.inl rfl) rfl ⟨iK.b,iK.at_,(Er.fault aTO [98,121,116,101] aDw (Er.no e_2))⟩ rfl rfl (by (try dsimp only); exact dM.out) (by (try dsimp only); exact fL.out))
instance aNb (uO:Nat) (iK:bT) :
 uL Tryz.prog 157 [ptr uO 0] (Sh.eM iK.pl) (iK.b.ok.and iK.err.ok) (bM uO [iK.b.val,i64 iK.at_,iK.err.val] 205) (X:=Int×bT) (fun x=>i64 x.1) (fun x=>(x.1,x.2.pl)) (fun x=>(x.2.b.ok.and x.2.err.ok)) (fun x=>bM uO [x.2.b.val,i64 x.2.at_,x.2.err.val] 205):=by
 refine uV Tryz.func157 Tryz.ntmps157 fun r hS c => ?_
 unfold Sh.eM at hS
 refine ZX ?_
 refine Zq (ZX ?_)
 refine qD hS (fun h10 hS => ?_) (fun h10 hS => ?_)
 ·
  refine ZX ?_
  cases hS
  exact VC.ret (Z1 (0,⟨iK.b,iK.at_,iK.err⟩))
 refine Zk ?_
 refine cI (ZO ?_)
 refine Zl ?_
 refine VC.bD [0,3] (ZX ?_)
 refine fJ hS rfl fun ⟨GQ,aKr,aFB⟩ hS => ?_
 try dsimp only
 refine ZX ?_
 refine Zq (ZX ?_)
 refine qD hS (fun h21 hS => ?_) (fun h21 hS => ?_)
 ·
  refine ZX ?_
  refine fJ hS rfl fun aFF hS=>Zl ?_
  refine VC.bD [] (ZX ?_)
  cases hS
  exact VC.ret (Z1 (0,⟨aFF.b,aFF.at_,aFF.err⟩))
 refine Zk ?_
 refine VC.bD [4] (ZX ?_)
 refine Zu (aFS rfl rfl (by decide)) ?_
 refine Zu (yW Tryz.underlying262 Tryz.underlying2 rfl) (Zm (Zu (aMW rfl rfl) (Zu (yW Tryz.underlying262 Tryz.underlying2 rfl) (Zu (a6A rfl) (Zu (aWp rfl rfl) ?_)))))
 refine ZX ?_
 cases hS
 exact VC.ret (Z1 ((M6 .i64 (IntKind.wrap .i64 (J3 .u64 GQ 1)) (IntKind.wrap .i64 (0 - (IntKind.wrap .i64 (FN .u64 GQ 1))))),⟨aFB.b,aFB.at_,aFB.err⟩))
instance aNa (uO:Nat) (iK:bT) :
 uL Tryz.prog 161 [ptr uO 0] (Sh.jB iK.pl) (iK.b.ok.and iK.err.ok) (bM uO [iK.b.val,i64 iK.at_,iK.err.val] 205) (X:=Er) (fun x=>x.val) (fun x=>x.pl) (fun x=>x.ok) (fun x=>bM uO [iK.b.val,i64 iK.at_,iK.err.val] 205):=by
 refine uV Tryz.func161 Tryz.ntmps161 fun r hS c => ?_
 unfold Sh.jB at hS
 exact ZE hS
instance aLn (uO:Nat) (iK:bT) :
 uL Tryz.prog 158 [ptr uO 0] (Sh.gK iK.pl) (iK.b.ok.and iK.err.ok) (bM uO [iK.b.val,i64 iK.at_,iK.err.val] 205) (X:=bI×bT) (fun x=>str x.1) (fun x=>(x.1,x.2.pl)) (fun x=>(x.2.b.ok.and x.2.err.ok)) (fun x=>bM uO [x.2.b.val,i64 x.2.at_,x.2.err.val] 205):=by
 refine uV Tryz.func158 Tryz.ntmps158 fun r hS c => ?_
 unfold Sh.gK at hS
 refine ZX ?_
 refine fJ hS rfl fun ⟨aKl,PK⟩ hS => ?_
 try dsimp only
 refine ZX ?_
 refine Zq (Zb (ZX ?_))
 refine VC.bD [0,3,4,12] (qD hS (fun h12 hS => ?_) (fun h12 hS => ?_))
 ·
  refine ZX ?_
  cases hS
  exact VC.ret (Z1 ([],⟨PK.b,PK.at_,PK.err⟩))
 refine ZX ?_
 refine Zc hS (fun h18 hS => ?_) (fun h18 hS => ?_)
 ·
  refine ZX ?_
  refine fJ hS rfl fun UB hS=>ZX ?_
  cases hS
  exact VC.ret (Z1 ([],⟨UB.b,UB.at_,UB.err⟩))
 refine Zq ?_
 refine hU ((List.range 13).map fun k=>(k,true)) ?_
 obtain ⟨b35,hS⟩:=bX hS
 refine ZX ?_
 refine VC.bD [0,3,4,24] (Zc hS (fun h24 hS => ?_) (fun h24 hS => ?_))
 ·
  refine ZX ?_
  refine fJ hS rfl fun aFK hS=>ZX ?_
  cases hS
  exact VC.ret (Z1 ([],⟨aFK.b,aFK.at_,aFK.err⟩))
 refine Zk ?_
 refine Zq ?_
 refine hU ((List.range 17).map fun k=>(k,true)) ?_
 obtain ⟨b53,hS⟩:=bX hS
 obtain ⟨b54,hS⟩:=bX hS
 refine ZX ?_
 refine VD.a6X rfl Tryz.underlying109 aVF rfl rfl rfl b54.1 b54.2.1 (b54.2.2) (by decide) fun aXI a0X Qs54_4 => ?_
 replace hS:=dR a0X hS
 refine Zw rfl (aWh (s:=aXI) Tryz.underlying109 Tryz.underlying5 Tryz.underlying9 rfl) ?_
 refine ZD ?_
 refine xE ?_
 refine VC.bD [0,4,5] ?_
 obtain ⟨b61,hS⟩:=bX hS
 refine cI (ZO ?_)
 refine Zl ?_
 refine VC.bD [5] (ZX ?_)
 cases hS
 exact VC.ret (Z1 (aXI.l,⟨PK.b,(PK.at_+aKl),PK.err⟩))
theorem RC (pE:Nat) (cE:Sv aC) (hO:Nat) (iW:Nat) (a_1_:aV) (dZ:Nat) (cO:bT) {r:List aC×bA} (hS:Sh.rH cE.l a_1_ cO.pl=some r) :
 Ct Tryz.prog 238 [ptr pE 0,ptr hO 0] (cO.b.ok.and cO.err.ok) (Ow.star (Sv.own cE 89) (Ow.star (bM pE [cE.val] 33) (Ow.star (bM dZ [cO.b.val,i64 cO.at_,cO.err.val] 205) (Ow.star (bM iW [ptr dZ 0,.bool a_1_.bad] 155) (bM hO [ptr iW 0] 151))))) (X:=Sv aC×bT) (fun x => .tuple #[]) (fun x=>r=(x.1.l,x.2.pl)) (fun x=>(x.2.b.ok.and x.2.err.ok)) (fun x=>Ow.star (bM pE [x.1.val] 33) (Ow.star (Sv.own x.1 89) (Ow.star (bM dZ [x.2.b.val,i64 x.2.at_,x.2.err.val] 205) (Ow.star (bM iW [ptr dZ 0,.bool a_1_.bad] 155) (bM hO [ptr iW 0] 151))))):=by
 refine Zo Tryz.func238 Tryz.ntmps238 fun c => ?_
 unfold Sh.rH at hS
 refine hU [(0,true),(1,true),(2,true),(3,true),(4,true),(6,true),(7,true),(8,true),(9,true),(11,true),(12,true),(13,true),(14,true),(5,false),(10,false),(15,false),(16,true),(17,false),(18,false),(19,false)] ?_
 refine ZX ?_
 refine VD.one rfl (fJ hS rfl fun ⟨DI,I6⟩ hS => ?_)
 try dsimp only
 refine eL (Pk 14 (Pk 13 (Pk 12 (Pk 11 (Pk 9 (Pk 8 (Pk 7 (Pk 6 (Pk 0 Pz))))))))) ?_
 refine VD.one rfl (fJ hS rfl fun ⟨JV,aKo⟩ hS => ?_)
 try dsimp only
 refine eL (Pk 14 (Pk 13 (Pk 12 (Pk 11 (Pk 0 Pz))))) ?_
 refine VD.one rfl (fJ hS rfl fun ⟨rZ,AY⟩ hS => ?_)
 try dsimp only
 refine eL (Pk 0 Pz) ?_
 refine Zw rfl (cA (vs:=[(0,str DI),(1,i64 JV),(2,str rZ)]) (cs := #[str DI,i64 JV,str rZ]) rfl (by kernel_rfl)) ?_
 refine VD.one rfl (tE hS fun aXD hS=>eL (Pk 0 Pz) ?_)
 refine VD.one rfl (XJ hS fun aM5 hS => ?_)
 refine eY ?_
 refine VD.one rfl (ZX ?_)
 refine eY ?_
 cases hS
 exact VD.nil (rL (.inl rfl) rfl (aM5,⟨AY.b,AY.at_,AY.err⟩) rfl rfl (by (try dsimp only); exact dM.out) (by (try dsimp only); exact fL.out))
theorem SV (bZ:Nat) (dO:aV) (bC:Nat) (bH:bT) (cM:Nat) (bE:Sv aC) (cN:Nat) {r:bA×aV×List aC} (hS:Sh.sX dO bH.pl bE.l=some r) :
 Ct Tryz.prog 153 [ptr bZ 0,.func (.func 238) #[] #[ptr cM 0,ptr cN 0]] (bH.b.ok.and bH.err.ok) (Ow.star (bM bC [bH.b.val,i64 bH.at_,bH.err.val] 205) (Ow.star (bM bZ [ptr bC 0,.bool dO.bad] 155) (Ow.star (Sv.own bE 89) (Ow.star (bM cM [bE.val] 33) (bM cN [ptr bZ 0] 151))))) (X:=bT×aV×Sv aC) (fun x => .tuple #[]) (fun x=>r=(x.1.pl,x.2.1,x.2.2.l)) (fun x=>(x.1.b.ok.and x.1.err.ok)) (fun x=>Ow.star (bM bC [x.1.b.val,i64 x.1.at_,x.1.err.val] 205) (Ow.star (bM bZ [ptr bC 0,.bool x.2.1.bad] 155) (Ow.star (bM cM [x.2.2.val] 33) (Ow.star (Sv.own x.2.2 89) (bM cN [ptr bZ 0] 151))))):=by
 refine Zo Tryz.func153 Tryz.ntmps153 fun c => ?_
 unfold Sh.sX at hS
 refine ZX ?_
 refine fJ hS rfl fun ⟨pQ,kC⟩ hS => ?_
 try dsimp only
 refine Za ?_
 refine Zl ?_
 refine VC.M3 [0,1,4] (fun (fC:Bool)=>fC) (fun fC ρ=>ρ) (fun (fC:Bool)=>Mo.tt) bZ (fun (fC:Bool)=>[ptr bC 0,.bool fC]) hS (fun _ hS=>ZE hS) ?_
 rintro fC hS
 refine ZX ?_
 refine Zb ?_
 refine VC.iter (S:=Int×bT×Sv aC) (fun sg=>(sg.1,sg.2.1.pl,sg.2.2.l)) (fun sg=>[(0,ptr bZ 0),(1,.func (.func 238) #[] #[ptr cM 0,ptr cN 0]),(4,i64 pQ),(5,i64 sg.1)]) (fun sg=>sg.2.1.m) (fun sg=>Ow.star (bM bC [sg.2.1.b.val,i64 sg.2.1.at_,sg.2.1.err.val] 205) (Ow.star (bM bZ [ptr bC 0,.bool fC] 155) (Ow.star (bM cM [sg.2.2.val] 33) (Ow.star (bM cN [ptr bZ 0] 151) (Ow.star (Sv.own sg.2.2 89) (Ow.emp)))))) (0,(⟨kC.b,kC.at_,kC.err⟩:bT),bE) [0,1,4,5] hS rfl ?_
 rintro ⟨nG,fK,kL⟩ m1 y1 hS hK1
 refine Zq (cI (Zm ?_))
 refine Zm (Zu (qU rfl rfl) (Zm ?_))
 refine oT 25 hS (fun h25 hS => ?_) (fun h25 hS => ?_)
 ·
  refine ZX ?_
  refine VL.guard rfl rfl ?_
  refine fJ hS rfl fun UD hS=>ZX ?_
  refine VC.bD [0,1,4,5,32] (Zc hS (fun h32 hS => ?_) (fun h32 hS => ?_))
  ·
   refine Zk ?_
   refine Zq (Zb (Zr (Zm ?_)))
   obtain ⟨oZ,KW,hS⟩:=dU hS
   refine VL.M7 (vs:=[]) (caps:=[ptr cM 0,ptr cN 0]) (RC cM kL cN bZ (⟨fC⟩:aV) bC fK KW) rfl rfl (by decide) ?_
   rintro ⟨CR,oW⟩ rfl
   try dsimp only
   obtain ⟨b34,hS⟩:=bX hS
   refine Zl ?_
   refine Zr (ZX ?_)
   refine VL.PX ((nG+1),(⟨oW.b,oW.at_,oW.err⟩:bT),CR) [0,1,4,5] (fun _ _ h=>h) (go2 hS hK1) rfl
  replace hS:=lQ hS hK1
  cases hS
  exact VC.exit (rL (.inl rfl) rfl (⟨fK.b,fK.at_,fK.err⟩,⟨fC⟩,kL) rfl rfl (by (try dsimp only); exact dM.out) (by (try dsimp only); exact fL.out))
 refine VL.runs 7 [(32,some false)] (by kernel_rfl) ?_
 refine Zl ?_
 refine VC.uW rfl ?_
 replace hS:=lQ hS hK1
 cases hS
 exact VC.exit (rL (.inl rfl) rfl (⟨fK.b,fK.at_,fK.err⟩,⟨fC⟩,kL) rfl rfl (by (try dsimp only); exact dM.out) (by (try dsimp only); exact fL.out))
theorem pV (bZ:Nat) (dO:aV) (bC:Nat) (bH:bT) {r:List aC×bA×aV} (hS:Sh.lT dO bH.pl=some r) :
 Ct Tryz.prog 155 [ptr bZ 0] (bH.b.ok.and bH.err.ok) (Ow.star (bM bC [bH.b.val,i64 bH.at_,bH.err.val] 205) (bM bZ [ptr bC 0,.bool dO.bad] 155)) (X:=Sv aC×bT×aV) (fun x=>x.1.val) (fun x=>r=(x.1.l,x.2.1.pl,x.2.2)) (fun x=>(x.1.ok.and (x.2.1.b.ok.and x.2.1.err.ok))) (fun x=>Ow.star (bM bC [x.2.1.b.val,i64 x.2.1.at_,x.2.1.err.val] 205) (bM bZ [ptr bC 0,.bool x.2.2.bad] 155)):=by
 refine Zo Tryz.func155 Tryz.ntmps155 fun c => ?_
 unfold Sh.lT at hS
 refine cI (kF fun iS=>ZX ?_)
 refine dG fun oU=>ZX ?_
 refine VL.lU (⟨none,0,[]⟩:Sv aC) 89 ⟨rfl,rfl⟩ ?_
 refine VL.YA oU (cs':=[(⟨none,0,[]⟩:Sv aC).val]) rfl ?_
 refine x6 hS (SV bZ dO bC bH oU (⟨none,0,[]⟩:Sv aC) iS) fun ⟨u6,K2,NP⟩ hS => ?_
 try dsimp only
 refine ZX ?_
 refine VL.shut NP 89 (fun _ _ _ _=>trivial) ?_
 refine fN hS rfl fun I7 hS=>ZX ?_
 cases hS
 exact VC.ret (Z1 (I7,⟨u6.b,u6.at_,u6.err⟩,⟨K2.bad⟩))
theorem MO (pE:Nat) (cE:Sv IndexEntry) (hO:Nat) (iW:Nat) (a_1_:aV) (dZ:Nat) (cO:bT) {r:List IndexEntry×bA} (hS:Sh.mZ cE.l a_1_ cO.pl=some r) :
 Ct Tryz.prog 287 [ptr pE 0,ptr hO 0] (cO.b.ok.and cO.err.ok) (Ow.star (Sv.own cE 121) (Ow.star (bM pE [cE.val] 34) (Ow.star (bM dZ [cO.b.val,i64 cO.at_,cO.err.val] 205) (Ow.star (bM iW [ptr dZ 0,.bool a_1_.bad] 155) (bM hO [ptr iW 0] 151))))) (X:=Sv IndexEntry×bT) (fun x => .tuple #[]) (fun x=>r=(x.1.l,x.2.pl)) (fun x=>(x.2.b.ok.and x.2.err.ok)) (fun x=>Ow.star (bM pE [x.1.val] 34) (Ow.star (Sv.own x.1 121) (Ow.star (bM dZ [x.2.b.val,i64 x.2.at_,x.2.err.val] 205) (Ow.star (bM iW [ptr dZ 0,.bool a_1_.bad] 155) (bM hO [ptr iW 0] 151))))):=by
 refine Zo Tryz.func287 Tryz.ntmps287 fun c => ?_
 unfold Sh.mZ at hS
 refine hU [(0,true),(1,true),(2,true),(3,true),(4,true),(6,true),(7,true),(8,true),(9,true),(11,true),(12,true),(13,true),(14,true),(16,true),(17,true),(18,true),(19,true),(21,true),(22,true),(23,true),(24,true),(26,true),(27,true),(28,true),(29,true),(5,false),(10,false),(15,false),(20,false),(25,false),(30,false),(31,true),(32,false),(33,false),(34,false)] ?_
 refine ZX ?_
 refine VD.one rfl (fJ hS rfl fun ⟨DI,I6⟩ hS => ?_)
 try dsimp only
 refine eL (Pk 29 (Pk 28 (Pk 27 (Pk 26 (Pk 24 (Pk 23 (Pk 22 (Pk 21 (Pk 19 (Pk 18 (Pk 17 (Pk 16 (Pk 14 (Pk 13 (Pk 12 (Pk 11 (Pk 9 (Pk 8 (Pk 7 (Pk 6 (Pk 0 Pz))))))))))))))))))))) ?_
 refine VD.one rfl (fJ hS rfl fun ⟨JV,aKo⟩ hS => ?_)
 try dsimp only
 refine eL (Pk 29 (Pk 28 (Pk 27 (Pk 26 (Pk 24 (Pk 23 (Pk 22 (Pk 21 (Pk 19 (Pk 18 (Pk 17 (Pk 16 (Pk 14 (Pk 13 (Pk 12 (Pk 11 (Pk 0 Pz))))))))))))))))) ?_
 refine VD.one rfl (fJ hS rfl fun ⟨rZ,AY⟩ hS => ?_)
 try dsimp only
 refine eL (Pk 29 (Pk 28 (Pk 27 (Pk 26 (Pk 24 (Pk 23 (Pk 22 (Pk 21 (Pk 19 (Pk 18 (Pk 17 (Pk 16 (Pk 0 Pz))))))))))))) ?_
 refine VD.one rfl (fJ hS rfl fun ⟨aKz,a8v⟩ hS => ?_)
 try dsimp only
 refine eL (Pk 29 (Pk 28 (Pk 27 (Pk 26 (Pk 24 (Pk 23 (Pk 22 (Pk 21 (Pk 0 Pz))))))))) ?_
 refine VD.one rfl (fJ hS rfl fun ⟨aFH,a9F⟩ hS => ?_)
 try dsimp only
 refine eL (Pk 29 (Pk 28 (Pk 27 (Pk 26 (Pk 0 Pz))))) ?_
 refine VD.one rfl (fJ hS rfl fun ⟨UF,aFI⟩ hS => ?_)
 try dsimp only
 refine eL (Pk 0 Pz) ?_
 refine Zw rfl (cA (vs:=[(0,str DI),(1,i64 JV),(2,i64 rZ),(3,str aKz),(4,i64 aFH),(5,i64 UF)]) (cs := #[str DI,i64 JV,i64 rZ,str aKz,i64 aFH,i64 UF]) rfl (by kernel_rfl)) ?_
 refine VD.one rfl (tE hS fun bBT hS=>eL (Pk 0 Pz) ?_)
 refine VD.one rfl (XJ hS fun a6T hS => ?_)
 refine eY ?_
 refine VD.one rfl (ZX ?_)
 refine eY ?_
 cases hS
 exact VD.nil (rL (.inl rfl) rfl (a6T,⟨aFI.b,aFI.at_,aFI.err⟩) rfl rfl (by (try dsimp only); exact dM.out) (by (try dsimp only); exact fL.out))
theorem OD (bZ:Nat) (dO:aV) (bC:Nat) (bH:bT) (cM:Nat) (bE:Sv IndexEntry) (cN:Nat) {r:bA×aV×List IndexEntry} (hS:Sh.oJ dO bH.pl bE.l=some r) :
 Ct Tryz.prog 153 [ptr bZ 0,.func (.func 287) #[] #[ptr cM 0,ptr cN 0]] (bH.b.ok.and bH.err.ok) (Ow.star (bM bC [bH.b.val,i64 bH.at_,bH.err.val] 205) (Ow.star (bM bZ [ptr bC 0,.bool dO.bad] 155) (Ow.star (Sv.own bE 121) (Ow.star (bM cM [bE.val] 34) (bM cN [ptr bZ 0] 151))))) (X:=bT×aV×Sv IndexEntry) (fun x => .tuple #[]) (fun x=>r=(x.1.pl,x.2.1,x.2.2.l)) (fun x=>(x.1.b.ok.and x.1.err.ok)) (fun x=>Ow.star (bM bC [x.1.b.val,i64 x.1.at_,x.1.err.val] 205) (Ow.star (bM bZ [ptr bC 0,.bool x.2.1.bad] 155) (Ow.star (bM cM [x.2.2.val] 34) (Ow.star (Sv.own x.2.2 121) (bM cN [ptr bZ 0] 151))))):=by
 refine Zo Tryz.func153 Tryz.ntmps153 fun c => ?_
 unfold Sh.oJ at hS
 refine ZX ?_
 refine fJ hS rfl fun ⟨pQ,kC⟩ hS => ?_
 try dsimp only
 refine Za ?_
 refine Zl ?_
 refine VC.M3 [0,1,4] (fun (fC:Bool)=>fC) (fun fC ρ=>ρ) (fun (fC:Bool)=>Mo.tt) bZ (fun (fC:Bool)=>[ptr bC 0,.bool fC]) hS (fun _ hS=>ZE hS) ?_
 rintro fC hS
 refine ZX ?_
 refine Zb ?_
 refine VC.iter (S:=Int×bT×Sv IndexEntry) (fun sg=>(sg.1,sg.2.1.pl,sg.2.2.l)) (fun sg=>[(0,ptr bZ 0),(1,.func (.func 287) #[] #[ptr cM 0,ptr cN 0]),(4,i64 pQ),(5,i64 sg.1)]) (fun sg=>sg.2.1.m) (fun sg=>Ow.star (bM bC [sg.2.1.b.val,i64 sg.2.1.at_,sg.2.1.err.val] 205) (Ow.star (bM bZ [ptr bC 0,.bool fC] 155) (Ow.star (bM cM [sg.2.2.val] 34) (Ow.star (bM cN [ptr bZ 0] 151) (Ow.star (Sv.own sg.2.2 121) (Ow.emp)))))) (0,(⟨kC.b,kC.at_,kC.err⟩:bT),bE) [0,1,4,5] hS rfl ?_
 rintro ⟨nG,fK,kL⟩ m1 y1 hS hK1
 refine Zq (cI (Zm ?_))
 refine Zm (Zu (qU rfl rfl) (Zm ?_))
 refine oT 25 hS (fun h25 hS => ?_) (fun h25 hS => ?_)
 ·
  refine ZX ?_
  refine VL.guard rfl rfl ?_
  refine fJ hS rfl fun UD hS=>ZX ?_
  refine VC.bD [0,1,4,5,32] (Zc hS (fun h32 hS => ?_) (fun h32 hS => ?_))
  ·
   refine Zk ?_
   refine Zq (Zb (Zr (Zm ?_)))
   obtain ⟨oZ,KW,hS⟩:=dU hS
   refine VL.M7 (vs:=[]) (caps:=[ptr cM 0,ptr cN 0]) (MO cM kL cN bZ (⟨fC⟩:aV) bC fK KW) rfl rfl (by decide) ?_
   rintro ⟨CR,oW⟩ rfl
   try dsimp only
   obtain ⟨b34,hS⟩:=bX hS
   refine Zl ?_
   refine Zr (ZX ?_)
   refine VL.PX ((nG+1),(⟨oW.b,oW.at_,oW.err⟩:bT),CR) [0,1,4,5] (fun _ _ h=>h) (go2 hS hK1) rfl
  replace hS:=lQ hS hK1
  cases hS
  exact VC.exit (rL (.inl rfl) rfl (⟨fK.b,fK.at_,fK.err⟩,⟨fC⟩,kL) rfl rfl (by (try dsimp only); exact dM.out) (by (try dsimp only); exact fL.out))
 refine VL.runs 7 [(32,some false)] (by kernel_rfl) ?_
 refine Zl ?_
 refine VC.uW rfl ?_
 replace hS:=lQ hS hK1
 cases hS
 exact VC.exit (rL (.inl rfl) rfl (⟨fK.b,fK.at_,fK.err⟩,⟨fC⟩,kL) rfl rfl (by (try dsimp only); exact dM.out) (by (try dsimp only); exact fL.out))
instance SZ (aA:Sv IndexEntry) :
 jG Tryz.prog 170 [aA.val] (Sh.cG aA.l) aA.ok (X:=Sv IndexEntry) (fun x=>x.val) (fun x=>x.l) (fun x=>x.ok):=by
 refine jO Tryz.func170 Tryz.ntmps170 fun r hS c => ?_
 unfold Sh.cG at hS
 obtain ⟨b8,hS⟩:=bX hS
 refine ZX ?_
 refine VL.SH Tryz.underlying34 kS rfl rfl rfl b8.1 (b8.2) (by decide) fun NW rP => ?_
 replace hS:=dR rP hS
 exact ZE hS
theorem tL (bZ:Nat) (dO:aV) (bC:Nat) (bH:bT) {r:List IndexEntry×bA×aV} (hS:Sh.mL dO bH.pl=some r) :
 Ct Tryz.prog 231 [ptr bZ 0] (bH.b.ok.and bH.err.ok) (Ow.star (bM bC [bH.b.val,i64 bH.at_,bH.err.val] 205) (bM bZ [ptr bC 0,.bool dO.bad] 155)) (X:=Sv IndexEntry×bT×aV) (fun x=>x.1.val) (fun x=>r=(x.1.l,x.2.1.pl,x.2.2)) (fun x=>(x.1.ok.and (x.2.1.b.ok.and x.2.1.err.ok))) (fun x=>Ow.star (bM bC [x.2.1.b.val,i64 x.2.1.at_,x.2.1.err.val] 205) (bM bZ [ptr bC 0,.bool x.2.2.bad] 155)):=by
 refine Zo Tryz.func231 Tryz.ntmps231 fun c => ?_
 unfold Sh.mL at hS
 refine cI (kF fun iS=>ZX ?_)
 refine dG fun oU=>ZX ?_
 refine VL.lU (⟨none,0,[]⟩:Sv IndexEntry) 121 ⟨rfl,rfl⟩ ?_
 refine VL.YA oU (cs':=[(⟨none,0,[]⟩:Sv IndexEntry).val]) rfl ?_
 refine x6 hS (OD bZ dO bC bH oU (⟨none,0,[]⟩:Sv IndexEntry) iS) fun ⟨u6,K2,NP⟩ hS => ?_
 try dsimp only
 refine ZX ?_
 refine VL.shut NP 121 (fun _ _ _ _=>trivial) ?_
 refine fN hS rfl fun I7 hS=>ZX ?_
 cases hS
 exact VC.ret (Z1 (I7,⟨u6.b,u6.at_,u6.err⟩,⟨K2.bad⟩))
theorem RA (pE:Nat) (cE:iY) (hO:Nat) (iW:Nat) (a_1_:aV) (dZ:Nat) (cO:bT) {r:eS×bA} (hS:Sh.rF cE.pl a_1_ cO.pl=some r) :
 Ct Tryz.prog 232 [ptr pE 0,ptr hO 0] (cE.work.ok.and (cE.index.ok.and (cE.dJ.ok.and (cE.eB.ok.and (cE.dK.ok.and (cE.eD.ok.and ((qB cE.gD.l).and (cO.b.ok.and cO.err.ok)))))))) (Ow.star (Sv.own cE.refs 182) (Ow.star (Sv.own cE.gD 128) (Ow.star (bM pE (pL cE) 43) (Ow.star (bM dZ [cO.b.val,i64 cO.at_,cO.err.val] 205) (Ow.star (bM iW [ptr dZ 0,.bool a_1_.bad] 155) (bM hO [ptr iW 0] 151)))))) (X:=iY×bT) (fun x => .tuple #[]) (fun x=>r=(x.1.pl,x.2.pl)) (fun x=>(x.1.work.ok.and (x.1.index.ok.and (x.1.dJ.ok.and (x.1.eB.ok.and (x.1.dK.ok.and (x.1.eD.ok.and ((qB x.1.gD.l).and (x.2.b.ok.and x.2.err.ok))))))))) (fun x=>Ow.star (bM pE (pL x.1) 43) (Ow.star (Sv.own x.1.refs 182) (Ow.star (Sv.own x.1.gD 128) (Ow.star (bM dZ [x.2.b.val,i64 x.2.at_,x.2.err.val] 205) (Ow.star (bM iW [ptr dZ 0,.bool a_1_.bad] 155) (bM hO [ptr iW 0] 151)))))):=by
 refine Zo Tryz.func232 Tryz.ntmps232 fun c => ?_
 unfold Sh.rF at hS
 refine hU [(0,true),(1,true),(2,true),(3,true),(4,true),(5,true),(7,true),(8,true),(9,true),(10,true),(6,false),(11,false),(12,true),(13,false),(14,false),(15,true),(16,false)] ?_
 refine ZX ?_
 refine VD.one rfl (fJ hS rfl fun ⟨NS,aO6⟩ hS => ?_)
 try dsimp only
 refine eL (Pk 10 (Pk 9 (Pk 8 (Pk 7 (Pk 1 (Pk 0 Pz)))))) ?_
 refine VD.one rfl (fJ hS rfl fun ⟨aKp,aEy⟩ hS => ?_)
 try dsimp only
 refine eL (Pk 1 (Pk 0 Pz)) ?_
 refine Zw rfl (cA (vs:=[(0,str NS),(1,i64 aKp)]) (cs := #[str NS,i64 aKp]) rfl (by kernel_rfl)) ?_
 refine VD.one rfl (tE hS fun a6G hS=>eL (Pk 1 (Pk 0 Pz)) ?_)
 refine VD.one rfl (XJ hS fun aM3 hS => ?_)
 refine eY ?_
 refine ZX ?_
 refine VD.one rfl (ZX ?_)
 refine eY ?_
 cases hS
 exact VD.nil (rL (.inl rfl) rfl (⟨cE.work,cE.index,aM3,cE.cH,cE.cB,cE.fG,cE.eO,cE.fH,cE.dJ,cE.eB,cE.fD,cE.dW,cE.bV,cE.bW,cE.dK,cE.eD,cE.gD⟩,⟨aEy.b,aEy.at_,aEy.err⟩) rfl rfl (by (try dsimp only); exact dM.out) (by (try dsimp only); exact fL.out))
theorem OE (bZ:Nat) (dO:aV) (bC:Nat) (bH:bT) (cM:Nat) (bE:iY) (cN:Nat) {r:bA×aV×eS} (hS:Sh.oK dO bH.pl bE.pl=some r) :
 Ct Tryz.prog 153 [ptr bZ 0,.func (.func 232) #[] #[ptr cM 0,ptr cN 0]] (bH.b.ok.and (bH.err.ok.and (bE.work.ok.and (bE.index.ok.and (bE.dJ.ok.and (bE.eB.ok.and (bE.dK.ok.and (bE.eD.ok.and (qB bE.gD.l))))))))) (Ow.star (bM bC [bH.b.val,i64 bH.at_,bH.err.val] 205) (Ow.star (bM bZ [ptr bC 0,.bool dO.bad] 155) (Ow.star (Sv.own bE.refs 182) (Ow.star (Sv.own bE.gD 128) (Ow.star (bM cM (pL bE) 43) (bM cN [ptr bZ 0] 151)))))) (X:=bT×aV×iY) (fun x => .tuple #[]) (fun x=>r=(x.1.pl,x.2.1,x.2.2.pl)) (fun x=>(x.1.b.ok.and (x.1.err.ok.and (x.2.2.work.ok.and (x.2.2.index.ok.and (x.2.2.dJ.ok.and (x.2.2.eB.ok.and (x.2.2.dK.ok.and (x.2.2.eD.ok.and (qB x.2.2.gD.l)))))))))) (fun x=>Ow.star (bM bC [x.1.b.val,i64 x.1.at_,x.1.err.val] 205) (Ow.star (bM bZ [ptr bC 0,.bool x.2.1.bad] 155) (Ow.star (bM cM (pL x.2.2) 43) (Ow.star (Sv.own x.2.2.refs 182) (Ow.star (Sv.own x.2.2.gD 128) (bM cN [ptr bZ 0] 151)))))):=by
 refine Zo Tryz.func153 Tryz.ntmps153 fun c => ?_
 unfold Sh.oK at hS
 refine ZX ?_
 refine fJ hS rfl fun ⟨pQ,kC⟩ hS => ?_
 try dsimp only
 refine Za ?_
 refine Zl ?_
 refine VC.M3 [0,1,4] (fun (fC:Bool)=>fC) (fun fC ρ=>ρ) (fun (fC:Bool)=>Mo.tt) bZ (fun (fC:Bool)=>[ptr bC 0,.bool fC]) hS (fun _ hS=>ZE hS) ?_
 rintro fC hS
 refine ZX ?_
 refine Zb ?_
 refine VC.iter (S:=Int×bT×Sv aC×Sv IndexEntry×Sv dP×bI×Int×bI×Int×bI×Sv bJ×Sv bJ×Int×bI×bI×Int×Sv IndexEntry×Sv aC×Sv bN) (fun sg=>(sg.1,sg.2.1.pl,sg.2.2.1.l,sg.2.2.2.1.l,sg.2.2.2.2.1.l,sg.2.2.2.2.2.1,sg.2.2.2.2.2.2.1,sg.2.2.2.2.2.2.2.1,sg.2.2.2.2.2.2.2.2.1,sg.2.2.2.2.2.2.2.2.2.1,sg.2.2.2.2.2.2.2.2.2.2.1.l,sg.2.2.2.2.2.2.2.2.2.2.2.1.l,sg.2.2.2.2.2.2.2.2.2.2.2.2.1,sg.2.2.2.2.2.2.2.2.2.2.2.2.2.1,sg.2.2.2.2.2.2.2.2.2.2.2.2.2.2.1,sg.2.2.2.2.2.2.2.2.2.2.2.2.2.2.2.1,sg.2.2.2.2.2.2.2.2.2.2.2.2.2.2.2.2.1.l,sg.2.2.2.2.2.2.2.2.2.2.2.2.2.2.2.2.2.1.l,(sg.2.2.2.2.2.2.2.2.2.2.2.2.2.2.2.2.2.2.l.map bN.pl))) (fun sg=>[(0,ptr bZ 0),(1,.func (.func 232) #[] #[ptr cM 0,ptr cN 0]),(4,i64 pQ),(5,i64 sg.1)]) (fun sg=>(sg.2.1.m.and (sg.2.2.1.ok.and (sg.2.2.2.1.ok.and (sg.2.2.2.2.2.2.2.2.2.2.1.ok.and (sg.2.2.2.2.2.2.2.2.2.2.2.1.ok.and (sg.2.2.2.2.2.2.2.2.2.2.2.2.2.2.2.2.1.ok.and (sg.2.2.2.2.2.2.2.2.2.2.2.2.2.2.2.2.2.1.ok.and (qB sg.2.2.2.2.2.2.2.2.2.2.2.2.2.2.2.2.2.2.l))))))))) (fun sg=>Ow.star (bM bC [sg.2.1.b.val,i64 sg.2.1.at_,sg.2.1.err.val] 205) (Ow.star (bM bZ [ptr bC 0,.bool fC] 155) (Ow.star (bM cM [sg.2.2.1.val,sg.2.2.2.1.val,sg.2.2.2.2.1.val,str sg.2.2.2.2.2.1,i64 sg.2.2.2.2.2.2.1,str sg.2.2.2.2.2.2.2.1,i64 sg.2.2.2.2.2.2.2.2.1,str sg.2.2.2.2.2.2.2.2.2.1,sg.2.2.2.2.2.2.2.2.2.2.1.val,sg.2.2.2.2.2.2.2.2.2.2.2.1.val,i64 sg.2.2.2.2.2.2.2.2.2.2.2.2.1,str sg.2.2.2.2.2.2.2.2.2.2.2.2.2.1,str sg.2.2.2.2.2.2.2.2.2.2.2.2.2.2.1,i64 sg.2.2.2.2.2.2.2.2.2.2.2.2.2.2.2.1,sg.2.2.2.2.2.2.2.2.2.2.2.2.2.2.2.2.1.val,sg.2.2.2.2.2.2.2.2.2.2.2.2.2.2.2.2.2.1.val,sg.2.2.2.2.2.2.2.2.2.2.2.2.2.2.2.2.2.2.val] 43) (Ow.star (bM cN [ptr bZ 0] 151) (Ow.star (Sv.own sg.2.2.2.2.1 182) (Ow.star (Sv.own sg.2.2.2.2.2.2.2.2.2.2.2.2.2.2.2.2.2.2 128) (Ow.emp))))))) (0,(⟨kC.b,kC.at_,kC.err⟩:bT),bE.work,bE.index,bE.refs,bE.cH,bE.cB,bE.fG,bE.eO,bE.fH,bE.dJ,bE.eB,bE.fD,bE.dW,bE.bV,bE.bW,bE.dK,bE.eD,bE.gD) [0,1,4,5] hS rfl ?_
 rintro ⟨nG,fK,kL,FO,aEC,aED,XP,XQ,XR,XS,XT,XU,QC,QD,QE,QF,QG,QH,QI⟩ m1 y1 hS hK1
 refine Zq (cI (Zm ?_))
 refine Zm (Zu (qU rfl rfl) (Zm ?_))
 refine oT 25 hS (fun h25 hS => ?_) (fun h25 hS => ?_)
 ·
  refine ZX ?_
  refine VL.guard rfl rfl ?_
  refine fJ hS rfl fun a7J hS=>ZX ?_
  refine VC.bD [0,1,4,5,32] (Zc hS (fun h32 hS => ?_) (fun h32 hS => ?_))
  ·
   refine Zk ?_
   refine Zq (Zb (Zr (Zm ?_)))
   obtain ⟨tN,aTn,hS⟩:=dU hS
   refine VL.M7 (vs:=[]) (caps:=[ptr cM 0,ptr cN 0]) (RA cM (⟨kL,FO,aEC,aED,XP,XQ,XR,XS,XT,XU,QC,QD,QE,QF,QG,QH,QI⟩:iY) cN bZ (⟨fC⟩:aV) bC fK aTn) rfl rfl (by decide) ?_
   rintro ⟨pR,aBg⟩ rfl
   try dsimp only
   obtain ⟨b34,hS⟩:=bX hS
   refine Zl ?_
   refine Zr (ZX ?_)
   refine VL.PX ((nG+1),(⟨aBg.b,aBg.at_,aBg.err⟩:bT),pR.work,pR.index,pR.refs,pR.cH,pR.cB,pR.fG,pR.eO,pR.fH,pR.dJ,pR.eB,pR.fD,pR.dW,pR.bV,pR.bW,pR.dK,pR.eD,pR.gD) [0,1,4,5] (fun _ _ h=>h) (go2 hS hK1) rfl
  replace hS:=lQ hS hK1
  cases hS
  exact VC.exit (rL (.inl rfl) rfl (⟨fK.b,fK.at_,fK.err⟩,⟨fC⟩,⟨kL,FO,aEC,aED,XP,XQ,XR,XS,XT,XU,QC,QD,QE,QF,QG,QH,QI⟩) rfl rfl (by (try dsimp only); exact dM.out) (by (try dsimp only); exact fL.out))
 refine VL.runs 7 [(32,some false)] (by kernel_rfl) ?_
 refine Zl ?_
 refine VC.uW rfl ?_
 replace hS:=lQ hS hK1
 cases hS
 exact VC.exit (rL (.inl rfl) rfl (⟨fK.b,fK.at_,fK.err⟩,⟨fC⟩,⟨kL,FO,aEC,aED,XP,XQ,XR,XS,XT,XU,QC,QD,QE,QF,QG,QH,QI⟩) rfl rfl (by (try dsimp only); exact dM.out) (by (try dsimp only); exact fL.out))
theorem HF (bZ:Nat) (dO:aV) (bC:Nat) (bH:bT) {r:l5×bA} (hS:Sh.pI dO bH.pl=some r) :
 Ct Tryz.prog 233 [ptr bZ 0] (bH.b.ok.and bH.err.ok) (Ow.star (bM bC [bH.b.val,i64 bH.at_,bH.err.val] 205) (bM bZ [ptr bC 0,.bool dO.bad] 155)) (X:=l5×bT) (fun x => .agg #[str x.1.branch,i64 x.1.cF]) (fun x=>r=(x.1,x.2.pl)) (fun x=>(x.2.b.ok.and x.2.err.ok)) (fun x=>Ow.star (bM bC [x.2.b.val,i64 x.2.at_,x.2.err.val] 205) (bM bZ [ptr bC 0,.bool dO.bad] 155)):=by
 refine Zo Tryz.func233 Tryz.ntmps233 fun c => ?_
 unfold Sh.pI at hS
 refine cI (dG fun iB=>Zl ?_)
 refine Zq ?_
 refine hU [(0,true),(1,true),(2,true),(3,true),(5,true),(6,true),(7,true),(8,true),(4,false),(9,false),(10,true),(11,false)] ?_
 refine ZX ?_
 refine VD.one rfl (fJ hS rfl fun ⟨yO,aO5⟩ hS => ?_)
 try dsimp only
 refine eL (Pk 8 (Pk 7 (Pk 6 Pz))) ?_
 refine VD.one rfl (fJ hS rfl fun ⟨fX,PL⟩ hS => ?_)
 try dsimp only
 refine eY ?_
 refine Zw rfl (cA (vs:=[(0,str yO),(1,i64 fX)]) (cs := #[str yO,i64 fX]) rfl (by kernel_rfl)) ?_
 refine VD.one rfl (ZX ?_)
 refine eY ?_
 refine ZX ?_
 cases hS
 exact VC.ret (Z4 (⟨yO,fX⟩,⟨PL.b,PL.at_,PL.err⟩) rfl)
theorem ON (pE:Nat) (cE:Sv bJ) (hO:Nat) (iW:Nat) (a_1_:aV) (dZ:Nat) (cO:bT) {r:List bJ×bA} (hS:Sh.oQ cE.l a_1_ cO.pl=some r) :
 Ct Tryz.prog 321 [ptr pE 0,ptr hO 0] (cO.b.ok.and cO.err.ok) (Ow.star (Sv.own cE 101) (Ow.star (bM pE [cE.val] 24) (Ow.star (bM dZ [cO.b.val,i64 cO.at_,cO.err.val] 205) (Ow.star (bM iW [ptr dZ 0,.bool a_1_.bad] 155) (bM hO [ptr iW 0] 151))))) (X:=Sv bJ×bT) (fun x => .tuple #[]) (fun x=>r=(x.1.l,x.2.pl)) (fun x=>(x.2.b.ok.and x.2.err.ok)) (fun x=>Ow.star (bM pE [x.1.val] 24) (Ow.star (Sv.own x.1 101) (Ow.star (bM dZ [x.2.b.val,i64 x.2.at_,x.2.err.val] 205) (Ow.star (bM iW [ptr dZ 0,.bool a_1_.bad] 155) (bM hO [ptr iW 0] 151))))):=by
 refine Zo Tryz.func321 Tryz.ntmps321 fun c => ?_
 unfold Sh.oQ at hS
 refine hU [(0,true),(1,true),(2,true),(3,true),(4,true),(6,true),(7,true),(8,true),(9,true),(11,true),(12,true),(13,true),(14,true),(5,false),(10,false),(15,false),(16,true),(17,false),(18,false),(19,false)] ?_
 refine ZX ?_
 refine VD.one rfl (fJ hS rfl fun ⟨DI,I6⟩ hS => ?_)
 try dsimp only
 refine eL (Pk 14 (Pk 13 (Pk 12 (Pk 11 (Pk 9 (Pk 8 (Pk 7 (Pk 6 (Pk 0 Pz))))))))) ?_
 refine VD.one rfl (fJ hS rfl fun ⟨JV,aKo⟩ hS => ?_)
 try dsimp only
 refine eL (Pk 14 (Pk 13 (Pk 12 (Pk 11 (Pk 0 Pz))))) ?_
 refine VD.one rfl (fJ hS rfl fun ⟨rZ,AY⟩ hS => ?_)
 try dsimp only
 refine eL (Pk 0 Pz) ?_
 refine Zw rfl (cA (vs:=[(0,str DI),(1,i64 JV),(2,str rZ)]) (cs := #[str DI,i64 JV,str rZ]) rfl (by kernel_rfl)) ?_
 refine VD.one rfl (tE hS fun aXD hS=>eL (Pk 0 Pz) ?_)
 refine VD.one rfl (XJ hS fun aM5 hS => ?_)
 refine eY ?_
 refine VD.one rfl (ZX ?_)
 refine eY ?_
 cases hS
 exact VD.nil (rL (.inl rfl) rfl (aM5,⟨AY.b,AY.at_,AY.err⟩) rfl rfl (by (try dsimp only); exact dM.out) (by (try dsimp only); exact fL.out))
theorem OG (bZ:Nat) (dO:aV) (bC:Nat) (bH:bT) (cM:Nat) (bE:Sv bJ) (cN:Nat) {r:bA×aV×List bJ} (hS:Sh.oL dO bH.pl bE.l=some r) :
 Ct Tryz.prog 153 [ptr bZ 0,.func (.func 321) #[] #[ptr cM 0,ptr cN 0]] (bH.b.ok.and bH.err.ok) (Ow.star (bM bC [bH.b.val,i64 bH.at_,bH.err.val] 205) (Ow.star (bM bZ [ptr bC 0,.bool dO.bad] 155) (Ow.star (Sv.own bE 101) (Ow.star (bM cM [bE.val] 24) (bM cN [ptr bZ 0] 151))))) (X:=bT×aV×Sv bJ) (fun x => .tuple #[]) (fun x=>r=(x.1.pl,x.2.1,x.2.2.l)) (fun x=>(x.1.b.ok.and x.1.err.ok)) (fun x=>Ow.star (bM bC [x.1.b.val,i64 x.1.at_,x.1.err.val] 205) (Ow.star (bM bZ [ptr bC 0,.bool x.2.1.bad] 155) (Ow.star (bM cM [x.2.2.val] 24) (Ow.star (Sv.own x.2.2 101) (bM cN [ptr bZ 0] 151))))):=by
 refine Zo Tryz.func153 Tryz.ntmps153 fun c => ?_
 unfold Sh.oL at hS
 refine ZX ?_
 refine fJ hS rfl fun ⟨pQ,kC⟩ hS => ?_
 try dsimp only
 refine Za ?_
 refine Zl ?_
 refine VC.M3 [0,1,4] (fun (fC:Bool)=>fC) (fun fC ρ=>ρ) (fun (fC:Bool)=>Mo.tt) bZ (fun (fC:Bool)=>[ptr bC 0,.bool fC]) hS (fun _ hS=>ZE hS) ?_
 rintro fC hS
 refine ZX ?_
 refine Zb ?_
 refine VC.iter (S:=Int×bT×Sv bJ) (fun sg=>(sg.1,sg.2.1.pl,sg.2.2.l)) (fun sg=>[(0,ptr bZ 0),(1,.func (.func 321) #[] #[ptr cM 0,ptr cN 0]),(4,i64 pQ),(5,i64 sg.1)]) (fun sg=>sg.2.1.m) (fun sg=>Ow.star (bM bC [sg.2.1.b.val,i64 sg.2.1.at_,sg.2.1.err.val] 205) (Ow.star (bM bZ [ptr bC 0,.bool fC] 155) (Ow.star (bM cM [sg.2.2.val] 24) (Ow.star (bM cN [ptr bZ 0] 151) (Ow.star (Sv.own sg.2.2 101) (Ow.emp)))))) (0,(⟨kC.b,kC.at_,kC.err⟩:bT),bE) [0,1,4,5] hS rfl ?_
 rintro ⟨nG,fK,kL⟩ m1 y1 hS hK1
 refine Zq (cI (Zm ?_))
 refine Zm (Zu (qU rfl rfl) (Zm ?_))
 refine oT 25 hS (fun h25 hS => ?_) (fun h25 hS => ?_)
 ·
  refine ZX ?_
  refine VL.guard rfl rfl ?_
  refine fJ hS rfl fun UD hS=>ZX ?_
  refine VC.bD [0,1,4,5,32] (Zc hS (fun h32 hS => ?_) (fun h32 hS => ?_))
  ·
   refine Zk ?_
   refine Zq (Zb (Zr (Zm ?_)))
   obtain ⟨oZ,KW,hS⟩:=dU hS
   refine VL.M7 (vs:=[]) (caps:=[ptr cM 0,ptr cN 0]) (ON cM kL cN bZ (⟨fC⟩:aV) bC fK KW) rfl rfl (by decide) ?_
   rintro ⟨CR,oW⟩ rfl
   try dsimp only
   obtain ⟨b34,hS⟩:=bX hS
   refine Zl ?_
   refine Zr (ZX ?_)
   refine VL.PX ((nG+1),(⟨oW.b,oW.at_,oW.err⟩:bT),CR) [0,1,4,5] (fun _ _ h=>h) (go2 hS hK1) rfl
  replace hS:=lQ hS hK1
  cases hS
  exact VC.exit (rL (.inl rfl) rfl (⟨fK.b,fK.at_,fK.err⟩,⟨fC⟩,kL) rfl rfl (by (try dsimp only); exact dM.out) (by (try dsimp only); exact fL.out))
 refine VL.runs 7 [(32,some false)] (by kernel_rfl) ?_
 refine Zl ?_
 refine VC.uW rfl ?_
 replace hS:=lQ hS hK1
 cases hS
 exact VC.exit (rL (.inl rfl) rfl (⟨fK.b,fK.at_,fK.err⟩,⟨fC⟩,kL) rfl rfl (by (try dsimp only); exact dM.out) (by (try dsimp only); exact fL.out))
instance XC (aA:Sv bJ) :
 jG Tryz.prog 40 [aA.val] (Sh.gH aA.l) aA.ok (X:=Sv bJ) (fun x=>x.val) (fun x=>x.l) (fun x=>x.ok):=by
 refine jO Tryz.func40 Tryz.ntmps40 fun r hS c => ?_
 unfold Sh.gH at hS
 obtain ⟨b8,hS⟩:=bX hS
 refine ZX ?_
 refine VL.SH Tryz.underlying24 NC rfl rfl rfl b8.1 (b8.2) (by decide) fun NW rP => ?_
 replace hS:=dR rP hS
 exact ZE hS
theorem GY (bZ:Nat) (dO:aV) (bC:Nat) (bH:bT) {r:List bJ×bA×aV} (hS:Sh.nY dO bH.pl=some r) :
 Ct Tryz.prog 288 [ptr bZ 0] (bH.b.ok.and bH.err.ok) (Ow.star (bM bC [bH.b.val,i64 bH.at_,bH.err.val] 205) (bM bZ [ptr bC 0,.bool dO.bad] 155)) (X:=Sv bJ×bT×aV) (fun x=>x.1.val) (fun x=>r=(x.1.l,x.2.1.pl,x.2.2)) (fun x=>(x.1.ok.and (x.2.1.b.ok.and x.2.1.err.ok))) (fun x=>Ow.star (bM bC [x.2.1.b.val,i64 x.2.1.at_,x.2.1.err.val] 205) (bM bZ [ptr bC 0,.bool x.2.2.bad] 155)):=by
 refine Zo Tryz.func288 Tryz.ntmps288 fun c => ?_
 unfold Sh.nY at hS
 refine cI (kF fun iS=>ZX ?_)
 refine dG fun oU=>ZX ?_
 refine VL.lU (⟨none,0,[]⟩:Sv bJ) 101 ⟨rfl,rfl⟩ ?_
 refine VL.YA oU (cs':=[(⟨none,0,[]⟩:Sv bJ).val]) rfl ?_
 refine x6 hS (OG bZ dO bC bH oU (⟨none,0,[]⟩:Sv bJ) iS) fun ⟨u6,K2,NP⟩ hS => ?_
 try dsimp only
 refine ZX ?_
 refine VL.shut NP 101 (fun _ _ _ _=>trivial) ?_
 refine fN hS rfl fun I7 hS=>ZX ?_
 cases hS
 exact VC.ret (Z1 (I7,⟨u6.b,u6.at_,u6.err⟩,⟨K2.bad⟩))
theorem UT (bZ:Nat) (dO:aV) (bC:Nat) (bH:bT) {r:qJ×bA×aV} (hS:Sh.uG dO bH.pl=some r) :
 Ct Tryz.prog 234 [ptr bZ 0] (bH.b.ok.and bH.err.ok) (Ow.star (bM bC [bH.b.val,i64 bH.at_,bH.err.val] 205) (bM bZ [ptr bC 0,.bool dO.bad] 155)) (X:=uC×bT×aV) (fun x => .agg (bB.enc x.1).toArray) (fun x=>r=(x.1.pl,x.2.1.pl,x.2.2)) (fun x=>(x.1.m.and (x.2.1.b.ok.and x.2.1.err.ok))) (fun x=>Ow.star (bM bC [x.2.1.b.val,i64 x.2.1.at_,x.2.1.err.val] 205) (bM bZ [ptr bC 0,.bool x.2.2.bad] 155)):=by
 refine Zo Tryz.func234 Tryz.ntmps234 fun c => ?_
 unfold Sh.uG at hS
 refine cI (dG fun iB=>Zl ?_)
 refine Zq ?_
 refine hU [(0,true),(1,true),(2,true),(3,true),(5,true),(6,true),(7,true),(8,true),(10,true),(11,true),(12,true),(13,true),(15,true),(17,true),(19,true),(20,true),(21,true),(22,true),(24,true),(25,true),(26,true),(27,true),(29,true),(31,true),(33,true),(4,false),(9,false),(14,false),(16,false),(18,false),(23,false),(28,false),(30,false),(32,false),(34,false),(35,true),(36,false)] ?_
 refine ZX ?_
 refine VD.one rfl (fJ hS rfl fun ⟨yO,aO5⟩ hS => ?_)
 try dsimp only
 refine eL (Pk 27 (Pk 26 (Pk 25 (Pk 22 (Pk 21 (Pk 20 (Pk 13 (Pk 12 (Pk 11 (Pk 8 (Pk 7 (Pk 6 Pz)))))))))))) ?_
 refine VD.one rfl (fJ hS rfl fun ⟨fX,PL⟩ hS => ?_)
 try dsimp only
 refine eL (Pk 27 (Pk 26 (Pk 25 (Pk 22 (Pk 21 (Pk 20 (Pk 13 (Pk 12 (Pk 11 Pz))))))))) ?_
 refine VD.one rfl (fJ hS rfl fun ⟨nV,CO⟩ hS => ?_)
 try dsimp only
 refine eL (Pk 27 (Pk 26 (Pk 25 (Pk 22 (Pk 21 (Pk 20 Pz)))))) ?_
 refine VD.one rfl (x6 hS (GY bZ dO bC CO) fun ⟨MD,T9,aKv⟩ hS => ?_)
 try dsimp only
 refine eL (Pk 27 (Pk 26 (Pk 25 (Pk 22 (Pk 21 (Pk 20 Pz)))))) ?_
 refine VD.one rfl (x6 hS (GY bZ aKv bC T9) fun ⟨aAU,a8u,aKx⟩ hS => ?_)
 try dsimp only
 refine eL (Pk 27 (Pk 26 (Pk 25 (Pk 22 (Pk 21 (Pk 20 Pz)))))) ?_
 refine VD.one rfl (fJ hS rfl fun ⟨aFG,a9C⟩ hS => ?_)
 try dsimp only
 refine eL (Pk 27 (Pk 26 (Pk 25 Pz))) ?_
 refine VD.one rfl (fJ hS rfl fun ⟨UE,aW5⟩ hS => ?_)
 try dsimp only
 refine eY ?_
 refine VD.one rfl (x6 hS (HF bZ aKx bC aW5) fun ⟨PS,aW7⟩ hS => ?_)
 try dsimp only
 refine eY ?_
 refine VD.one rfl (x6 hS (tL bZ aKx bC aW7) fun ⟨aBf,aR2,aR3⟩ hS => ?_)
 try dsimp only
 refine eY ?_
 refine VD.one rfl (x6 hS (pV bZ aR3 bC aR2) fun ⟨aBj,aBk,aR6⟩ hS => ?_)
 try dsimp only
 refine eY ?_
 refine Zw rfl (cA (vs:=[(0,str yO),(1,i64 fX),(2,str nV),(3,MD.val),(4,aAU.val),(5,i64 aFG),(6,str UE),(7,.agg #[str PS.branch,i64 PS.cF]),(8,aBf.val),(9,aBj.val)]) (cs := #[str yO,i64 fX,str nV,MD.val,aAU.val,i64 aFG,str UE,str PS.branch,i64 PS.cF,aBf.val,aBj.val]) rfl (by kernel_rfl)) ?_
 refine VD.one rfl (ZX ?_)
 refine eY ?_
 refine ZX ?_
 cases hS
 exact VC.ret (Z4 (⟨yO,fX,nV,MD,aAU,aFG,UE,PS.branch,PS.cF,aBf,aBj⟩,⟨aBk.b,aBk.at_,aBk.err⟩,⟨aR6.bad⟩) rfl)
theorem RB (pE:Nat) (cE:iY) (hO:Nat) (iW:Nat) (a_1_:aV) (dZ:Nat) (cO:bT) {r:eS×bA×aV} (hS:Sh.rG cE.pl a_1_ cO.pl=some r) :
 Ct Tryz.prog 235 [ptr pE 0,ptr hO 0] (cE.work.ok.and (cE.index.ok.and (cE.dJ.ok.and (cE.eB.ok.and (cE.dK.ok.and (cE.eD.ok.and ((qB cE.gD.l).and (cO.b.ok.and cO.err.ok)))))))) (Ow.star (Sv.own cE.refs 182) (Ow.star (Sv.own cE.gD 128) (Ow.star (bM pE (pL cE) 43) (Ow.star (bM dZ [cO.b.val,i64 cO.at_,cO.err.val] 205) (Ow.star (bM iW [ptr dZ 0,.bool a_1_.bad] 155) (bM hO [ptr iW 0] 151)))))) (X:=iY×bT×aV) (fun x => .tuple #[]) (fun x=>r=(x.1.pl,x.2.1.pl,x.2.2)) (fun x=>(x.1.work.ok.and (x.1.index.ok.and (x.1.dJ.ok.and (x.1.eB.ok.and (x.1.dK.ok.and (x.1.eD.ok.and ((qB x.1.gD.l).and (x.2.1.b.ok.and x.2.1.err.ok))))))))) (fun x=>Ow.star (bM pE (pL x.1) 43) (Ow.star (Sv.own x.1.refs 182) (Ow.star (Sv.own x.1.gD 128) (Ow.star (bM dZ [x.2.1.b.val,i64 x.2.1.at_,x.2.1.err.val] 205) (Ow.star (bM iW [ptr dZ 0,.bool x.2.2.bad] 155) (bM hO [ptr iW 0] 151)))))):=by
 refine Zo Tryz.func235 Tryz.ntmps235 fun c => ?_
 unfold Sh.rG at hS
 refine hU [(0,true),(1,true),(2,true),(3,true),(4,true),(5,true),(7,true),(9,true),(11,true),(12,true),(13,true),(14,true),(6,false),(8,false),(10,false),(15,false),(16,true),(17,false),(18,false),(19,true),(20,false)] ?_
 refine ZX ?_
 refine VD.one rfl (fJ hS rfl fun ⟨NS,aO6⟩ hS => ?_)
 try dsimp only
 refine eL (Pk 14 (Pk 13 (Pk 12 (Pk 11 (Pk 9 (Pk 7 (Pk 1 (Pk 0 Pz)))))))) ?_
 refine VD.one rfl (x6 hS (pV iW a_1_ dZ aO6) fun ⟨JU,aKj,aVw⟩ hS => ?_)
 try dsimp only
 refine eL (Pk 14 (Pk 13 (Pk 12 (Pk 11 (Pk 9 (Pk 1 (Pk 0 Pz))))))) ?_
 refine VD.one rfl (x6 hS (pV iW aVw dZ aKj) fun ⟨fX,PL,aVy⟩ hS => ?_)
 try dsimp only
 refine eL (Pk 14 (Pk 13 (Pk 12 (Pk 11 (Pk 1 (Pk 0 Pz)))))) ?_
 refine VD.one rfl (fJ hS rfl fun ⟨nV,CO⟩ hS => ?_)
 try dsimp only
 refine eL (Pk 1 (Pk 0 Pz)) ?_
 refine Zw rfl (cA (vs:=[(0,i64 NS),(1,JU.val),(2,fX.val),(3,str nV)]) (cs := #[i64 NS,JU.val,fX.val,str nV]) rfl (by kernel_rfl)) ?_
 refine VD.one rfl ?_
 refine VL.lit (α:=bN) (xs:=[.tmp 18]) (vs:=[.agg #[i64 NS,JU.val,fX.val,str nV]]) [⟨NS,JU,fX,nV⟩] Tryz.underlying41 Z3 (by decide) rfl rfl rfl rfl (by decide) (fun h m=>List.forall_mem_cons.2 ⟨dM.out (X:=(JU.ok.and fX.ok)) h m,fun _ h=>by cases h⟩) (by decide) (fun aM4 aH9 => ?_) (by decide)
 replace hS:=dR (congrArg (List.map bN.pl) aH9) hS
 refine eL (Pk 1 (Pk 0 Pz)) ?_
 refine VD.one rfl ?_
 obtain ⟨b20,hS⟩:=bX hS
 refine VL.app (s:=cE.gD) (r:=aM4) Tryz.underlying41 TM (by decide) rfl Fo.out (ap1 (Y3 b20)) (ap2 (Y3 b20) (by decide)) (by decide) (fun aM6 Z8 => ?_)
 replace hS:=dR ((congrArg (List.map bN.pl) Z8).trans List.map_append) hS
 refine VL.X7 Z8 ?_
 refine eY ?_
 refine ZX ?_
 refine VD.one rfl (ZX ?_)
 refine eY ?_
 cases hS
 exact VD.nil (rL (.inl rfl) rfl (⟨cE.work,cE.index,cE.refs,cE.cH,cE.cB,cE.fG,cE.eO,cE.fH,cE.dJ,cE.eB,cE.fD,cE.dW,cE.bV,cE.bW,cE.dK,cE.eD,aM6⟩,⟨CO.b,CO.at_,CO.err⟩,⟨aVy.bad⟩) rfl rfl (by (try dsimp only); exact dM.out) (by (try dsimp only); exact fL.out))
theorem OH (bZ:Nat) (dO:aV) (bC:Nat) (bH:bT) (cM:Nat) (bE:iY) (cN:Nat) {r:bA×aV×eS} (hS:Sh.oM dO bH.pl bE.pl=some r) :
 Ct Tryz.prog 153 [ptr bZ 0,.func (.func 235) #[] #[ptr cM 0,ptr cN 0]] (bH.b.ok.and (bH.err.ok.and (bE.work.ok.and (bE.index.ok.and (bE.dJ.ok.and (bE.eB.ok.and (bE.dK.ok.and (bE.eD.ok.and (qB bE.gD.l))))))))) (Ow.star (bM bC [bH.b.val,i64 bH.at_,bH.err.val] 205) (Ow.star (bM bZ [ptr bC 0,.bool dO.bad] 155) (Ow.star (Sv.own bE.refs 182) (Ow.star (Sv.own bE.gD 128) (Ow.star (bM cM (pL bE) 43) (bM cN [ptr bZ 0] 151)))))) (X:=bT×aV×iY) (fun x => .tuple #[]) (fun x=>r=(x.1.pl,x.2.1,x.2.2.pl)) (fun x=>(x.1.b.ok.and (x.1.err.ok.and (x.2.2.work.ok.and (x.2.2.index.ok.and (x.2.2.dJ.ok.and (x.2.2.eB.ok.and (x.2.2.dK.ok.and (x.2.2.eD.ok.and (qB x.2.2.gD.l)))))))))) (fun x=>Ow.star (bM bC [x.1.b.val,i64 x.1.at_,x.1.err.val] 205) (Ow.star (bM bZ [ptr bC 0,.bool x.2.1.bad] 155) (Ow.star (bM cM (pL x.2.2) 43) (Ow.star (Sv.own x.2.2.refs 182) (Ow.star (Sv.own x.2.2.gD 128) (bM cN [ptr bZ 0] 151)))))):=by
 refine Zo Tryz.func153 Tryz.ntmps153 fun c => ?_
 unfold Sh.oM at hS
 refine ZX ?_
 refine fJ hS rfl fun ⟨pQ,kC⟩ hS => ?_
 try dsimp only
 refine Za ?_
 refine Zl ?_
 refine VC.M3 [0,1,4] (fun (fC:Bool)=>fC) (fun fC ρ=>ρ) (fun (fC:Bool)=>Mo.tt) bZ (fun (fC:Bool)=>[ptr bC 0,.bool fC]) hS (fun _ hS=>ZE hS) ?_
 rintro fC hS
 refine ZX ?_
 refine Zb ?_
 refine VC.iter (S:=Int×bT×Bool×Sv aC×Sv IndexEntry×Sv dP×bI×Int×bI×Int×bI×Sv bJ×Sv bJ×Int×bI×bI×Int×Sv IndexEntry×Sv aC×Sv bN) (fun sg=>(sg.1,sg.2.1.pl,sg.2.2.1,sg.2.2.2.1.l,sg.2.2.2.2.1.l,sg.2.2.2.2.2.1.l,sg.2.2.2.2.2.2.1,sg.2.2.2.2.2.2.2.1,sg.2.2.2.2.2.2.2.2.1,sg.2.2.2.2.2.2.2.2.2.1,sg.2.2.2.2.2.2.2.2.2.2.1,sg.2.2.2.2.2.2.2.2.2.2.2.1.l,sg.2.2.2.2.2.2.2.2.2.2.2.2.1.l,sg.2.2.2.2.2.2.2.2.2.2.2.2.2.1,sg.2.2.2.2.2.2.2.2.2.2.2.2.2.2.1,sg.2.2.2.2.2.2.2.2.2.2.2.2.2.2.2.1,sg.2.2.2.2.2.2.2.2.2.2.2.2.2.2.2.2.1,sg.2.2.2.2.2.2.2.2.2.2.2.2.2.2.2.2.2.1.l,sg.2.2.2.2.2.2.2.2.2.2.2.2.2.2.2.2.2.2.1.l,(sg.2.2.2.2.2.2.2.2.2.2.2.2.2.2.2.2.2.2.2.l.map bN.pl))) (fun sg=>[(0,ptr bZ 0),(1,.func (.func 235) #[] #[ptr cM 0,ptr cN 0]),(4,i64 pQ),(5,i64 sg.1)]) (fun sg=>(sg.2.1.m.and (sg.2.2.2.1.ok.and (sg.2.2.2.2.1.ok.and (sg.2.2.2.2.2.2.2.2.2.2.2.1.ok.and (sg.2.2.2.2.2.2.2.2.2.2.2.2.1.ok.and (sg.2.2.2.2.2.2.2.2.2.2.2.2.2.2.2.2.2.1.ok.and (sg.2.2.2.2.2.2.2.2.2.2.2.2.2.2.2.2.2.2.1.ok.and (qB sg.2.2.2.2.2.2.2.2.2.2.2.2.2.2.2.2.2.2.2.l))))))))) (fun sg=>Ow.star (bM bC [sg.2.1.b.val,i64 sg.2.1.at_,sg.2.1.err.val] 205) (Ow.star (bM bZ [ptr bC 0,.bool sg.2.2.1] 155) (Ow.star (bM cM [sg.2.2.2.1.val,sg.2.2.2.2.1.val,sg.2.2.2.2.2.1.val,str sg.2.2.2.2.2.2.1,i64 sg.2.2.2.2.2.2.2.1,str sg.2.2.2.2.2.2.2.2.1,i64 sg.2.2.2.2.2.2.2.2.2.1,str sg.2.2.2.2.2.2.2.2.2.2.1,sg.2.2.2.2.2.2.2.2.2.2.2.1.val,sg.2.2.2.2.2.2.2.2.2.2.2.2.1.val,i64 sg.2.2.2.2.2.2.2.2.2.2.2.2.2.1,str sg.2.2.2.2.2.2.2.2.2.2.2.2.2.2.1,str sg.2.2.2.2.2.2.2.2.2.2.2.2.2.2.2.1,i64 sg.2.2.2.2.2.2.2.2.2.2.2.2.2.2.2.2.1,sg.2.2.2.2.2.2.2.2.2.2.2.2.2.2.2.2.2.1.val,sg.2.2.2.2.2.2.2.2.2.2.2.2.2.2.2.2.2.2.1.val,sg.2.2.2.2.2.2.2.2.2.2.2.2.2.2.2.2.2.2.2.val] 43) (Ow.star (bM cN [ptr bZ 0] 151) (Ow.star (Sv.own sg.2.2.2.2.2.1 182) (Ow.star (Sv.own sg.2.2.2.2.2.2.2.2.2.2.2.2.2.2.2.2.2.2.2 128) (Ow.emp))))))) (0,(⟨kC.b,kC.at_,kC.err⟩:bT),fC,bE.work,bE.index,bE.refs,bE.cH,bE.cB,bE.fG,bE.eO,bE.fH,bE.dJ,bE.eB,bE.fD,bE.dW,bE.bV,bE.bW,bE.dK,bE.eD,bE.gD) [0,1,4,5] hS rfl ?_
 rintro ⟨nG,fK,LM,D4,LN,yI,ET,EU,EV,EW,EX,EY,EZ,zP,zQ,zR,zS,zT,zU,zV⟩ m1 y1 hS hK1
 refine Zq (cI (Zm ?_))
 refine Zm (Zu (qU rfl rfl) (Zm ?_))
 refine oT 25 hS (fun h25 hS => ?_) (fun h25 hS => ?_)
 ·
  refine ZX ?_
  refine VL.guard rfl rfl ?_
  refine fJ hS rfl fun a7K hS=>ZX ?_
  refine VC.bD [0,1,4,5,32] (Zc hS (fun h32 hS => ?_) (fun h32 hS => ?_))
  ·
   refine Zk ?_
   refine Zq (Zb (Zr (Zm ?_)))
   obtain ⟨rV,aTo,hS⟩:=dU hS
   refine VL.M7 (vs:=[]) (caps:=[ptr cM 0,ptr cN 0]) (RB cM (⟨D4,LN,yI,ET,EU,EV,EW,EX,EY,EZ,zP,zQ,zR,zS,zT,zU,zV⟩:iY) cN bZ (⟨LM⟩:aV) bC fK aTo) rfl rfl (by decide) ?_
   rintro ⟨pS,aBh,aR4⟩ rfl
   try dsimp only
   obtain ⟨b34,hS⟩:=bX hS
   refine Zl ?_
   refine Zr (ZX ?_)
   refine VL.PX ((nG+1),(⟨aBh.b,aBh.at_,aBh.err⟩:bT),aR4.bad,pS.work,pS.index,pS.refs,pS.cH,pS.cB,pS.fG,pS.eO,pS.fH,pS.dJ,pS.eB,pS.fD,pS.dW,pS.bV,pS.bW,pS.dK,pS.eD,pS.gD) [0,1,4,5] (fun _ _ h=>h) (go2 hS hK1) rfl
  replace hS:=lQ hS hK1
  cases hS
  exact VC.exit (rL (.inl rfl) rfl (⟨fK.b,fK.at_,fK.err⟩,⟨LM⟩,⟨D4,LN,yI,ET,EU,EV,EW,EX,EY,EZ,zP,zQ,zR,zS,zT,zU,zV⟩) rfl rfl (by (try dsimp only); exact dM.out) (by (try dsimp only); exact fL.out))
 refine VL.runs 7 [(32,some false)] (by kernel_rfl) ?_
 refine Zl ?_
 refine VC.uW rfl ?_
 replace hS:=lQ hS hK1
 cases hS
 exact VC.exit (rL (.inl rfl) rfl (⟨fK.b,fK.at_,fK.err⟩,⟨LM⟩,⟨D4,LN,yI,ET,EU,EV,EW,EX,EY,EZ,zP,zQ,zR,zS,zT,zU,zV⟩) rfl rfl (by (try dsimp only); exact dM.out) (by (try dsimp only); exact fL.out))
instance XB (aA:Sv dP) :
 jG Tryz.prog 236 [aA.val] (Sh.jH aA.l) aA.ok (X:=Sv dP) (fun x=>x.val) (fun x=>x.l) (fun x=>x.ok):=by
 refine jO Tryz.func236 Tryz.ntmps236 fun r hS c => ?_
 unfold Sh.jH at hS
 obtain ⟨b8,hS⟩:=bX hS
 refine ZX ?_
 refine VL.SH Tryz.underlying35 qQ rfl rfl rfl b8.1 (b8.2) (by decide) fun NW rP => ?_
 replace hS:=dR rP hS
 exact ZE hS
instance S0 (aA:Sv bN) :
 uL Tryz.prog 237 [aA.val] (Sh.eG (aA.l.map bN.pl)) (qB aA.l) (Sv.own aA 128) (X:=Sv bN) (fun x=>x.val) (fun x=>(x.l.map bN.pl)) (fun x=>(qB x.l)) (fun x=>Sv.own x 128):=by
 refine uV Tryz.func237 Tryz.ntmps237 fun r hS c => ?_
 unfold Sh.eG at hS
 refine ZX ?_
 refine Zu (wW bN.pl (s:=aA) Tryz.underlying41 rfl) (Zm (Zu (wW bN.pl (s:=aA) Tryz.underlying41 rfl) ?_))
 obtain ⟨b8,hS⟩:=bX hS
 refine VL.aT7 (s:=aA) Tryz.underlying41 nQ rfl rfl rfl b8.1 (aB6 b8.2) Fo.out (by decide) fun NW rP => ?_
 refine VL.a5m (s:=aA) (s':=NW) (fun z hz=>by rw [rP] at hz; exact List.mem_of_mem_take hz) ?_
 replace hS:=dR ((congrArg (List.map bN.pl) rP).trans List.map_take) hS
 exact ZE hS
theorem J5 (bZ:Nat) (dO:aV) (bC:Nat) (bH:bT) {r:eS×bA×aV} (hS:Sh.mS dO bH.pl=some r) :
 Ct Tryz.prog 152 [ptr bZ 0] (bH.b.ok.and bH.err.ok) (Ow.star (bM bC [bH.b.val,i64 bH.at_,bH.err.val] 205) (bM bZ [ptr bC 0,.bool dO.bad] 155)) (X:=iY×bT×aV) (fun x => .agg (bB.enc x.1).toArray) (fun x=>r=(x.1.pl,x.2.1.pl,x.2.2)) (fun x=>(x.1.m.and (x.2.1.b.ok.and x.2.1.err.ok))) (fun x=>Ow.star (bM bC [x.2.1.b.val,i64 x.2.1.at_,x.2.1.err.val] 205) (bM bZ [ptr bC 0,.bool x.2.2.bad] 155)):=by
 refine Zo Tryz.func152 Tryz.ntmps152 fun c => ?_
 unfold Sh.mS at hS
 refine cI (kF fun iS=>dG fun B4=>Zl ?_)
 refine VC.wT (S:=Nat×bT×Bool×Sv aC×Sv IndexEntry×bI×Int×bI×Int×bI×Int×bI×bI×Int) (fun sg=>((),sg.2.1.pl,sg.2.2.1,sg.2.2.2.1.l,sg.2.2.2.2.1.l,sg.2.2.2.2.2.1,sg.2.2.2.2.2.2.1,sg.2.2.2.2.2.2.2.1,sg.2.2.2.2.2.2.2.2.1,sg.2.2.2.2.2.2.2.2.2.1,sg.2.2.2.2.2.2.2.2.2.2.1,sg.2.2.2.2.2.2.2.2.2.2.2.1,sg.2.2.2.2.2.2.2.2.2.2.2.2.1,sg.2.2.2.2.2.2.2.2.2.2.2.2.2)) (fun sg=>[(1,ptr iS 0),(2,ptr B4 0),(3,ptr sg.1 0)]) (fun sg=>(sg.2.1.m.and (sg.2.2.2.1.ok.and sg.2.2.2.2.1.ok))) (fun sg=>Ow.star (bM B4 [.slice none 0 0,.slice none 0 0,.slice none 0 0,str [],i64 0,str [],i64 0,str [],.slice none 0 0,.slice none 0 0,i64 0,str [],str [],i64 0,.slice none 0 0,.slice none 0 0,.slice none 0 0] 43) (Ow.star (bM iS [ptr bZ 0] 151) (Ow.star (bM bC [sg.2.1.b.val,i64 sg.2.1.at_,sg.2.1.err.val] 205) (Ow.star (bM bZ [ptr bC 0,.bool sg.2.2.1] 155) (Ow.star (bM sg.1 [sg.2.2.2.1.val,sg.2.2.2.2.1.val,.slice none 0 0,str sg.2.2.2.2.2.1,i64 sg.2.2.2.2.2.2.1,str sg.2.2.2.2.2.2.2.1,i64 sg.2.2.2.2.2.2.2.2.1,str sg.2.2.2.2.2.2.2.2.2.1,.slice none 0 0,.slice none 0 0,i64 sg.2.2.2.2.2.2.2.2.2.2.1,str sg.2.2.2.2.2.2.2.2.2.2.2.1,str sg.2.2.2.2.2.2.2.2.2.2.2.2.1,i64 sg.2.2.2.2.2.2.2.2.2.2.2.2.2,.slice none 0 0,.slice none 0 0,.slice none 0 0] 43) (Ow.emp)))))) hS ?_ ?_
 ·
  intro k17 hS
  refine VC.GA (n:=5) (listed:=bl 7 5) [(0,true),(2,true)] mixed (by kernel_rfl) (by kernel_rfl) (by kernel_rfl) (by kernel_rfl) ?_
  refine VD.q rfl (nI aE9 rfl rfl) (by decide) ?_
  refine VD.q rfl (nI aE9 rfl rfl) (by decide) ?_
  obtain ⟨aIa,aNi,hS⟩:=dU hS
  obtain ⟨aCg,aH1,hS⟩:=dU hS
  refine VD.SY fun hcl => ?_
  refine VG.fork (l:=[1,5]) (n:=4) (by kernel_rfl) rfl fun i hi => ?_
  obtain rfl | rfl:i=1∨i=5:=by simpa using hi
  ·
   refine pX.of rfl ?_
   refine VL.nW (pV bZ dO bC bH aNi) rfl (by decide) ?_
   rintro ⟨l6,Q5,Q6⟩ rfl
   try dsimp only
   refine zB (bl 7 7) (Pk 2 Pz) ?_
   refine VG.fork (l:=[3,5]) (n:=3) (by kernel_rfl) rfl fun i hi => ?_
   obtain rfl | rfl:i=3∨i=5:=by simpa using hi
   ·
    refine pX.of rfl ?_
    refine VL.nW (tL bZ Q6 bC Q5 aH1) rfl (by decide) ?_
    rintro ⟨lM,wE,MF⟩ rfl
    try dsimp only
    refine zB (bl 7 15) Pz ?_
    refine VG.ord [(4,true),(5,false),(6,false)] (by kernel_rfl) (eF (by kernel_rfl)) (by kernel_rfl) ?_
    refine Zw rfl (cA (vs:=[(0,l6.val),(1,lM.val)]) (cs := #[l6.val,lM.val,.slice none 0 0,str [],i64 0,str [],i64 0,str [],.slice none 0 0,.slice none 0 0,i64 0,str [],str [],i64 0,.slice none 0 0,.slice none 0 0,.slice none 0 0]) rfl (by kernel_rfl)) ?_
    refine VD.one rfl (dG fun S8 => ?_)
    refine QA [(4,.agg #[l6.val,lM.val,.slice none 0 0,str [],i64 0,str [],i64 0,str [],.slice none 0 0,.slice none 0 0,i64 0,str [],str [],i64 0,.slice none 0 0,.slice none 0 0,.slice none 0 0])] (bR.cons rfl (cA (vs:=[(0,l6.val),(1,lM.val)]) (cs := #[l6.val,lM.val,.slice none 0 0,str [],i64 0,str [],i64 0,str [],.slice none 0 0,.slice none 0 0,i64 0,str [],str [],i64 0,.slice none 0 0,.slice none 0 0,.slice none 0 0]) rfl (by kernel_rfl)) bR.nil) ?_
    refine VD.one rfl ?_
    refine Zv  (vc:=[l6.val,lM.val,.slice none 0 0,str [],i64 0,str [],i64 0,str [],.slice none 0 0,.slice none 0 0,i64 0,str [],str [],i64 0,.slice none 0 0,.slice none 0 0,.slice none 0 0]) (cs':=[l6.val,lM.val,.slice none 0 0,str [],i64 0,str [],i64 0,str [],.slice none 0 0,.slice none 0 0,i64 0,str [],str [],i64 0,.slice none 0 0,.slice none 0 0,.slice none 0 0]) rfl aH7 ?_
    refine eY ?_
    refine VD.mt (S8,(⟨wE.b,wE.at_,wE.err⟩:bT),MF.bad,l6,lM,[],0,[],0,[],0,[],[],0) [1,2,3] (fun _ _ h=>h) hS rfl
   refine pX.of rfl ?_
   refine dG fun S8 => ?_
   refine zB (bl 7 39) (Pk 2 Pz) ?_
   refine VG.ord [(3,false),(4,true),(6,false)] (by kernel_rfl) (eF (by kernel_rfl)) (by kernel_rfl) ?_
   refine VD.one rfl ?_
   refine VL.nW (tL bZ Q6 bC Q5 aH1) rfl (by decide) ?_
   rintro ⟨lM,wE,MF⟩ rfl
   try dsimp only
   refine eY ?_
   refine Zw rfl (cA (vs:=[(0,l6.val),(1,lM.val)]) (cs := #[l6.val,lM.val,.slice none 0 0,str [],i64 0,str [],i64 0,str [],.slice none 0 0,.slice none 0 0,i64 0,str [],str [],i64 0,.slice none 0 0,.slice none 0 0,.slice none 0 0]) rfl (by kernel_rfl)) ?_
   refine VD.one rfl ?_
   refine Zv  (vc:=[l6.val,lM.val,.slice none 0 0,str [],i64 0,str [],i64 0,str [],.slice none 0 0,.slice none 0 0,i64 0,str [],str [],i64 0,.slice none 0 0,.slice none 0 0,.slice none 0 0]) (cs':=[l6.val,lM.val,.slice none 0 0,str [],i64 0,str [],i64 0,str [],.slice none 0 0,.slice none 0 0,i64 0,str [],str [],i64 0,.slice none 0 0,.slice none 0 0,.slice none 0 0]) rfl aH7 ?_
   refine eY ?_
   refine VD.mt (S8,(⟨wE.b,wE.at_,wE.err⟩:bT),MF.bad,l6,lM,[],0,[],0,[],0,[],[],0) [1,2,3] (fun _ _ h=>h) hS rfl
  refine pX.of rfl ?_
  refine dG fun S8 => ?_
  refine zB (bl 7 37) (Pk 2 (Pk 0 Pz)) ?_
  refine VG.ord [(1,false),(3,false),(4,true),(6,false)] (by kernel_rfl) (eF (by kernel_rfl)) (by kernel_rfl) ?_
  refine VD.one rfl ?_
  refine VL.nW (pV bZ dO bC bH aNi) rfl (by decide) ?_
  rintro ⟨l6,Q5,Q6⟩ rfl
  try dsimp only
  refine eL (Pk 2 Pz) ?_
  refine VD.one rfl ?_
  refine VL.nW (tL bZ Q6 bC Q5 aH1) rfl (by decide) ?_
  rintro ⟨lM,wE,MF⟩ rfl
  try dsimp only
  refine eY ?_
  refine Zw rfl (cA (vs:=[(0,l6.val),(1,lM.val)]) (cs := #[l6.val,lM.val,.slice none 0 0,str [],i64 0,str [],i64 0,str [],.slice none 0 0,.slice none 0 0,i64 0,str [],str [],i64 0,.slice none 0 0,.slice none 0 0,.slice none 0 0]) rfl (by kernel_rfl)) ?_
  refine VD.one rfl ?_
  refine Zv  (vc:=[l6.val,lM.val,.slice none 0 0,str [],i64 0,str [],i64 0,str [],.slice none 0 0,.slice none 0 0,i64 0,str [],str [],i64 0,.slice none 0 0,.slice none 0 0,.slice none 0 0]) (cs':=[l6.val,lM.val,.slice none 0 0,str [],i64 0,str [],i64 0,str [],.slice none 0 0,.slice none 0 0,i64 0,str [],str [],i64 0,.slice none 0 0,.slice none 0 0,.slice none 0 0]) rfl aH7 ?_
  refine eY ?_
  refine VD.mt (S8,(⟨wE.b,wE.at_,wE.err⟩:bT),MF.bad,l6,lM,[],0,[],0,[],0,[],[],0) [1,2,3] (fun _ _ h=>h) hS rfl
 rintro ⟨aOK,EI,aT4,kL,FO,aN6,aN7,aHJ,aHK,aHL,aDG,aDH,aDI,aDJ⟩ hS
 refine ZX ?_
 refine VL.lU (⟨none,0,[]⟩:Sv dP) 182 ⟨rfl,rfl⟩ ?_
 refine VL.lU (⟨none,0,[]⟩:Sv bN) 128 ⟨rfl,rfl⟩ ?_
 refine VL.X8 (s:=(⟨none,0,[]⟩:Sv bN)) rfl ?_
 refine VL.YA aOK (cs':=[kL.val,FO.val,(⟨none,0,[]⟩:Sv dP).val,str aN6,i64 aN7,str aHJ,i64 aHK,str aHL,(⟨none,0,[]⟩:Sv bJ).val,(⟨none,0,[]⟩:Sv bJ).val,i64 aDG,str aDH,str aDI,i64 aDJ,(⟨none,0,[]⟩:Sv IndexEntry).val,(⟨none,0,[]⟩:Sv aC).val,(⟨none,0,[]⟩:Sv bN).val]) rfl ?_
 refine x6 hS (OE bZ (⟨aT4⟩:aV) bC EI aOK (⟨kL,FO,(⟨none,0,[]⟩:Sv dP),aN6,aN7,aHJ,aHK,aHL,(⟨none,0,[]⟩:Sv bJ),(⟨none,0,[]⟩:Sv bJ),aDG,aDH,aDI,aDJ,(⟨none,0,[]⟩:Sv IndexEntry),(⟨none,0,[]⟩:Sv aC),(⟨none,0,[]⟩:Sv bN)⟩:iY) iS) fun ⟨aRS,aGd,VT⟩ hS => ?_
 try dsimp only
 refine Zl ?_
 refine Zq ?_
 refine hU [(0,true),(2,true),(1,false),(4,true),(3,false),(5,false),(6,true),(7,false)] ?_
 refine ZX ?_
 refine VD.one rfl (x6 hS (HF bZ aGd bC aRS) fun ⟨aGe,aRT⟩ hS => ?_)
 try dsimp only
 refine eL (Pk 2 Pz) ?_
 refine ZX ?_
 refine VD.one rfl (x6 hS (UT bZ aGd bC aRT) fun ⟨yV,aRU,aRV⟩ hS => ?_)
 try dsimp only
 refine eL (Pk 4 Pz) ?_
 refine VD.one rfl (ZX ?_)
 refine eY ?_
 refine ZX ?_
 refine VD.one rfl (ZX ?_)
 refine eY ?_
 refine xE ?_
 refine VC.bD [1,2,3] (ZX ?_)
 refine x6 hS (OH bZ aRV bC aRU aOK (⟨VT.work,VT.index,VT.refs,aGe.branch,aGe.cF,yV.kind,yV.other,yV.text,yV.HP,yV.todo,yV.made,yV.branch,yV.cH,yV.cB,yV.index,yV.work,VT.gD⟩:iY) iS) fun ⟨aBd,aRW,rD⟩ hS => ?_
 try dsimp only
 refine Zl ?_
 refine Zq ?_
 refine hU [(0,true),(1,true),(3,true),(4,true),(2,false),(6,true),(5,false),(7,false),(8,true),(9,false)] ?_
 refine ZX ?_
 refine VD.one rfl ?_
 refine VL.shut rD.refs 182 (fun _ _ _ _=>trivial) ?_
 refine fN hS rfl fun aRX hS=>eL (Pk 4 (Pk 3 Pz)) ?_
 refine ZX ?_
 refine VD.one rfl (fJ hS rfl fun aBe hS=>eL (Pk 6 Pz) ?_)
 refine VD.one rfl (ZX ?_)
 refine eY ?_
 refine ZX ?_
 refine VD.one rfl (ZX ?_)
 refine eY ?_
 refine xE ?_
 refine VC.bD [2,3] (cI (ZO ?_))
 refine Zl ?_
 refine VC.shut aBe 128 (fun h m=>dM.out (X:=qB aBe.l) h m) ?_
 cases hS
 exact VC.ret (Z4 (⟨rD.work,rD.index,aRX,rD.cH,rD.cB,rD.fG,rD.eO,rD.fH,rD.dJ,rD.eB,rD.fD,rD.dW,rD.bV,rD.bW,rD.dK,rD.eD,aBe⟩,⟨aBd.b,aBd.at_,aBd.err⟩,⟨aRW.bad⟩) rfl)
theorem MP (pE:Nat) (cE:Sv Int) (hO:Nat) (iW:Nat) (a_1_:aV) (dZ:Nat) (cO:bT) {r:List Int×bA} (hS:Sh.nA cE.l a_1_ cO.pl=some r) :
 Ct Tryz.prog 239 [ptr pE 0,ptr hO 0] (cO.b.ok.and cO.err.ok) (Ow.star (Sv.own cE 3) (Ow.star (bM pE [cE.val] 59) (Ow.star (bM dZ [cO.b.val,i64 cO.at_,cO.err.val] 205) (Ow.star (bM iW [ptr dZ 0,.bool a_1_.bad] 155) (bM hO [ptr iW 0] 151))))) (X:=Sv Int×bT) (fun x => .tuple #[]) (fun x=>r=(x.1.l,x.2.pl)) (fun x=>(x.2.b.ok.and x.2.err.ok)) (fun x=>Ow.star (bM pE [x.1.val] 59) (Ow.star (Sv.own x.1 3) (Ow.star (bM dZ [x.2.b.val,i64 x.2.at_,x.2.err.val] 205) (Ow.star (bM iW [ptr dZ 0,.bool a_1_.bad] 155) (bM hO [ptr iW 0] 151))))):=by
 refine Zo Tryz.func239 Tryz.ntmps239 fun c => ?_
 unfold Sh.nA at hS
 refine hU [(0,true),(1,true),(2,true),(3,true),(4,true),(5,false),(6,false),(7,false),(8,false)] ?_
 refine ZX ?_
 refine VD.one rfl (fJ hS rfl fun ⟨DI,I6⟩ hS => ?_)
 try dsimp only
 refine eL (Pk 0 Pz) ?_
 refine VD.one rfl (tE hS fun a4o hS=>eL (Pk 0 Pz) ?_)
 refine VD.one rfl (XJ hS fun aXJ hS => ?_)
 refine eY ?_
 refine VD.one rfl (ZX ?_)
 refine eY ?_
 cases hS
 exact VD.nil (rL (.inl rfl) rfl (aXJ,⟨I6.b,I6.at_,I6.err⟩) rfl rfl (by (try dsimp only); exact dM.out) (by (try dsimp only); exact fL.out))
theorem OJ (bZ:Nat) (dO:aV) (bC:Nat) (bH:bT) (cM:Nat) (bE:Sv Int) (cN:Nat) {r:bA×aV×List Int} (hS:Sh.oN dO bH.pl bE.l=some r) :
 Ct Tryz.prog 153 [ptr bZ 0,.func (.func 239) #[] #[ptr cM 0,ptr cN 0]] (bH.b.ok.and bH.err.ok) (Ow.star (bM bC [bH.b.val,i64 bH.at_,bH.err.val] 205) (Ow.star (bM bZ [ptr bC 0,.bool dO.bad] 155) (Ow.star (Sv.own bE 3) (Ow.star (bM cM [bE.val] 59) (bM cN [ptr bZ 0] 151))))) (X:=bT×aV×Sv Int) (fun x => .tuple #[]) (fun x=>r=(x.1.pl,x.2.1,x.2.2.l)) (fun x=>(x.1.b.ok.and x.1.err.ok)) (fun x=>Ow.star (bM bC [x.1.b.val,i64 x.1.at_,x.1.err.val] 205) (Ow.star (bM bZ [ptr bC 0,.bool x.2.1.bad] 155) (Ow.star (bM cM [x.2.2.val] 59) (Ow.star (Sv.own x.2.2 3) (bM cN [ptr bZ 0] 151))))):=by
 refine Zo Tryz.func153 Tryz.ntmps153 fun c => ?_
 unfold Sh.oN at hS
 refine ZX ?_
 refine fJ hS rfl fun ⟨pQ,kC⟩ hS => ?_
 try dsimp only
 refine Za ?_
 refine Zl ?_
 refine VC.M3 [0,1,4] (fun (fC:Bool)=>fC) (fun fC ρ=>ρ) (fun (fC:Bool)=>Mo.tt) bZ (fun (fC:Bool)=>[ptr bC 0,.bool fC]) hS (fun _ hS=>ZE hS) ?_
 rintro fC hS
 refine ZX ?_
 refine Zb ?_
 refine VC.iter (S:=Int×bT×Sv Int) (fun sg=>(sg.1,sg.2.1.pl,sg.2.2.l)) (fun sg=>[(0,ptr bZ 0),(1,.func (.func 239) #[] #[ptr cM 0,ptr cN 0]),(4,i64 pQ),(5,i64 sg.1)]) (fun sg=>sg.2.1.m) (fun sg=>Ow.star (bM bC [sg.2.1.b.val,i64 sg.2.1.at_,sg.2.1.err.val] 205) (Ow.star (bM bZ [ptr bC 0,.bool fC] 155) (Ow.star (bM cM [sg.2.2.val] 59) (Ow.star (bM cN [ptr bZ 0] 151) (Ow.star (Sv.own sg.2.2 3) (Ow.emp)))))) (0,(⟨kC.b,kC.at_,kC.err⟩:bT),bE) [0,1,4,5] hS rfl ?_
 rintro ⟨nG,fK,kL⟩ m1 y1 hS hK1
 refine Zq (cI (Zm ?_))
 refine Zm (Zu (qU rfl rfl) (Zm ?_))
 refine oT 25 hS (fun h25 hS => ?_) (fun h25 hS => ?_)
 ·
  refine ZX ?_
  refine VL.guard rfl rfl ?_
  refine fJ hS rfl fun UD hS=>ZX ?_
  refine VC.bD [0,1,4,5,32] (Zc hS (fun h32 hS => ?_) (fun h32 hS => ?_))
  ·
   refine Zk ?_
   refine Zq (Zb (Zr (Zm ?_)))
   obtain ⟨oZ,KW,hS⟩:=dU hS
   refine VL.M7 (vs:=[]) (caps:=[ptr cM 0,ptr cN 0]) (MP cM kL cN bZ (⟨fC⟩:aV) bC fK KW) rfl rfl (by decide) ?_
   rintro ⟨CR,oW⟩ rfl
   try dsimp only
   obtain ⟨b34,hS⟩:=bX hS
   refine Zl ?_
   refine Zr (ZX ?_)
   refine VL.PX ((nG+1),(⟨oW.b,oW.at_,oW.err⟩:bT),CR) [0,1,4,5] (fun _ _ h=>h) (go2 hS hK1) rfl
  replace hS:=lQ hS hK1
  cases hS
  exact VC.exit (rL (.inl rfl) rfl (⟨fK.b,fK.at_,fK.err⟩,⟨fC⟩,kL) rfl rfl (by (try dsimp only); exact dM.out) (by (try dsimp only); exact fL.out))
 refine VL.runs 7 [(32,some false)] (by kernel_rfl) ?_
 refine Zl ?_
 refine VC.uW rfl ?_
 replace hS:=lQ hS hK1
 cases hS
 exact VC.exit (rL (.inl rfl) rfl (⟨fK.b,fK.at_,fK.err⟩,⟨fC⟩,kL) rfl rfl (by (try dsimp only); exact dM.out) (by (try dsimp only); exact fL.out))
instance aGq (aA:Sv Int) :
 jG Tryz.prog 240 [aA.val] (Sh.kW aA.l) aA.ok (X:=Sv Int) (fun x=>x.val) (fun x=>x.l) (fun x=>x.ok):=by
 refine jO Tryz.func240 Tryz.ntmps240 fun r hS c => ?_
 unfold Sh.kW at hS
 obtain ⟨b8,hS⟩:=bX hS
 refine ZX ?_
 refine VL.SH Tryz.underlying59 DP rfl rfl rfl b8.1 (b8.2) (by decide) fun NW rP => ?_
 replace hS:=dR rP hS
 exact ZE hS
theorem OL (bZ:Nat) (dO:aV) (bC:Nat) (bH:bT) {r:List Int×bA×aV} (hS:Sh.oO dO bH.pl=some r) :
 Ct Tryz.prog 156 [ptr bZ 0] (bH.b.ok.and bH.err.ok) (Ow.star (bM bC [bH.b.val,i64 bH.at_,bH.err.val] 205) (bM bZ [ptr bC 0,.bool dO.bad] 155)) (X:=Sv Int×bT×aV) (fun x=>x.1.val) (fun x=>r=(x.1.l,x.2.1.pl,x.2.2)) (fun x=>(x.1.ok.and (x.2.1.b.ok.and x.2.1.err.ok))) (fun x=>Ow.star (bM bC [x.2.1.b.val,i64 x.2.1.at_,x.2.1.err.val] 205) (bM bZ [ptr bC 0,.bool x.2.2.bad] 155)):=by
 refine Zo Tryz.func156 Tryz.ntmps156 fun c => ?_
 unfold Sh.oO at hS
 refine cI (kF fun iS=>ZX ?_)
 refine dG fun oU=>ZX ?_
 refine VL.lU (⟨none,0,[]⟩:Sv Int) 3 ⟨rfl,rfl⟩ ?_
 refine VL.YA oU (cs':=[(⟨none,0,[]⟩:Sv Int).val]) rfl ?_
 refine x6 hS (OJ bZ dO bC bH oU (⟨none,0,[]⟩:Sv Int) iS) fun ⟨u6,K2,NP⟩ hS => ?_
 try dsimp only
 refine ZX ?_
 refine VL.shut NP 3 (fun _ _ _ _=>trivial) ?_
 refine fN hS rfl fun I7 hS=>ZX ?_
 cases hS
 exact VC.ret (Z1 (I7,⟨u6.b,u6.at_,u6.err⟩,⟨K2.bad⟩))
theorem OM (pE:Nat) (cE:aL) (hO:Nat) (iW:Nat) (a_1_:aV) (dZ:Nat) (cO:bT) {r:aF×bA×aV} (hS:Sh.oP cE.pl a_1_ cO.pl=some r) :
 Ct Tryz.prog 154 [ptr pE 0,ptr hO 0] (cE.aU.ok.and (cE.aS.ok.and (cE.aZ.ok.and (cE.aN.ok.and (cE.aP.ok.and (cE.aK.ok.and (cE.aQ.ok.and (cE.aW.ok.and ((qB cE.aX.l).and (cE.bF.ok.and (cE.aY.ok.and (cO.b.ok.and cO.err.ok)))))))))))) (Ow.star (Sv.own cE.aX 61) (Ow.star (bM pE (aI cE) 49) (Ow.star (bM dZ [cO.b.val,i64 cO.at_,cO.err.val] 205) (Ow.star (bM iW [ptr dZ 0,.bool a_1_.bad] 155) (bM hO [ptr iW 0] 151))))) (X:=aL×bT×aV) (fun x => .tuple #[]) (fun x=>r=(x.1.pl,x.2.1.pl,x.2.2)) (fun x=>(x.1.aU.ok.and (x.1.aS.ok.and (x.1.aZ.ok.and (x.1.aN.ok.and (x.1.aP.ok.and (x.1.aK.ok.and (x.1.aQ.ok.and (x.1.aW.ok.and ((qB x.1.aX.l).and (x.1.bF.ok.and (x.1.aY.ok.and (x.2.1.b.ok.and x.2.1.err.ok))))))))))))) (fun x=>Ow.star (bM pE (aI x.1) 49) (Ow.star (Sv.own x.1.aX 61) (Ow.star (bM dZ [x.2.1.b.val,i64 x.2.1.at_,x.2.1.err.val] 205) (Ow.star (bM iW [ptr dZ 0,.bool x.2.2.bad] 155) (bM hO [ptr iW 0] 151))))):=by
 refine Zo Tryz.func154 Tryz.ntmps154 fun c => ?_
 unfold Sh.oP at hS
 refine hU [(0,true),(1,true),(2,true),(4,true),(6,true),(7,true),(8,true),(9,true),(11,true),(12,true),(13,true),(14,true),(3,false),(5,false),(10,false),(15,false),(16,true),(17,false),(18,false),(19,true),(20,false)] ?_
 refine ZX ?_
 refine VD.one rfl (x6 hS (pV iW a_1_ dZ cO) fun ⟨aA0,a1D,a1E⟩ hS => ?_)
 try dsimp only
 refine eL (Pk 14 (Pk 13 (Pk 12 (Pk 11 (Pk 9 (Pk 8 (Pk 7 (Pk 6 (Pk 4 (Pk 1 (Pk 0 Pz))))))))))) ?_
 refine VD.one rfl (x6 hS (OL iW a1E dZ a1D) fun ⟨yO,aO5,a1I⟩ hS => ?_)
 try dsimp only
 refine eL (Pk 14 (Pk 13 (Pk 12 (Pk 11 (Pk 9 (Pk 8 (Pk 7 (Pk 6 (Pk 1 (Pk 0 Pz)))))))))) ?_
 refine VD.one rfl (fJ hS rfl fun ⟨fX,PL⟩ hS => ?_)
 try dsimp only
 refine eL (Pk 14 (Pk 13 (Pk 12 (Pk 11 (Pk 1 (Pk 0 Pz)))))) ?_
 refine VD.one rfl (fJ hS rfl fun ⟨nV,CO⟩ hS => ?_)
 try dsimp only
 refine eL (Pk 1 (Pk 0 Pz)) ?_
 refine Zw rfl (cA (vs:=[(0,aA0.val),(1,yO.val),(2,i64 fX),(3,str nV)]) (cs := #[aA0.val,yO.val,i64 fX,str nV]) rfl (by kernel_rfl)) ?_
 refine VD.one rfl ?_
 refine VL.lit (α:=cD) (xs:=[.tmp 18]) (vs:=[.agg #[aA0.val,yO.val,i64 fX,str nV]]) [⟨aA0,yO,fX,nV⟩] Tryz.underlying44 aDM (by decide) rfl rfl rfl rfl (by decide) (fun h m=>List.forall_mem_cons.2 ⟨dM.out (X:=(aA0.ok.and yO.ok)) h m,fun _ h=>by cases h⟩) (by decide) (fun aM4 aH9 => ?_) (by decide)
 replace hS:=dR (congrArg (List.map cD.pl) aH9) hS
 refine eL (Pk 1 (Pk 0 Pz)) ?_
 refine VD.one rfl ?_
 obtain ⟨b20,hS⟩:=bX hS
 refine VL.app (s:=cE.aX) (r:=aM4) Tryz.underlying44 ZP (by decide) rfl Fo.out (ap1 (Y3 b20)) (ap2 (Y3 b20) (by decide)) (by decide) (fun aM6 Z8 => ?_)
 replace hS:=dR ((congrArg (List.map cD.pl) Z8).trans List.map_append) hS
 refine VL.X7 Z8 ?_
 refine eY ?_
 refine ZX ?_
 refine VD.one rfl (ZX ?_)
 refine eY ?_
 cases hS
 exact VD.nil (rL (.inl rfl) rfl (⟨cE.aU,cE.aS,cE.aZ,cE.aH,cE.aG,cE.aR,cE.aM,cE.aT,cE.aN,cE.aP,cE.aO,cE.aJ,cE.aD,cE.aE,cE.aK,cE.aQ,cE.aW,aM6,cE.bF,cE.aY,cE.time⟩,⟨CO.b,CO.at_,CO.err⟩,⟨a1I.bad⟩) rfl rfl (by (try dsimp only); exact dM.out) (by (try dsimp only); exact fL.out))
theorem OI (bZ:Nat) (dO:aV) (bC:Nat) (bH:bT) (cM:Nat) (bE:aL) (cN:Nat) {r:bA×aV×aF} (hS:Sh.mM dO bH.pl bE.pl=some r) :
 Ct Tryz.prog 153 [ptr bZ 0,.func (.func 154) #[] #[ptr cM 0,ptr cN 0]] (bH.b.ok.and (bH.err.ok.and (bE.aU.ok.and (bE.aS.ok.and (bE.aZ.ok.and (bE.aN.ok.and (bE.aP.ok.and (bE.aK.ok.and (bE.aQ.ok.and (bE.aW.ok.and ((qB bE.aX.l).and (bE.bF.ok.and bE.aY.ok)))))))))))) (Ow.star (bM bC [bH.b.val,i64 bH.at_,bH.err.val] 205) (Ow.star (bM bZ [ptr bC 0,.bool dO.bad] 155) (Ow.star (Sv.own bE.aX 61) (Ow.star (bM cM (aI bE) 49) (bM cN [ptr bZ 0] 151))))) (X:=bT×aV×aL) (fun x => .tuple #[]) (fun x=>r=(x.1.pl,x.2.1,x.2.2.pl)) (fun x=>(x.1.b.ok.and (x.1.err.ok.and (x.2.2.aU.ok.and (x.2.2.aS.ok.and (x.2.2.aZ.ok.and (x.2.2.aN.ok.and (x.2.2.aP.ok.and (x.2.2.aK.ok.and (x.2.2.aQ.ok.and (x.2.2.aW.ok.and ((qB x.2.2.aX.l).and (x.2.2.bF.ok.and x.2.2.aY.ok))))))))))))) (fun x=>Ow.star (bM bC [x.1.b.val,i64 x.1.at_,x.1.err.val] 205) (Ow.star (bM bZ [ptr bC 0,.bool x.2.1.bad] 155) (Ow.star (bM cM (aI x.2.2) 49) (Ow.star (Sv.own x.2.2.aX 61) (bM cN [ptr bZ 0] 151))))):=by
 refine Zo Tryz.func153 Tryz.ntmps153 fun c => ?_
 unfold Sh.mM at hS
 refine ZX ?_
 refine fJ hS rfl fun ⟨pQ,kC⟩ hS => ?_
 try dsimp only
 refine Za ?_
 refine Zl ?_
 refine VC.M3 [0,1,4] (fun (fC:Bool)=>fC) (fun fC ρ=>ρ) (fun (fC:Bool)=>Mo.tt) bZ (fun (fC:Bool)=>[ptr bC 0,.bool fC]) hS (fun _ hS=>ZE hS) ?_
 rintro fC hS
 refine ZX ?_
 refine Zb ?_
 refine VC.iter (S:=Int×bT×Bool×Sv aC×Sv IndexEntry×Sv dP×bI×Int×bI×Int×bI×Sv bJ×Sv bJ×Int×bI×bI×Int×Sv IndexEntry×Sv aC×Sv bN×Sv cD×Sv bI×Sv bI×Int) (fun sg=>(sg.1,sg.2.1.pl,sg.2.2.1,sg.2.2.2.1.l,sg.2.2.2.2.1.l,sg.2.2.2.2.2.1.l,sg.2.2.2.2.2.2.1,sg.2.2.2.2.2.2.2.1,sg.2.2.2.2.2.2.2.2.1,sg.2.2.2.2.2.2.2.2.2.1,sg.2.2.2.2.2.2.2.2.2.2.1,sg.2.2.2.2.2.2.2.2.2.2.2.1.l,sg.2.2.2.2.2.2.2.2.2.2.2.2.1.l,sg.2.2.2.2.2.2.2.2.2.2.2.2.2.1,sg.2.2.2.2.2.2.2.2.2.2.2.2.2.2.1,sg.2.2.2.2.2.2.2.2.2.2.2.2.2.2.2.1,sg.2.2.2.2.2.2.2.2.2.2.2.2.2.2.2.2.1,sg.2.2.2.2.2.2.2.2.2.2.2.2.2.2.2.2.2.1.l,sg.2.2.2.2.2.2.2.2.2.2.2.2.2.2.2.2.2.2.1.l,(sg.2.2.2.2.2.2.2.2.2.2.2.2.2.2.2.2.2.2.2.1.l.map bN.pl),(sg.2.2.2.2.2.2.2.2.2.2.2.2.2.2.2.2.2.2.2.2.1.l.map cD.pl),sg.2.2.2.2.2.2.2.2.2.2.2.2.2.2.2.2.2.2.2.2.2.1.l,sg.2.2.2.2.2.2.2.2.2.2.2.2.2.2.2.2.2.2.2.2.2.2.1.l,sg.2.2.2.2.2.2.2.2.2.2.2.2.2.2.2.2.2.2.2.2.2.2.2)) (fun sg=>[(0,ptr bZ 0),(1,.func (.func 154) #[] #[ptr cM 0,ptr cN 0]),(4,i64 pQ),(5,i64 sg.1)]) (fun sg=>(sg.2.1.m.and (sg.2.2.2.1.ok.and (sg.2.2.2.2.1.ok.and (sg.2.2.2.2.2.1.ok.and (sg.2.2.2.2.2.2.2.2.2.2.2.1.ok.and (sg.2.2.2.2.2.2.2.2.2.2.2.2.1.ok.and (sg.2.2.2.2.2.2.2.2.2.2.2.2.2.2.2.2.2.1.ok.and (sg.2.2.2.2.2.2.2.2.2.2.2.2.2.2.2.2.2.2.1.ok.and (sg.2.2.2.2.2.2.2.2.2.2.2.2.2.2.2.2.2.2.2.1.ok.and ((qB sg.2.2.2.2.2.2.2.2.2.2.2.2.2.2.2.2.2.2.2.2.1.l).and (sg.2.2.2.2.2.2.2.2.2.2.2.2.2.2.2.2.2.2.2.2.2.1.ok.and sg.2.2.2.2.2.2.2.2.2.2.2.2.2.2.2.2.2.2.2.2.2.2.1.ok)))))))))))) (fun sg=>Ow.star (bM bC [sg.2.1.b.val,i64 sg.2.1.at_,sg.2.1.err.val] 205) (Ow.star (bM bZ [ptr bC 0,.bool sg.2.2.1] 155) (Ow.star (bM cM [sg.2.2.2.1.val,sg.2.2.2.2.1.val,sg.2.2.2.2.2.1.val,str sg.2.2.2.2.2.2.1,i64 sg.2.2.2.2.2.2.2.1,str sg.2.2.2.2.2.2.2.2.1,i64 sg.2.2.2.2.2.2.2.2.2.1,str sg.2.2.2.2.2.2.2.2.2.2.1,sg.2.2.2.2.2.2.2.2.2.2.2.1.val,sg.2.2.2.2.2.2.2.2.2.2.2.2.1.val,i64 sg.2.2.2.2.2.2.2.2.2.2.2.2.2.1,str sg.2.2.2.2.2.2.2.2.2.2.2.2.2.2.1,str sg.2.2.2.2.2.2.2.2.2.2.2.2.2.2.2.1,i64 sg.2.2.2.2.2.2.2.2.2.2.2.2.2.2.2.2.1,sg.2.2.2.2.2.2.2.2.2.2.2.2.2.2.2.2.2.1.val,sg.2.2.2.2.2.2.2.2.2.2.2.2.2.2.2.2.2.2.1.val,sg.2.2.2.2.2.2.2.2.2.2.2.2.2.2.2.2.2.2.2.1.val,sg.2.2.2.2.2.2.2.2.2.2.2.2.2.2.2.2.2.2.2.2.1.val,sg.2.2.2.2.2.2.2.2.2.2.2.2.2.2.2.2.2.2.2.2.2.1.val,sg.2.2.2.2.2.2.2.2.2.2.2.2.2.2.2.2.2.2.2.2.2.2.1.val,i64 sg.2.2.2.2.2.2.2.2.2.2.2.2.2.2.2.2.2.2.2.2.2.2.2] 49) (Ow.star (bM cN [ptr bZ 0] 151) (Ow.star (Sv.own sg.2.2.2.2.2.2.2.2.2.2.2.2.2.2.2.2.2.2.2.2.1 61) (Ow.emp)))))) (0,(⟨kC.b,kC.at_,kC.err⟩:bT),fC,bE.aU,bE.aS,bE.aZ,bE.aH,bE.aG,bE.aR,bE.aM,bE.aT,bE.aN,bE.aP,bE.aO,bE.aJ,bE.aD,bE.aE,bE.aK,bE.aQ,bE.aW,bE.aX,bE.bF,bE.aY,bE.time) [0,1,4,5] hS rfl ?_
 rintro ⟨nG,fK,LM,D4,LN,yI,ET,EU,EV,EW,EX,EY,EZ,zP,zQ,zR,zS,zT,zU,zV,QJ,QK,QL,QM⟩ m1 y1 hS hK1
 refine Zq (cI (Zm ?_))
 refine Zm (Zu (qU rfl rfl) (Zm ?_))
 refine oT 25 hS (fun h25 hS => ?_) (fun h25 hS => ?_)
 ·
  refine ZX ?_
  refine VL.guard rfl rfl ?_
  refine fJ hS rfl fun a7L hS=>ZX ?_
  refine VC.bD [0,1,4,5,32] (Zc hS (fun h32 hS => ?_) (fun h32 hS => ?_))
  ·
   refine Zk ?_
   refine Zq (Zb (Zr (Zm ?_)))
   obtain ⟨oG,aTp,hS⟩:=dU hS
   refine VL.M7 (vs:=[]) (caps:=[ptr cM 0,ptr cN 0]) (OM cM (⟨D4,LN,yI,ET,EU,EV,EW,EX,EY,EZ,zP,zQ,zR,zS,zT,zU,zV,QJ,QK,QL,QM⟩:aL) cN bZ (⟨LM⟩:aV) bC fK aTp) rfl rfl (by decide) ?_
   rintro ⟨mB,aBi,aR5⟩ rfl
   try dsimp only
   obtain ⟨b34,hS⟩:=bX hS
   refine Zl ?_
   refine Zr (ZX ?_)
   refine VL.PX ((nG+1),(⟨aBi.b,aBi.at_,aBi.err⟩:bT),aR5.bad,mB.aU,mB.aS,mB.aZ,mB.aH,mB.aG,mB.aR,mB.aM,mB.aT,mB.aN,mB.aP,mB.aO,mB.aJ,mB.aD,mB.aE,mB.aK,mB.aQ,mB.aW,mB.aX,mB.bF,mB.aY,mB.time) [0,1,4,5] (fun _ _ h=>h) (go2 hS hK1) rfl
  replace hS:=lQ hS hK1
  cases hS
  exact VC.exit (rL (.inl rfl) rfl (⟨fK.b,fK.at_,fK.err⟩,⟨LM⟩,⟨D4,LN,yI,ET,EU,EV,EW,EX,EY,EZ,zP,zQ,zR,zS,zT,zU,zV,QJ,QK,QL,QM⟩) rfl rfl (by (try dsimp only); exact dM.out) (by (try dsimp only); exact fL.out))
 refine VL.runs 7 [(32,some false)] (by kernel_rfl) ?_
 refine Zl ?_
 refine VC.uW rfl ?_
 replace hS:=lQ hS hK1
 cases hS
 exact VC.exit (rL (.inl rfl) rfl (⟨fK.b,fK.at_,fK.err⟩,⟨LM⟩,⟨D4,LN,yI,ET,EU,EV,EW,EX,EY,EZ,zP,zQ,zR,zS,zT,zU,zV,QJ,QK,QL,QM⟩) rfl rfl (by (try dsimp only); exact dM.out) (by (try dsimp only); exact fL.out))
instance SG (aA:Sv cD) :
 jG Tryz.prog 159 [aA.val] (Sh.fT (aA.l.map cD.pl)) aA.ok (X:=Sv cD) (fun x=>x.val) (fun x=>(x.l.map cD.pl)) (fun x=>x.ok):=by
 refine jO Tryz.func159 Tryz.ntmps159 fun r hS c => ?_
 unfold Sh.fT at hS
 obtain ⟨b8,hS⟩:=bX hS
 refine ZX ?_
 refine VL.SH Tryz.underlying44 XX rfl rfl rfl b8.1 (aB6 b8.2) (by decide) fun NW rP => ?_
 replace hS:=dR ((congrArg (List.map cD.pl) rP).trans List.map_take) hS
 exact ZE hS
theorem OO (pE:Nat) (cE:Sv bI) (hO:Nat) (iW:Nat) (a_1_:aV) (dZ:Nat) (cO:bT) {r:List bI×bA} (hS:Sh.oR cE.l a_1_ cO.pl=some r) :
 Ct Tryz.prog 243 [ptr pE 0,ptr hO 0] (cO.b.ok.and cO.err.ok) (Ow.star (Sv.own cE 9) (Ow.star (bM pE [cE.val] 45) (Ow.star (bM dZ [cO.b.val,i64 cO.at_,cO.err.val] 205) (Ow.star (bM iW [ptr dZ 0,.bool a_1_.bad] 155) (bM hO [ptr iW 0] 151))))) (X:=Sv bI×bT) (fun x => .tuple #[]) (fun x=>r=(x.1.l,x.2.pl)) (fun x=>(x.2.b.ok.and x.2.err.ok)) (fun x=>Ow.star (bM pE [x.1.val] 45) (Ow.star (Sv.own x.1 9) (Ow.star (bM dZ [x.2.b.val,i64 x.2.at_,x.2.err.val] 205) (Ow.star (bM iW [ptr dZ 0,.bool a_1_.bad] 155) (bM hO [ptr iW 0] 151))))):=by
 refine Zo Tryz.func243 Tryz.ntmps243 fun c => ?_
 unfold Sh.oR at hS
 refine hU [(0,true),(1,true),(2,true),(3,true),(4,true),(5,false),(6,false),(7,false),(8,false)] ?_
 refine ZX ?_
 refine VD.one rfl (fJ hS rfl fun ⟨DI,I6⟩ hS => ?_)
 try dsimp only
 refine eL (Pk 0 Pz) ?_
 refine VD.one rfl (tE hS fun a4o hS=>eL (Pk 0 Pz) ?_)
 refine VD.one rfl (XJ hS fun aXJ hS => ?_)
 refine eY ?_
 refine VD.one rfl (ZX ?_)
 refine eY ?_
 cases hS
 exact VD.nil (rL (.inl rfl) rfl (aXJ,⟨I6.b,I6.at_,I6.err⟩) rfl rfl (by (try dsimp only); exact dM.out) (by (try dsimp only); exact fL.out))
theorem OK (bZ:Nat) (dO:aV) (bC:Nat) (bH:bT) (cM:Nat) (bE:Sv bI) (cN:Nat) {r:bA×aV×List bI} (hS:Sh.mN dO bH.pl bE.l=some r) :
 Ct Tryz.prog 153 [ptr bZ 0,.func (.func 243) #[] #[ptr cM 0,ptr cN 0]] (bH.b.ok.and bH.err.ok) (Ow.star (bM bC [bH.b.val,i64 bH.at_,bH.err.val] 205) (Ow.star (bM bZ [ptr bC 0,.bool dO.bad] 155) (Ow.star (Sv.own bE 9) (Ow.star (bM cM [bE.val] 45) (bM cN [ptr bZ 0] 151))))) (X:=bT×aV×Sv bI) (fun x => .tuple #[]) (fun x=>r=(x.1.pl,x.2.1,x.2.2.l)) (fun x=>(x.1.b.ok.and x.1.err.ok)) (fun x=>Ow.star (bM bC [x.1.b.val,i64 x.1.at_,x.1.err.val] 205) (Ow.star (bM bZ [ptr bC 0,.bool x.2.1.bad] 155) (Ow.star (bM cM [x.2.2.val] 45) (Ow.star (Sv.own x.2.2 9) (bM cN [ptr bZ 0] 151))))):=by
 refine Zo Tryz.func153 Tryz.ntmps153 fun c => ?_
 unfold Sh.mN at hS
 refine ZX ?_
 refine fJ hS rfl fun ⟨pQ,kC⟩ hS => ?_
 try dsimp only
 refine Za ?_
 refine Zl ?_
 refine VC.M3 [0,1,4] (fun (fC:Bool)=>fC) (fun fC ρ=>ρ) (fun (fC:Bool)=>Mo.tt) bZ (fun (fC:Bool)=>[ptr bC 0,.bool fC]) hS (fun _ hS=>ZE hS) ?_
 rintro fC hS
 refine ZX ?_
 refine Zb ?_
 refine VC.iter (S:=Int×bT×Sv bI) (fun sg=>(sg.1,sg.2.1.pl,sg.2.2.l)) (fun sg=>[(0,ptr bZ 0),(1,.func (.func 243) #[] #[ptr cM 0,ptr cN 0]),(4,i64 pQ),(5,i64 sg.1)]) (fun sg=>sg.2.1.m) (fun sg=>Ow.star (bM bC [sg.2.1.b.val,i64 sg.2.1.at_,sg.2.1.err.val] 205) (Ow.star (bM bZ [ptr bC 0,.bool fC] 155) (Ow.star (bM cM [sg.2.2.val] 45) (Ow.star (bM cN [ptr bZ 0] 151) (Ow.star (Sv.own sg.2.2 9) (Ow.emp)))))) (0,(⟨kC.b,kC.at_,kC.err⟩:bT),bE) [0,1,4,5] hS rfl ?_
 rintro ⟨nG,fK,kL⟩ m1 y1 hS hK1
 refine Zq (cI (Zm ?_))
 refine Zm (Zu (qU rfl rfl) (Zm ?_))
 refine oT 25 hS (fun h25 hS => ?_) (fun h25 hS => ?_)
 ·
  refine ZX ?_
  refine VL.guard rfl rfl ?_
  refine fJ hS rfl fun UD hS=>ZX ?_
  refine VC.bD [0,1,4,5,32] (Zc hS (fun h32 hS => ?_) (fun h32 hS => ?_))
  ·
   refine Zk ?_
   refine Zq (Zb (Zr (Zm ?_)))
   obtain ⟨oZ,KW,hS⟩:=dU hS
   refine VL.M7 (vs:=[]) (caps:=[ptr cM 0,ptr cN 0]) (OO cM kL cN bZ (⟨fC⟩:aV) bC fK KW) rfl rfl (by decide) ?_
   rintro ⟨CR,oW⟩ rfl
   try dsimp only
   obtain ⟨b34,hS⟩:=bX hS
   refine Zl ?_
   refine Zr (ZX ?_)
   refine VL.PX ((nG+1),(⟨oW.b,oW.at_,oW.err⟩:bT),CR) [0,1,4,5] (fun _ _ h=>h) (go2 hS hK1) rfl
  replace hS:=lQ hS hK1
  cases hS
  exact VC.exit (rL (.inl rfl) rfl (⟨fK.b,fK.at_,fK.err⟩,⟨fC⟩,kL) rfl rfl (by (try dsimp only); exact dM.out) (by (try dsimp only); exact fL.out))
 refine VL.runs 7 [(32,some false)] (by kernel_rfl) ?_
 refine Zl ?_
 refine VC.uW rfl ?_
 replace hS:=lQ hS hK1
 cases hS
 exact VC.exit (rL (.inl rfl) rfl (⟨fK.b,fK.at_,fK.err⟩,⟨fC⟩,kL) rfl rfl (by (try dsimp only); exact dM.out) (by (try dsimp only); exact fL.out))
instance aCr (aA:Sv bI) :
 uL Tryz.prog 33 [aA.val] (Sh.cL aA.l) Mo.tt (Sv.own aA 9) (X:=Sv bI) (fun x=>x.val) (fun x=>x.l) (fun x=>Mo.tt) (fun x=>Sv.own x 9):=by
 refine uV Tryz.func33 Tryz.ntmps33 fun r hS c => ?_
 unfold Sh.cL at hS
 obtain ⟨b8,hS⟩:=bX hS
 refine ZX ?_
 refine VL.aT7 (s:=aA) Tryz.underlying45 wU rfl rfl rfl b8.1 (b8.2) Fo.out (by decide) fun NW rP => ?_
 replace hS:=dR rP hS
 exact ZE hS
end Go.Proofs.YtaohfeokfcdojaaGreatDoor
end

section
set_option linter.unusedVariables false
namespace Go.Proofs.YtaohfeokfcdojaaGreatDoor
set_option maxHeartbeats 4000000
set_option maxRecDepth 100000
set_option synthInstance.maxSize 2000
set_option synthInstance.maxHeartbeats 1000000
open Go.RowKit Go.V
open Go.S
attribute [local irreducible] Go.V.Qt Go.V.VL Go.V.VC Go.V.HA Go.S.gd Go.S.at_ Go.S.lt Go.S.jn Go.S.go Go.S.up Go.S.iter Sh.B7 Sh.B8 Sh.HJ Sh.vZ Sh.v7 Sh.zX Sh.HK Sh.HN Sh.jB Sh.eM Sh.AS Sh.DA Sh.gV Sh.nP Sh.eN Sh.kO Sh.o5 Sh.lY Sh.iN Sh.zF Sh.AZ Sh.xO Sh.mF Sh.pH Sh.bO Sh.fT Sh.cL Sh.gH Sh.b5 Sh.fE Sh.BM Sh.yD Sh.oE Sh.mM Sh.mN Sh.mS Sh.rJ Sh.nZ Sh.vD Sh.strings_Index Sh.qY Sh.yE Sh.qZ Sh.mP Sh.nS Sh.C3 Sh.LH Sh.IE Sh.DN Sh.C5
instance:KA Tryz.prog 32 (.slice 89):=⟨Tryz.underlying32⟩
theorem GZ (bZ:Nat) (dO:aV) (bC:Nat) (bH:bT) {r:List bI×bA×aV} (hS:Sh.nZ dO bH.pl=some r) :
 Ct Tryz.prog 160 [ptr bZ 0] (bH.b.ok.and bH.err.ok) (Ow.star (bM bC [bH.b.val,i64 bH.at_,bH.err.val] 205) (bM bZ [ptr bC 0,.bool dO.bad] 155)) (X:=Sv bI×bT×aV) (fun x=>x.1.val) (fun x=>r=(x.1.l,x.2.1.pl,x.2.2)) (fun x=>(x.2.1.b.ok.and x.2.1.err.ok)) (fun x=>Ow.star (Sv.own x.1 9) (Ow.star (bM bC [x.2.1.b.val,i64 x.2.1.at_,x.2.1.err.val] 205) (bM bZ [ptr bC 0,.bool x.2.2.bad] 155))):=by
 refine Zo Tryz.func160 Tryz.ntmps160 fun c => ?_
 unfold Sh.nZ at hS
 refine cI (kF fun iS=>ZX ?_)
 refine dG fun oU=>ZX ?_
 refine VL.lU (⟨none,0,[]⟩:Sv bI) 9 ⟨rfl,rfl⟩ ?_
 refine VL.YA oU (cs':=[(⟨none,0,[]⟩:Sv bI).val]) rfl ?_
 refine x6 hS (OK bZ dO bC bH oU (⟨none,0,[]⟩:Sv bI) iS) fun ⟨u6,K2,NP⟩ hS => ?_
 try dsimp only
 refine ZX ?_
 refine fJ hS rfl fun I7 hS=>ZX ?_
 cases hS
 exact VC.ret (Z1 (I7,⟨u6.b,u6.at_,u6.err⟩,⟨K2.bad⟩))
theorem RD (bZ:Nat) (dO:aV) (bC:Nat) (bH:bT) {r:aF×bA×aV} (hS:Sh.rJ dO bH.pl=some r) :
 Ct Tryz.prog 88 [ptr bZ 0] (bH.b.ok.and bH.err.ok) (Ow.star (bM bC [bH.b.val,i64 bH.at_,bH.err.val] 205) (bM bZ [ptr bC 0,.bool dO.bad] 155)) (X:=aL×bT×aV) (fun x => .agg (bB.enc x.1).toArray) (fun x=>r=(x.1.pl,x.2.1.pl,x.2.2)) (fun x=>(x.1.m.and (x.2.1.b.ok.and x.2.1.err.ok))) (fun x=>Ow.star (bM bC [x.2.1.b.val,i64 x.2.1.at_,x.2.1.err.val] 205) (bM bZ [ptr bC 0,.bool x.2.2.bad] 155)):=by
 refine Zo Tryz.func88 Tryz.ntmps88 fun c => ?_
 unfold Sh.rJ at hS
 refine cI (kF fun iS=>dG fun B4=>ZX ?_)
 refine x6 hS (J5 bZ dO bC bH) fun ⟨fW,a1F,a1G⟩ hS => ?_
 try dsimp only
 refine Zu (cA (vs:=[(0,.agg (pL fW).toArray)]) (cs := #[fW.work.val,fW.index.val,fW.refs.val,str fW.cH,i64 fW.cB,str fW.fG,i64 fW.eO,str fW.fH,fW.dJ.val,fW.eB.val,i64 fW.fD,str fW.dW,str fW.bV,i64 fW.bW,fW.dK.val,fW.eD.val,fW.gD.val,.slice none 0 0,.slice none 0 0,.slice none 0 0,i64 0]) rfl (by kernel_rfl)) ?_
 refine dG fun a4X=>ZX ?_
 refine VL.lU (⟨none,0,[]⟩:Sv cD) 61 ⟨rfl,rfl⟩ ?_
 refine VL.X8 (s:=(⟨none,0,[]⟩:Sv cD)) rfl ?_
 refine VL.YA a4X (cs':=[fW.work.val,fW.index.val,fW.refs.val,str fW.cH,i64 fW.cB,str fW.fG,i64 fW.eO,str fW.fH,fW.dJ.val,fW.eB.val,i64 fW.fD,str fW.dW,str fW.bV,i64 fW.bW,fW.dK.val,fW.eD.val,fW.gD.val,(⟨none,0,[]⟩:Sv cD).val,(⟨none,0,[]⟩:Sv bI).val,(⟨none,0,[]⟩:Sv bI).val,i64 0]) rfl ?_
 refine x6 hS (OI bZ a1G bC a1F a4X (⟨fW.work,fW.index,fW.refs,fW.cH,fW.cB,fW.fG,fW.eO,fW.fH,fW.dJ,fW.eB,fW.fD,fW.dW,fW.bV,fW.bW,fW.dK,fW.eD,fW.gD,(⟨none,0,[]⟩:Sv cD),(⟨none,0,[]⟩:Sv bI),(⟨none,0,[]⟩:Sv bI),0⟩:aL) iS) fun ⟨aHw,a1N,u7⟩ hS => ?_
 try dsimp only
 refine ZX ?_
 refine VL.shut u7.aX 61 (fun h m=>dM.out (X:=qB u7.aX.l) h m) ?_
 refine fN hS rfl fun aWB hS=>ZO ?_
 refine Zl ?_
 refine VC.bD [1,2,3] (Zq ?_)
 refine hU [(0,true),(2,true),(1,false),(3,false),(4,true),(5,true),(6,false)] ?_
 refine ZX ?_
 refine VD.one rfl (x6 hS (GZ bZ a1N bC aHw) fun ⟨aAQ,aWL,aWM⟩ hS => ?_)
 try dsimp only
 refine eL (Pk 2 Pz) ?_
 refine VD.one rfl (x6 hS (GZ bZ aWM bC aWL) fun ⟨aAT,a8r,aWO⟩ hS => ?_)
 try dsimp only
 refine eY ?_
 refine Zw rfl (cA (vs:=[(0,aAQ.val),(1,aAT.val)]) (cs := #[aAQ.val,aAT.val]) rfl (by kernel_rfl)) ?_
 refine ZX ?_
 refine VD.one rfl (ZX ?_)
 refine eY ?_
 refine ZX ?_
 refine fJ hS rfl fun ⟨aWT,aFE⟩ hS => ?_
 try dsimp only
 refine ZO ?_
 refine Zl ?_
 refine VC.bD [2,3] (cI (ZO ?_))
 refine Zl ?_
 refine VC.shut aAQ 9 (fun _ _ _ _=>trivial) ?_
 refine VC.shut aAT 9 (fun _ _ _ _=>trivial) ?_
 cases hS
 exact VC.ret (Z4 (⟨u7.aU,u7.aS,u7.aZ,u7.aH,u7.aG,u7.aR,u7.aM,u7.aT,u7.aN,u7.aP,u7.aO,u7.aJ,u7.aD,u7.aE,u7.aK,u7.aQ,u7.aW,aWB,aAQ,aAT,aWT⟩,⟨aFE.b,aFE.at_,aFE.err⟩,⟨aWO.bad⟩) rfl)
instance XV (uO:Nat) (iK:bT) :
 gS Tryz.prog 162 [ptr uO 0] (Sh.AS iK.pl) (iK.b.ok.and (iK.err.ok.and (Cells uO 0 [iK.b.val,i64 iK.at_,iK.err.val]))) (fun r=>i64 r):=by
 refine gU Tryz.func162 Tryz.ntmps162 fun r hS c => ?_
 unfold Sh.AS at hS
 refine ZX ?_
 refine Zq (ZX ?_)
 refine Zu (ED aNs rfl rfl) ?_
 refine ZX ?_
 refine qD hS (fun _ hS=>ZE hS) fun h7 hS=>Zk ?_
 refine Zq ?_
 refine hU ((List.range 11).map fun k=>(k,true)) ?_
 refine ZX ?_
 refine Zw rfl (ED aJf rfl rfl) ?_
 refine ZX ?_
 refine Zw rfl (ED v8 rfl rfl) ?_
 exact ZE hS
theorem J4 (bZ:Nat) (dO:aV) (bC:Nat) (bH:bT) {r:cS} (hS:Sh.oE dO bH.pl=some r) :
 Ct Tryz.prog 89 [ptr bZ 0] (bH.b.ok.and bH.err.ok) (Ow.star (bM bC [bH.b.val,i64 bH.at_,bH.err.val] 205) (bM bZ [ptr bC 0,.bool dO.bad] 155)) (X:=Er) (fun x=>x.val) (fun x=>r=x.pl) (fun x=>x.ok) (fun x=>Ow.star (bM bC [bH.b.val,i64 bH.at_,bH.err.val] 205) (bM bZ [ptr bC 0,.bool dO.bad] 155)):=by
 refine Zo Tryz.func89 Tryz.ntmps89 fun c => ?_
 unfold Sh.oE at hS
 refine ZX ?_
 refine Zq (Zb (ZX ?_))
 refine fJ hS rfl fun NS hS=>ZX ?_
 refine qD hS (fun _ hS=>ZE hS) fun h3 hS => ?_
 refine VC.cJ [] (fun (FF:Bool)=>FF) (fun FF ρ=>(15,.bool FF)::ρ) hS ?_ ?_
 ·
  intro k4 hS
  refine Zr (Zm (Zu (lX rfl) (Zu (bY aG7 rfl) (Zu (nI KC rfl rfl) (Zm ?_)))))
  refine B3 20 hS (fun _ hS=>ZE hS) fun h20 hS => ?_
  refine ZX ?_
  obtain ⟨aFe,aZ7,hS⟩:=dU hS
  refine Zh (lW ((XV bC bH).out aZ7) rfl (fun _ _=>rfl)) ?_
  exact ZE hS
 rintro FF hS
 refine iG hS (fun h15 hS => ?_) (fun h15 hS => ?_)
 ·
  refine ZX ?_
  cases hS
  exact VC.ret (Z1 (Er.no 2))
 refine ZX ?_
 cases hS
 exact VC.ret (Z1 .nil)
instance aSZ (b_0:Sv UInt8) :
 jG Tryz.prog 46 [b_0.val] (Sh.BM b_0.l) b_0.ok (X:=aL×Er) (fun x => .tuple #[.agg (bB.enc x.1).toArray,x.2.val]) (fun x=>(x.1.pl,x.2.pl)) (fun x=>(x.1.m.and x.2.ok)):=by
 refine jO Tryz.func46 Tryz.ntmps46 fun r hS c => ?_
 unfold Sh.BM at hS
 refine cI (dG fun iB=>ZX ?_)
 refine fJ hS rfl fun ⟨aA1,a1L⟩ hS => ?_
 try dsimp only
 refine Zu (cA (vs:=[(0,ptr aA1 0)]) (cs := #[ptr aA1 0,.bool false]) rfl (by kernel_rfl)) ?_
 refine kF fun XL=>ZX ?_
 refine x6 hS (RD XL (⟨false⟩:aV) aA1 a1L) fun ⟨GP,aVz,aWA⟩ hS => ?_
 try dsimp only
 refine dG fun a8I=>ZO ?_
 refine Zl ?_
 refine VC.bD [2,4,5] (Zq (ZX ?_))
 refine x6 hS (J4 XL aWA aA1 aVz) fun aWI hS=>ZX ?_
 refine qD hS (fun h16 hS => ?_) (fun h16 hS => ?_)
 ·
  refine cI ?_
  refine Zu (cA (vs:=[]) (cs := #[.slice none 0 0,.slice none 0 0,.slice none 0 0,str [],i64 0,str [],i64 0,str [],.slice none 0 0,.slice none 0 0,i64 0,str [],str [],i64 0,.slice none 0 0,.slice none 0 0,.slice none 0 0,.slice none 0 0,.slice none 0 0,.slice none 0 0,i64 0]) rfl (by kernel_rfl)) ?_
  refine ZX ?_
  cases hS
  exact VC.ret (Z4 (⟨⟨none,0,[]⟩,⟨none,0,[]⟩,⟨none,0,[]⟩,[],0,[],0,[],⟨none,0,[]⟩,⟨none,0,[]⟩,0,[],[],0,⟨none,0,[]⟩,⟨none,0,[]⟩,⟨none,0,[]⟩,⟨none,0,[]⟩,⟨none,0,[]⟩,⟨none,0,[]⟩,0⟩,aWI) rfl)
 refine ZX ?_
 cases hS
 exact VC.ret (Z4 (GP,.nil) rfl)
instance aFU (aA:aL) :
 jG Tryz.prog 21 [.agg (aI aA).toArray] (Sh.mF aA.pl) aA.m (X:=aL) (fun x => .agg (bB.enc x).toArray) (fun x=>x.pl) (fun x=>x.m):=by
 refine jO Tryz.func21 Tryz.ntmps21 fun r hS c => ?_
 unfold Sh.mF at hS
 refine cI ?_
 refine qC (aI aA) fun iS => ?_
 refine dG fun B4=>ZX ?_
 refine fN hS rfl fun a1J hS=>fN hS rfl fun ⟨I7,bAN⟩ hS => ?_
 try dsimp only
 refine ZX ?_
 exact dG fun bBX=>ZE hS
theorem aHj (s v:Sv aC) (i:Int) (hi:0≤i∧i≤(s.l.length:Int)) (hv:v.l≠[]) (hb:s.l.length+v.l.length≤4294967296):Ct Tryz.prog 151 [s.val,i64 i,v.val] Mo.tt (Ow.star (s.own 89) (v.own 89)) (X:=Sv aC) (fun q=>q.val) (fun q=>q.l=s.l.take i.toNat++v.l++s.l.drop i.toNat) (fun q=>Mo.tt) (fun q=>q.own 89):=by
 refine Zo Tryz.func151 Tryz.ntmps151 fun c => ?_
 have hvp:0 < v.l.length:=List.length_pos_iff.2 hv
 have hK:bB.sz aC=3:=rfl
 refine ZX ?_
 refine VL.fits (s:=s) (e:=89) Fo.out fun hf => ?_
 refine Zu (EM (s:=s) Tryz.underlying33 j9 rfl rfl hi.1 hi.2 hf) ?_
 refine ZX ?_
 refine Zq (ZX ?_)
 refine VC.mY rfl (fun h16=>absurd h16 (by omega)) (fun h16 => ?_)
 refine ZX ?_
 refine Zq (ZX ?_)
 refine VC.mY rfl (fun h22 => ?_) (fun h22 => ?_)
 ·
  refine ZX ?_
  refine VL.shut v 89 (fun _ _ _ _=>trivial) ?_
  refine VL.aNY (s:=s) (r:=v) Tryz.underlying33 Tryz.underlying32 aH3 (by decide) rfl Fo.out (ap1 hb) (ap2 hb (by decide)) (by decide) (fun q hq => ?_)
  refine ZX ?_
  have e1:i.toNat=s.l.length:=by omega
  exact VC.ret (GI (.inr rfl) rfl rfl q rfl (by rw [hq,e1,List.take_length,List.drop_length,List.append_nil]) (fun _ _=>trivial) fL.out)
 have hin:i < (s.l.length:Int):=by omega
 have hne:s.l≠[]:=fun h=>by rw [h] at hin; simp at hin; omega
 have hkq:(s.l.length:Int)+(v.l.length:Int) - i=((s.l.length+v.l.length - i.toNat:Nat):Int):=by omega
 have hLn:(s.l.take i.toNat++v.l++s.l.drop i.toNat).length=s.l.length+v.l.length:=by simp only [List.length_append,List.length_take,List.length_drop]; omega
 have hfl:(s.l.take i.toNat++v.l++s.l.drop i.toNat).flatMap bB.enc=(s.l.take i.toNat).flatMap bB.enc++v.l.flatMap bB.enc++(s.l.drop i.toNat).flatMap bB.enc:=by rw [List.flatMap_append,List.flatMap_append]
 have lA:((s.l.take i.toNat).flatMap bB.enc).length=i.toNat*3:=by rw [gI,List.length_take,hK,Nat.min_eq_left (by omega)]
 have lV:(v.l.flatMap bB.enc).length=v.l.length*3:=by rw [gI,hK]
 have lS:((s.l.drop i.toNat).flatMap bB.enc).length=(s.l.length - i.toNat)*3:=by rw [gI,List.length_drop,hK]
 refine Zk ?_
 refine Zq (ZX ?_)
 refine Zu (lN rfl rfl ⟨by omega,by omega⟩) ?_
 refine Zm (Zu (aD2 (a0:=s.a) (L:=s.l.length) (C:=s.c) Tryz.underlying33 rfl) ?_)
 refine ZX ?_
 refine VC.mY rfl (fun h31 => ?_) (fun h31 => ?_)
 ·
  refine VC.shut s 89 (fun _ _ _ _=>trivial) ?_
  refine VC.shut v 89 (fun _ _ _ _=>trivial) ?_
  refine cI ?_
  refine VL.CC (φ:=s.a=some ⟨s.b,s.o,none⟩) (fun h m=>(dM.out (X:=s.ok) h m).2.2.1 hne) fun hsa => ?_
  refine VL.CC (φ:=v.a=some ⟨v.b,v.o,none⟩) (fun h m=>(dM.out (X:=v.ok) h m).2.2.1 hv) fun hva => ?_
  refine ZX ?_
  refine Zu (OB (a0:=s.a) (L:=s.l.length) (C:=s.c) (K:=3) Tryz.underlying33 j9 rfl rfl hi.1 (by omega)) ?_
  refine ZX ?_
  refine Zu (lN rfl rfl ⟨by omega,by omega⟩) ?_
  refine Zm ?_
  refine Zu (MI rfl rfl ⟨by omega,by omega⟩) ?_
  refine VL.F4 39 rfl (congrArg (Value.int .i64) hkq) ?_
  refine VL.aHE (s:=s) (L:=i.toNat) (kq:=s.l.length+v.l.length - i.toNat) Tryz.underlying33 Tryz.underlying3 aH3 (by decide) rfl hne (by omega) (by omega) (by omega) (by omega) (by decide) (by decide) fun g cs cp hcl hcp hcm hct => ?_
  rw [hK] at hcl hct
  rw [show i.toNat+(s.l.length+v.l.length - i.toNat)=s.l.length+v.l.length by omega] at hcp ⊢
  have hfit:((s.l.take i.toNat).flatMap bB.enc).length+(v.l.flatMap bB.enc).length+((s.l.drop i.toNat).flatMap bB.enc).length≤cs.length:=by
    rw [lA,lV,lS,hcl,← Nat.add_mul,← Nat.add_mul]; exact Nat.mul_le_mul_right _ (by omega)
  have hic:=NG (V:=v.l.flatMap bB.enc) (S:=(s.l.drop i.toNat).flatMap bB.enc) (by rw [lA]; exact hct) hfit
  rw [← hfl,lA,lV,lS] at hic
  refine ZX ?_
  refine Zu (lD (b:=g) (o:=0) (L:=s.l.length+v.l.length) (C:=cp) (K:=3) Tryz.underlying33 j9 rfl rfl hi.1 (by omega) hcp (by omega) rfl) ?_
  refine Zm ?_
  refine VL.F4 44 rfl (show v.val = .slice (some ⟨v.b,v.o+0*bB.sz aC,none⟩) v.l.length v.c by unfold Sv.val; rw [hva,Nat.zero_mul]; rfl) ?_
  refine VL.DU (src:=v.l.flatMap bB.enc) Tryz.underlying33 j9 oS.out rfl (by rw [lV]; congr 1; exact (Nat.min_eq_left (by omega)).symm) (JR (r:=v) (by decide) hv) (oI v.l) (by rw [lV,Nat.zero_add,hcl,← Nat.add_mul]; exact Nat.mul_le_mul_right _ (by omega)) (by decide) ?_
  rw [Nat.zero_add,lV]
  refine Zl ?_
  refine Zq ?_
  refine hU [(0,true),(1,true),(2,true),(3,true),(4,true),(5,true),(6,true),(7,true),(8,false)] ?_
  refine ZX ?_
  refine Zw rfl (lN rfl rfl ⟨by omega,by omega⟩) ?_
  refine Zw rfl (lD (b:=g) (o:=0) (L:=s.l.length+v.l.length) (C:=cp) (K:=3) Tryz.underlying33 j9 rfl rfl (by omega) (by omega) hcp (by omega) rfl) ?_
  refine ZX ?_
  refine Zw rfl (lD (b:=s.b) (o:=s.o) (L:=s.l.length) (C:=s.c) (K:=3) Tryz.underlying33 j9 (show some s.val=_ by unfold Sv.val; rw [hsa]) rfl hi.1 (by omega) hf (by omega) rfl) ?_
  refine VD.one rfl ?_
  rw [show (i+(v.l.length:Int)).toNat=i.toNat+v.l.length by omega]
  refine VL.DU (src:=(s.l.drop i.toNat).flatMap bB.enc) Tryz.underlying33 j9 oS.out rfl (by rw [lS]; congr 1; exact (Nat.min_eq_left (by omega)).symm) (T3 (r:=s) (by decide) hne i.toNat) (oI _) (by rw [lS,Nat.zero_add,hic.1,hcl,← Nat.add_mul]; exact Nat.mul_le_mul_right _ (by omega)) (by decide) ?_
  rw [Nat.zero_add,lS,Nat.add_mul]
  refine eY ?_
  refine ZX ?_
  have ho:=fun F=>EB (F:=F) (e:=89) (b:=g) (l':=s.l.take i.toNat++v.l++s.l.drop i.toNat) (Nat.le_of_eq (hic.2.1.trans hcl).symm) (by rw [gI] at hic; exact hic.2.2) hLn hcp hcm
  exact VC.ret (GI (.inr rfl) rfl rfl ⟨some ⟨g,0,none⟩,cp,_⟩ (ho Ow.emp).1 rfl (fun _ _=>trivial) (ho _).2)
 refine ZX ?_
 refine VL.open (s:=s) (e:=89) Fo.out (by omega) fun b cs hsa hcl hct _ hcm => ?_
 rw [hK] at hcl hct
 have hctA:cs.take ((s.l.take i.toNat).flatMap bB.enc).length=(s.l.take i.toNat).flatMap bB.enc:=by
   rw [lA]
   have:cs.take (i.toNat*3)=(cs.take (s.l.length*3)).take (i.toNat*3):=by rw [List.take_take,Nat.min_eq_left (Nat.mul_le_mul_right _ (by omega))]
   rw [this,hct]
   exact qE s.l i.toNat
 have hfit:((s.l.take i.toNat).flatMap bB.enc).length+(v.l.flatMap bB.enc).length+((s.l.drop i.toNat).flatMap bB.enc).length≤cs.length:=by
   refine Nat.le_trans ?_ hcl; rw [lA,lV,lS,← Nat.add_mul,← Nat.add_mul]; exact Nat.mul_le_mul_right _ (by omega)
 have hic:=NH (V:=v.l.flatMap bB.enc) (S:=(s.l.drop i.toNat).flatMap bB.enc) hctA hfit
 rw [← hfl,lA,lV,lS] at hic
 refine ZX ?_
 refine Zu (lN rfl rfl ⟨by omega,by omega⟩) ?_
 refine Zu (OB (a0:=s.a) (L:=s.l.length) (C:=s.c) (K:=3) Tryz.underlying33 j9 rfl rfl (by omega) (by omega)) ?_
 rw [show ((s.l.length:Int)+(v.l.length:Int)).toNat=s.l.length+v.l.length by omega,hsa]
 refine ZX ?_
 refine Zq (ZX ?_)
 refine Zu (lN rfl rfl ⟨by omega,by omega⟩) ?_
 refine Zu (lD (b:=b) (o:=0) (L:=s.l.length+v.l.length) (C:=s.c) (K:=3) Tryz.underlying33 j9 rfl rfl (by omega) (by omega) (by omega) (by omega) rfl) ?_
 refine Zu (NT (tS:=32) (tR:=4) (s:=v) (b:=b) Tryz.func229 rfl rfl (by kernel_rfl) (by kernel_rfl) Tryz.underlying32 j9 rfl oS.out (fun h=>by rw [h] at hcl; simp at hcl; omega) hv) ?_
 refine ZX ?_
 refine VC.DB rfl ?_
 refine VC.shut v 89 (fun _ _ _ _=>trivial) ?_
 refine Zq ?_
 refine hU [(0,true),(1,true),(2,true),(3,true),(4,true),(5,true),(6,true),(7,true),(8,false)] ?_
 refine ZX ?_
 refine Zw rfl (lN rfl rfl ⟨by omega,by omega⟩) ?_
 refine Zw rfl (lD (b:=b) (o:=0) (L:=s.l.length+v.l.length) (C:=s.c) (K:=3) Tryz.underlying33 j9 rfl rfl (by omega) (by omega) (by omega) (by omega) rfl) ?_
 refine ZX ?_
 refine Zw rfl (lD (b:=b) (o:=0) (L:=s.l.length+v.l.length) (C:=s.c) (K:=3) Tryz.underlying33 j9 rfl rfl hi.1 (by omega) (by omega) (by omega) rfl) ?_
 refine VD.one rfl ?_
 rw [show (i+(v.l.length:Int)).toNat=i.toNat+v.l.length by omega,Nat.zero_add,Nat.zero_add]
 refine VL.DU (src:=(s.l.drop i.toNat).flatMap bB.enc) Tryz.underlying33 j9 oS.out rfl (by rw [lS]; congr 1; simp only [Nat.min_def]; split <;> omega) (Y6 (n:=s.l.length) hct rfl) (oI _) (by refine Nat.le_trans ?_ hcl; rw [lS,← Nat.add_mul]; exact Nat.mul_le_mul_right _ (by omega)) (by decide) ?_
 rw [lS,Nat.add_mul]
 refine eY ?_
 refine ZX ?_
 refine Zu (lD (b:=b) (o:=0) (L:=s.l.length+v.l.length) (C:=s.c) (K:=3) Tryz.underlying33 j9 rfl rfl hi.1 (by omega) (by omega) (by omega) rfl) ?_
 refine Zm ?_
 refine VL.CC (φ:=v.a=some ⟨v.b,v.o,none⟩) (fun h m=>(dM.out (X:=v.ok) h m).2.2.1 hv) fun hva => ?_
 refine VL.F4 81 rfl (show v.val = .slice (some ⟨v.b,v.o+0*bB.sz aC,none⟩) v.l.length v.c by unfold Sv.val; rw [hva,Nat.zero_mul]; rfl) ?_
 rw [Nat.zero_add]
 refine VL.DU (src:=v.l.flatMap bB.enc) Tryz.underlying33 j9 oS.out rfl (by rw [lV]; congr 1; exact (Nat.min_eq_left (by omega)).symm) (JR (r:=v) (by decide) hv) (oI v.l) (by rw [hic.1]; refine Nat.le_trans ?_ hcl; rw [lV,← Nat.add_mul]; exact Nat.mul_le_mul_right _ (by omega)) (by decide) ?_
 rw [lV]
 refine ZX ?_
 have ho:=fun F=>EB (F:=F) (e:=89) (b:=b) (l':=s.l.take i.toNat++v.l++s.l.drop i.toNat) (by rw [hic.2.1]; exact hcl) (by rw [gI] at hic; exact hic.2.2) hLn (by omega) hcm
 exact VC.ret (GI (.inr rfl) rfl rfl ⟨some ⟨b,0,none⟩,s.c,_⟩ (ho Ow.emp).1 rfl (fun _ _=>trivial) (ho _).2)
instance NB (dO:Sv aC) (KX:aC) :
 jG Tryz.prog 86 [dO.val,.agg #[str KX.path,i64 KX.mode,str KX.data]] (Sh.kO dO.l KX) dO.ok (X:=Sv aC) (fun x=>x.val) (fun x=>x.l) (fun x=>x.ok):=by
 refine jO Tryz.func86 Tryz.ntmps86 fun r hS c => ?_
 unfold Sh.kO at hS
 refine cI (kF fun rX=>ZX ?_)
 refine fJ hS rfl fun BV hS=>ZX ?_
 refine jU hS rfl fun RV hS=>ZO ?_
 refine Zl ?_
 refine VC.bD [3,5,6,7] (Zq (ZX ?_))
 refine iG hS (fun h17 hS => ?_) (fun h17 hS => ?_)
 ·
  refine ZX ?_
  obtain ⟨aIn,aAL,aAA,hS⟩:=gQ hS
  refine Zu (lC (s:=BV) Tryz.underlying33 j9 rfl rfl aAL (bQ aAL aAA)) ?_
  refine VL.nD (s:=BV) (T:=89) (j:=0) (vc:=[str KX.path,i64 KX.mode,str KX.data]) (⟨KX.path,KX.mode,KX.data⟩:aC) (by decide) rfl rfl aAA rfl j9 rfl rfl (Nat.le_of_ble_eq_true rfl) rfl (fun w5 hw5 haw5 hcw5 hvw5 hbw5 how5 => ?_)
  rw [← hvw5]
  replace hS:=dR hw5 hS
  refine ZX ?_
  refine VL.shut w5 89 (fun _ _ _ _=>trivial) ?_
  exact ZE hS
 refine ZX ?_
 refine VL.aKL (α:=aC) (xs:=[.tmp 26]) (vs:=[.agg #[str KX.path,i64 KX.mode,str KX.data]]) [⟨KX.path,KX.mode,KX.data⟩] Tryz.underlying32 aNq (by decide) rfl rfl rfl rfl (by decide) (by decide) (fun a6Q a0P => ?_) (by decide)
 replace hS:=dR a0P hS
 obtain ⟨b28,hS⟩:=bX hS
 refine VL.nW (aHj BV a6Q RV.1 b28.1 b28.2.1 b28.2.2) rfl (by decide) ?_
 intro a1a aVG
 replace hS:=dR aVG hS
 refine VL.shut a1a 89 (fun _ _ _ _=>trivial) ?_
 exact ZE hS
instance aWs (aA:aL) (p_1:bI) (NK:Int) (M9:bI) :
 jG Tryz.prog 45 [.agg (aI aA).toArray,str p_1,i64 NK,str M9] (Sh.xO aA.pl p_1 NK M9) (aA.m.and Gl) (X:=aL×Er) (fun x => .tuple #[.agg (bB.enc x.1).toArray,x.2.val]) (fun x=>(x.1.pl,x.2.pl)) (fun x=>(x.1.m.and x.2.ok)):=by
 refine jO Tryz.func45 Tryz.ntmps45 fun r hS c => ?_
 unfold Sh.xO at hS
 refine cI ?_
 refine qC (aI aA) fun W4 => ?_
 refine dG fun aJJ=>ZX ?_
 refine Zu (cA (vs:=[(0,str p_1),(1,i64 NK),(2,str M9)]) (cs := #[str p_1,i64 NK,str M9]) rfl (by kernel_rfl)) ?_
 refine dG fun XL=>ZO ?_
 refine Zl ?_
 refine VC.bD [1,4,8,10] (ZX ?_)
 refine jU hS rfl fun YQ hS=>ZX ?_
 refine dG fun aLj=>ZO ?_
 refine Zl ?_
 refine VC.bD [1,4,8,10,12] (ZX ?_)
 refine tE hS fun bBQ hS=>fN hS rfl fun a9H hS=>fN hS rfl fun a9I hS=>Za ?_
 refine Zl ?_
 refine VC.cJm [4,8,10] (fun (vV:Er)=>vV.pl) (fun vV ρ=>(13,vV.val)::ρ) (fun (vV:Er)=>vV.ok) hS ?_ ?_
 ·
  intro k11 hS
  refine Zb (ZX ?_)
  refine qD hS (fun _ hS=>ZE hS) fun h31 hS=>Zq ?_
  refine hU [(0,true),(1,true),(2,true),(3,true),(6,true),(7,true),(8,true),(9,true),(4,false),(5,true),(10,true),(11,true)] ?_
  refine ZX ?_
  refine VD.one rfl (fN hS rfl fun a7P hS=>eL (Pk 9 (Pk 8 (Pk 7 (Pk 6 Pz)))) ?_)
  refine ZX ?_
  refine VC.bD [4,8,10,12,13,34] (Zc hS (fun h34 hS => ?_) (fun h34 hS => ?_))
  ·
   refine Zr (ZX ?_)
   refine VL.mt (Er.no 11) [13,4,8,10] (fun _ _ h=>h) hS rfl
  refine VC.cJ [4,8,10,13] (fun (EN:Bool)=>EN) (fun EN ρ=>(47,.bool EN)::ρ) hS ?_ ?_
  ·
   intro k14 hS
   refine Zr (Zm (Zu (GU rfl) (Zm ?_)))
   refine B3 50 hS (fun h50 hS => ?_) (fun h50 hS => ?_)
   ·
    refine ZX ?_
    refine VL.mt (decide (64≤(aA.aU.l.length:Int))) [47,4,8,10,13] (fun _ _ h=>h) hS rfl
   exact ZE hS
  rintro EN hS
  refine iG hS (fun h47 hS => ?_) (fun h47 hS => ?_)
  ·
   refine Zr (ZX ?_)
   refine VL.mt (Er.no 4) [13,4,8,10] (fun _ _ h=>h) hS rfl
  exact ZE hS
 rintro vV hS
 refine Zq (ZX ?_)
 refine qD hS (fun h59 hS => ?_) (fun h59 hS => ?_)
 ·
  refine ZX ?_
  refine fN hS rfl fun aRp hS=>Zm ?_
  refine Zu (cA (vs:=[(0,str [102,105,108,101]),(1,i64 0),(2,vV.val)]) (cs := #[str [102,105,108,101],i64 0,vV.val]) rfl (by generalize vV=z0; cases z0 <;> kernel_rfl)) ?_
  refine kF fun aN2 => ?_
  refine VL.DV aN2 ?_
  refine ZX ?_
  cases hS
  exact VC.ret (Z4 (aRp,(Er.fault aN2 [102,105,108,101] 0 vV)) rfl)
 refine ZX ?_
 refine fN hS rfl fun mC hS=>dG fun a9o=>ZX ?_
 refine HB hS (NB mC.aU (⟨p_1,NK,M9⟩:aC)).out fun aRz hS=>ZO ?_
 refine Zl ?_
 refine VC.bD [8,14] (ZX ?_)
 cases hS
 exact VC.ret (Z4 (⟨aRz,mC.aS,mC.aZ,mC.aH,mC.aG,mC.aR,mC.aM,mC.aT,mC.aN,mC.aP,mC.aO,mC.aJ,mC.aD,mC.aE,mC.aK,mC.aQ,mC.aW,mC.aX,mC.bF,mC.aY,mC.time⟩,.nil) rfl)
instance aM0 (aA:aL) (p_1:bI) (data_2:bI) :
 jG Tryz.prog 34 [.agg (aI aA).toArray,str p_1,str data_2] (Sh.AZ aA.pl p_1 data_2) (aA.m.and Gl) (X:=aL) (fun x => .agg (bB.enc x).toArray) (fun x=>x.pl) (fun x=>x.m):=by
 refine jO Tryz.func34 Tryz.ntmps34 fun r hS c => ?_
 unfold Sh.AZ at hS
 refine cI ?_
 refine qC (aI aA) fun rX => ?_
 refine dG fun O6=>ZX ?_
 refine fN hS rfl fun ⟨PM,aKq⟩ hS => ?_
 try dsimp only
 refine ZX ?_
 exact dG fun aN3=>ZE hS
instance aCx (aA:bI) (pZ:bI) :
 gS Tryz.prog 35 [str aA,str pZ] (Sh.lY aA pZ) Mo.tt (fun r => .tuple #[str r.1,str r.2.1,.bool r.2.2]):=by
 refine gU Tryz.func35 Tryz.ntmps35 fun r hS c => ?_
 unfold Sh.lY at hS
 refine ZX ?_
 refine Zq (ZX ?_)
 refine jU hS rfl fun dB hS=>ZX ?_
 refine VC.bD [0,1,7,12] (Zc hS (fun h12 hS => ?_) (fun h12 hS => ?_))
 ·
  refine Zq ?_
  refine hU ((List.range 12).map fun k=>(k,true)) ?_
  obtain ⟨b15,hS⟩:=bX hS
  refine ZX ?_
  obtain ⟨IS,aZO,hS⟩:=p9 hS
  refine Zw rfl (NU Tryz.underlying9 rfl rfl b15.1 b15.2 aZO) ?_
  obtain ⟨b20,hS⟩:=bX hS
  obtain ⟨b21,hS⟩:=bX hS
  refine ZX ?_
  obtain ⟨YN,aHX,hS⟩:=p9 hS
  refine Zw rfl (F0 Tryz.underlying9 rfl rfl b21.1 b21.2 aHX) ?_
  refine ZX ?_
  cases hS
  exact VC.ret (aER (.inr rfl) rfl rfl rfl rfl () rfl trivial (fun _ _=>trivial) (fun _ _=>trivial))
 refine ZX ?_
 cases hS
 exact VC.ret (aER (.inr rfl) rfl rfl rfl rfl () rfl trivial (fun _ _=>trivial) (fun _ _=>trivial))
instance aSu (aA:bI) (pZ:bI) :
 gS Tryz.prog 14 [str aA,str pZ] (Sh.vD aA pZ) Mo.tt (fun r => .tuple #[str r.1,str r.2.1,.bool r.2.2]):=by
 refine gU Tryz.func14 Tryz.ntmps14 fun r hS c => ?_
 unfold Sh.vD at hS
 refine ZX ?_
 refine jU hS rfl fun aFp hS=>ZX ?_
 cases hS
 exact VC.ret (aER (.inr rfl) rfl rfl rfl rfl () rfl trivial (fun _ _=>trivial) (fun _ _=>trivial))
instance aY0 (w_0:Sv bI) :
 gS Tryz.prog 67 [w_0.val] (Sh.v7 w_0.l) w_0.ok (fun r=>str r):=by
 refine gU Tryz.func67 Tryz.ntmps67 fun r hS c => ?_
 unfold Sh.v7 at hS
 refine ZX ?_
 refine Zq (ZX ?_)
 refine Zc hS (fun _ hS=>ZE hS) fun h5 hS=>ZX ?_
 obtain ⟨aL4,aHt,aHi,hS⟩:=gQ hS
 refine Zu (jY (s:=w_0) Tryz.underlying45 wU rfl rfl aHt (bQ aHt aHi)) (Zu (JZ  (s:=w_0) oV rfl aHi rfl) ?_)
 exact ZE hS
instance aYZ (aA:bI) :
 gS Tryz.prog 68 [str aA] (Sh.HJ aA) Mo.tt (fun r => .bool r):=by
 refine gU Tryz.func68 Tryz.ntmps68 fun r hS c => ?_
 unfold Sh.HJ at hS
 refine cI (Za ?_)
 refine Zl ?_
 refine cI (Zm ?_)
 refine Zu (KF rfl rfl) (Zm ?_)
 refine S5 5 hS (fun h5 hS => ?_) (fun h5 hS => ?_)
 ·
  refine ZX ?_
  obtain ⟨aL4,aHt,aHi,hS⟩:=gQ hS
  refine Zh (xM Tryz.underlying9 rfl rfl aHt aHi) ?_
  refine Zh (MH rfl rfl) ?_
  refine Zt ?_
  refine Zm ?_
  refine oT 10 hS (fun h10 hS => ?_) (fun h10 hS => ?_)
  ·
   refine ZX ?_
   obtain ⟨aYN,a0p,a00,hS⟩:=gQ hS
   refine Zh (xM Tryz.underlying9 rfl rfl a0p a00) ?_
   exact ZE hS
  exact ZE hS
 exact ZE hS
instance aYY (aA:bI) :
 gS Tryz.prog 69 [str aA] (Sh.B8 aA) Mo.tt (fun r => .tuple #[i64 r.1,.bool r.2]):=by
 refine gU Tryz.func69 Tryz.ntmps69 fun r hS c => ?_
 unfold Sh.B8 at hS
 refine ZX ?_
 refine Zq ?_
 refine VC.cJ [0] (fun (aCL:Bool)=>aCL) (fun aCL ρ=>(23,.bool aCL)::ρ) hS ?_ ?_
 ·
  intro k2 hS
  refine Zr (Zm (Zs (Zm ?_)))
  refine oT 9 hS (fun _ hS=>ZE hS) fun h9 hS => ?_
  refine Zg ?_
  refine Zh (xN Tryz.underlying9 rfl) ?_
  refine Zh (wV rfl rfl) ?_
  refine Zf ?_
  refine Zm ?_
  refine oT 14 hS (fun _ hS=>ZE hS) fun h14 hS => ?_
  refine Zg ?_
  refine Zh (xN Tryz.underlying9 rfl) ?_
  refine Zh (wV rfl rfl) ?_
  refine Zg ?_
  refine oT 18 hS (fun h18 hS => ?_) (fun h18 hS => ?_)
  ·
   refine ZX ?_
   obtain ⟨aNH,a0v,a04,hS⟩:=gQ hS
   refine Zh (xM Tryz.underlying9 rfl rfl a0v a04) ?_
   refine ZX ?_
   refine VL.mt (decide ((aNH.toNat:Int)=48)) [23,0] (fun _ _ h=>h) hS rfl
  exact ZE hS
 rintro aCL hS
 refine iG hS (fun _ hS=>ZE hS) fun h23 hS => ?_
 obtain ⟨b25,hS⟩:=bX hS
 refine ZX ?_
 refine Zq (ZX ?_)
 refine VL.s2b Tryz.underlying9 Tryz.underlying109 Tryz.underlying5 rfl b25 (by decide) fun bBN a0N => ?_
 replace hS:=dR a0N hS
 refine ZX ?_
 refine Zb ?_
 refine VC.iJ [25,26] (fun (sg:Int×Int)=>(sg.1,sg.2)) (fun sg ρ=>(4,i64 sg.1)::(27,i64 sg.2)::ρ) (0,0) [4,27,25,26] hS ?_
 rintro ⟨L0,AO⟩ m1 y1 hS hK1
 refine ZX ?_
 refine Zq (Zc hS (fun h28 hS => ?_) (fun h28 hS => ?_))
 ·
  refine Zk ?_
  refine Zq (Zb (cI (BY hS rfl fun R5 bAE hS=>ZX ?_)))
  refine Zq ?_
  refine VC.cJ [4,6,25,26,27] (fun (aCX:Bool)=>aCX) (fun aCX ρ=>(36,.bool aCX)::ρ) hS ?_ ?_
  ·
   intro k10 hS
   refine Zr (Zm (Zu (qU rfl rfl) (Zm ?_)))
   refine oT 33 hS (fun _ hS=>ZE hS) fun h33 hS => ?_
   refine ZX ?_
   refine VL.mt (decide (57 < (R5.toNat:Int))) [36,4,6,25,26,27] (fun _ _ h=>h) hS rfl
  rintro aCX hS
  refine iG hS (fun _ hS=>ZE hS) fun h36 hS => ?_
  obtain ⟨b38,hS⟩:=bX hS
  obtain ⟨b40,hS⟩:=bX hS
  refine Zk ?_
  refine Zr (ZX ?_)
  refine Zu (aOc rfl rfl (aOx b40)) (Zu (yW Tryz.underlying5 Tryz.underlying3 rfl) ?_)
  obtain ⟨b42,hS⟩:=bX hS
  refine ZO ?_
  refine Zl ?_
  refine VC.bD [4,25,26,27] ?_
  obtain ⟨b43,hS⟩:=bX hS
  refine Zr (ZX ?_)
  refine VL.PX (((10*L0)+(IntKind.wrap .i64 ((R5.toNat:Int) - 48))),(AO+1)) [4,27,25,26] (fun _ _ h=>h) (go2 hS hK1) rfl
 exact ZE hS
instance aGA (aEE:Nat) (cX:l8) (w_1:Sv bI) :
 uL Tryz.prog 37 [ptr aEE 0,w_1.val] (Sh.HN cX.pl w_1.l) (cX.todo.ok.and w_1.ok) (bM aEE [str cX.verb,str cX.name,i64 cX.n,str cX.text,.bool cX.force,cX.todo.val] 26) (X:=Bool×l8) (fun x => .bool x.1) (fun x=>(x.1,x.2.pl)) (fun x=>x.2.todo.ok) (fun x=>bM aEE [str x.2.verb,str x.2.name,i64 x.2.n,str x.2.text,.bool x.2.force,x.2.todo.val] 26):=by
 refine uV Tryz.func37 Tryz.ntmps37 fun r hS c => ?_
 unfold Sh.HN at hS
 refine cI (Za ?_)
 refine Zl ?_
 refine cI (ZO ?_)
 refine Zl ?_
 refine VC.M3 [0,5,6] (fun (sg:Sv bI×Bool)=>(sg.1.l,sg.2)) (fun sg ρ=>(1,sg.1.val)::ρ) (fun sg=>sg.1.ok) aEE (fun sg=>[str cX.verb,str cX.name,i64 cX.n,str cX.text,.bool sg.2,cX.todo.val]) hS ?_ ?_
 ·
  intro k3 hS
  refine ZX ?_
  refine Zb ?_
  refine VC.cJ [0,1,5,6] (fun (aCB:Bool)=>aCB) (fun aCB ρ=>(11,.bool aCB)::ρ) hS (fun _ hS=>ZE hS) ?_
  rintro aCB hS
  refine iG hS (fun h11 hS => ?_) (fun h11 hS => ?_)
  ·
   refine VC.cJ [0,1,5,6] (fun (BP:Bool)=>BP) (fun BP ρ=>(25,.bool BP)::ρ) hS (fun _ hS=>ZE hS) ?_
   rintro BP hS
   refine iG hS (fun h25 hS => ?_) (fun h25 hS => ?_)
   ·
    refine hU [(0,true),(1,true),(2,true),(3,true),(4,true),(5,true),(6,true),(7,true),(8,false),(9,true)] ?_
    obtain ⟨b30,hS⟩:=bX hS
    obtain ⟨b31,hS⟩:=bX hS
    refine ZX ?_
    refine VD.a4q rfl Tryz.underlying45 wU rfl rfl b31.1 (b31.2) (by decide) fun aXG a0T Qs31_9 => ?_
    replace hS:=dR a0T hS
    refine ZX ?_
    refine VD.one rfl (ZX ?_)
    refine QA [(5,aXG.val),(4,i64 ((w_1.l.length:Int) - 1)),(3,i64 (w_1.l.length:Int))] (bR.cons rfl ((Qs31_9 rfl rfl)) (bR.cons rfl (MI rfl rfl b30) (bR.cons rfl (J0 (s:=w_1) Tryz.underlying45 rfl) bR.nil))) ?_
    refine ZX ?_
    refine VD.mt (aXG,true) [1,0,5,6] (fun _ _ h=>h) hS rfl
   exact ZE hS
  exact ZE hS
 rintro ⟨SL,aG3⟩ hS
 refine VC.M3 [1] (fun (sg:Int×Bool×bI×Int)=>(sg.1,sg.2.1,sg.2.2.1,sg.2.2.2)) (fun sg ρ=>(5,i64 sg.1)::(6,.bool sg.2.1)::ρ) (fun sg=>Mo.tt) aEE (fun sg=>[str cX.verb,str sg.2.2.1,i64 sg.2.2.2,str cX.text,.bool aG3,cX.todo.val]) hS ?_ ?_
 ·
  intro k15 hS
  refine ZX ?_
  refine Zb ?_
  refine VC.cJ [0,1] (fun (_:Unit)=>()) (fun _ ρ=>ρ) hS ?_ ?_
  ·
   intro k16 hS
   refine Zb ?_
   refine VC.cJ [0,1] (fun (_:Unit)=>()) (fun _ ρ=>ρ) hS ?_ ?_
   ·
    intro k17 hS
    refine Zb ?_
    refine VC.cJ [0,1] (fun (_:Unit)=>()) (fun _ ρ=>ρ) hS ?_ ?_
    ·
     intro k18 hS
     refine Zb ?_
     refine VC.cJ [0,1] (fun (_:Unit)=>()) (fun _ ρ=>ρ) hS ?_ ?_
     ·
      intro k19 hS
      refine Zb (Zq (Zb (Zq (Zq (ZX ?_)))))
      refine Zc hS (fun _ hS=>ZE hS) fun h38 hS=>Zk ?_
      exact VC.cJ [0,1,5,6,37] (fun (_:Unit)=>()) (fun _ ρ=>ρ) hS (fun _ hS=>ZE hS) fun _ hS=>ZE hS
     rintro _ hS
     exact ZE hS
    rintro _ hS
    exact ZE hS
   rintro _ hS
   refine Zq (ZX ?_)
   refine jU hS rfl fun aBI hS=>ZO ?_
   refine Zl ?_
   refine VC.cJ [0,1,5] (fun (P5:Bool)=>P5) (fun P5 ρ=>(106,.bool P5)::ρ) hS (fun _ hS=>ZE hS) ?_
   rintro P5 hS
   refine iG hS (fun h106 hS => ?_) (fun h106 hS => ?_)
   ·
    refine Zr (ZX ?_)
    refine BY hS rfl fun aL3 a7D hS=>ZX ?_
    refine jU hS rfl fun U6 hS=>ZO ?_
    refine Zl ?_
    refine VC.bD [1,5,6] (VC.D8 (2,U6.2,aBI,U6.1) [5,6,1] (fun _ _ h=>h) hS rfl)
   exact ZE hS
  rintro _ hS
  exact ZE hS
 rintro ⟨aBz,aO2,F9,HI⟩ hS
 refine cI (Zm ?_)
 refine Zm ?_
 refine B3 127 hS (fun h127 hS => ?_) (fun h127 hS => ?_)
 ·
  refine ZX ?_
  cases hS
  exact VC.ret (Z1 ((decide ((SL.l.length:Int)=aBz)),⟨cX.verb,F9,HI,cX.text,aG3,cX.todo⟩))
 refine VL.runs 6 [(4,some false)] (by kernel_rfl) ?_
 refine Zl ?_
 cases hS
 exact VC.ret (Z1 (false,⟨cX.verb,F9,HI,cX.text,aG3,cX.todo⟩))
instance aZC (aDU:bI) :
 jG Tryz.prog 15 [str aDU] (Sh.HK aDU) Mo.tt (X:=l8×Bool) (fun x => .tuple #[.agg (bB.enc x.1).toArray,.bool x.2]) (fun x=>(x.1.pl,x.2)) (fun x=>x.1.m):=by
 refine jO Tryz.func15 Tryz.ntmps15 fun r hS c => ?_
 unfold Sh.HK at hS
 refine cI (dG fun iB=>ZX ?_)
 refine jU hS rfl fun lR hS=>ZO ?_
 refine Zl ?_
 refine VC.bD [2,4,5,6] (ZX ?_)
 refine Zu (cA (vs:=[(0,str lR.1)]) (cs := #[str lR.1,str [],i64 0,str [],.bool false,.slice none 0 0]) rfl (by kernel_rfl)) ?_
 refine dG fun aTY=>ZX ?_
 refine Zq ?_
 refine VC.cJ [2,5,6,7] (fun (aCM:Bool)=>aCM) (fun aCM ρ=>(23,.bool aCM)::ρ) hS (fun _ hS=>ZE hS) ?_
 rintro aCM hS
 refine iG hS (fun h23 hS => ?_) (fun h23 hS => ?_)
 ·
  refine cI (ZO ?_)
  refine Zl ?_
  refine cI (Zu (rQ aNn rfl rfl) ?_)
  refine Zm (Zu (GU rfl) (Zm ?_))
  refine B3 29 hS (fun h29 hS => ?_) (fun h29 hS => ?_)
  ·
   refine VL.runs 3 [(32,some true)] (by kernel_rfl) ?_
   refine ZX ?_
   refine VC.keep (ρ':=[(2,ptr iB 0),(3,.bool true)]) [2,3] rfl ?_
   cases hS
   exact VC.ret (Z4 (⟨lR.1,[],0,lR.2.1,false,⟨none,0,[]⟩⟩,true) rfl)
  refine ZX ?_
  cases hS
  exact VC.ret (Z4 (⟨lR.1,[],0,lR.2.1,false,⟨none,0,[]⟩⟩,(!decide (lR.2.1=[]))) rfl)
 refine Zk ?_
 refine cI (Za ?_)
 refine Zl ?_
 refine VC.cJm [2,7] (fun (aAl:Sv bI)=>aAl.l) (fun aAl ρ=>(8,aAl.val)::ρ) (fun (aAl:Sv bI)=>aAl.ok) hS ?_ ?_
 ·
  intro k7 hS
  refine ZX ?_
  refine iG hS (fun _ hS=>ZE hS) fun h33 hS=>VC.PZ ⟨none,0,[]⟩ [8,2,7] (fun _ _ h=>h) hS rfl
 rintro aAl hS
 refine ZX ?_
 refine VL.YA aTY (cs':=[str lR.1,str [],i64 0,str [],.bool false,(⟨none,0,[]⟩:Sv bJ).val]) rfl ?_
 refine x6 hS (aGA aTY (⟨lR.1,[],0,[],false,(⟨none,0,[]⟩:Sv bJ)⟩:l8) aAl).out fun ⟨aWb,PT⟩ hS => ?_
 try dsimp only
 refine ZX ?_
 cases hS
 exact VC.ret (Z4 (⟨PT.verb,PT.name,PT.n,PT.text,PT.force,PT.todo⟩,aWb) rfl)
instance aYX  :
 jG Tryz.prog 24 [] Sh.B7 Mo.tt (X:=Sv bI) (fun x=>x.val) (fun x=>x.l) (fun x=>x.ok):=by
 refine jO Tryz.func24 Tryz.ntmps24 fun r hS c => ?_
 unfold Sh.B7 at hS
 exact ZE hS
instance IC (aA:Sv bI) (v_1:bI) :
 gS Tryz.prog 23 [aA.val,str v_1] (Sh.fE aA.l v_1) aA.ok (fun r=>i64 r):=by
 refine gU Tryz.func23 Tryz.ntmps23 fun r hS c => ?_
 unfold Sh.fE at hS
 refine ZX ?_
 refine Zq (ZX ?_)
 refine Zb ?_
 refine VC.iJ [0,1,7] (fun (dD:Int)=>dD) (fun dD ρ=>(8,i64 dD)::ρ) 0 [8,0,1,7] hS ?_
 rintro dD m1 y1 hS hK1
 exact ZE hS
instance aY1 (aD6:bI) :
 gS Tryz.prog 16 [str aD6] (Sh.zX aD6) Mo.tt (fun r=>i64 r):=by
 refine gU Tryz.func16 Tryz.ntmps16 fun r hS c => ?_
 unfold Sh.zX at hS
 exact ZE hS
instance I2 (cX:l8) (QS:Er) :
 jG Tryz.prog 17 [.agg #[str cX.verb,str cX.name,i64 cX.n,str cX.text,.bool cX.force,cX.todo.val],QS.val] (Sh.vZ cX.pl QS.pl) (cX.todo.ok.and QS.ok) (X:=Er) (fun x=>x.val) (fun x=>x.pl) (fun x=>x.ok):=by
 refine jO Tryz.func17 Tryz.ntmps17 fun r hS c => ?_
 unfold Sh.vZ at hS
 refine cI (kF fun iB=>ZX ?_)
 refine jU hS rfl fun o8 hS=>Zm ?_
 refine Zu (cA (vs:=[(0,str [99,109,100]),(1,i64 o8),(2,QS.val)]) (cs := #[str [99,109,100],i64 o8,QS.val]) rfl (by generalize QS=z0; cases z0 <;> kernel_rfl)) ?_
 refine kF fun XL => ?_
 refine VL.DV XL ?_
 refine ZX ?_
 cases hS
 exact VC.ret (Z1 (Er.fault XL [99,109,100] o8 QS))
instance EH (aA:bI) (cZ:Int) :
 gS Tryz.prog 70 [str aA,.int .u8 cZ] (Sh.mP aA cZ) Mo.tt (fun r=>str r):=by
 refine gU Tryz.func70 Tryz.ntmps70 fun r hS c => ?_
 unfold Sh.mP at hS
 refine ZX ?_
 refine Zq (Zb ?_)
 refine VC.iJ [1] (fun (qA:bI)=>qA) (fun qA ρ=>(0,str qA)::ρ) aA [0,1] hS ?_
 rintro qA m1 y1 hS hK1
 refine Zq (cI (Zm ?_))
 refine Zu (xN Tryz.underlying9 rfl) (Zu (wV rfl rfl) (Zm ?_))
 refine oT 8 hS (fun h8 hS => ?_) (fun h8 hS => ?_)
 ·
  refine ZX ?_
  obtain ⟨aFr,a0o,a0Z,hS⟩:=gQ hS
  refine Zh (xM Tryz.underlying9 rfl rfl a0o a0Z) ?_
  refine ZX ?_
  refine VC.bD [0,1,13] (Zc hS (fun h13 hS => ?_) (fun h13 hS => ?_))
  ·
   obtain ⟨b15,hS⟩:=bX hS
   refine Zk ?_
   refine Zb (Zr (Zm ?_))
   obtain ⟨MT,aHV,hS⟩:=p9 hS
   refine Zu (F0 Tryz.underlying9 rfl rfl b15.1 b15.2 aHV) (Za ?_)
   exact ZE hS
  exact ZE hS
 refine VL.runs 5 [(13,some false)] (by kernel_rfl) ?_
 refine Zl ?_
 refine VC.uW rfl ?_
 exact ZE hS
instance UX (aA:bI) (rC:bI) :
 gS Tryz.prog 38 [str aA,str rC] (Sh.qZ aA rC) Mo.tt (fun r=>str r):=by
 refine gU Tryz.func38 Tryz.ntmps38 fun r hS c => ?_
 unfold Sh.qZ at hS
 refine ZX ?_
 refine Zq ?_
 refine VC.cJ [0,1] (fun (IJ:Bool)=>IJ) (fun IJ ρ=>(12,.bool IJ)::ρ) hS (fun _ hS=>ZE hS) ?_
 rintro IJ hS
 refine iG hS (fun _ hS=>ZE hS) fun h12 hS=>Zk ?_
 refine Zq ?_
 refine VC.cJ [0,1] (fun (IK:Bool)=>IK) (fun IK ρ=>(21,.bool IK)::ρ) hS ?_ ?_
 ·
  intro k4 hS
  refine Zr (Zm (Zu (xN Tryz.underlying9 rfl) (Zu (KE rfl rfl) (Zm ?_))))
  refine oT 17 hS (fun h17 hS => ?_) (fun h17 hS => ?_)
  ·
   refine ZX ?_
   obtain ⟨MX,aHr,aDS,hS⟩:=gQ hS
   refine Zh (xM Tryz.underlying9 rfl rfl aHr aDS) ?_
   refine ZX ?_
   refine VL.mt (decide ((MX.toNat:Int) < 128)) [21,0,1] (fun _ _ h=>h) hS rfl
  exact ZE hS
 rintro IK hS
 refine iG hS (fun h21 hS => ?_) (fun h21 hS => ?_)
 ·
  refine ZX ?_
  obtain ⟨YY,aHs,aHd,hS⟩:=gQ hS
  refine Zu (xM Tryz.underlying9 rfl rfl aHs aHd) ?_
  exact Zcq hS (EH aA (YY.toNat:Int)).out fun RX hS=>ZE hS
 exact ZE hS
instance a1r (aA:bI) :
 gS Tryz.prog 74 [str aA] (Sh.LH aA) Mo.tt (fun r => .tuple #[str r.1,str r.2]):=by
 refine gU Tryz.func74 Tryz.ntmps74 fun r hS c => ?_
 unfold Sh.LH at hS
 refine ZX ?_
 refine jU hS rfl fun XG hS=>ZX ?_
 refine Zq (ZX ?_)
 refine Zc hS (fun _ hS=>ZE hS) fun h8 hS=>Zk ?_
 refine Zq ?_
 refine hU ((List.range 9).map fun k=>(k,true)) ?_
 obtain ⟨b12,hS⟩:=bX hS
 refine ZX ?_
 obtain ⟨lR,aZI,hS⟩:=p9 hS
 refine Zw rfl (NU Tryz.underlying9 rfl rfl b12.1 b12.2 aZI) ?_
 obtain ⟨b15,hS⟩:=bX hS
 refine ZX ?_
 obtain ⟨MT,aHV,hS⟩:=p9 hS
 refine Zw rfl (F0 Tryz.underlying9 rfl rfl b15.1 b15.2 aHV) ?_
 obtain ⟨s9,ZK,hS⟩:=dU hS
 refine Zw rfl (eT ((UX MT [32]).out ZK) rfl (fun _ _=>rfl)) ?_
 exact ZE hS
instance M5 (aA:bI) (cZ:Int) :
 gS Tryz.prog 141 [str aA,.int .u8 cZ] (Sh.nS aA cZ) Mo.tt (fun r=>str r):=by
 refine gU Tryz.func141 Tryz.ntmps141 fun r hS c => ?_
 unfold Sh.nS at hS
 refine ZX ?_
 refine Zq (Zb ?_)
 refine VC.iJ [1] (fun (qA:bI)=>qA) (fun qA ρ=>(0,str qA)::ρ) aA [0,1] hS ?_
 rintro qA m1 y1 hS hK1
 refine Zq (cI (Zm ?_))
 refine Zu (xN Tryz.underlying9 rfl) (Zu (wV rfl rfl) (Zm ?_))
 refine oT 8 hS (fun h8 hS => ?_) (fun h8 hS => ?_)
 ·
  obtain ⟨b12,hS⟩:=bX hS
  refine ZX ?_
  obtain ⟨AR,a0r,aNy,hS⟩:=gQ hS
  refine Zh (xM Tryz.underlying9 rfl rfl a0r aNy) ?_
  refine ZX ?_
  refine VC.bD [0,1,16] (Zc hS (fun h16 hS => ?_) (fun h16 hS => ?_))
  ·
   obtain ⟨b20,hS⟩:=bX hS
   obtain ⟨b21,hS⟩:=bX hS
   refine Zk ?_
   refine Zb (Zr (ZX ?_))
   obtain ⟨YN,aHX,hS⟩:=p9 hS
   refine Zu (NU Tryz.underlying9 rfl rfl b21.1 b21.2 aHX) (Za ?_)
   exact ZE hS
  exact ZE hS
 refine VL.runs 8 [(16,some false)] (by kernel_rfl) ?_
 refine Zl ?_
 refine VC.uW rfl ?_
 exact ZE hS
instance aS5 (aA:bI) (rC:bI) :
 gS Tryz.prog 75 [str aA,str rC] (Sh.yE aA rC) Mo.tt (fun r=>str r):=by
 refine gU Tryz.func75 Tryz.ntmps75 fun r hS c => ?_
 unfold Sh.yE at hS
 refine ZX ?_
 refine Zq ?_
 refine VC.cJ [0,1] (fun (IJ:Bool)=>IJ) (fun IJ ρ=>(12,.bool IJ)::ρ) hS (fun _ hS=>ZE hS) ?_
 rintro IJ hS
 refine iG hS (fun _ hS=>ZE hS) fun h12 hS=>Zk ?_
 refine Zq ?_
 refine VC.cJ [0,1] (fun (IK:Bool)=>IK) (fun IK ρ=>(21,.bool IK)::ρ) hS ?_ ?_
 ·
  intro k4 hS
  refine Zr (Zm (Zu (xN Tryz.underlying9 rfl) (Zu (KE rfl rfl) (Zm ?_))))
  refine oT 17 hS (fun h17 hS => ?_) (fun h17 hS => ?_)
  ·
   refine ZX ?_
   obtain ⟨MX,aHr,aDS,hS⟩:=gQ hS
   refine Zh (xM Tryz.underlying9 rfl rfl aHr aDS) ?_
   refine ZX ?_
   refine VL.mt (decide ((MX.toNat:Int) < 128)) [21,0,1] (fun _ _ h=>h) hS rfl
  exact ZE hS
 rintro IK hS
 refine iG hS (fun h21 hS => ?_) (fun h21 hS => ?_)
 ·
  refine Zq ?_
  refine hU ((List.range 8).map fun k=>(k,true)) ?_
  refine ZX ?_
  obtain ⟨YY,aHs,aHd,hS⟩:=gQ hS
  refine Zw rfl (xM Tryz.underlying9 rfl rfl aHs aHd) ?_
  obtain ⟨RX,aZ8,hS⟩:=dU hS
  refine Zw rfl (eT ((M5 aA (YY.toNat:Int)).out aZ8) rfl (fun _ _=>rfl)) ?_
  refine ZX ?_
  obtain ⟨aNK,a0x,a08,hS⟩:=gQ hS
  refine Zw rfl (xM Tryz.underlying9 rfl rfl a0x a08) ?_
  obtain ⟨aFj,aHY,hS⟩:=dU hS
  refine Zw rfl (eT ((EH RX (aNK.toNat:Int)).out aHY) rfl (fun _ _=>rfl)) ?_
  exact ZE hS
 exact ZE hS
instance aYl (aA:bI) :
 gS Tryz.prog 76 [str aA] (Sh.C5 aA) Mo.tt (fun r => .tuple #[.bool r.1,.bool r.2]):=by
 refine gU Tryz.func76 Tryz.ntmps76 fun r hS c => ?_
 unfold Sh.C5 at hS
 refine ZX ?_
 refine Zq (ZX ?_)
 refine Zb ?_
 refine VC.cJ [] (fun (_:Unit)=>()) (fun _ ρ=>ρ) hS ?_ ?_
 ·
  intro k1 hS
  refine Zb (Zb (Zb (Zb ?_)))
  exact VC.cJ [] (fun (_:Unit)=>()) (fun _ ρ=>ρ) hS (fun _ hS=>ZE hS) fun _ hS=>ZE hS
 rintro _ hS
 exact ZE hS
instance aSw (aA:bI) :
 gS Tryz.prog 77 [str aA] (Sh.DN aA) Mo.tt (fun r => .tuple #[i64 r.1,.bool r.2]):=by
 refine gU Tryz.func77 Tryz.ntmps77 fun r hS c => ?_
 unfold Sh.DN at hS
 refine ZX ?_
 refine Zq ?_
 refine VC.cJ [0] (fun (aCG:Bool)=>aCG) (fun aCG ρ=>(18,.bool aCG)::ρ) hS ?_ ?_
 ·
  intro k2 hS
  refine Zr (Zm (Zs (Zm ?_)))
  refine oT 9 hS (fun _ hS=>ZE hS) fun h9 hS => ?_
  refine Zg ?_
  refine Zh (xN Tryz.underlying9 rfl) ?_
  refine Zh (wV rfl rfl) ?_
  refine Zf ?_
  refine Zm ?_
  refine oT 14 hS (fun _ hS=>ZE hS) fun h14 hS => ?_
  refine ZX ?_
  obtain ⟨aNC,a0s,a02,hS⟩:=gQ hS
  refine Zh (xM Tryz.underlying9 rfl rfl a0s a02) ?_
  refine ZX ?_
  refine VL.mt (decide ((aNC.toNat:Int)=48)) [18,0] (fun _ _ h=>h) hS rfl
 rintro aCG hS
 refine iG hS (fun _ hS=>ZE hS) fun h18 hS => ?_
 obtain ⟨b20,hS⟩:=bX hS
 refine ZX ?_
 refine Zq (ZX ?_)
 refine VL.s2b Tryz.underlying9 Tryz.underlying109 Tryz.underlying5 rfl b20 (by decide) fun bBI a0H => ?_
 replace hS:=dR a0H hS
 refine ZX ?_
 refine Zb ?_
 refine VC.iJ [20,21] (fun (sg:Int×Int)=>(sg.1,sg.2)) (fun sg ρ=>(4,i64 sg.1)::(22,i64 sg.2)::ρ) (0,0) [4,22,20,21] hS ?_
 rintro ⟨L0,aCK⟩ m1 y1 hS hK1
 refine ZX ?_
 refine Zq (Zc hS (fun h23 hS => ?_) (fun h23 hS => ?_))
 ·
  refine Zk ?_
  refine Zq (Zb (cI (BY hS rfl fun cT wR hS=>ZX ?_)))
  refine Zq ?_
  refine VC.cJ [4,6,20,21,22] (fun (aCT:Bool)=>aCT) (fun aCT ρ=>(31,.bool aCT)::ρ) hS ?_ ?_
  ·
   intro k10 hS
   refine Zr (Zm (Zu (qU rfl rfl) (Zm ?_)))
   refine oT 28 hS (fun _ hS=>ZE hS) fun h28 hS => ?_
   refine ZX ?_
   refine VL.mt (decide (57 < (cT.toNat:Int))) [31,4,6,20,21,22] (fun _ _ h=>h) hS rfl
  rintro aCT hS
  refine iG hS (fun _ hS=>ZE hS) fun h31 hS => ?_
  obtain ⟨b33,hS⟩:=bX hS
  obtain ⟨b35,hS⟩:=bX hS
  refine Zk ?_
  refine Zr (ZX ?_)
  refine Zu (aOc rfl rfl (aOx b35)) (Zu (yW Tryz.underlying5 Tryz.underlying3 rfl) ?_)
  obtain ⟨b37,hS⟩:=bX hS
  refine ZO ?_
  refine Zl ?_
  refine VC.bD [4,20,21,22] ?_
  obtain ⟨b38,hS⟩:=bX hS
  refine Zr (ZX ?_)
  refine VL.PX (((10*L0)+(IntKind.wrap .i64 ((cT.toNat:Int) - 48))),(aCK+1)) [4,22,20,21] (fun _ _ h=>h) (go2 hS hK1) rfl
 exact ZE hS
instance aYj (aA:bI) :
 gS Tryz.prog 39 [str aA] (Sh.IE aA) Mo.tt (fun r => .tuple #[.agg #[str r.1.verb,i64 r.1.cF,str r.1.text],i64 r.2]):=by
 refine gU Tryz.func39 Tryz.ntmps39 fun r hS c => ?_
 unfold Sh.IE at hS
 refine cI (dG fun iB=>ZX ?_)
 refine jU hS rfl fun IS hS=>ZX ?_
 refine Zq (ZX ?_)
 refine jU hS rfl fun IV hS=>ZX ?_
 refine VC.bD [2,4,5,20] (Zc hS (fun h20 hS => ?_) (fun h20 hS => ?_))
 ·
  refine cI ?_
  refine Zu (cA (vs:=[]) (cs := #[str [],i64 0,str []]) rfl (by kernel_rfl)) ?_
  exact ZE hS
 refine Zk ?_
 refine Zq (ZX ?_)
 refine jU hS rfl fun YQ hS=>ZO ?_
 refine Zl ?_
 refine VC.bD [2,4,5,6] (ZX ?_)
 refine iG hS (fun h28 hS => ?_) (fun h28 hS => ?_)
 ·
  refine cI ?_
  refine Zu (cA (vs:=[]) (cs := #[str [],i64 0,str []]) rfl (by kernel_rfl)) ?_
  exact ZE hS
 refine ZX ?_
 refine jU hS rfl fun YV hS=>ZO ?_
 refine Zl ?_
 refine VC.bD [2,4,8,9,10] (ZX ?_)
 refine jU hS rfl fun aFn hS=>ZX ?_
 refine Zq (ZX ?_)
 refine VC.bD [2,4,9,10,11,42] (iG hS (fun h42 hS => ?_) (fun h42 hS => ?_))
 ·
  refine cI ?_
  refine Zu (cA (vs:=[]) (cs := #[str [],i64 0,str []]) rfl (by kernel_rfl)) ?_
  exact ZE hS
 refine Zk ?_
 refine VC.cJ [2,4,11] (fun (J7:bI)=>J7) (fun J7 ρ=>(9,str J7)::ρ) hS ?_ ?_
 ·
  intro k8 hS
  refine ZX ?_
  refine Zb (ZX ?_)
  refine Zc hS (fun h49 hS => ?_) (fun h49 hS => ?_)
  ·
   refine Zq ?_
   refine VC.cJ [2,4,9,11] (fun (aC2:Bool)=>aC2) (fun aC2 ρ=>(56,.bool aC2)::ρ) hS (fun _ hS=>ZE hS) ?_
   rintro aC2 hS
   refine iG hS (fun h56 hS => ?_) (fun h56 hS => ?_)
   ·
    refine cI ?_
    refine Zu (cA (vs:=[]) (cs := #[str [],i64 0,str []]) rfl (by kernel_rfl)) ?_
    exact ZE hS
   refine ZX ?_
   refine Zc hS (fun h60 hS => ?_) (fun h60 hS => ?_)
   ·
    refine cI ?_
    refine Zu (cA (vs:=[]) (cs := #[str [],i64 0,str []]) rfl (by kernel_rfl)) ?_
    exact ZE hS
   exact ZE hS
  refine Zq (ZX ?_)
  refine jU hS rfl fun WK hS=>ZX ?_
  refine VC.bD [2,4,11,47] (qD hS (fun h47 hS => ?_) (fun h47 hS => ?_))
  ·
   refine cI ?_
   refine Zu (cA (vs:=[]) (cs := #[str [],i64 0,str []]) rfl (by kernel_rfl)) ?_
   exact ZE hS
  exact ZE hS
 rintro J7 hS
 refine ZX ?_
 refine Zu (cA (vs:=[(0,str IS.1),(1,i64 aFn.1),(2,str J7)]) (cs := #[str IS.1,i64 aFn.1,str J7]) rfl (by kernel_rfl)) ?_
 exact ZE hS
instance aXW (aA:bI) :
 jG Tryz.prog 18 [str aA] (Sh.C3 aA) Mo.tt (X:=Sv bJ×Er) (fun x => .tuple #[x.1.val,x.2.val]) (fun x=>(x.1.l,x.2.pl)) (fun x=>(x.1.ok.and x.2.ok)):=by
 refine jO Tryz.func18 Tryz.ntmps18 fun r hS c => ?_
 unfold Sh.C3 at hS
 refine ZX ?_
 refine Zq (ZX ?_)
 refine fN hS rfl fun pQ hS=>ZX ?_
 refine Zb ?_
 refine VC.lU (⟨none,0,[]⟩:Sv bJ) 101 ⟨rfl,rfl⟩ ?_
 refine VC.iter (S:=Sv bJ×Int) (fun sg=>(sg.1.l,sg.2)) (fun sg=>[(4,sg.1.val),(10,pQ.val),(11,i64 (pQ.l.length:Int)),(12,i64 sg.2)]) (fun sg=>Mo.tt) (fun sg=>Ow.star (Sv.own sg.1 101) (Ow.emp)) (⟨none,0,[]⟩,0) [4,10,11,12] hS rfl ?_
 rintro ⟨K1,FE⟩ m1 y1 hS hK1
 refine ZX ?_
 refine Zq (Zc hS (fun h13 hS => ?_) (fun h13 hS => ?_))
 ·
  refine Zk ?_
  refine Zq (Zb (ZX ?_))
  refine BY hS rfl fun aFs aNz hS=>ZX ?_
  refine jU hS rfl fun IU hS=>Za ?_
  refine Zl ?_
  refine Zq (cI (Zm ?_))
  refine Zs ?_
  refine Zm ?_
  refine oT 21 hS (fun h21 hS => ?_) (fun h21 hS => ?_)
  ·
   refine VL.runs 4 [(25,some true)] (by kernel_rfl) ?_
   refine Zl ?_
   refine VC.keep (ρ':=[(4,K1.val),(10,pQ.val),(11,i64 (pQ.l.length:Int)),(12,i64 FE),(5,i64 FE),(6,str IU),(25,.bool true)]) [4,10,11,12,5,6,25] rfl ?_
   refine VC.DB rfl ?_
   exact ZE hS
  refine ZX ?_
  obtain ⟨aYR,a0w,a06,hS⟩:=gQ hS
  refine Zh (xM Tryz.underlying9 rfl rfl a0w a06) ?_
  refine ZX ?_
  refine VC.bD [4,10,11,12,5,6,25] ?_
  refine Zc hS (fun _ hS=>ZE hS) fun h25 hS=>ZX ?_
  refine jU hS rfl fun DY hS=>ZX ?_
  refine dG fun a43=>ZO ?_
  refine Zl ?_
  refine VC.bD [4,10,11,12,5,7,8] (Zq (ZX ?_))
  refine qD hS (fun h32 hS => ?_) (fun h32 hS => ?_)
  ·
   refine ZX ?_
   refine Zu (cA (vs:=[(0,str [108,105,110,101]),(1,i64 FE),(2,(Er.no DY.2).val)]) (cs := #[str [108,105,110,101],i64 FE,(Er.no DY.2).val]) rfl (by kernel_rfl)) ?_
   refine kF fun aTV => ?_
   refine VL.DV aTV ?_
   refine ZX ?_
   replace hS:=lQ hS hK1
   cases hS
   exact VC.ret (Z2 (⟨none,0,[]⟩,(Er.fault aTV [108,105,110,101] FE (Er.no DY.2))))
  refine Zk ?_
  refine Zq (ZX ?_)
  refine Zc hS (fun h41 hS => ?_) (fun h41 hS => ?_)
  ·
   refine ZX ?_
   refine Zu (cA (vs:=[(0,str [108,105,110,101]),(1,i64 32),(2,(Er.no 4).val)]) (cs := #[str [108,105,110,101],i64 32,(Er.no 4).val]) rfl (by kernel_rfl)) ?_
   refine kF fun aN1 => ?_
   refine VL.DV aN1 ?_
   refine ZX ?_
   replace hS:=lQ hS hK1
   cases hS
   exact VC.ret (Z2 (⟨none,0,[]⟩,(Er.fault aN1 [108,105,110,101] 32 (Er.no 4))))
  exact ZE hS
 replace hS:=lQ hS hK1
 refine Zx ?_
 refine ZX ?_
 refine VL.shut K1 101 (fun _ _ _ _=>trivial) ?_
 refine fN hS rfl fun aRk hS=>ZX ?_
 cases hS
 exact VC.ret (Z2 (aRk,.nil))
instance aEr (Q3:bI) :
 gS Tryz.prog 79 [str Q3] (Sh.zF Q3) Mo.tt (fun r => .bool r):=by
 refine gU Tryz.func79 Tryz.ntmps79 fun r hS c => ?_
 unfold Sh.zF at hS
 obtain ⟨b6,hS⟩:=bX hS
 refine ZX ?_
 refine Zq (ZX ?_)
 refine VL.s2b Tryz.underlying9 Tryz.underlying109 Tryz.underlying5 rfl b6 (by decide) fun bB6 a5c => ?_
 replace hS:=dR a5c hS
 refine ZX ?_
 refine Zb ?_
 refine VC.iJ [0,6,7] (fun (U5:Int)=>U5) (fun U5 ρ=>(8,i64 U5)::ρ) 0 [8,0,6,7] hS ?_
 rintro U5 m1 y1 hS hK1
 refine ZX ?_
 refine Zq (Zc hS (fun h9 hS => ?_) (fun h9 hS => ?_))
 ·
  refine Zk ?_
  refine Zq (Zb (ZX ?_))
  refine BY hS rfl fun FM aDQ hS=>ZO ?_
  refine Zl ?_
  refine VC.cJ [0,6,7,8] (fun (aCV:Bool)=>aCV) (fun aCV ρ=>(34,.bool aCV)::ρ) hS ?_ ?_
  ·
   intro k6 hS
   refine Zr (Zm (Zu (qU rfl rfl) (Zm ?_)))
   refine oT 15 hS (fun h15 hS => ?_) (fun h15 hS => ?_)
   ·
    refine VL.runs 4 [(19,some true)] (by kernel_rfl) ?_
    refine Zg ?_
    refine Zh (KE rfl rfl) ?_
    refine Zg ?_
    refine oT 22 hS (fun _ hS=>ZE hS) fun h22 hS => ?_
    refine Zg ?_
    refine Zh (X9 rfl rfl) ?_
    refine Zg ?_
    refine S5 25 hS (fun h25 hS => ?_) (fun h25 hS => ?_)
    ·
     refine Zg ?_
     refine Zh (qU rfl rfl) ?_
     refine Zg ?_
     refine oT 28 hS (fun _ hS=>ZE hS) fun h28 hS => ?_
     refine ZX ?_
     refine VL.mt (decide (57 < (FM.toNat:Int))) [34,0,6,7,8] (fun _ _ h=>h) hS rfl
    exact ZE hS
   refine Zg ?_
   refine Zh (wV rfl rfl) ?_
   refine Zf ?_
   refine Zm ?_
   refine oT 19 hS (fun h19 hS => ?_) (fun h19 hS => ?_)
   ·
    refine Zg ?_
    refine Zh (KE rfl rfl) ?_
    refine Zg ?_
    refine oT 22 hS (fun _ hS=>ZE hS) fun h22 hS => ?_
    refine Zg ?_
    refine Zh (X9 rfl rfl) ?_
    refine Zg ?_
    refine S5 25 hS (fun h25 hS => ?_) (fun h25 hS => ?_)
    ·
     refine Zg ?_
     refine Zh (qU rfl rfl) ?_
     refine Zg ?_
     refine oT 28 hS (fun _ hS=>ZE hS) fun h28 hS => ?_
     refine ZX ?_
     refine VL.mt (decide (57 < (FM.toNat:Int))) [34,0,6,7,8] (fun _ _ h=>h) hS rfl
    exact ZE hS
   exact ZE hS
  rintro aCV hS
  exact ZE hS
 exact ZE hS
end Go.Proofs.YtaohfeokfcdojaaGreatDoor
end
