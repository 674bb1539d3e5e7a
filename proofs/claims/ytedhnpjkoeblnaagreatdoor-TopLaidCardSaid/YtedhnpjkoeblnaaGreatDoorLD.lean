/- Part of the proofs of: a plan's folder, laid down by the journal, is on the disk as planned, and outlasts the power (any two trees, any keep) -/
import Derived.Test.YtedhnpjkoeblnaaGreatDoorLC
set_option linter.unusedVariables false
set_option linter.unusedSimpArgs false
set_option linter.unusedSectionVars false
section
set_option linter.unusedVariables false
namespace Go.Proofs.YtedhnpjkoeblnaaGreatDoor
set_option maxHeartbeats 4000000
set_option maxRecDepth 100000
set_option synthInstance.maxSize 2000
set_option synthInstance.maxHeartbeats 1000000
open Go.RowKit Go.V
open Go.S hiding aK
theorem aAA (nH:Nat) (lC:cX) {r:Int×Int×bT} (hS:Sh.I7 lC.pl=some r) :
 Ct Tryz.prog 143 [ptr nH 0] (lC.b.ok.and lC.err.ok) (bE nH [lC.b.val,i64 lC.at_,lC.err.val] 221) (X:=Int×Int×cX) (fun x => .tuple #[.int .u64 x.1,i64 x.2.1]) (fun x=>r=(x.1,x.2.1,x.2.2.pl)) (fun x=>(x.2.2.b.ok.and x.2.2.err.ok)) (fun x=>bE nH [x.2.2.b.val,i64 x.2.2.at_,x.2.2.err.val] 221):=by
 refine Zo Tryz.func143 Tryz.ntmps143 fun c => ?_
 unfold Sh.I7 at hS
 refine Zq (Zr (Zy ?_))
 refine Zq (Zr (Zy ?_))
 refine Zq (Zq (Zr (Zy ?_)))
 refine Zb ?_
 refine VC.iter (S:=Int×Int) (fun sg=>(sg.1,sg.2)) (fun sg=>[(0,ptr nH 0),(4,.int .u64 sg.1),(7,i64 sg.2)]) (fun sg=>Mo.tt) (fun sg=>Ow.star (bE nH [lC.b.val,i64 lC.at_,lC.err.val] 221) (Ow.emp)) (0,0) [0,4,7] hS rfl ?_
 clear hS
 rintro ⟨MJ,oO⟩ m1 y1 hS hK1
 refine Zq (Zr (Zu (dW rfl rfl) ?_))
 refine Zl ?_
 refine Zq ?_
 refine Zc hS (fun h8 hS => ?_) (fun h8 hS => ?_)
 ·
  refine Zk ?_
  refine Zq (Zb (Zq (Zr (Zy ?_))))
  refine Zq (Zq ?_)
  refine l9 ((List.range 12).map fun k=>(k,true)) ?_
  refine Zw rfl (bB rfl) ?_
  refine Zw rfl (aF rfl) ?_
  refine Zw rfl (aB vN rfl) ?_
  refine Zw rfl (aL fL rfl rfl) ?_
  refine Zw rfl (bB rfl) ?_
  obtain ⟨b15,hS⟩:=bU hS
  refine Zw rfl (cR rfl rfl b15) ?_
  refine Zw rfl (bB rfl) ?_
  refine Zw rfl (aF rfl) ?_
  refine Zw rfl (aB PR rfl) ?_
  refine Zw rfl (aL qR rfl rfl) ?_
  refine Zw rfl (eB (s:=lC.b) Tryz.underlying35 rfl) ?_
  refine Zw rfl (vC rfl rfl) ?_
  refine VD.to (fun _ _ h=>h) ?_
  refine VC.keep (ρ':=[(0,ptr nH 0),(4,.int .u64 MJ),(7,i64 oO),(5,i64 oO),(21,.bool (decide ((lC.b.l.length:Int)≤(lC.at_+oO))))]) [0,4,7,5,21] rfl ?_
  refine Zc hS (fun h21 hS => ?_) (fun h21 hS => ?_)
  ·
   refine Zq ?_
   cases hS
  refine Zk ?_
  refine Zq ?_
  refine l9 ((List.range 13).map fun k=>(k,true)) ?_
  refine Zw rfl (bB rfl) ?_
  refine Zw rfl (aF rfl) ?_
  refine Zw rfl (aB PR rfl) ?_
  refine Zw rfl (aL qR rfl rfl) ?_
  refine Zw rfl (bB rfl) ?_
  refine Zw rfl (aF rfl) ?_
  refine Zw rfl (aB vN rfl) ?_
  refine Zw rfl (aL fL rfl rfl) ?_
  refine Zw rfl (bB rfl) ?_
  obtain ⟨b31,hS⟩:=bU hS
  refine Zw rfl (cR rfl rfl b31) ?_
  obtain ⟨wU,aQu,aQQ,hS⟩:=fA hS
  refine Zw rfl (eZ (s:=lC.b) Tryz.underlying35 aLh rfl rfl aQu (bH aQu aQQ)) ?_
  refine Zw rfl (zW (s:=lC.b) aOZ rfl aQQ rfl) ?_
  refine Zw rfl (gI rfl) ?_
  refine VD.to (fun _ _ h=>h) ?_
  refine VC.keep (ρ':=[(0,ptr nH 0),(4,.int .u64 MJ),(7,i64 oO),(5,i64 oO),(6,.int .u8 (wU.toNat:Int))]) [0,4,7,5,6] rfl ?_
  refine VC.gN (S:=Unit) (fun (_:Unit)=>()) (fun (_:Unit)=>[(0,ptr nH 0),(4,.int .u64 MJ),(5,i64 oO),(6,.int .u8 (wU.toNat:Int)),(7,i64 oO)]) (fun (_:Unit)=>Mo.tt) (fun (_:Unit)=>Ow.star (bE nH [lC.b.val,i64 lC.at_,lC.err.val] 221) (Ow.emp)) hS ?_ ?_
  ·
   clear hS
   intro k4 hS
   refine Zq (Zr (Zm (Zu (iI rfl rfl) (Zm ?_))))
   refine o4 36 hS (fun h36 hS => ?_) (fun h36 hS => ?_)
   ·
    refine Zg ?_
    refine Zh (lE rfl rfl) ?_
    refine Zy ?_
    refine o4 40 hS (fun h40 hS => ?_) (fun h40 hS => ?_)
    ·
     refine VL.runs 7 [(47,some true)] (by kernel_rfl) ?_
     refine Zl ?_
     refine VC.keep (ρ':=[(0,ptr nH 0),(4,.int .u64 MJ),(7,i64 oO),(5,i64 oO),(6,.int .u8 (wU.toNat:Int)),(47,.bool true)]) [0,4,7,5,6,47] rfl ?_
     refine VC.RM rfl ?_
     replace hS:=iJ hS hK1
     refine Zx ?_
     refine Zq ?_
     cases hS
    refine Zg ?_
    refine Zh (lE rfl rfl) ?_
    refine Zg ?_
    refine o4 43 hS (fun h43 hS => ?_) (fun h43 hS => ?_)
    ·
     refine Zg ?_
     refine Zh (iI rfl rfl) ?_
     refine Zh (gS rfl rfl) ?_
     refine Zy ?_
     refine VC.keep (ρ':=[(0,ptr nH 0),(4,.int .u64 MJ),(7,i64 oO),(5,i64 oO),(6,.int .u8 (wU.toNat:Int)),(47,.bool (decide ((wU.toNat:Int)=0)))]) [0,4,7,5,6,47] rfl ?_
     refine Zc hS (fun h47 hS => ?_) (fun h47 hS => ?_)
     ·
      replace hS:=iJ hS hK1
      refine Zx ?_
      refine Zq ?_
      cases hS
     refine VC.iV () [0,4,5,6,7] (fun _ _ h=>h) hS rfl
    refine Zy ?_
    refine Zh (gL rfl rfl) ?_
    refine Zy ?_
    refine VC.keep (ρ':=[(0,ptr nH 0),(4,.int .u64 MJ),(7,i64 oO),(5,i64 oO),(6,.int .u8 (wU.toNat:Int)),(47,.bool false)]) [0,4,7,5,6,47] rfl ?_
    refine VC.CC rfl ?_
    refine VC.iV () [0,4,5,6,7] (fun _ _ h=>h) hS rfl
   refine VL.runs 4 [(40,some false)] (by kernel_rfl) ?_
   refine Zg ?_
   refine Zh (lE rfl rfl) ?_
   refine Zg ?_
   refine o4 43 hS (fun h43 hS => ?_) (fun h43 hS => ?_)
   ·
    refine Zg ?_
    refine Zh (iI rfl rfl) ?_
    refine Zh (gS rfl rfl) ?_
    refine Zy ?_
    refine VC.keep (ρ':=[(0,ptr nH 0),(4,.int .u64 MJ),(7,i64 oO),(5,i64 oO),(6,.int .u8 (wU.toNat:Int)),(47,.bool (decide ((wU.toNat:Int)=0)))]) [0,4,7,5,6,47] rfl ?_
    refine Zc hS (fun h47 hS => ?_) (fun h47 hS => ?_)
    ·
     replace hS:=iJ hS hK1
     refine Zx ?_
     refine Zq ?_
     cases hS
    refine VC.iV () [0,4,5,6,7] (fun _ _ h=>h) hS rfl
   refine Zy ?_
   refine Zh (gL rfl rfl) ?_
   refine Zy ?_
   refine VC.keep (ρ':=[(0,ptr nH 0),(4,.int .u64 MJ),(7,i64 oO),(5,i64 oO),(6,.int .u8 (wU.toNat:Int)),(47,.bool false)]) [0,4,7,5,6,47] rfl ?_
   refine VC.CC rfl ?_
   refine VC.iV () [0,4,5,6,7] (fun _ _ h=>h) hS rfl
  clear hS
  rintro _ hS
  refine Zq (Zr (Zy ?_))
  refine Zu (aKW rfl rfl) (Zu (tZ Tryz.underlying5 Tryz.underlying216 rfl) (Zm ?_))
  obtain ⟨b53,hS⟩:=bU hS
  refine Zu (a5r rfl rfl b53) ?_
  obtain ⟨b54,hS⟩:=bU hS
  refine Zu (aOs rfl rfl b54) (Zu (aY2 rfl rfl) (Zy ?_))
  refine VC.keep (ρ':=[(0,ptr nH 0),(4,.int .u64 (PK .u64 MJ (SV .u64 (IntKind.wrap .u64 (BH .u8 (wU.toNat:Int) 127)) (7*oO)))),(5,i64 oO),(6,.int .u8 (wU.toNat:Int)),(7,i64 oO)]) [0,4,5,6,7] rfl ?_
  refine Zq (Zr (Zm (Zu (dW rfl rfl) ?_)))
  refine Zl ?_
  refine Zc hS (fun h57 hS => ?_) (fun h57 hS => ?_)
  ·
   refine Zq (Zr (Zm (Zu (aF rfl) (Zu (aB vN rfl) (Zu (aL fL rfl rfl) (Zm ?_))))))
   obtain ⟨b63,hS⟩:=bU hS
   refine Zu (cR rfl rfl b63) ?_
   obtain ⟨b64,hS⟩:=bU hS
   refine Zu (cR rfl rfl b64) (Zu (aF rfl) (Zu (aB vN rfl) ?_))
   refine Zv (cs':=[lC.b.val,i64 (lC.at_+(oO+1)),lC.err.val]) rfl DE ?_
   refine Zl ?_
   refine VC.keep (ρ':=[(4,.int .u64 (PK .u64 MJ (SV .u64 (IntKind.wrap .u64 (BH .u8 (wU.toNat:Int) 127)) (7*oO))))]) [4] rfl ?_
   refine Zq (Zr (Zy ?_))
   replace hS:=iJ hS hK1
   cases hS
   exact VC.ret (Z2 ((PK .u64 MJ (SV .u64 (IntKind.wrap .u64 (BH .u8 (wU.toNat:Int) 127)) (7*oO))),0,⟨lC.b,(lC.at_+(oO+1)),lC.err⟩))
  refine Zk ?_
  refine Zr ?_
  obtain ⟨b68,hS⟩:=bU hS
  refine Zu (cR rfl rfl b68) (Zm ?_)
  refine VL.jU ((PK .u64 MJ (SV .u64 (IntKind.wrap .u64 (BH .u8 (wU.toNat:Int) 127)) (7*oO))),(oO+1)) [0,4,7] (fun _ _ h=>h) (go2 hS hK1) rfl
 replace hS:=iJ hS hK1
 refine Zx ?_
 refine Zq ?_
 cases hS
theorem fK (nH:Nat) (lC:cX) {r:Int×bT} (hS:Sh.gA lC.pl=some r) :
 Ct Tryz.prog 99 [ptr nH 0] (lC.b.ok.and lC.err.ok) (bE nH [lC.b.val,i64 lC.at_,lC.err.val] 221) (X:=Int×cX) (fun x=>i64 x.1) (fun x=>r=(x.1,x.2.pl)) (fun x=>(x.2.b.ok.and x.2.err.ok)) (fun x=>bE nH [x.2.b.val,i64 x.2.at_,x.2.err.val] 221):=by
 refine Zo Tryz.func99 Tryz.ntmps99 fun c => ?_
 unfold Sh.gA at hS
 refine Zq (Zr (Zy ?_))
 refine Zq (Zq (Zr (Zm (Zu (aF rfl) (Zu (aB XQ rfl) (Zu (aL aE6 rfl rfl) (Zu (o5 Tryz.underlying27 rfl) ?_)))))))
 refine Zl ?_
 refine o3 hS (fun h10 hS => ?_) (fun h10 hS => ?_)
 ·
  refine Zq ?_
  cases hS
 refine Zk ?_
 refine Zq (Zr (Zm (Zu (aF rfl) (Zu (aB vN rfl) (Zu (aL fL rfl rfl) (Zy ?_))))))
 refine VC.keep (ρ':=[(0,ptr nH 0),(3,i64 lC.at_)]) [0,3] rfl ?_
 refine Zq (Zr (Zm ?_))
 obtain ⟨aAf,aZz,hS⟩:=aO hS
 refine VL.bL (aAA nH lC aZz) rfl (by decide) ?_
 rintro ⟨aGS,a7F,aGT⟩ rfl
 try dsimp only
 refine Zm (Zu (aV rfl rfl) (Zu (aV rfl rfl) (Zy ?_)))
 refine Zq (Zq (Zr (Zm (Zu (lF rfl rfl) ?_))))
 refine Zl ?_
 refine o3 hS (fun h21 hS => ?_) (fun h21 hS => ?_)
 ·
  refine Zq ?_
  cases hS
 refine Zk ?_
 refine VC.keep (ρ':=[(4,.int .u64 aGS)]) [4] rfl ?_
 refine Zq (Zr (Zm ?_))
 refine Zu (aA0 rfl rfl (by decide)) ?_
 refine Zu (tZ Tryz.underlying216 Tryz.underlying2 rfl) (Zm (Zu (aKW rfl rfl) (Zu (tZ Tryz.underlying216 Tryz.underlying2 rfl) (Zu (a5s rfl) (Zu (aOt rfl rfl) ?_)))))
 refine Zy ?_
 cases hS
 exact VC.ret (Z1 ((PL .i64 (IntKind.wrap .i64 (yX .u64 aGS 1)) (IntKind.wrap .i64 (0 - (IntKind.wrap .i64 (BH .u64 aGS 1))))),⟨aGT.b,aGT.at_,aGT.err⟩))
theorem nB (nH:Nat) (lC:cX) {r:kH} (hS:Sh.nS lC.pl=some r) :
 Ct Tryz.prog 100 [ptr nH 0] (lC.b.ok.and lC.err.ok) (bE nH [lC.b.val,i64 lC.at_,lC.err.val] 221) (X:=Er) (fun x=>x.val) (fun x=>r=x.pl) (fun x=>x.ok) (fun x=>bE nH [lC.b.val,i64 lC.at_,lC.err.val] 221):=by
 refine Zo Tryz.func100 Tryz.ntmps100 fun c => ?_
 unfold Sh.nS at hS
 refine Zq (Zr (Zy ?_))
 refine Zq (Zr (Zm (Zu (aF rfl) (Zu (aB XQ rfl) (Zu (aL aE6 rfl rfl) (Zy ?_))))))
 cases hS
 exact VC.ret (Z1 lC.err)
theorem jB (nH:Nat) (lC:cX) {r:aK×bT} (hS:Sh.jM lC.pl=some r) :
 Ct Tryz.prog 101 [ptr nH 0] (lC.b.ok.and lC.err.ok) (bE nH [lC.b.val,i64 lC.at_,lC.err.val] 221) (X:=aK×cX) (fun x=>str x.1) (fun x=>r=(x.1,x.2.pl)) (fun x=>(x.2.b.ok.and x.2.err.ok)) (fun x=>bE nH [x.2.b.val,i64 x.2.at_,x.2.err.val] 221):=by
 refine Zo Tryz.func101 Tryz.ntmps101 fun c => ?_
 unfold Sh.jM at hS
 refine Zq (Zr (Zy ?_))
 refine Zq (Zr (Zm (Zu (aF rfl) (Zu (aB vN rfl) (Zu (aL fL rfl rfl) (Zy ?_))))))
 refine Zq (Zr (Zm ?_))
 obtain ⟨iW,CE,hS⟩:=aO hS
 refine VL.bL (fK nH lC CE) rfl (by decide) ?_
 rintro ⟨oV,xX⟩ rfl
 try dsimp only
 refine Zy ?_
 refine Zq (Zb (Zq (Zr (Zm (Zu (aF rfl) (Zu (aB XQ rfl) (Zu (aL aE6 rfl rfl) (Zu (o5 Tryz.underlying27 rfl) (Zy ?_)))))))))
 refine VC.keep (ρ':=[(0,ptr nH 0),(3,i64 lC.at_),(4,i64 oV),(12,.bool (!decide (xX.err.pl.isNil=true)))]) [0,3,4,12] rfl ?_
 refine o3 hS (fun h12 hS => ?_) (fun h12 hS => ?_)
 ·
  refine Zq ?_
  cases hS
 refine Zq (Zr (Zm (Zu (dW rfl rfl) (Zy ?_))))
 refine Zc hS (fun h18 hS => ?_) (fun h18 hS => ?_)
 ·
  refine Zq ?_
  cases hS
 refine Zq ?_
 refine l9 ((List.range 13).map fun k=>(k,true)) ?_
 refine Zw rfl (bB rfl) ?_
 refine Zw rfl (bB rfl) ?_
 refine Zw rfl (aF rfl) ?_
 refine Zw rfl (aB PR rfl) ?_
 refine Zw rfl (aL qR rfl rfl) ?_
 refine Zw rfl (eB (s:=xX.b) Tryz.underlying35 rfl) ?_
 refine Zw rfl (bB rfl) ?_
 refine Zw rfl (aF rfl) ?_
 refine Zw rfl (aB vN rfl) ?_
 refine Zw rfl (aL fL rfl rfl) ?_
 obtain ⟨b35,hS⟩:=bU hS
 refine Zw rfl (zI rfl rfl b35) ?_
 refine Zw rfl (lE rfl rfl) ?_
 refine Zw rfl (gI rfl) ?_
 refine VD.to (fun _ _ h=>h) ?_
 refine VC.keep (ρ':=[(0,ptr nH 0),(3,i64 lC.at_),(4,i64 oV),(24,.bool (decide (((xX.b.l.length:Int) - xX.at_) < oV)))]) [0,3,4,24] rfl ?_
 refine Zc hS (fun h24 hS => ?_) (fun h24 hS => ?_)
 ·
  refine Zq ?_
  cases hS
 refine Zk ?_
 refine Zq ?_
 refine l9 ((List.range 17).map fun k=>(k,true)) ?_
 refine Zw rfl (bB rfl) ?_
 refine Zw rfl (aF rfl) ?_
 refine Zw rfl (aB PR rfl) ?_
 refine Zw rfl (aL qR rfl rfl) ?_
 refine Zw rfl (bB rfl) ?_
 refine Zw rfl (aF rfl) ?_
 refine Zw rfl (aB vN rfl) ?_
 refine Zw rfl (aL fL rfl rfl) ?_
 refine Zw rfl (bB rfl) ?_
 refine Zw rfl (aF rfl) ?_
 refine Zw rfl (aB vN rfl) ?_
 refine Zw rfl (aL fL rfl rfl) ?_
 refine Zw rfl (bB rfl) ?_
 obtain ⟨b53,hS⟩:=bU hS
 refine Zw rfl (cR rfl rfl b53) ?_
 obtain ⟨b54,hS⟩:=bU hS
 refine VD.a6Y rfl Tryz.underlying35 aLh rfl rfl rfl b54.1 b54.2.1 (b54.2.2) (by decide) fun aK1 a1y Qs54_2 => ?_
 replace hS:=bW a1y hS
 refine Zw rfl (aOr (s:=aK1) Tryz.underlying35 Tryz.underlying5 Tryz.underlying9 rfl) ?_
 refine Zw rfl (gI rfl) ?_
 refine VD.to (fun _ _ h=>h) ?_
 refine VC.keep (ρ':=[(0,ptr nH 0),(4,i64 oV),(5,str aK1.l)]) [0,4,5] rfl ?_
 refine Zq (Zr (Zm (Zu (aF rfl) (Zu (aB vN rfl) (Zu (aL fL rfl rfl) (Zm ?_))))))
 obtain ⟨b61,hS⟩:=bU hS
 refine Zu (cR rfl rfl b61) (Zu (aF rfl) (Zu (aB vN rfl) ?_))
 refine Zv (cs':=[xX.b.val,i64 (xX.at_+oV),xX.err.val]) rfl DE ?_
 refine Zl ?_
 refine VC.keep (ρ':=[(5,str aK1.l)]) [5] rfl ?_
 refine Zq (Zr (Zy ?_))
 cases hS
 exact VC.ret (Z1 (aK1.l,⟨xX.b,(xX.at_+oV),xX.err⟩))
theorem S1 (mA:Nat) (bZ:Sv aC) (jA:Nat) (cM:Nat) (a_1_:aW) (bY:Nat) (cW:cX) {r:List aC×bT} (hS:Sh.C3 bZ.l a_1_ cW.pl=some r) :
 Ct Tryz.prog 336 [ptr mA 0,ptr jA 0] (cW.b.ok.and cW.err.ok) (Ow.star (Sv.own bZ 32) (Ow.star (bE mA [bZ.val] 23) (Ow.star (bE bY [cW.b.val,i64 cW.at_,cW.err.val] 221) (Ow.star (bE cM [ptr bY 0,.bool a_1_.bad] 279) (bE jA [ptr cM 0] 277))))) (X:=Sv aC×cX) (fun x => .tuple #[]) (fun x=>r=(x.1.l,x.2.pl)) (fun x=>(x.2.b.ok.and x.2.err.ok)) (fun x=>Ow.star (bE mA [x.1.val] 23) (Ow.star (Sv.own x.1 32) (Ow.star (bE bY [x.2.b.val,i64 x.2.at_,x.2.err.val] 221) (Ow.star (bE cM [ptr bY 0,.bool a_1_.bad] 279) (bE jA [ptr cM 0] 277))))):=by
 refine Zo Tryz.func336 Tryz.ntmps336 fun c => ?_
 unfold Sh.C3 at hS
 refine l9 [(0,true),(1,true),(2,true),(3,true),(4,true),(6,true),(7,true),(8,true),(9,true),(11,true),(12,true),(13,true),(14,true),(5,false),(10,false),(15,false),(16,true),(17,false),(18,false),(19,false)] ?_
 refine Zw rfl (aL kO rfl rfl) ?_
 refine Zw rfl (aL dL rfl rfl) ?_
 refine Zw rfl (aF rfl) ?_
 refine Zw rfl (aB cP rfl) ?_
 refine Zw rfl (aL dH rfl rfl) ?_
 refine Zw rfl (aL dL rfl rfl) ?_
 refine Zw rfl (aF rfl) ?_
 refine Zw rfl (aB cP rfl) ?_
 refine Zw rfl (aL dH rfl rfl) ?_
 refine Zw rfl (aL dL rfl rfl) ?_
 refine Zw rfl (aF rfl) ?_
 refine Zw rfl (aB cP rfl) ?_
 refine Zw rfl (aL dH rfl rfl) ?_
 refine VD.one rfl ?_
 obtain ⟨jO,mD,hS⟩:=aO hS
 refine VL.bL (jB bY cW mD) rfl (by decide) ?_
 rintro ⟨lJ,CK⟩ rfl
 try dsimp only
 refine jS [(14,ptr bY 0),(13,ptr cM 0),(12,ptr cM 0),(11,ptr cM 0),(9,ptr bY 0),(8,ptr cM 0),(7,ptr cM 0),(6,ptr cM 0),(0,bZ.val)] (aI.cons rfl (aL dH rfl rfl) (aI.cons rfl (aB cP rfl) (aI.cons rfl (aF rfl) (aI.cons rfl (aL dL rfl rfl) (aI.cons rfl (aL dH rfl rfl) (aI.cons rfl (aB cP rfl) (aI.cons rfl (aF rfl) (aI.cons rfl (aL dL rfl rfl) (aI.cons rfl (aL kO rfl rfl) aI.nil))))))))) ?_
 refine VD.one rfl ?_
 obtain ⟨gU,J4,hS⟩:=aO hS
 refine VL.bL (fK bY CK J4) rfl (by decide) ?_
 rintro ⟨vZ,VJ⟩ rfl
 try dsimp only
 refine jS [(14,ptr bY 0),(13,ptr cM 0),(12,ptr cM 0),(11,ptr cM 0),(0,bZ.val)] (aI.cons rfl (aL dH rfl rfl) (aI.cons rfl (aB cP rfl) (aI.cons rfl (aF rfl) (aI.cons rfl (aL dL rfl rfl) (aI.cons rfl (aL kO rfl rfl) aI.nil))))) ?_
 refine VD.one rfl ?_
 obtain ⟨A4,RT,hS⟩:=aO hS
 refine VL.bL (jB bY VJ RT) rfl (by decide) ?_
 rintro ⟨v7,GC⟩ rfl
 try dsimp only
 refine jS [(0,bZ.val)] (aI.cons rfl (aL kO rfl rfl) aI.nil) ?_
 refine Zw rfl (fR (vs:=[(0,str lJ),(1,i64 vZ),(2,str v7)]) (cs := #[str lJ,i64 vZ,str v7]) rfl (by kernel_rfl)) ?_
 refine VD.one rfl ?_
 refine VL.lit (α:=aC) (xs:=[.tmp 18]) (vs:=[.agg #[str lJ,i64 vZ,str v7]]) [⟨lJ,vZ,v7⟩] Tryz.underlying23 aB4 (by decide) rfl rfl rfl rfl (by decide) (fun _ _ _ _=>trivial) (by decide) (fun aGh aB8 => ?_) (by decide)
 replace hS:=bW aB8 hS
 refine jS [(0,bZ.val)] (aI.cons rfl (aL kO rfl rfl) aI.nil) ?_
 refine VD.one rfl ?_
 obtain ⟨b20,hS⟩:=bU hS
 refine VL.app (s:=bZ) (r:=aGh) Tryz.underlying23 XN (by decide) rfl Fo.out (wM b20) (wN b20 (by decide)) (by decide) (fun aGi aJp => ?_)
 replace hS:=bW aJp hS
 refine jH ?_
 refine VD.one rfl ?_
 refine Zv (cs':=[aGi.val]) rfl aDG ?_
 refine jH ?_
 cases hS
 exact VD.nil (pZ (.inl rfl) rfl (aGi,⟨GC.b,GC.at_,GC.err⟩) rfl rfl (by (try dsimp only); exact fQ.out) (by (try dsimp only); exact iY.out))
theorem T6 (bR:Nat) (dD:aW) (aG:Nat) (bA:cX) (cD:Nat) (bF:Sv aC) (cE:Nat) {r:bT×aW×List aC} (hS:Sh.ET dD bA.pl bF.l=some r) :
 Ct Tryz.prog 269 [ptr bR 0,.func (.func 336) #[] #[ptr cD 0,ptr cE 0]] (bA.b.ok.and bA.err.ok) (Ow.star (bE aG [bA.b.val,i64 bA.at_,bA.err.val] 221) (Ow.star (bE bR [ptr aG 0,.bool dD.bad] 279) (Ow.star (Sv.own bF 32) (Ow.star (bE cD [bF.val] 23) (bE cE [ptr bR 0] 277))))) (X:=cX×aW×Sv aC) (fun x => .tuple #[]) (fun x=>r=(x.1.pl,x.2.1,x.2.2.l)) (fun x=>(x.1.b.ok.and x.1.err.ok)) (fun x=>Ow.star (bE aG [x.1.b.val,i64 x.1.at_,x.1.err.val] 221) (Ow.star (bE bR [ptr aG 0,.bool x.2.1.bad] 279) (Ow.star (bE cD [x.2.2.val] 23) (Ow.star (Sv.own x.2.2 32) (bE cE [ptr bR 0] 277))))):=by
 refine Zo Tryz.func269 Tryz.ntmps269 fun c => ?_
 unfold Sh.ET at hS
 refine Zq (Zr (Zm (Zu (aF rfl) (Zu (aB cP rfl) (Zu (aL dH rfl rfl) ?_)))))
 obtain ⟨dA,mC,hS⟩:=aO hS
 refine VL.bL (fK aG bA mC) rfl (by decide) ?_
 rintro ⟨gG,eS⟩ rfl
 try dsimp only
 refine Zy ?_
 refine VC.gN (S:=Bool) (fun (eY:Bool)=>eY) (fun (eY:Bool)=>[(0,ptr bR 0),(1,.func (.func 336) #[] #[ptr cD 0,ptr cE 0]),(4,i64 gG)]) (fun (eY:Bool)=>Mo.tt) (fun (eY:Bool)=>Ow.star (bE aG [eS.b.val,i64 eS.at_,eS.err.val] 221) (Ow.star (bE bR [ptr aG 0,.bool eY] 279) (Ow.star (bE cD [bF.val] 23) (Ow.star (bE cE [ptr bR 0] 277) (Ow.star (Sv.own bF 32) (Ow.emp)))))) hS ?_ ?_
 ·
  clear hS
  intro k3 hS
  refine Zr (Zy ?_)
  refine Zu (aF rfl) (Zu (aB kS rfl) (Zu (aL lK rfl rfl) (Zm ?_)))
  refine xJ 16 hS (fun h16 hS => ?_) (fun h16 hS => ?_)
  ·
   refine VL.runs 3 [(19,some true)] (by kernel_rfl) ?_
   refine Zu (aF rfl) (Zu (aB kS rfl) ?_)
   refine Zv (cs':=[ptr aG 0,.bool true]) rfl qV ?_
   refine VL.mt true [0,1,4] (fun _ _ h=>h) hS rfl
  refine Zg ?_
  refine Zh (dW rfl rfl) ?_
  refine Zf ?_
  refine Zu (aF rfl) (Zu (aB kS rfl) ?_)
  refine Zv (cs':=[ptr aG 0,.bool (decide (gG < 0))]) rfl qV ?_
  refine VL.mt (decide (gG < 0)) [0,1,4] (fun _ _ h=>h) hS rfl
 clear hS
 rintro eY hS
 refine Zq (Zr (Zy ?_))
 refine Zb ?_
 refine VC.iter (S:=Int×Sv UInt8×Int×Er×Sv aC) (fun sg=>(sg.1,sg.2.1.l,sg.2.2.1,sg.2.2.2.1.pl,sg.2.2.2.2.l)) (fun sg=>[(0,ptr bR 0),(1,.func (.func 336) #[] #[ptr cD 0,ptr cE 0]),(4,i64 gG),(5,i64 sg.1)]) (fun sg=>(sg.2.1.ok.and sg.2.2.2.1.ok)) (fun sg=>Ow.star (bE aG [sg.2.1.val,i64 sg.2.2.1,sg.2.2.2.1.val] 221) (Ow.star (bE bR [ptr aG 0,.bool eY] 279) (Ow.star (bE cD [sg.2.2.2.2.val] 23) (Ow.star (bE cE [ptr bR 0] 277) (Ow.star (Sv.own sg.2.2.2.2 32) (Ow.emp)))))) (0,eS.b,eS.at_,eS.err,bF) [0,1,4,5] hS rfl ?_
 clear hS
 rintro ⟨kN,fO,iE,iF,iZ⟩ m1 y1 hS hK1
 refine Zq (Zq (Zr (Zy ?_)))
 refine Zu (dW rfl rfl) (Zm ?_)
 refine o4 25 hS (fun h25 hS => ?_) (fun h25 hS => ?_)
 ·
  refine Zg ?_
  refine Zh (aF rfl) ?_
  refine Zh (aB cP rfl) ?_
  refine Zh (aL dH rfl rfl) ?_
  refine VL.guard rfl rfl ?_
  obtain ⟨mZ,y8,hS⟩:=aO hS
  refine VL.bL (nB aG (⟨fO,iE,iF⟩:cX) y8) rfl (by decide) ?_
  rintro tY rfl
  try dsimp only
  refine Zh (GG Tryz.underlying27 rfl) ?_
  refine Zy ?_
  refine VC.keep (ρ':=[(0,ptr bR 0),(1,.func (.func 336) #[] #[ptr cD 0,ptr cE 0]),(4,i64 gG),(5,i64 kN),(32,.bool (decide (tY.pl.isNil=true)))]) [0,1,4,5,32] rfl ?_
  refine Zc hS (fun h32 hS => ?_) (fun h32 hS => ?_)
  ·
   refine Zk ?_
   refine Zq (Zb (Zr (Zm ?_)))
   obtain ⟨nG,FT,hS⟩:=aO hS
   refine VL.MY (vs:=[]) (caps:=[ptr cD 0,ptr cE 0]) (S1 cD iZ cE bR (⟨eY⟩:aW) aG (⟨fO,iE,iF⟩:cX) FT) rfl rfl (by decide) ?_
   rintro ⟨CI,oC⟩ rfl
   try dsimp only
   refine Zl ?_
   refine Zr (Zm ?_)
   obtain ⟨b34,hS⟩:=bU hS
   refine Zu (cR rfl rfl b34) (Za ?_)
   refine VL.jU ((kN+1),oC.b,oC.at_,oC.err,CI) [0,1,4,5] (fun _ _ h=>h) (go2 hS hK1) rfl
  replace hS:=iJ hS hK1
  cases hS
  exact VC.exit (pZ (.inl rfl) rfl (⟨fO,iE,iF⟩,⟨eY⟩,iZ) rfl rfl (by (try dsimp only); exact fQ.out) (by (try dsimp only); exact iY.out))
 refine VL.runs 7 [(32,some false)] (by kernel_rfl) ?_
 refine Zl ?_
 refine VC.CC rfl ?_
 replace hS:=iJ hS hK1
 cases hS
 exact VC.exit (pZ (.inl rfl) rfl (⟨fO,iE,iF⟩,⟨eY⟩,iZ) rfl rfl (by (try dsimp only); exact fQ.out) (by (try dsimp only); exact iY.out))
theorem wH (bR:Nat) (dD:aW) (aG:Nat) (bA:cX) {r:List aC×bT×aW} (hS:Sh.wG dD bA.pl=some r) :
 Ct Tryz.prog 271 [ptr bR 0] (bA.b.ok.and bA.err.ok) (Ow.star (bE aG [bA.b.val,i64 bA.at_,bA.err.val] 221) (bE bR [ptr aG 0,.bool dD.bad] 279)) (X:=Sv aC×cX×aW) (fun x=>x.1.val) (fun x=>r=(x.1.l,x.2.1.pl,x.2.2)) (fun x=>(x.1.ok.and (x.2.1.b.ok.and x.2.1.err.ok))) (fun x=>Ow.star (bE aG [x.2.1.b.val,i64 x.2.1.at_,x.2.1.err.val] 221) (bE bR [ptr aG 0,.bool x.2.2.bad] 279)):=by
 refine Zo Tryz.func271 Tryz.ntmps271 fun c => ?_
 unfold Sh.wG at hS
 refine Zq (Zr ?_)
 refine kQ [ptr bR 0] fun jN => ?_
 refine Zy ?_
 refine Zq (Zr ?_)
 refine gV [.slice none 0 0] fun lI => ?_
 refine Zl ?_
 refine Zq (Zr (Zu (aL dL rfl rfl) (Zu (sJ rfl) ?_)))
 refine VL.nU (⟨none,0,[]⟩:Sv aC) 32 ⟨rfl,rfl⟩ ?_
 refine VL.SI lI (cs':=[(⟨none,0,[]⟩:Sv aC).val]) rfl ?_
 obtain ⟨sN,R1,hS⟩:=aO hS
 refine VL.bL (T6 bR dD aG bA lI (⟨none,0,[]⟩:Sv aC) jN R1) rfl (by decide) ?_
 rintro ⟨s8,KB,CJ⟩ rfl
 try dsimp only
 refine Zl ?_
 refine Zq (Zr (Zu (aL kO rfl rfl) ?_))
 refine VL.shut CJ 32 (fun _ _ _ _=>trivial) ?_
 obtain ⟨G6,LC,hS⟩:=aO hS
 refine VL.dK (eU CJ LC) rfl (by decide) ?_
 rintro A7 rfl
 try dsimp only
 refine Zy ?_
 cases hS
 exact VC.ret (Z1 (A7,⟨s8.b,s8.at_,s8.err⟩,⟨KB.bad⟩))
theorem MF (mA:Nat) (bZ:Sv aE) (jA:Nat) (cM:Nat) (a_1_:aW) (bY:Nat) (cW:cX) {r:List aE×bT} (hS:Sh.yL bZ.l a_1_ cW.pl=some r) :
 Ct Tryz.prog 370 [ptr mA 0,ptr jA 0] (cW.b.ok.and cW.err.ok) (Ow.star (Sv.own bZ 103) (Ow.star (bE mA [bZ.val] 36) (Ow.star (bE bY [cW.b.val,i64 cW.at_,cW.err.val] 221) (Ow.star (bE cM [ptr bY 0,.bool a_1_.bad] 279) (bE jA [ptr cM 0] 277))))) (X:=Sv aE×cX) (fun x => .tuple #[]) (fun x=>r=(x.1.l,x.2.pl)) (fun x=>(x.2.b.ok.and x.2.err.ok)) (fun x=>Ow.star (bE mA [x.1.val] 36) (Ow.star (Sv.own x.1 103) (Ow.star (bE bY [x.2.b.val,i64 x.2.at_,x.2.err.val] 221) (Ow.star (bE cM [ptr bY 0,.bool a_1_.bad] 279) (bE jA [ptr cM 0] 277))))):=by
 refine Zo Tryz.func370 Tryz.ntmps370 fun c => ?_
 unfold Sh.yL at hS
 refine l9 [(0,true),(1,true),(2,true),(3,true),(4,true),(6,true),(7,true),(8,true),(9,true),(11,true),(12,true),(13,true),(14,true),(16,true),(17,true),(18,true),(19,true),(21,true),(22,true),(23,true),(24,true),(26,true),(27,true),(28,true),(29,true),(5,false),(10,false),(15,false),(20,false),(25,false),(30,false),(31,true),(32,false),(33,false),(34,false)] ?_
 refine Zw rfl (aL nN rfl rfl) ?_
 refine Zw rfl (aL dL rfl rfl) ?_
 refine Zw rfl (aF rfl) ?_
 refine Zw rfl (aB cP rfl) ?_
 refine Zw rfl (aL dH rfl rfl) ?_
 refine Zw rfl (aL dL rfl rfl) ?_
 refine Zw rfl (aF rfl) ?_
 refine Zw rfl (aB cP rfl) ?_
 refine Zw rfl (aL dH rfl rfl) ?_
 refine Zw rfl (aL dL rfl rfl) ?_
 refine Zw rfl (aF rfl) ?_
 refine Zw rfl (aB cP rfl) ?_
 refine Zw rfl (aL dH rfl rfl) ?_
 refine Zw rfl (aL dL rfl rfl) ?_
 refine Zw rfl (aF rfl) ?_
 refine Zw rfl (aB cP rfl) ?_
 refine Zw rfl (aL dH rfl rfl) ?_
 refine Zw rfl (aL dL rfl rfl) ?_
 refine Zw rfl (aF rfl) ?_
 refine Zw rfl (aB cP rfl) ?_
 refine Zw rfl (aL dH rfl rfl) ?_
 refine Zw rfl (aL dL rfl rfl) ?_
 refine Zw rfl (aF rfl) ?_
 refine Zw rfl (aB cP rfl) ?_
 refine Zw rfl (aL dH rfl rfl) ?_
 refine VD.one rfl ?_
 obtain ⟨jO,mD,hS⟩:=aO hS
 refine VL.bL (jB bY cW mD) rfl (by decide) ?_
 rintro ⟨lJ,CK⟩ rfl
 try dsimp only
 refine jS [(29,ptr bY 0),(28,ptr cM 0),(27,ptr cM 0),(26,ptr cM 0),(24,ptr bY 0),(23,ptr cM 0),(22,ptr cM 0),(21,ptr cM 0),(19,ptr bY 0),(18,ptr cM 0),(17,ptr cM 0),(16,ptr cM 0),(14,ptr bY 0),(13,ptr cM 0),(12,ptr cM 0),(11,ptr cM 0),(9,ptr bY 0),(8,ptr cM 0),(7,ptr cM 0),(6,ptr cM 0),(0,bZ.val)] (aI.cons rfl (aL dH rfl rfl) (aI.cons rfl (aB cP rfl) (aI.cons rfl (aF rfl) (aI.cons rfl (aL dL rfl rfl) (aI.cons rfl (aL dH rfl rfl) (aI.cons rfl (aB cP rfl) (aI.cons rfl (aF rfl) (aI.cons rfl (aL dL rfl rfl) (aI.cons rfl (aL dH rfl rfl) (aI.cons rfl (aB cP rfl) (aI.cons rfl (aF rfl) (aI.cons rfl (aL dL rfl rfl) (aI.cons rfl (aL dH rfl rfl) (aI.cons rfl (aB cP rfl) (aI.cons rfl (aF rfl) (aI.cons rfl (aL dL rfl rfl) (aI.cons rfl (aL dH rfl rfl) (aI.cons rfl (aB cP rfl) (aI.cons rfl (aF rfl) (aI.cons rfl (aL dL rfl rfl) (aI.cons rfl (aL nN rfl rfl) aI.nil))))))))))))))))))))) ?_
 refine VD.one rfl ?_
 obtain ⟨gU,J4,hS⟩:=aO hS
 refine VL.bL (fK bY CK J4) rfl (by decide) ?_
 rintro ⟨vZ,VJ⟩ rfl
 try dsimp only
 refine jS [(29,ptr bY 0),(28,ptr cM 0),(27,ptr cM 0),(26,ptr cM 0),(24,ptr bY 0),(23,ptr cM 0),(22,ptr cM 0),(21,ptr cM 0),(19,ptr bY 0),(18,ptr cM 0),(17,ptr cM 0),(16,ptr cM 0),(14,ptr bY 0),(13,ptr cM 0),(12,ptr cM 0),(11,ptr cM 0),(0,bZ.val)] (aI.cons rfl (aL dH rfl rfl) (aI.cons rfl (aB cP rfl) (aI.cons rfl (aF rfl) (aI.cons rfl (aL dL rfl rfl) (aI.cons rfl (aL dH rfl rfl) (aI.cons rfl (aB cP rfl) (aI.cons rfl (aF rfl) (aI.cons rfl (aL dL rfl rfl) (aI.cons rfl (aL dH rfl rfl) (aI.cons rfl (aB cP rfl) (aI.cons rfl (aF rfl) (aI.cons rfl (aL dL rfl rfl) (aI.cons rfl (aL dH rfl rfl) (aI.cons rfl (aB cP rfl) (aI.cons rfl (aF rfl) (aI.cons rfl (aL dL rfl rfl) (aI.cons rfl (aL nN rfl rfl) aI.nil))))))))))))))))) ?_
 refine VD.one rfl ?_
 obtain ⟨A4,RT,hS⟩:=aO hS
 refine VL.bL (fK bY VJ RT) rfl (by decide) ?_
 rintro ⟨v7,GC⟩ rfl
 try dsimp only
 refine jS [(29,ptr bY 0),(28,ptr cM 0),(27,ptr cM 0),(26,ptr cM 0),(24,ptr bY 0),(23,ptr cM 0),(22,ptr cM 0),(21,ptr cM 0),(19,ptr bY 0),(18,ptr cM 0),(17,ptr cM 0),(16,ptr cM 0),(0,bZ.val)] (aI.cons rfl (aL dH rfl rfl) (aI.cons rfl (aB cP rfl) (aI.cons rfl (aF rfl) (aI.cons rfl (aL dL rfl rfl) (aI.cons rfl (aL dH rfl rfl) (aI.cons rfl (aB cP rfl) (aI.cons rfl (aF rfl) (aI.cons rfl (aL dL rfl rfl) (aI.cons rfl (aL dH rfl rfl) (aI.cons rfl (aB cP rfl) (aI.cons rfl (aF rfl) (aI.cons rfl (aL dL rfl rfl) (aI.cons rfl (aL nN rfl rfl) aI.nil))))))))))))) ?_
 refine VD.one rfl ?_
 obtain ⟨aPL,a0N,hS⟩:=aO hS
 refine VL.bL (jB bY GC a0N) rfl (by decide) ?_
 rintro ⟨aCH,aYH⟩ rfl
 try dsimp only
 refine jS [(29,ptr bY 0),(28,ptr cM 0),(27,ptr cM 0),(26,ptr cM 0),(24,ptr bY 0),(23,ptr cM 0),(22,ptr cM 0),(21,ptr cM 0),(0,bZ.val)] (aI.cons rfl (aL dH rfl rfl) (aI.cons rfl (aB cP rfl) (aI.cons rfl (aF rfl) (aI.cons rfl (aL dL rfl rfl) (aI.cons rfl (aL dH rfl rfl) (aI.cons rfl (aB cP rfl) (aI.cons rfl (aF rfl) (aI.cons rfl (aL dL rfl rfl) (aI.cons rfl (aL nN rfl rfl) aI.nil))))))))) ?_
 refine VD.one rfl ?_
 obtain ⟨aPQ,a00,hS⟩:=aO hS
 refine VL.bL (fK bY aYH a00) rfl (by decide) ?_
 rintro ⟨aCJ,aYN⟩ rfl
 try dsimp only
 refine jS [(29,ptr bY 0),(28,ptr cM 0),(27,ptr cM 0),(26,ptr cM 0),(0,bZ.val)] (aI.cons rfl (aL dH rfl rfl) (aI.cons rfl (aB cP rfl) (aI.cons rfl (aF rfl) (aI.cons rfl (aL dL rfl rfl) (aI.cons rfl (aL nN rfl rfl) aI.nil))))) ?_
 refine VD.one rfl ?_
 obtain ⟨XC,aJa,hS⟩:=aO hS
 refine VL.bL (fK bY aYN aJa) rfl (by decide) ?_
 rintro ⟨L4,aG1⟩ rfl
 try dsimp only
 refine jS [(0,bZ.val)] (aI.cons rfl (aL nN rfl rfl) aI.nil) ?_
 refine Zw rfl (fR (vs:=[(0,str lJ),(1,i64 vZ),(2,i64 v7),(3,str aCH),(4,i64 aCJ),(5,i64 L4)]) (cs := #[str lJ,i64 vZ,i64 v7,str aCH,i64 aCJ,i64 L4]) rfl (by kernel_rfl)) ?_
 refine VD.one rfl ?_
 refine VL.lit (α:=aE) (xs:=[.tmp 33]) (vs:=[.agg #[str lJ,i64 vZ,i64 v7,str aCH,i64 aCJ,i64 L4]]) [⟨lJ,vZ,v7,aCH,aCJ,L4⟩] Tryz.underlying36 aFm (by decide) rfl rfl rfl rfl (by decide) (fun _ _ _ _=>trivial) (by decide) (fun a6T a1v => ?_) (by decide)
 replace hS:=bW a1v hS
 refine jS [(0,bZ.val)] (aI.cons rfl (aL nN rfl rfl) aI.nil) ?_
 refine VD.one rfl ?_
 obtain ⟨b35,hS⟩:=bU hS
 refine VL.app (s:=bZ) (r:=a6T) Tryz.underlying36 UP (by decide) rfl Fo.out (wM b35) (wN b35 (by decide)) (by decide) (fun aYg a1w => ?_)
 replace hS:=bW a1w hS
 refine jH ?_
 refine VD.one rfl ?_
 refine Zv (cs':=[aYg.val]) rfl aO0 ?_
 refine jH ?_
 cases hS
 exact VD.nil (pZ (.inl rfl) rfl (aYg,⟨aG1.b,aG1.at_,aG1.err⟩) rfl rfl (by (try dsimp only); exact fQ.out) (by (try dsimp only); exact iY.out))
theorem OT (bR:Nat) (dD:aW) (aG:Nat) (bA:cX) (cD:Nat) (bF:Sv aE) (cE:Nat) {r:bT×aW×List aE} (hS:Sh.AP dD bA.pl bF.l=some r) :
 Ct Tryz.prog 269 [ptr bR 0,.func (.func 370) #[] #[ptr cD 0,ptr cE 0]] (bA.b.ok.and bA.err.ok) (Ow.star (bE aG [bA.b.val,i64 bA.at_,bA.err.val] 221) (Ow.star (bE bR [ptr aG 0,.bool dD.bad] 279) (Ow.star (Sv.own bF 103) (Ow.star (bE cD [bF.val] 36) (bE cE [ptr bR 0] 277))))) (X:=cX×aW×Sv aE) (fun x => .tuple #[]) (fun x=>r=(x.1.pl,x.2.1,x.2.2.l)) (fun x=>(x.1.b.ok.and x.1.err.ok)) (fun x=>Ow.star (bE aG [x.1.b.val,i64 x.1.at_,x.1.err.val] 221) (Ow.star (bE bR [ptr aG 0,.bool x.2.1.bad] 279) (Ow.star (bE cD [x.2.2.val] 36) (Ow.star (Sv.own x.2.2 103) (bE cE [ptr bR 0] 277))))):=by
 refine Zo Tryz.func269 Tryz.ntmps269 fun c => ?_
 unfold Sh.AP at hS
 refine Zq (Zr (Zm (Zu (aF rfl) (Zu (aB cP rfl) (Zu (aL dH rfl rfl) ?_)))))
 obtain ⟨dA,mC,hS⟩:=aO hS
 refine VL.bL (fK aG bA mC) rfl (by decide) ?_
 rintro ⟨gG,eS⟩ rfl
 try dsimp only
 refine Zy ?_
 refine VC.gN (S:=Bool) (fun (eY:Bool)=>eY) (fun (eY:Bool)=>[(0,ptr bR 0),(1,.func (.func 370) #[] #[ptr cD 0,ptr cE 0]),(4,i64 gG)]) (fun (eY:Bool)=>Mo.tt) (fun (eY:Bool)=>Ow.star (bE aG [eS.b.val,i64 eS.at_,eS.err.val] 221) (Ow.star (bE bR [ptr aG 0,.bool eY] 279) (Ow.star (bE cD [bF.val] 36) (Ow.star (bE cE [ptr bR 0] 277) (Ow.star (Sv.own bF 103) (Ow.emp)))))) hS ?_ ?_
 ·
  clear hS
  intro k3 hS
  refine Zr (Zy ?_)
  refine Zu (aF rfl) (Zu (aB kS rfl) (Zu (aL lK rfl rfl) (Zm ?_)))
  refine xJ 16 hS (fun h16 hS => ?_) (fun h16 hS => ?_)
  ·
   refine VL.runs 3 [(19,some true)] (by kernel_rfl) ?_
   refine Zu (aF rfl) (Zu (aB kS rfl) ?_)
   refine Zv (cs':=[ptr aG 0,.bool true]) rfl qV ?_
   refine VL.mt true [0,1,4] (fun _ _ h=>h) hS rfl
  refine Zg ?_
  refine Zh (dW rfl rfl) ?_
  refine Zf ?_
  refine Zu (aF rfl) (Zu (aB kS rfl) ?_)
  refine Zv (cs':=[ptr aG 0,.bool (decide (gG < 0))]) rfl qV ?_
  refine VL.mt (decide (gG < 0)) [0,1,4] (fun _ _ h=>h) hS rfl
 clear hS
 rintro eY hS
 refine Zq (Zr (Zy ?_))
 refine Zb ?_
 refine VC.iter (S:=Int×Sv UInt8×Int×Er×Sv aE) (fun sg=>(sg.1,sg.2.1.l,sg.2.2.1,sg.2.2.2.1.pl,sg.2.2.2.2.l)) (fun sg=>[(0,ptr bR 0),(1,.func (.func 370) #[] #[ptr cD 0,ptr cE 0]),(4,i64 gG),(5,i64 sg.1)]) (fun sg=>(sg.2.1.ok.and sg.2.2.2.1.ok)) (fun sg=>Ow.star (bE aG [sg.2.1.val,i64 sg.2.2.1,sg.2.2.2.1.val] 221) (Ow.star (bE bR [ptr aG 0,.bool eY] 279) (Ow.star (bE cD [sg.2.2.2.2.val] 36) (Ow.star (bE cE [ptr bR 0] 277) (Ow.star (Sv.own sg.2.2.2.2 103) (Ow.emp)))))) (0,eS.b,eS.at_,eS.err,bF) [0,1,4,5] hS rfl ?_
 clear hS
 rintro ⟨kN,fO,iE,iF,iZ⟩ m1 y1 hS hK1
 refine Zq (Zq (Zr (Zy ?_)))
 refine Zu (dW rfl rfl) (Zm ?_)
 refine o4 25 hS (fun h25 hS => ?_) (fun h25 hS => ?_)
 ·
  refine Zg ?_
  refine Zh (aF rfl) ?_
  refine Zh (aB cP rfl) ?_
  refine Zh (aL dH rfl rfl) ?_
  refine VL.guard rfl rfl ?_
  obtain ⟨mZ,y8,hS⟩:=aO hS
  refine VL.bL (nB aG (⟨fO,iE,iF⟩:cX) y8) rfl (by decide) ?_
  rintro tY rfl
  try dsimp only
  refine Zh (GG Tryz.underlying27 rfl) ?_
  refine Zy ?_
  refine VC.keep (ρ':=[(0,ptr bR 0),(1,.func (.func 370) #[] #[ptr cD 0,ptr cE 0]),(4,i64 gG),(5,i64 kN),(32,.bool (decide (tY.pl.isNil=true)))]) [0,1,4,5,32] rfl ?_
  refine Zc hS (fun h32 hS => ?_) (fun h32 hS => ?_)
  ·
   refine Zk ?_
   refine Zq (Zb (Zr (Zm ?_)))
   obtain ⟨nG,FT,hS⟩:=aO hS
   refine VL.MY (vs:=[]) (caps:=[ptr cD 0,ptr cE 0]) (MF cD iZ cE bR (⟨eY⟩:aW) aG (⟨fO,iE,iF⟩:cX) FT) rfl rfl (by decide) ?_
   rintro ⟨CI,oC⟩ rfl
   try dsimp only
   refine Zl ?_
   refine Zr (Zm ?_)
   obtain ⟨b34,hS⟩:=bU hS
   refine Zu (cR rfl rfl b34) (Za ?_)
   refine VL.jU ((kN+1),oC.b,oC.at_,oC.err,CI) [0,1,4,5] (fun _ _ h=>h) (go2 hS hK1) rfl
  replace hS:=iJ hS hK1
  cases hS
  exact VC.exit (pZ (.inl rfl) rfl (⟨fO,iE,iF⟩,⟨eY⟩,iZ) rfl rfl (by (try dsimp only); exact fQ.out) (by (try dsimp only); exact iY.out))
 refine VL.runs 7 [(32,some false)] (by kernel_rfl) ?_
 refine Zl ?_
 refine VC.CC rfl ?_
 replace hS:=iJ hS hK1
 cases hS
 exact VC.exit (pZ (.inl rfl) rfl (⟨fO,iE,iF⟩,⟨eY⟩,iZ) rfl rfl (by (try dsimp only); exact fQ.out) (by (try dsimp only); exact iY.out))
theorem gC (aA:Sv aE) {r:List aE} (hS:Sh.eG aA.l=some r) :
 Ct Tryz.prog 29 [aA.val] aA.ok (Ow.emp) (X:=Sv aE) (fun x=>x.val) (fun x=>r=x.l) (fun x=>x.ok) (fun x=>Ow.emp):=by
 refine Zo Tryz.func29 Tryz.ntmps29 fun c => ?_
 unfold Sh.eG at hS
 refine Zq (Zr (Zy ?_))
 refine Zq (Zr (Zy ?_))
 refine Zu (eB (s:=aA) Tryz.underlying36 rfl) (Zm (Zu (eB (s:=aA) Tryz.underlying36 rfl) ?_))
 obtain ⟨b8,hS⟩:=bU hS
 refine VL.WG Tryz.underlying36 jD rfl rfl rfl b8.1 (b8.2) (by decide) fun BY tU => ?_
 replace hS:=bW tU hS
 refine Zy ?_
 cases hS
 exact VC.ret (Z1 BY)
theorem rL (bR:Nat) (dD:aW) (aG:Nat) (bA:cX) {r:List aE×bT×aW} (hS:Sh.uS dD bA.pl=some r) :
 Ct Tryz.prog 329 [ptr bR 0] (bA.b.ok.and bA.err.ok) (Ow.star (bE aG [bA.b.val,i64 bA.at_,bA.err.val] 221) (bE bR [ptr aG 0,.bool dD.bad] 279)) (X:=Sv aE×cX×aW) (fun x=>x.1.val) (fun x=>r=(x.1.l,x.2.1.pl,x.2.2)) (fun x=>(x.1.ok.and (x.2.1.b.ok.and x.2.1.err.ok))) (fun x=>Ow.star (bE aG [x.2.1.b.val,i64 x.2.1.at_,x.2.1.err.val] 221) (bE bR [ptr aG 0,.bool x.2.2.bad] 279)):=by
 refine Zo Tryz.func329 Tryz.ntmps329 fun c => ?_
 unfold Sh.uS at hS
 refine Zq (Zr ?_)
 refine kQ [ptr bR 0] fun jN => ?_
 refine Zy ?_
 refine Zq (Zr ?_)
 refine gV [.slice none 0 0] fun lI => ?_
 refine Zl ?_
 refine Zq (Zr (Zu (aL dL rfl rfl) (Zu (sJ rfl) ?_)))
 refine VL.nU (⟨none,0,[]⟩:Sv aE) 103 ⟨rfl,rfl⟩ ?_
 refine VL.SI lI (cs':=[(⟨none,0,[]⟩:Sv aE).val]) rfl ?_
 obtain ⟨sN,R1,hS⟩:=aO hS
 refine VL.bL (OT bR dD aG bA lI (⟨none,0,[]⟩:Sv aE) jN R1) rfl (by decide) ?_
 rintro ⟨s8,KB,CJ⟩ rfl
 try dsimp only
 refine Zl ?_
 refine Zq (Zr (Zu (aL nN rfl rfl) ?_))
 refine VL.shut CJ 103 (fun _ _ _ _=>trivial) ?_
 obtain ⟨G6,LC,hS⟩:=aO hS
 refine VL.dK (gC CJ LC) rfl (by decide) ?_
 rintro A7 rfl
 try dsimp only
 refine Zy ?_
 cases hS
 exact VC.ret (Z1 (A7,⟨s8.b,s8.at_,s8.err⟩,⟨KB.bad⟩))
theorem SZ (mA:Nat) (bZ:kP) (jA:Nat) (cM:Nat) (a_1_:aW) (bY:Nat) (cW:cX) {r:mX×bT} (hS:Sh.C1 bZ.pl a_1_ cW.pl=some r) :
 Ct Tryz.prog 330 [ptr mA 0,ptr jA 0] (bZ.work.ok.and (bZ.index.ok.and (bZ.iC.ok.and (bZ.jF.ok.and (bZ.iD.ok.and (bZ.jG.ok.and ((mH bZ.fZ.l).and (cW.b.ok.and cW.err.ok)))))))) (Ow.star (Sv.own bZ.refs 301) (Ow.star (Sv.own bZ.fZ 305) (Ow.star (bE mA (nA bZ) 72) (Ow.star (bE bY [cW.b.val,i64 cW.at_,cW.err.val] 221) (Ow.star (bE cM [ptr bY 0,.bool a_1_.bad] 279) (bE jA [ptr cM 0] 277)))))) (X:=kP×cX) (fun x => .tuple #[]) (fun x=>r=(x.1.pl,x.2.pl)) (fun x=>(x.1.work.ok.and (x.1.index.ok.and (x.1.iC.ok.and (x.1.jF.ok.and (x.1.iD.ok.and (x.1.jG.ok.and ((mH x.1.fZ.l).and (x.2.b.ok.and x.2.err.ok))))))))) (fun x=>Ow.star (bE mA (nA x.1) 72) (Ow.star (Sv.own x.1.refs 301) (Ow.star (Sv.own x.1.fZ 305) (Ow.star (bE bY [x.2.b.val,i64 x.2.at_,x.2.err.val] 221) (Ow.star (bE cM [ptr bY 0,.bool a_1_.bad] 279) (bE jA [ptr cM 0] 277)))))):=by
 refine Zo Tryz.func330 Tryz.ntmps330 fun c => ?_
 unfold Sh.C1 at hS
 refine l9 [(0,true),(1,true),(2,true),(3,true),(4,true),(5,true),(7,true),(8,true),(9,true),(10,true),(6,false),(11,false),(12,true),(13,false),(14,false),(15,true),(16,false)] ?_
 refine Zw rfl (aB lX rfl) ?_
 refine Zw rfl (aL vT rfl rfl) ?_
 refine Zw rfl (aL dL rfl rfl) ?_
 refine Zw rfl (aF rfl) ?_
 refine Zw rfl (aB cP rfl) ?_
 refine Zw rfl (aL dH rfl rfl) ?_
 refine Zw rfl (aL dL rfl rfl) ?_
 refine Zw rfl (aF rfl) ?_
 refine Zw rfl (aB cP rfl) ?_
 refine Zw rfl (aL dH rfl rfl) ?_
 refine VD.one rfl ?_
 obtain ⟨uL,G8,hS⟩:=aO hS
 refine VL.bL (jB bY cW G8) rfl (by decide) ?_
 rintro ⟨xA,a2h⟩ rfl
 try dsimp only
 refine jS [(10,ptr bY 0),(9,ptr cM 0),(8,ptr cM 0),(7,ptr cM 0),(1,bZ.refs.val),(0,ptr mA 2)] (aI.cons rfl (aL dH rfl rfl) (aI.cons rfl (aB cP rfl) (aI.cons rfl (aF rfl) (aI.cons rfl (aL dL rfl rfl) (aI.cons rfl (aL vT rfl rfl) (aI.cons rfl (aB lX rfl) aI.nil)))))) ?_
 refine VD.one rfl ?_
 obtain ⟨kM,RP,hS⟩:=aO hS
 refine VL.bL (fK bY a2h RP) rfl (by decide) ?_
 rintro ⟨VK,pI⟩ rfl
 try dsimp only
 refine jS [(1,bZ.refs.val),(0,ptr mA 2)] (aI.cons rfl (aL vT rfl rfl) (aI.cons rfl (aB lX rfl) aI.nil)) ?_
 refine Zw rfl (fR (vs:=[(0,str xA),(1,i64 VK)]) (cs := #[str xA,i64 VK]) rfl (by kernel_rfl)) ?_
 refine VD.one rfl ?_
 refine VL.lit (α:=fH) (xs:=[.tmp 14]) (vs:=[.agg #[str xA,i64 VK]]) [⟨xA,VK⟩] Tryz.underlying63 aLf (by decide) rfl rfl rfl rfl (by decide) (fun _ _ _ _=>trivial) (by decide) (fun a6B a17 => ?_) (by decide)
 replace hS:=bW a17 hS
 refine jS [(1,bZ.refs.val),(0,ptr mA 2)] (aI.cons rfl (aL vT rfl rfl) (aI.cons rfl (aB lX rfl) aI.nil)) ?_
 refine VD.one rfl ?_
 obtain ⟨b16,hS⟩:=bU hS
 refine VL.app (s:=bZ.refs) (r:=a6B) Tryz.underlying63 aBZ (by decide) rfl Fo.out (wM b16) (wN b16 (by decide)) (by decide) (fun aDg aB7 => ?_)
 replace hS:=bW aB7 hS
 refine jH ?_
 refine Zw rfl (aB lX rfl) ?_
 refine VD.one rfl ?_
 refine Zv (cs':=[bZ.work.val,bZ.index.val,aDg.val,str bZ.dO,i64 bZ.dP,str bZ.mS,i64 bZ.lG,str bZ.mU,bZ.iC.val,bZ.jF.val,i64 bZ.mT,str bZ.jY,str bZ.fV,i64 bZ.fW,bZ.iD.val,bZ.jG.val,bZ.fZ.val]) rfl aDJ ?_
 refine jH ?_
 cases hS
 exact VD.nil (pZ (.inl rfl) rfl (⟨bZ.work,bZ.index,aDg,bZ.dO,bZ.dP,bZ.mS,bZ.lG,bZ.mU,bZ.iC,bZ.jF,bZ.mT,bZ.jY,bZ.fV,bZ.fW,bZ.iD,bZ.jG,bZ.fZ⟩,⟨pI.b,pI.at_,pI.err⟩) rfl rfl (by (try dsimp only); exact fQ.out) (by (try dsimp only); exact iY.out))
theorem wS (bR:Nat) (dD:aW) (aG:Nat) (bA:cX) (cD:Nat) (bF:kP) (cE:Nat) {r:bT×aW×mX} (hS:Sh.AQ dD bA.pl bF.pl=some r) :
 Ct Tryz.prog 269 [ptr bR 0,.func (.func 330) #[] #[ptr cD 0,ptr cE 0]] (bA.b.ok.and (bA.err.ok.and (bF.work.ok.and (bF.index.ok.and (bF.iC.ok.and (bF.jF.ok.and (bF.iD.ok.and (bF.jG.ok.and (mH bF.fZ.l))))))))) (Ow.star (bE aG [bA.b.val,i64 bA.at_,bA.err.val] 221) (Ow.star (bE bR [ptr aG 0,.bool dD.bad] 279) (Ow.star (Sv.own bF.refs 301) (Ow.star (Sv.own bF.fZ 305) (Ow.star (bE cD (nA bF) 72) (bE cE [ptr bR 0] 277)))))) (X:=cX×aW×kP) (fun x => .tuple #[]) (fun x=>r=(x.1.pl,x.2.1,x.2.2.pl)) (fun x=>(x.1.b.ok.and (x.1.err.ok.and (x.2.2.work.ok.and (x.2.2.index.ok.and (x.2.2.iC.ok.and (x.2.2.jF.ok.and (x.2.2.iD.ok.and (x.2.2.jG.ok.and (mH x.2.2.fZ.l)))))))))) (fun x=>Ow.star (bE aG [x.1.b.val,i64 x.1.at_,x.1.err.val] 221) (Ow.star (bE bR [ptr aG 0,.bool x.2.1.bad] 279) (Ow.star (bE cD (nA x.2.2) 72) (Ow.star (Sv.own x.2.2.refs 301) (Ow.star (Sv.own x.2.2.fZ 305) (bE cE [ptr bR 0] 277)))))):=by
 refine Zo Tryz.func269 Tryz.ntmps269 fun c => ?_
 unfold Sh.AQ at hS
 refine Zq (Zr (Zm (Zu (aF rfl) (Zu (aB cP rfl) (Zu (aL dH rfl rfl) ?_)))))
 obtain ⟨dA,mC,hS⟩:=aO hS
 refine VL.bL (fK aG bA mC) rfl (by decide) ?_
 rintro ⟨gG,eS⟩ rfl
 try dsimp only
 refine Zy ?_
 refine VC.gN (S:=Bool) (fun (eY:Bool)=>eY) (fun (eY:Bool)=>[(0,ptr bR 0),(1,.func (.func 330) #[] #[ptr cD 0,ptr cE 0]),(4,i64 gG)]) (fun (eY:Bool)=>Mo.tt) (fun (eY:Bool)=>Ow.star (bE aG [eS.b.val,i64 eS.at_,eS.err.val] 221) (Ow.star (bE bR [ptr aG 0,.bool eY] 279) (Ow.star (bE cD (nA bF) 72) (Ow.star (bE cE [ptr bR 0] 277) (Ow.star (Sv.own bF.refs 301) (Ow.star (Sv.own bF.fZ 305) (Ow.emp))))))) hS ?_ ?_
 ·
  clear hS
  intro k3 hS
  refine Zr (Zy ?_)
  refine Zu (aF rfl) (Zu (aB kS rfl) (Zu (aL lK rfl rfl) (Zm ?_)))
  refine xJ 16 hS (fun h16 hS => ?_) (fun h16 hS => ?_)
  ·
   refine VL.runs 3 [(19,some true)] (by kernel_rfl) ?_
   refine Zu (aF rfl) (Zu (aB kS rfl) ?_)
   refine Zv (cs':=[ptr aG 0,.bool true]) rfl qV ?_
   refine VL.mt true [0,1,4] (fun _ _ h=>h) hS rfl
  refine Zg ?_
  refine Zh (dW rfl rfl) ?_
  refine Zf ?_
  refine Zu (aF rfl) (Zu (aB kS rfl) ?_)
  refine Zv (cs':=[ptr aG 0,.bool (decide (gG < 0))]) rfl qV ?_
  refine VL.mt (decide (gG < 0)) [0,1,4] (fun _ _ h=>h) hS rfl
 clear hS
 rintro eY hS
 refine Zq (Zr (Zy ?_))
 refine Zb ?_
 refine VC.iter (S:=Int×Sv UInt8×Int×Er×Sv aC×Sv aE×Sv fH×aK×Int×aK×Int×aK×Sv dB×Sv dB×Int×aK×aK×Int×Sv aE×Sv aC×Sv eN) (fun sg=>(sg.1,sg.2.1.l,sg.2.2.1,sg.2.2.2.1.pl,sg.2.2.2.2.1.l,sg.2.2.2.2.2.1.l,sg.2.2.2.2.2.2.1.l,sg.2.2.2.2.2.2.2.1,sg.2.2.2.2.2.2.2.2.1,sg.2.2.2.2.2.2.2.2.2.1,sg.2.2.2.2.2.2.2.2.2.2.1,sg.2.2.2.2.2.2.2.2.2.2.2.1,sg.2.2.2.2.2.2.2.2.2.2.2.2.1.l,sg.2.2.2.2.2.2.2.2.2.2.2.2.2.1.l,sg.2.2.2.2.2.2.2.2.2.2.2.2.2.2.1,sg.2.2.2.2.2.2.2.2.2.2.2.2.2.2.2.1,sg.2.2.2.2.2.2.2.2.2.2.2.2.2.2.2.2.1,sg.2.2.2.2.2.2.2.2.2.2.2.2.2.2.2.2.2.1,sg.2.2.2.2.2.2.2.2.2.2.2.2.2.2.2.2.2.2.1.l,sg.2.2.2.2.2.2.2.2.2.2.2.2.2.2.2.2.2.2.2.1.l,(sg.2.2.2.2.2.2.2.2.2.2.2.2.2.2.2.2.2.2.2.2.l.map eN.pl))) (fun sg=>[(0,ptr bR 0),(1,.func (.func 330) #[] #[ptr cD 0,ptr cE 0]),(4,i64 gG),(5,i64 sg.1)]) (fun sg=>(sg.2.1.ok.and (sg.2.2.2.1.ok.and (sg.2.2.2.2.1.ok.and (sg.2.2.2.2.2.1.ok.and (sg.2.2.2.2.2.2.2.2.2.2.2.2.1.ok.and (sg.2.2.2.2.2.2.2.2.2.2.2.2.2.1.ok.and (sg.2.2.2.2.2.2.2.2.2.2.2.2.2.2.2.2.2.2.1.ok.and (sg.2.2.2.2.2.2.2.2.2.2.2.2.2.2.2.2.2.2.2.1.ok.and (mH sg.2.2.2.2.2.2.2.2.2.2.2.2.2.2.2.2.2.2.2.2.l)))))))))) (fun sg=>Ow.star (bE aG [sg.2.1.val,i64 sg.2.2.1,sg.2.2.2.1.val] 221) (Ow.star (bE bR [ptr aG 0,.bool eY] 279) (Ow.star (bE cD [sg.2.2.2.2.1.val,sg.2.2.2.2.2.1.val,sg.2.2.2.2.2.2.1.val,str sg.2.2.2.2.2.2.2.1,i64 sg.2.2.2.2.2.2.2.2.1,str sg.2.2.2.2.2.2.2.2.2.1,i64 sg.2.2.2.2.2.2.2.2.2.2.1,str sg.2.2.2.2.2.2.2.2.2.2.2.1,sg.2.2.2.2.2.2.2.2.2.2.2.2.1.val,sg.2.2.2.2.2.2.2.2.2.2.2.2.2.1.val,i64 sg.2.2.2.2.2.2.2.2.2.2.2.2.2.2.1,str sg.2.2.2.2.2.2.2.2.2.2.2.2.2.2.2.1,str sg.2.2.2.2.2.2.2.2.2.2.2.2.2.2.2.2.1,i64 sg.2.2.2.2.2.2.2.2.2.2.2.2.2.2.2.2.2.1,sg.2.2.2.2.2.2.2.2.2.2.2.2.2.2.2.2.2.2.1.val,sg.2.2.2.2.2.2.2.2.2.2.2.2.2.2.2.2.2.2.2.1.val,sg.2.2.2.2.2.2.2.2.2.2.2.2.2.2.2.2.2.2.2.2.val] 72) (Ow.star (bE cE [ptr bR 0] 277) (Ow.star (Sv.own sg.2.2.2.2.2.2.1 301) (Ow.star (Sv.own sg.2.2.2.2.2.2.2.2.2.2.2.2.2.2.2.2.2.2.2.2 305) (Ow.emp))))))) (0,eS.b,eS.at_,eS.err,bF.work,bF.index,bF.refs,bF.dO,bF.dP,bF.mS,bF.lG,bF.mU,bF.iC,bF.jF,bF.mT,bF.jY,bF.fV,bF.fW,bF.iD,bF.jG,bF.fZ) [0,1,4,5] hS rfl ?_
 clear hS
 rintro ⟨kN,fO,iE,iF,iZ,sB,sP,uY,uZ,u0,u5,u6,u7,u9,qQ,Q2,Q4,Q6,Q8,RA,RC⟩ m1 y1 hS hK1
 refine Zq (Zq (Zr (Zy ?_)))
 refine Zu (dW rfl rfl) (Zm ?_)
 refine o4 25 hS (fun h25 hS => ?_) (fun h25 hS => ?_)
 ·
  refine Zg ?_
  refine Zh (aF rfl) ?_
  refine Zh (aB cP rfl) ?_
  refine Zh (aL dH rfl rfl) ?_
  refine VL.guard rfl rfl ?_
  obtain ⟨aR9,aUr,hS⟩:=aO hS
  refine VL.bL (nB aG (⟨fO,iE,iF⟩:cX) aUr) rfl (by decide) ?_
  rintro aT4 rfl
  try dsimp only
  refine Zh (GG Tryz.underlying27 rfl) ?_
  refine Zy ?_
  refine VC.keep (ρ':=[(0,ptr bR 0),(1,.func (.func 330) #[] #[ptr cD 0,ptr cE 0]),(4,i64 gG),(5,i64 kN),(32,.bool (decide (aT4.pl.isNil=true)))]) [0,1,4,5,32] rfl ?_
  refine Zc hS (fun h32 hS => ?_) (fun h32 hS => ?_)
  ·
   refine Zk ?_
   refine Zq (Zb (Zr (Zm ?_)))
   obtain ⟨rM,aVD,hS⟩:=aO hS
   refine VL.MY (vs:=[]) (caps:=[ptr cD 0,ptr cE 0]) (SZ cD (⟨iZ,sB,sP,uY,uZ,u0,u5,u6,u7,u9,qQ,Q2,Q4,Q6,Q8,RA,RC⟩:kP) cE bR (⟨eY⟩:aW) aG (⟨fO,iE,iF⟩:cX) aVD) rfl rfl (by decide) ?_
   rintro ⟨pK,aD0⟩ rfl
   try dsimp only
   refine Zl ?_
   refine Zr (Zm ?_)
   obtain ⟨b34,hS⟩:=bU hS
   refine Zu (cR rfl rfl b34) (Za ?_)
   refine VL.jU ((kN+1),aD0.b,aD0.at_,aD0.err,pK.work,pK.index,pK.refs,pK.dO,pK.dP,pK.mS,pK.lG,pK.mU,pK.iC,pK.jF,pK.mT,pK.jY,pK.fV,pK.fW,pK.iD,pK.jG,pK.fZ) [0,1,4,5] (fun _ _ h=>h) (go2 hS hK1) rfl
  replace hS:=iJ hS hK1
  cases hS
  exact VC.exit (pZ (.inl rfl) rfl (⟨fO,iE,iF⟩,⟨eY⟩,⟨iZ,sB,sP,uY,uZ,u0,u5,u6,u7,u9,qQ,Q2,Q4,Q6,Q8,RA,RC⟩) rfl rfl (by (try dsimp only); exact fQ.out) (by (try dsimp only); exact iY.out))
 refine VL.runs 7 [(32,some false)] (by kernel_rfl) ?_
 refine Zl ?_
 refine VC.CC rfl ?_
 replace hS:=iJ hS hK1
 cases hS
 exact VC.exit (pZ (.inl rfl) rfl (⟨fO,iE,iF⟩,⟨eY⟩,⟨iZ,sB,sP,uY,uZ,u0,u5,u6,u7,u9,qQ,Q2,Q4,Q6,Q8,RA,RC⟩) rfl rfl (by (try dsimp only); exact fQ.out) (by (try dsimp only); exact iY.out))
theorem uT (bR:Nat) (dD:aW) (aG:Nat) (bA:cX) {r:pW×bT} (hS:Sh.zK dD bA.pl=some r) :
 Ct Tryz.prog 331 [ptr bR 0] (bA.b.ok.and bA.err.ok) (Ow.star (bE aG [bA.b.val,i64 bA.at_,bA.err.val] 221) (bE bR [ptr aG 0,.bool dD.bad] 279)) (X:=pW×cX) (fun x => .agg #[str x.1.branch,i64 x.1.dX]) (fun x=>r=(x.1,x.2.pl)) (fun x=>(x.2.b.ok.and x.2.err.ok)) (fun x=>Ow.star (bE aG [x.2.b.val,i64 x.2.at_,x.2.err.val] 221) (bE bR [ptr aG 0,.bool dD.bad] 279)):=by
 refine Zo Tryz.func331 Tryz.ntmps331 fun c => ?_
 unfold Sh.zK at hS
 refine Zq (Zr ?_)
 refine gV [str [],i64 0] fun fJ => ?_
 refine Zl ?_
 refine Zq ?_
 refine l9 [(0,true),(1,true),(2,true),(3,true),(5,true),(6,true),(7,true),(8,true),(4,false),(9,false),(10,true),(11,false)] ?_
 refine Zw rfl (bB rfl) ?_
 refine Zw rfl (aF rfl) ?_
 refine Zw rfl (aB cP rfl) ?_
 refine Zw rfl (aL dH rfl rfl) ?_
 refine Zw rfl (bB rfl) ?_
 refine Zw rfl (aF rfl) ?_
 refine Zw rfl (aB cP rfl) ?_
 refine Zw rfl (aL dH rfl rfl) ?_
 refine VD.one rfl ?_
 obtain ⟨yU,EC,hS⟩:=aO hS
 refine VL.bL (jB aG bA EC) rfl (by decide) ?_
 rintro ⟨qS,aCP⟩ rfl
 try dsimp only
 refine jS [(8,ptr aG 0),(7,ptr bR 0),(6,ptr bR 0)] (aI.cons rfl (aL dH rfl rfl) (aI.cons rfl (aB cP rfl) (aI.cons rfl (aF rfl) aI.nil))) ?_
 refine VD.one rfl ?_
 obtain ⟨mL,vR,hS⟩:=aO hS
 refine VL.bL (fK aG aCP vR) rfl (by decide) ?_
 rintro ⟨iG,LV⟩ rfl
 try dsimp only
 refine jH ?_
 refine Zw rfl (fR (vs:=[(0,str qS),(1,i64 iG)]) (cs := #[str qS,i64 iG]) rfl (by kernel_rfl)) ?_
 refine VD.one rfl ?_
 refine Zv (cs':=[str qS,i64 iG]) rfl aAG ?_
 refine jH ?_
 refine VD.to (fun _ _ h=>h) ?_
 refine VC.keep (ρ':=[(2,ptr fJ 0)]) [2] rfl ?_
 cases hS
 exact VC.ret (Z3 (⟨qS,iG⟩,⟨LV.b,LV.at_,LV.err⟩) [.agg #[str qS,i64 iG]] (fI.cell aBX rfl rfl Rd.blk (fI.nil)))
theorem O0 (mA:Nat) (bZ:Sv dB) (jA:Nat) (cM:Nat) (a_1_:aW) (bY:Nat) (cW:cX) {r:List dB×bT} (hS:Sh.AY bZ.l a_1_ cW.pl=some r) :
 Ct Tryz.prog 383 [ptr mA 0,ptr jA 0] (cW.b.ok.and cW.err.ok) (Ow.star (Sv.own bZ 230) (Ow.star (bE mA [bZ.val] 66) (Ow.star (bE bY [cW.b.val,i64 cW.at_,cW.err.val] 221) (Ow.star (bE cM [ptr bY 0,.bool a_1_.bad] 279) (bE jA [ptr cM 0] 277))))) (X:=Sv dB×cX) (fun x => .tuple #[]) (fun x=>r=(x.1.l,x.2.pl)) (fun x=>(x.2.b.ok.and x.2.err.ok)) (fun x=>Ow.star (bE mA [x.1.val] 66) (Ow.star (Sv.own x.1 230) (Ow.star (bE bY [x.2.b.val,i64 x.2.at_,x.2.err.val] 221) (Ow.star (bE cM [ptr bY 0,.bool a_1_.bad] 279) (bE jA [ptr cM 0] 277))))):=by
 refine Zo Tryz.func383 Tryz.ntmps383 fun c => ?_
 unfold Sh.AY at hS
 refine l9 [(0,true),(1,true),(2,true),(3,true),(4,true),(6,true),(7,true),(8,true),(9,true),(11,true),(12,true),(13,true),(14,true),(5,false),(10,false),(15,false),(16,true),(17,false),(18,false),(19,false)] ?_
 refine Zw rfl (aL J8 rfl rfl) ?_
 refine Zw rfl (aL dL rfl rfl) ?_
 refine Zw rfl (aF rfl) ?_
 refine Zw rfl (aB cP rfl) ?_
 refine Zw rfl (aL dH rfl rfl) ?_
 refine Zw rfl (aL dL rfl rfl) ?_
 refine Zw rfl (aF rfl) ?_
 refine Zw rfl (aB cP rfl) ?_
 refine Zw rfl (aL dH rfl rfl) ?_
 refine Zw rfl (aL dL rfl rfl) ?_
 refine Zw rfl (aF rfl) ?_
 refine Zw rfl (aB cP rfl) ?_
 refine Zw rfl (aL dH rfl rfl) ?_
 refine VD.one rfl ?_
 obtain ⟨jO,mD,hS⟩:=aO hS
 refine VL.bL (jB bY cW mD) rfl (by decide) ?_
 rintro ⟨lJ,CK⟩ rfl
 try dsimp only
 refine jS [(14,ptr bY 0),(13,ptr cM 0),(12,ptr cM 0),(11,ptr cM 0),(9,ptr bY 0),(8,ptr cM 0),(7,ptr cM 0),(6,ptr cM 0),(0,bZ.val)] (aI.cons rfl (aL dH rfl rfl) (aI.cons rfl (aB cP rfl) (aI.cons rfl (aF rfl) (aI.cons rfl (aL dL rfl rfl) (aI.cons rfl (aL dH rfl rfl) (aI.cons rfl (aB cP rfl) (aI.cons rfl (aF rfl) (aI.cons rfl (aL dL rfl rfl) (aI.cons rfl (aL J8 rfl rfl) aI.nil))))))))) ?_
 refine VD.one rfl ?_
 obtain ⟨gU,J4,hS⟩:=aO hS
 refine VL.bL (fK bY CK J4) rfl (by decide) ?_
 rintro ⟨vZ,VJ⟩ rfl
 try dsimp only
 refine jS [(14,ptr bY 0),(13,ptr cM 0),(12,ptr cM 0),(11,ptr cM 0),(0,bZ.val)] (aI.cons rfl (aL dH rfl rfl) (aI.cons rfl (aB cP rfl) (aI.cons rfl (aF rfl) (aI.cons rfl (aL dL rfl rfl) (aI.cons rfl (aL J8 rfl rfl) aI.nil))))) ?_
 refine VD.one rfl ?_
 obtain ⟨A4,RT,hS⟩:=aO hS
 refine VL.bL (jB bY VJ RT) rfl (by decide) ?_
 rintro ⟨v7,GC⟩ rfl
 try dsimp only
 refine jS [(0,bZ.val)] (aI.cons rfl (aL J8 rfl rfl) aI.nil) ?_
 refine Zw rfl (fR (vs:=[(0,str lJ),(1,i64 vZ),(2,str v7)]) (cs := #[str lJ,i64 vZ,str v7]) rfl (by kernel_rfl)) ?_
 refine VD.one rfl ?_
 refine VL.lit (α:=dB) (xs:=[.tmp 18]) (vs:=[.agg #[str lJ,i64 vZ,str v7]]) [⟨lJ,vZ,v7⟩] Tryz.underlying66 aW6 (by decide) rfl rfl rfl rfl (by decide) (fun _ _ _ _=>trivial) (by decide) (fun aGh aB8 => ?_) (by decide)
 replace hS:=bW aB8 hS
 refine jS [(0,bZ.val)] (aI.cons rfl (aL J8 rfl rfl) aI.nil) ?_
 refine VD.one rfl ?_
 obtain ⟨b20,hS⟩:=bU hS
 refine VL.app (s:=bZ) (r:=aGh) Tryz.underlying66 aWM (by decide) rfl Fo.out (wM b20) (wN b20 (by decide)) (by decide) (fun aGi aJp => ?_)
 replace hS:=bW aJp hS
 refine jH ?_
 refine VD.one rfl ?_
 refine Zv (cs':=[aGi.val]) rfl a5R ?_
 refine jH ?_
 cases hS
 exact VD.nil (pZ (.inl rfl) rfl (aGi,⟨GC.b,GC.at_,GC.err⟩) rfl rfl (by (try dsimp only); exact fQ.out) (by (try dsimp only); exact iY.out))
theorem OU (bR:Nat) (dD:aW) (aG:Nat) (bA:cX) (cD:Nat) (bF:Sv dB) (cE:Nat) {r:bT×aW×List dB} (hS:Sh.AR dD bA.pl bF.l=some r) :
 Ct Tryz.prog 269 [ptr bR 0,.func (.func 383) #[] #[ptr cD 0,ptr cE 0]] (bA.b.ok.and bA.err.ok) (Ow.star (bE aG [bA.b.val,i64 bA.at_,bA.err.val] 221) (Ow.star (bE bR [ptr aG 0,.bool dD.bad] 279) (Ow.star (Sv.own bF 230) (Ow.star (bE cD [bF.val] 66) (bE cE [ptr bR 0] 277))))) (X:=cX×aW×Sv dB) (fun x => .tuple #[]) (fun x=>r=(x.1.pl,x.2.1,x.2.2.l)) (fun x=>(x.1.b.ok.and x.1.err.ok)) (fun x=>Ow.star (bE aG [x.1.b.val,i64 x.1.at_,x.1.err.val] 221) (Ow.star (bE bR [ptr aG 0,.bool x.2.1.bad] 279) (Ow.star (bE cD [x.2.2.val] 66) (Ow.star (Sv.own x.2.2 230) (bE cE [ptr bR 0] 277))))):=by
 refine Zo Tryz.func269 Tryz.ntmps269 fun c => ?_
 unfold Sh.AR at hS
 refine Zq (Zr (Zm (Zu (aF rfl) (Zu (aB cP rfl) (Zu (aL dH rfl rfl) ?_)))))
 obtain ⟨dA,mC,hS⟩:=aO hS
 refine VL.bL (fK aG bA mC) rfl (by decide) ?_
 rintro ⟨gG,eS⟩ rfl
 try dsimp only
 refine Zy ?_
 refine VC.gN (S:=Bool) (fun (eY:Bool)=>eY) (fun (eY:Bool)=>[(0,ptr bR 0),(1,.func (.func 383) #[] #[ptr cD 0,ptr cE 0]),(4,i64 gG)]) (fun (eY:Bool)=>Mo.tt) (fun (eY:Bool)=>Ow.star (bE aG [eS.b.val,i64 eS.at_,eS.err.val] 221) (Ow.star (bE bR [ptr aG 0,.bool eY] 279) (Ow.star (bE cD [bF.val] 66) (Ow.star (bE cE [ptr bR 0] 277) (Ow.star (Sv.own bF 230) (Ow.emp)))))) hS ?_ ?_
 ·
  clear hS
  intro k3 hS
  refine Zr (Zy ?_)
  refine Zu (aF rfl) (Zu (aB kS rfl) (Zu (aL lK rfl rfl) (Zm ?_)))
  refine xJ 16 hS (fun h16 hS => ?_) (fun h16 hS => ?_)
  ·
   refine VL.runs 3 [(19,some true)] (by kernel_rfl) ?_
   refine Zu (aF rfl) (Zu (aB kS rfl) ?_)
   refine Zv (cs':=[ptr aG 0,.bool true]) rfl qV ?_
   refine VL.mt true [0,1,4] (fun _ _ h=>h) hS rfl
  refine Zg ?_
  refine Zh (dW rfl rfl) ?_
  refine Zf ?_
  refine Zu (aF rfl) (Zu (aB kS rfl) ?_)
  refine Zv (cs':=[ptr aG 0,.bool (decide (gG < 0))]) rfl qV ?_
  refine VL.mt (decide (gG < 0)) [0,1,4] (fun _ _ h=>h) hS rfl
 clear hS
 rintro eY hS
 refine Zq (Zr (Zy ?_))
 refine Zb ?_
 refine VC.iter (S:=Int×Sv UInt8×Int×Er×Sv dB) (fun sg=>(sg.1,sg.2.1.l,sg.2.2.1,sg.2.2.2.1.pl,sg.2.2.2.2.l)) (fun sg=>[(0,ptr bR 0),(1,.func (.func 383) #[] #[ptr cD 0,ptr cE 0]),(4,i64 gG),(5,i64 sg.1)]) (fun sg=>(sg.2.1.ok.and sg.2.2.2.1.ok)) (fun sg=>Ow.star (bE aG [sg.2.1.val,i64 sg.2.2.1,sg.2.2.2.1.val] 221) (Ow.star (bE bR [ptr aG 0,.bool eY] 279) (Ow.star (bE cD [sg.2.2.2.2.val] 66) (Ow.star (bE cE [ptr bR 0] 277) (Ow.star (Sv.own sg.2.2.2.2 230) (Ow.emp)))))) (0,eS.b,eS.at_,eS.err,bF) [0,1,4,5] hS rfl ?_
 clear hS
 rintro ⟨kN,fO,iE,iF,iZ⟩ m1 y1 hS hK1
 refine Zq (Zq (Zr (Zy ?_)))
 refine Zu (dW rfl rfl) (Zm ?_)
 refine o4 25 hS (fun h25 hS => ?_) (fun h25 hS => ?_)
 ·
  refine Zg ?_
  refine Zh (aF rfl) ?_
  refine Zh (aB cP rfl) ?_
  refine Zh (aL dH rfl rfl) ?_
  refine VL.guard rfl rfl ?_
  obtain ⟨mZ,y8,hS⟩:=aO hS
  refine VL.bL (nB aG (⟨fO,iE,iF⟩:cX) y8) rfl (by decide) ?_
  rintro tY rfl
  try dsimp only
  refine Zh (GG Tryz.underlying27 rfl) ?_
  refine Zy ?_
  refine VC.keep (ρ':=[(0,ptr bR 0),(1,.func (.func 383) #[] #[ptr cD 0,ptr cE 0]),(4,i64 gG),(5,i64 kN),(32,.bool (decide (tY.pl.isNil=true)))]) [0,1,4,5,32] rfl ?_
  refine Zc hS (fun h32 hS => ?_) (fun h32 hS => ?_)
  ·
   refine Zk ?_
   refine Zq (Zb (Zr (Zm ?_)))
   obtain ⟨nG,FT,hS⟩:=aO hS
   refine VL.MY (vs:=[]) (caps:=[ptr cD 0,ptr cE 0]) (O0 cD iZ cE bR (⟨eY⟩:aW) aG (⟨fO,iE,iF⟩:cX) FT) rfl rfl (by decide) ?_
   rintro ⟨CI,oC⟩ rfl
   try dsimp only
   refine Zl ?_
   refine Zr (Zm ?_)
   obtain ⟨b34,hS⟩:=bU hS
   refine Zu (cR rfl rfl b34) (Za ?_)
   refine VL.jU ((kN+1),oC.b,oC.at_,oC.err,CI) [0,1,4,5] (fun _ _ h=>h) (go2 hS hK1) rfl
  replace hS:=iJ hS hK1
  cases hS
  exact VC.exit (pZ (.inl rfl) rfl (⟨fO,iE,iF⟩,⟨eY⟩,iZ) rfl rfl (by (try dsimp only); exact fQ.out) (by (try dsimp only); exact iY.out))
 refine VL.runs 7 [(32,some false)] (by kernel_rfl) ?_
 refine Zl ?_
 refine VC.CC rfl ?_
 replace hS:=iJ hS hK1
 cases hS
 exact VC.exit (pZ (.inl rfl) rfl (⟨fO,iE,iF⟩,⟨eY⟩,iZ) rfl rfl (by (try dsimp only); exact fQ.out) (by (try dsimp only); exact iY.out))
theorem DT (aA:Sv dB) {r:List dB} (hS:Sh.qA aA.l=some r) :
 Ct Tryz.prog 151 [aA.val] aA.ok (Ow.emp) (X:=Sv dB) (fun x=>x.val) (fun x=>r=x.l) (fun x=>x.ok) (fun x=>Ow.emp):=by
 refine Zo Tryz.func151 Tryz.ntmps151 fun c => ?_
 unfold Sh.qA at hS
 refine Zq (Zr (Zy ?_))
 refine Zq (Zr (Zy ?_))
 refine Zu (eB (s:=aA) Tryz.underlying66 rfl) (Zm (Zu (eB (s:=aA) Tryz.underlying66 rfl) ?_))
 obtain ⟨b8,hS⟩:=bU hS
 refine VL.WG Tryz.underlying66 aJk rfl rfl rfl b8.1 (b8.2) (by decide) fun BY tU => ?_
 replace hS:=bW tU hS
 refine Zy ?_
 cases hS
 exact VC.ret (Z1 BY)
theorem GN (bR:Nat) (dD:aW) (aG:Nat) (bA:cX) {r:List dB×bT×aW} (hS:Sh.xC dD bA.pl=some r) :
 Ct Tryz.prog 371 [ptr bR 0] (bA.b.ok.and bA.err.ok) (Ow.star (bE aG [bA.b.val,i64 bA.at_,bA.err.val] 221) (bE bR [ptr aG 0,.bool dD.bad] 279)) (X:=Sv dB×cX×aW) (fun x=>x.1.val) (fun x=>r=(x.1.l,x.2.1.pl,x.2.2)) (fun x=>(x.1.ok.and (x.2.1.b.ok.and x.2.1.err.ok))) (fun x=>Ow.star (bE aG [x.2.1.b.val,i64 x.2.1.at_,x.2.1.err.val] 221) (bE bR [ptr aG 0,.bool x.2.2.bad] 279)):=by
 refine Zo Tryz.func371 Tryz.ntmps371 fun c => ?_
 unfold Sh.xC at hS
 refine Zq (Zr ?_)
 refine kQ [ptr bR 0] fun jN => ?_
 refine Zy ?_
 refine Zq (Zr ?_)
 refine gV [.slice none 0 0] fun lI => ?_
 refine Zl ?_
 refine Zq (Zr (Zu (aL dL rfl rfl) (Zu (sJ rfl) ?_)))
 refine VL.nU (⟨none,0,[]⟩:Sv dB) 230 ⟨rfl,rfl⟩ ?_
 refine VL.SI lI (cs':=[(⟨none,0,[]⟩:Sv dB).val]) rfl ?_
 obtain ⟨sN,R1,hS⟩:=aO hS
 refine VL.bL (OU bR dD aG bA lI (⟨none,0,[]⟩:Sv dB) jN R1) rfl (by decide) ?_
 rintro ⟨s8,KB,CJ⟩ rfl
 try dsimp only
 refine Zl ?_
 refine Zq (Zr (Zu (aL J8 rfl rfl) ?_))
 refine VL.shut CJ 230 (fun _ _ _ _=>trivial) ?_
 obtain ⟨G6,LC,hS⟩:=aO hS
 refine VL.dK (DT CJ LC) rfl (by decide) ?_
 rintro A7 rfl
 try dsimp only
 refine Zy ?_
 cases hS
 exact VC.ret (Z1 (A7,⟨s8.b,s8.at_,s8.err⟩,⟨KB.bad⟩))
theorem B1 (bR:Nat) (dD:aW) (aG:Nat) (bA:cX) {r:KX×bT×aW} (hS:Sh.GM dD bA.pl=some r) :
 Ct Tryz.prog 332 [ptr bR 0] (bA.b.ok.and bA.err.ok) (Ow.star (bE aG [bA.b.val,i64 bA.at_,bA.err.val] 221) (bE bR [ptr aG 0,.bool dD.bad] 279)) (X:=z8×cX×aW) (fun x => .agg (bM.enc x.1).toArray) (fun x=>r=(x.1.pl,x.2.1.pl,x.2.2)) (fun x=>(x.1.m.and (x.2.1.b.ok.and x.2.1.err.ok))) (fun x=>Ow.star (bE aG [x.2.1.b.val,i64 x.2.1.at_,x.2.1.err.val] 221) (bE bR [ptr aG 0,.bool x.2.2.bad] 279)):=by
 refine Zo Tryz.func332 Tryz.ntmps332 fun c => ?_
 unfold Sh.GM at hS
 refine Zq (Zr ?_)
 refine gV [str [],i64 0,str [],.slice none 0 0,.slice none 0 0,i64 0,str [],str [],i64 0,.slice none 0 0,.slice none 0 0] fun fJ => ?_
 refine Zl ?_
 refine Zq ?_
 refine l9 [(0,true),(1,true),(2,true),(3,true),(5,true),(6,true),(7,true),(8,true),(10,true),(11,true),(12,true),(13,true),(15,true),(17,true),(19,true),(20,true),(21,true),(22,true),(24,true),(25,true),(26,true),(27,true),(29,true),(31,true),(33,true),(4,false),(9,false),(14,false),(16,false),(18,false),(23,false),(28,false),(30,false),(32,false),(34,false),(35,true),(36,false)] ?_
 refine Zw rfl (bB rfl) ?_
 refine Zw rfl (aF rfl) ?_
 refine Zw rfl (aB cP rfl) ?_
 refine Zw rfl (aL dH rfl rfl) ?_
 refine Zw rfl (bB rfl) ?_
 refine Zw rfl (aF rfl) ?_
 refine Zw rfl (aB cP rfl) ?_
 refine Zw rfl (aL dH rfl rfl) ?_
 refine Zw rfl (bB rfl) ?_
 refine Zw rfl (aF rfl) ?_
 refine Zw rfl (aB cP rfl) ?_
 refine Zw rfl (aL dH rfl rfl) ?_
 refine Zw rfl (bB rfl) ?_
 refine Zw rfl (bB rfl) ?_
 refine Zw rfl (bB rfl) ?_
 refine Zw rfl (aF rfl) ?_
 refine Zw rfl (aB cP rfl) ?_
 refine Zw rfl (aL dH rfl rfl) ?_
 refine Zw rfl (bB rfl) ?_
 refine Zw rfl (aF rfl) ?_
 refine Zw rfl (aB cP rfl) ?_
 refine Zw rfl (aL dH rfl rfl) ?_
 refine Zw rfl (bB rfl) ?_
 refine Zw rfl (bB rfl) ?_
 refine Zw rfl (bB rfl) ?_
 refine VD.one rfl ?_
 obtain ⟨yU,EC,hS⟩:=aO hS
 refine VL.bL (jB aG bA EC) rfl (by decide) ?_
 rintro ⟨qS,aCP⟩ rfl
 try dsimp only
 refine jS [(27,ptr aG 0),(26,ptr bR 0),(25,ptr bR 0),(22,ptr aG 0),(21,ptr bR 0),(20,ptr bR 0),(13,ptr aG 0),(12,ptr bR 0),(11,ptr bR 0),(8,ptr aG 0),(7,ptr bR 0),(6,ptr bR 0)] (aI.cons rfl (aL dH rfl rfl) (aI.cons rfl (aB cP rfl) (aI.cons rfl (aF rfl) (aI.cons rfl (aL dH rfl rfl) (aI.cons rfl (aB cP rfl) (aI.cons rfl (aF rfl) (aI.cons rfl (aL dH rfl rfl) (aI.cons rfl (aB cP rfl) (aI.cons rfl (aF rfl) (aI.cons rfl (aL dH rfl rfl) (aI.cons rfl (aB cP rfl) (aI.cons rfl (aF rfl) aI.nil)))))))))))) ?_
 refine VD.one rfl ?_
 obtain ⟨mL,vR,hS⟩:=aO hS
 refine VL.bL (fK aG aCP vR) rfl (by decide) ?_
 rintro ⟨iG,LV⟩ rfl
 try dsimp only
 refine jS [(27,ptr aG 0),(26,ptr bR 0),(25,ptr bR 0),(22,ptr aG 0),(21,ptr bR 0),(20,ptr bR 0),(13,ptr aG 0),(12,ptr bR 0),(11,ptr bR 0)] (aI.cons rfl (aL dH rfl rfl) (aI.cons rfl (aB cP rfl) (aI.cons rfl (aF rfl) (aI.cons rfl (aL dH rfl rfl) (aI.cons rfl (aB cP rfl) (aI.cons rfl (aF rfl) (aI.cons rfl (aL dH rfl rfl) (aI.cons rfl (aB cP rfl) (aI.cons rfl (aF rfl) aI.nil))))))))) ?_
 refine VD.one rfl ?_
 obtain ⟨JN,aBK,hS⟩:=aO hS
 refine VL.bL (jB aG LV aBK) rfl (by decide) ?_
 rintro ⟨zU,VN⟩ rfl
 try dsimp only
 refine jS [(27,ptr aG 0),(26,ptr bR 0),(25,ptr bR 0),(22,ptr aG 0),(21,ptr bR 0),(20,ptr bR 0)] (aI.cons rfl (aL dH rfl rfl) (aI.cons rfl (aB cP rfl) (aI.cons rfl (aF rfl) (aI.cons rfl (aL dH rfl rfl) (aI.cons rfl (aB cP rfl) (aI.cons rfl (aF rfl) aI.nil)))))) ?_
 refine VD.one rfl ?_
 obtain ⟨nL,RV,hS⟩:=aO hS
 refine VL.bL (GN bR dD aG VN RV) rfl (by decide) ?_
 rintro ⟨rR,zV,aGW⟩ rfl
 try dsimp only
 refine jS [(27,ptr aG 0),(26,ptr bR 0),(25,ptr bR 0),(22,ptr aG 0),(21,ptr bR 0),(20,ptr bR 0)] (aI.cons rfl (aL dH rfl rfl) (aI.cons rfl (aB cP rfl) (aI.cons rfl (aF rfl) (aI.cons rfl (aL dH rfl rfl) (aI.cons rfl (aB cP rfl) (aI.cons rfl (aF rfl) aI.nil)))))) ?_
 refine VD.one rfl ?_
 obtain ⟨aHF,a0J,hS⟩:=aO hS
 refine VL.bL (GN bR aGW aG zV a0J) rfl (by decide) ?_
 rintro ⟨VR,aYG,aNA⟩ rfl
 try dsimp only
 refine jS [(27,ptr aG 0),(26,ptr bR 0),(25,ptr bR 0),(22,ptr aG 0),(21,ptr bR 0),(20,ptr bR 0)] (aI.cons rfl (aL dH rfl rfl) (aI.cons rfl (aB cP rfl) (aI.cons rfl (aF rfl) (aI.cons rfl (aL dH rfl rfl) (aI.cons rfl (aB cP rfl) (aI.cons rfl (aF rfl) aI.nil)))))) ?_
 refine VD.one rfl ?_
 obtain ⟨aPP,a0X,hS⟩:=aO hS
 refine VL.bL (fK aG aYG a0X) rfl (by decide) ?_
 rintro ⟨VS,aYL⟩ rfl
 try dsimp only
 refine jS [(27,ptr aG 0),(26,ptr bR 0),(25,ptr bR 0)] (aI.cons rfl (aL dH rfl rfl) (aI.cons rfl (aB cP rfl) (aI.cons rfl (aF rfl) aI.nil))) ?_
 refine VD.one rfl ?_
 obtain ⟨JQ,a0a,hS⟩:=aO hS
 refine VL.bL (jB aG aYL a0a) rfl (by decide) ?_
 rintro ⟨VU,aYS⟩ rfl
 try dsimp only
 refine jH ?_
 refine VD.one rfl ?_
 obtain ⟨aKd,a0d,hS⟩:=aO hS
 refine VL.bL (uT bR aNA aG aYS a0d) rfl (by decide) ?_
 rintro ⟨DN,aYT⟩ rfl
 try dsimp only
 refine jH ?_
 refine VD.one rfl ?_
 obtain ⟨YD,aVA,hS⟩:=aO hS
 refine VL.bL (rL bR aNA aG aYT aVA) rfl (by decide) ?_
 rintro ⟨QG,aTc,aTd⟩ rfl
 try dsimp only
 refine jH ?_
 refine VD.one rfl ?_
 obtain ⟨YE,aVF,hS⟩:=aO hS
 refine VL.bL (wH bR aTd aG aTc aVF) rfl (by decide) ?_
 rintro ⟨QH,aD2,aTg⟩ rfl
 try dsimp only
 refine jH ?_
 refine Zw rfl (fR (vs:=[(0,str qS),(1,i64 iG),(2,str zU),(3,rR.val),(4,VR.val),(5,i64 VS),(6,str VU),(7,.agg #[str DN.branch,i64 DN.dX]),(8,QG.val),(9,QH.val)]) (cs := #[str qS,i64 iG,str zU,rR.val,VR.val,i64 VS,str VU,str DN.branch,i64 DN.dX,QG.val,QH.val]) rfl (by kernel_rfl)) ?_
 refine VD.one rfl ?_
 refine Zv (cs':=[str qS,i64 iG,str zU,rR.val,VR.val,i64 VS,str VU,str DN.branch,i64 DN.dX,QG.val,QH.val]) rfl aAH ?_
 refine jH ?_
 refine VD.to (fun _ _ h=>h) ?_
 refine VC.keep (ρ':=[(2,ptr fJ 0)]) [2] rfl ?_
 cases hS
 exact VC.ret (Z3 (⟨qS,iG,zU,rR,VR,VS,VU,DN.branch,DN.dX,QG,QH⟩,⟨aD2.b,aD2.at_,aD2.err⟩,⟨aTg.bad⟩) [.agg #[str qS,i64 iG,str zU,rR.val,VR.val,i64 VS,str VU,str DN.branch,i64 DN.dX,QG.val,QH.val]] (fI.cell aPl rfl rfl Rd.blk (fI.nil)))
theorem S0 (mA:Nat) (bZ:kP) (jA:Nat) (cM:Nat) (a_1_:aW) (bY:Nat) (cW:cX) {r:Unit} (hS:Sh.C2 bZ.pl a_1_ cW.pl=some r) :
 Ct Tryz.prog 333 [ptr mA 0,ptr jA 0] (bZ.work.ok.and (bZ.index.ok.and (bZ.iC.ok.and (bZ.jF.ok.and (bZ.iD.ok.and (bZ.jG.ok.and ((mH bZ.fZ.l).and (cW.b.ok.and cW.err.ok)))))))) (Ow.star (Sv.own bZ.refs 301) (Ow.star (Sv.own bZ.fZ 305) (Ow.star (bE mA (nA bZ) 72) (Ow.star (bE bY [cW.b.val,i64 cW.at_,cW.err.val] 221) (Ow.star (bE cM [ptr bY 0,.bool a_1_.bad] 279) (bE jA [ptr cM 0] 277)))))) (X:=Unit) (fun _ => .tuple #[]) (fun _=>True) (fun _=>Mo.tt) (fun _=>Ow.star (bE mA (nA bZ) 72) (Ow.star (Sv.own bZ.refs 301) (Ow.star (Sv.own bZ.fZ 305) (Ow.star (bE bY [cW.b.val,i64 cW.at_,cW.err.val] 221) (Ow.star (bE cM [ptr bY 0,.bool a_1_.bad] 279) (bE jA [ptr cM 0] 277)))))):=by
 refine Zo Tryz.func333 Tryz.ntmps333 fun c => ?_
 unfold Sh.C2 at hS
 cases hS
theorem wT (bR:Nat) (dD:aW) (aG:Nat) (bA:cX) (cD:Nat) (bF:kP) (cE:Nat) {r:bT×aW} (hS:Sh.AS dD bA.pl bF.pl=some r) :
 Ct Tryz.prog 269 [ptr bR 0,.func (.func 333) #[] #[ptr cD 0,ptr cE 0]] (bA.b.ok.and (bA.err.ok.and (bF.work.ok.and (bF.index.ok.and (bF.iC.ok.and (bF.jF.ok.and (bF.iD.ok.and (bF.jG.ok.and (mH bF.fZ.l))))))))) (Ow.star (bE aG [bA.b.val,i64 bA.at_,bA.err.val] 221) (Ow.star (bE bR [ptr aG 0,.bool dD.bad] 279) (Ow.star (Sv.own bF.refs 301) (Ow.star (Sv.own bF.fZ 305) (Ow.star (bE cD (nA bF) 72) (bE cE [ptr bR 0] 277)))))) (X:=cX×aW) (fun x => .tuple #[]) (fun x=>r=(x.1.pl,x.2)) (fun x=>(x.1.b.ok.and x.1.err.ok)) (fun x=>Ow.star (bE aG [x.1.b.val,i64 x.1.at_,x.1.err.val] 221) (Ow.star (bE bR [ptr aG 0,.bool x.2.bad] 279) (Ow.star (bE cD (nA bF) 72) (Ow.star (Sv.own bF.refs 301) (Ow.star (Sv.own bF.fZ 305) (bE cE [ptr bR 0] 277)))))):=by
 refine Zo Tryz.func269 Tryz.ntmps269 fun c => ?_
 unfold Sh.AS at hS
 refine Zq (Zr (Zm (Zu (aF rfl) (Zu (aB cP rfl) (Zu (aL dH rfl rfl) ?_)))))
 obtain ⟨dA,mC,hS⟩:=aO hS
 refine VL.bL (fK aG bA mC) rfl (by decide) ?_
 rintro ⟨gG,eS⟩ rfl
 try dsimp only
 refine Zy ?_
 refine VC.gN (S:=Bool) (fun (eY:Bool)=>eY) (fun (eY:Bool)=>[(0,ptr bR 0),(1,.func (.func 333) #[] #[ptr cD 0,ptr cE 0]),(4,i64 gG)]) (fun (eY:Bool)=>Mo.tt) (fun (eY:Bool)=>Ow.star (bE aG [eS.b.val,i64 eS.at_,eS.err.val] 221) (Ow.star (bE bR [ptr aG 0,.bool eY] 279) (Ow.star (bE cD (nA bF) 72) (Ow.star (bE cE [ptr bR 0] 277) (Ow.star (Sv.own bF.refs 301) (Ow.star (Sv.own bF.fZ 305) (Ow.emp))))))) hS ?_ ?_
 ·
  clear hS
  intro k3 hS
  refine Zr (Zy ?_)
  refine Zu (aF rfl) (Zu (aB kS rfl) (Zu (aL lK rfl rfl) (Zm ?_)))
  refine xJ 16 hS (fun h16 hS => ?_) (fun h16 hS => ?_)
  ·
   refine VL.runs 3 [(19,some true)] (by kernel_rfl) ?_
   refine Zu (aF rfl) (Zu (aB kS rfl) ?_)
   refine Zv (cs':=[ptr aG 0,.bool true]) rfl qV ?_
   refine VL.mt true [0,1,4] (fun _ _ h=>h) hS rfl
  refine Zg ?_
  refine Zh (dW rfl rfl) ?_
  refine Zf ?_
  refine Zu (aF rfl) (Zu (aB kS rfl) ?_)
  refine Zv (cs':=[ptr aG 0,.bool (decide (gG < 0))]) rfl qV ?_
  refine VL.mt (decide (gG < 0)) [0,1,4] (fun _ _ h=>h) hS rfl
 clear hS
 rintro eY hS
 refine Zq (Zr (Zy ?_))
 refine Zb ?_
 refine VC.iter (S:=Int) (fun (kN:Int)=>kN) (fun (kN:Int)=>[(0,ptr bR 0),(1,.func (.func 333) #[] #[ptr cD 0,ptr cE 0]),(4,i64 gG),(5,i64 kN)]) (fun (kN:Int)=>Mo.tt) (fun (kN:Int)=>Ow.star (bE aG [eS.b.val,i64 eS.at_,eS.err.val] 221) (Ow.star (bE bR [ptr aG 0,.bool eY] 279) (Ow.star (bE cD (nA bF) 72) (Ow.star (bE cE [ptr bR 0] 277) (Ow.star (Sv.own bF.refs 301) (Ow.star (Sv.own bF.fZ 305) (Ow.emp))))))) 0 [0,1,4,5] hS rfl ?_
 clear hS
 rintro kN m1 y1 hS hK1
 refine Zq (Zq (Zr (Zy ?_)))
 refine Zu (dW rfl rfl) (Zm ?_)
 refine o4 25 hS (fun h25 hS => ?_) (fun h25 hS => ?_)
 ·
  refine Zg ?_
  refine Zh (aF rfl) ?_
  refine Zh (aB cP rfl) ?_
  refine Zh (aL dH rfl rfl) ?_
  refine VL.guard rfl rfl ?_
  obtain ⟨aHK,aJ8,hS⟩:=aO hS
  refine VL.bL (nB aG eS aJ8) rfl (by decide) ?_
  rintro aCK rfl
  try dsimp only
  refine Zh (GG Tryz.underlying27 rfl) ?_
  refine Zy ?_
  refine VC.keep (ρ':=[(0,ptr bR 0),(1,.func (.func 333) #[] #[ptr cD 0,ptr cE 0]),(4,i64 gG),(5,i64 kN),(32,.bool (decide (aCK.pl.isNil=true)))]) [0,1,4,5,32] rfl ?_
  refine Zc hS (fun h32 hS => ?_) (fun h32 hS => ?_)
  ·
   refine Zk ?_
   refine Zq (Zb (Zr (Zm ?_)))
   obtain ⟨a69,a0g,hS⟩:=aO hS
   refine VL.MY (vs:=[]) (caps:=[ptr cD 0,ptr cE 0]) (S0 cD bF cE bR (⟨eY⟩:aW) aG eS a0g) rfl rfl (by decide) ?_
   rintro _ _
   try dsimp only
   refine Zl ?_
   refine Zr (Zm ?_)
   obtain ⟨b34,hS⟩:=bU hS
   refine Zu (cR rfl rfl b34) (Za ?_)
   refine VL.jU (kN+1) [0,1,4,5] (fun _ _ h=>h) (go2 hS hK1) rfl
  replace hS:=iJ hS hK1
  cases hS
  exact VC.exit (pZ (.inl rfl) rfl (⟨eS.b,eS.at_,eS.err⟩,⟨eY⟩) rfl rfl (by (try dsimp only); exact fQ.out) (by (try dsimp only); exact iY.out))
 refine VL.runs 7 [(32,some false)] (by kernel_rfl) ?_
 refine Zl ?_
 refine VC.CC rfl ?_
 replace hS:=iJ hS hK1
 cases hS
 exact VC.exit (pZ (.inl rfl) rfl (⟨eS.b,eS.at_,eS.err⟩,⟨eY⟩) rfl rfl (by (try dsimp only); exact fQ.out) (by (try dsimp only); exact iY.out))
theorem oX (aA:Sv fH) {r:List fH} (hS:Sh.p9 aA.l=some r) :
 Ct Tryz.prog 334 [aA.val] aA.ok (Ow.emp) (X:=Sv fH) (fun x=>x.val) (fun x=>r=x.l) (fun x=>x.ok) (fun x=>Ow.emp):=by
 refine Zo Tryz.func334 Tryz.ntmps334 fun c => ?_
 unfold Sh.p9 at hS
 refine Zq (Zr (Zy ?_))
 refine Zq (Zr (Zy ?_))
 refine Zu (eB (s:=aA) Tryz.underlying63 rfl) (Zm (Zu (eB (s:=aA) Tryz.underlying63 rfl) ?_))
 obtain ⟨b8,hS⟩:=bU hS
 refine VL.WG Tryz.underlying63 p5 rfl rfl rfl b8.1 (b8.2) (by decide) fun BY tU => ?_
 replace hS:=bW tU hS
 refine Zy ?_
 cases hS
 exact VC.ret (Z1 BY)
theorem nI (aA:Sv eN) {r:List pX} (hS:Sh.oI (aA.l.map eN.pl)=some r) :
 Ct Tryz.prog 335 [aA.val] aA.ok (Ow.emp) (X:=Sv eN) (fun x=>x.val) (fun x=>r=(x.l.map eN.pl)) (fun x=>x.ok) (fun x=>Ow.emp):=by
 refine Zo Tryz.func335 Tryz.ntmps335 fun c => ?_
 unfold Sh.oI at hS
 refine Zq (Zr (Zy ?_))
 refine Zq (Zr (Zy ?_))
 refine Zu (qN eN.pl (s:=aA) Tryz.underlying70 rfl) (Zm (Zu (qN eN.pl (s:=aA) Tryz.underlying70 rfl) ?_))
 obtain ⟨b8,hS⟩:=bU hS
 refine VL.WG Tryz.underlying70 aJl rfl rfl rfl b8.1 (aOd b8.2) (by decide) fun BY tU => ?_
 replace hS:=bW ((congrArg (List.map eN.pl) tU).trans List.map_take) hS
 refine Zy ?_
 cases hS
 exact VC.ret (Z1 BY)
theorem WD (bR:Nat) (dD:aW) (aG:Nat) (bA:cX) {r:mX×bT×aW} (hS:Sh.GL dD bA.pl=some r) :
 Ct Tryz.prog 268 [ptr bR 0] (bA.b.ok.and bA.err.ok) (Ow.star (bE aG [bA.b.val,i64 bA.at_,bA.err.val] 221) (bE bR [ptr aG 0,.bool dD.bad] 279)) (X:=kP×cX×aW) (fun x => .agg (bM.enc x.1).toArray) (fun x=>r=(x.1.pl,x.2.1.pl,x.2.2)) (fun x=>(x.1.m.and (x.2.1.b.ok.and x.2.1.err.ok))) (fun x=>Ow.star (bE aG [x.2.1.b.val,i64 x.2.1.at_,x.2.1.err.val] 221) (bE bR [ptr aG 0,.bool x.2.2.bad] 279)):=by
 refine Zo Tryz.func268 Tryz.ntmps268 fun c => ?_
 unfold Sh.GL at hS
 refine Zq (Zr ?_)
 refine kQ [ptr bR 0] fun jN => ?_
 refine gV [.slice none 0 0,.slice none 0 0,.slice none 0 0,str [],i64 0,str [],i64 0,str [],.slice none 0 0,.slice none 0 0,i64 0,str [],str [],i64 0,.slice none 0 0,.slice none 0 0,.slice none 0 0] fun MX => ?_
 refine Zl ?_
 refine Zq ?_
 refine VC.aJO (n:=5) (listed := #[true,false,true,false,false,false,false]) [(0,true),(2,true)] mixed (by kernel_rfl) (by kernel_rfl) (by kernel_rfl) (by kernel_rfl) ?_
 refine VD.q rfl (aL dL rfl rfl) (by decide) ?_
 refine VD.q rfl (aL dL rfl rfl) (by decide) ?_
 obtain ⟨uK,UK,hS⟩:=aO hS
 obtain ⟨y7,aAC,hS⟩:=aO hS
 refine VD.toG fun hcl => ?_
 refine VG.fork (l:=[1,5]) (n:=4) (by kernel_rfl) rfl fun i hi => ?_
 obtain rfl | rfl:i=1∨i=5:=by simpa using hi
 ·
  refine UA.of rfl ?_
  refine VL.bL (wH bR dD aG bA UK) rfl (by decide) ?_
  rintro ⟨mE,SD,SE⟩ rfl
  try dsimp only
  refine VL.FC (D':=[(2,ptr bR 0)]) (listed' := #[true,true,true,false,false,false,false]) (aI.cons rfl (aL dL rfl rfl) (aI.nil)) (by kernel_rfl) (by kernel_rfl) ?_
  refine VG.fork (l:=[3,5]) (n:=3) (by kernel_rfl) rfl fun i hi => ?_
  obtain rfl | rfl:i=3∨i=5:=by simpa using hi
  ·
   refine UA.of rfl ?_
   refine VL.bL (rL bR SE aG SD aAC) rfl (by decide) ?_
   rintro ⟨lM,L5,L6⟩ rfl
   try dsimp only
   refine VL.FC (D':=[]) (listed' := #[true,true,true,true,false,false,false]) (aI.nil) (by kernel_rfl) (by kernel_rfl) ?_
   refine VG.ord [(4,true),(5,false),(6,false)] (by kernel_rfl) (tM (by kernel_rfl)) (by kernel_rfl) ?_
   refine Zw rfl (fR (vs:=[(0,mE.val),(1,lM.val)]) (cs := #[mE.val,lM.val,.slice none 0 0,str [],i64 0,str [],i64 0,str [],.slice none 0 0,.slice none 0 0,i64 0,str [],str [],i64 0,.slice none 0 0,.slice none 0 0,.slice none 0 0]) rfl (by kernel_rfl)) ?_
   refine VD.one rfl ?_
   refine gV [.slice none 0 0,.slice none 0 0,.slice none 0 0,str [],i64 0,str [],i64 0,str [],.slice none 0 0,.slice none 0 0,i64 0,str [],str [],i64 0,.slice none 0 0,.slice none 0 0,.slice none 0 0] fun lW => ?_
   refine jS [(4,.agg #[mE.val,lM.val,.slice none 0 0,str [],i64 0,str [],i64 0,str [],.slice none 0 0,.slice none 0 0,i64 0,str [],str [],i64 0,.slice none 0 0,.slice none 0 0,.slice none 0 0])] (aI.cons rfl (fR (vs:=[(0,mE.val),(1,lM.val)]) (cs := #[mE.val,lM.val,.slice none 0 0,str [],i64 0,str [],i64 0,str [],.slice none 0 0,.slice none 0 0,i64 0,str [],str [],i64 0,.slice none 0 0,.slice none 0 0,.slice none 0 0]) rfl (by kernel_rfl)) aI.nil) ?_
   refine VD.one rfl ?_
   refine Zv (cs':=[mE.val,lM.val,.slice none 0 0,str [],i64 0,str [],i64 0,str [],.slice none 0 0,.slice none 0 0,i64 0,str [],str [],i64 0,.slice none 0 0,.slice none 0 0,.slice none 0 0]) rfl aDK ?_
   refine jH ?_
   refine VD.to (fun _ _ h=>h) ?_
   refine Zq (Zr (Zu (aL dL rfl rfl) (Zu (sJ rfl) ?_)))
   refine VL.nU (⟨none,0,[]⟩:Sv fH) 301 ⟨rfl,rfl⟩ ?_
   refine VL.nU (⟨none,0,[]⟩:Sv eN) 305 ⟨rfl,rfl⟩ ?_
   refine VL.JD (s:=(⟨none,0,[]⟩:Sv eN)) rfl ?_
   refine VL.SI lW (cs':=[mE.val,lM.val,(⟨none,0,[]⟩:Sv fH).val,str [],i64 0,str [],i64 0,str [],(⟨none,0,[]⟩:Sv dB).val,(⟨none,0,[]⟩:Sv dB).val,i64 0,str [],str [],i64 0,(⟨none,0,[]⟩:Sv aE).val,(⟨none,0,[]⟩:Sv aC).val,(⟨none,0,[]⟩:Sv eN).val]) rfl ?_
   obtain ⟨GX,aBG,hS⟩:=aO hS
   refine VL.bL (wS bR L6 aG L5 lW (⟨mE,lM,(⟨none,0,[]⟩:Sv fH),[],0,[],0,[],(⟨none,0,[]⟩:Sv dB),(⟨none,0,[]⟩:Sv dB),0,[],[],0,(⟨none,0,[]⟩:Sv aE),(⟨none,0,[]⟩:Sv aC),(⟨none,0,[]⟩:Sv eN)⟩:kP) jN aBG) rfl (by decide) ?_
   rintro ⟨VH,IU,cA⟩ rfl
   try dsimp only
   refine Zl ?_
   refine VC.keep (ρ':=[(1,ptr jN 0),(2,ptr MX 0),(3,ptr lW 0)]) [1,2,3] rfl ?_
   refine Zq ?_
   refine l9 [(0,true),(2,true),(1,false),(4,true),(3,false),(5,false),(6,true),(7,false)] ?_
   refine Zw rfl (aL dL rfl rfl) ?_
   refine Zw rfl (aL dL rfl rfl) ?_
   refine VD.one rfl ?_
   obtain ⟨XA,aBH,hS⟩:=aO hS
   refine VL.bL (uT bR IU aG VH aBH) rfl (by decide) ?_
   rintro ⟨fX,VM⟩ rfl
   try dsimp only
   refine jS [(2,ptr bR 0)] (aI.cons rfl (aL dL rfl rfl) aI.nil) ?_
   refine Zw rfl (aB p4 rfl) ?_
   refine VD.one rfl ?_
   obtain ⟨oZ,RS,hS⟩:=aO hS
   refine VL.bL (B1 bR IU aG VM RS) rfl (by decide) ?_
   rintro ⟨aR,LX,LY⟩ rfl
   try dsimp only
   refine jS [(4,ptr lW 3)] (aI.cons rfl (aB p4 rfl) aI.nil) ?_
   refine VD.one rfl ?_
   refine Zv (cs':=[cA.work.val,cA.index.val,cA.refs.val,str fX.branch,i64 fX.dX,str cA.mS,i64 cA.lG,str cA.mU,cA.iC.val,cA.jF.val,i64 cA.mT,str cA.jY,str cA.fV,i64 cA.fW,cA.iD.val,cA.jG.val,cA.fZ.val]) rfl aAG ?_
   refine jH ?_
   refine Zw rfl (aB tQ rfl) ?_
   refine VD.one rfl ?_
   refine Zv (cs':=[cA.work.val,cA.index.val,cA.refs.val,str fX.branch,i64 fX.dX,str aR.kind,i64 aR.other,str aR.text,aR.o7.val,aR.todo.val,i64 aR.made,str aR.branch,str aR.dO,i64 aR.dP,aR.index.val,aR.work.val,cA.fZ.val]) rfl aAH ?_
   refine jH ?_
   refine VD.to (fun _ _ h=>h) ?_
   refine Zq (Zr (Zu (aL dL rfl rfl) (Zu (sJ rfl) ?_)))
   obtain ⟨rX,J6,hS⟩:=aO hS
   refine VL.bL (wT bR LY aG LX lW (⟨cA.work,cA.index,cA.refs,fX.branch,fX.dX,aR.kind,aR.other,aR.text,aR.o7,aR.todo,aR.made,aR.branch,aR.dO,aR.dP,aR.index,aR.work,cA.fZ⟩:kP) jN J6) rfl (by decide) ?_
   rintro ⟨x5,VQ⟩ rfl
   try dsimp only
   refine Zl ?_
   refine VC.keep (ρ':=[(2,ptr MX 0),(3,ptr lW 0)]) [2,3] rfl ?_
   refine Zq ?_
   refine l9 [(0,true),(1,true),(3,true),(4,true),(2,false),(6,true),(5,false),(7,false),(8,true),(9,false)] ?_
   refine Zw rfl (aB lX rfl) ?_
   refine Zw rfl (aL vT rfl rfl) ?_
   refine Zw rfl (aB BL rfl) ?_
   refine Zw rfl (aL M6 rfl rfl) ?_
   refine VD.one rfl ?_
   refine VL.shut cA.refs 301 (fun _ _ _ _=>trivial) ?_
   obtain ⟨TB,RX,hS⟩:=aO hS
   refine VL.dK (oX cA.refs RX) rfl (by decide) ?_
   rintro rS rfl
   try dsimp only
   refine jS [(4,cA.fZ.val),(3,ptr lW 16)] (aI.cons rfl (aL M6 rfl rfl) (aI.cons rfl (aB BL rfl) aI.nil)) ?_
   refine Zw rfl (aB lX rfl) ?_
   refine VD.one rfl ?_
   refine VL.shut cA.fZ 305 (fun h m=>fQ.out (X:=mH cA.fZ.l) h m) ?_
   obtain ⟨N2,LB,hS⟩:=aO hS
   refine VL.dK (nI cA.fZ LB) rfl (by decide) ?_
   rintro sH rfl
   try dsimp only
   refine jS [(6,ptr lW 2)] (aI.cons rfl (aB lX rfl) aI.nil) ?_
   refine VD.one rfl ?_
   refine Zv (cs':=[cA.work.val,cA.index.val,rS.val,str fX.branch,i64 fX.dX,str aR.kind,i64 aR.other,str aR.text,aR.o7.val,aR.todo.val,i64 aR.made,str aR.branch,str aR.dO,i64 aR.dP,aR.index.val,aR.work.val,cA.fZ.val]) rfl aDJ ?_
   refine jH ?_
   refine Zw rfl (aB BL rfl) ?_
   refine VD.one rfl ?_
   refine Zv (cs':=[cA.work.val,cA.index.val,rS.val,str fX.branch,i64 fX.dX,str aR.kind,i64 aR.other,str aR.text,aR.o7.val,aR.todo.val,i64 aR.made,str aR.branch,str aR.dO,i64 aR.dP,aR.index.val,aR.work.val,sH.val]) rfl aO1 ?_
   refine jH ?_
   refine VD.to (fun _ _ h=>h) ?_
   refine Zq (Zr (Zu (cJ J7 rfl rfl) ?_))
   refine Zv (cs':=[cA.work.val,cA.index.val,rS.val,str fX.branch,i64 fX.dX,str aR.kind,i64 aR.other,str aR.text,aR.o7.val,aR.todo.val,i64 aR.made,str aR.branch,str aR.dO,i64 aR.dP,aR.index.val,aR.work.val,sH.val]) rfl aDK ?_
   refine Zl ?_
   refine VC.keep (ρ':=[(2,ptr MX 0)]) [2] rfl ?_
   cases hS
   exact VC.ret (Z3 (⟨cA.work,cA.index,rS,fX.branch,fX.dX,aR.kind,aR.other,aR.text,aR.o7,aR.todo,aR.made,aR.branch,aR.dO,aR.dP,aR.index,aR.work,sH⟩,⟨x5.b,x5.at_,x5.err⟩,⟨VQ.bad⟩) [.agg #[cA.work.val,cA.index.val,rS.val,str fX.branch,i64 fX.dX,str aR.kind,i64 aR.other,str aR.text,aR.o7.val,aR.todo.val,i64 aR.made,str aR.branch,str aR.dO,i64 aR.dP,aR.index.val,aR.work.val,sH.val]] (fI.cell J7 rfl rfl Rd.blk (fI.nil)))
  refine UA.of rfl ?_
  refine gV [.slice none 0 0,.slice none 0 0,.slice none 0 0,str [],i64 0,str [],i64 0,str [],.slice none 0 0,.slice none 0 0,i64 0,str [],str [],i64 0,.slice none 0 0,.slice none 0 0,.slice none 0 0] fun lW => ?_
  refine VL.FC (D':=[(2,ptr bR 0)]) (listed' := #[true,true,true,false,false,true,false]) (aI.cons rfl (aL dL rfl rfl) (aI.nil)) (by kernel_rfl) (by kernel_rfl) ?_
  refine VG.ord [(3,false),(4,true),(6,false)] (by kernel_rfl) (tM (by kernel_rfl)) (by kernel_rfl) ?_
  refine VD.one rfl ?_
  refine VL.bL (rL bR SE aG SD aAC) rfl (by decide) ?_
  rintro ⟨lM,L5,L6⟩ rfl
  try dsimp only
  refine jH ?_
  refine Zw rfl (fR (vs:=[(0,mE.val),(1,lM.val)]) (cs := #[mE.val,lM.val,.slice none 0 0,str [],i64 0,str [],i64 0,str [],.slice none 0 0,.slice none 0 0,i64 0,str [],str [],i64 0,.slice none 0 0,.slice none 0 0,.slice none 0 0]) rfl (by kernel_rfl)) ?_
  refine VD.one rfl ?_
  refine Zv (cs':=[mE.val,lM.val,.slice none 0 0,str [],i64 0,str [],i64 0,str [],.slice none 0 0,.slice none 0 0,i64 0,str [],str [],i64 0,.slice none 0 0,.slice none 0 0,.slice none 0 0]) rfl aDK ?_
  refine jH ?_
  refine VD.to (fun _ _ h=>h) ?_
  refine Zq (Zr (Zu (aL dL rfl rfl) (Zu (sJ rfl) ?_)))
  refine VL.nU (⟨none,0,[]⟩:Sv fH) 301 ⟨rfl,rfl⟩ ?_
  refine VL.nU (⟨none,0,[]⟩:Sv eN) 305 ⟨rfl,rfl⟩ ?_
  refine VL.JD (s:=(⟨none,0,[]⟩:Sv eN)) rfl ?_
  refine VL.SI lW (cs':=[mE.val,lM.val,(⟨none,0,[]⟩:Sv fH).val,str [],i64 0,str [],i64 0,str [],(⟨none,0,[]⟩:Sv dB).val,(⟨none,0,[]⟩:Sv dB).val,i64 0,str [],str [],i64 0,(⟨none,0,[]⟩:Sv aE).val,(⟨none,0,[]⟩:Sv aC).val,(⟨none,0,[]⟩:Sv eN).val]) rfl ?_
  obtain ⟨GX,aBG,hS⟩:=aO hS
  refine VL.bL (wS bR L6 aG L5 lW (⟨mE,lM,(⟨none,0,[]⟩:Sv fH),[],0,[],0,[],(⟨none,0,[]⟩:Sv dB),(⟨none,0,[]⟩:Sv dB),0,[],[],0,(⟨none,0,[]⟩:Sv aE),(⟨none,0,[]⟩:Sv aC),(⟨none,0,[]⟩:Sv eN)⟩:kP) jN aBG) rfl (by decide) ?_
  rintro ⟨VH,IU,cA⟩ rfl
  try dsimp only
  refine Zl ?_
  refine VC.keep (ρ':=[(1,ptr jN 0),(2,ptr MX 0),(3,ptr lW 0)]) [1,2,3] rfl ?_
  refine Zq ?_
  refine l9 [(0,true),(2,true),(1,false),(4,true),(3,false),(5,false),(6,true),(7,false)] ?_
  refine Zw rfl (aL dL rfl rfl) ?_
  refine Zw rfl (aL dL rfl rfl) ?_
  refine VD.one rfl ?_
  obtain ⟨XA,aBH,hS⟩:=aO hS
  refine VL.bL (uT bR IU aG VH aBH) rfl (by decide) ?_
  rintro ⟨fX,VM⟩ rfl
  try dsimp only
  refine jS [(2,ptr bR 0)] (aI.cons rfl (aL dL rfl rfl) aI.nil) ?_
  refine Zw rfl (aB p4 rfl) ?_
  refine VD.one rfl ?_
  obtain ⟨oZ,RS,hS⟩:=aO hS
  refine VL.bL (B1 bR IU aG VM RS) rfl (by decide) ?_
  rintro ⟨aR,LX,LY⟩ rfl
  try dsimp only
  refine jS [(4,ptr lW 3)] (aI.cons rfl (aB p4 rfl) aI.nil) ?_
  refine VD.one rfl ?_
  refine Zv (cs':=[cA.work.val,cA.index.val,cA.refs.val,str fX.branch,i64 fX.dX,str cA.mS,i64 cA.lG,str cA.mU,cA.iC.val,cA.jF.val,i64 cA.mT,str cA.jY,str cA.fV,i64 cA.fW,cA.iD.val,cA.jG.val,cA.fZ.val]) rfl aAG ?_
  refine jH ?_
  refine Zw rfl (aB tQ rfl) ?_
  refine VD.one rfl ?_
  refine Zv (cs':=[cA.work.val,cA.index.val,cA.refs.val,str fX.branch,i64 fX.dX,str aR.kind,i64 aR.other,str aR.text,aR.o7.val,aR.todo.val,i64 aR.made,str aR.branch,str aR.dO,i64 aR.dP,aR.index.val,aR.work.val,cA.fZ.val]) rfl aAH ?_
  refine jH ?_
  refine VD.to (fun _ _ h=>h) ?_
  refine Zq (Zr (Zu (aL dL rfl rfl) (Zu (sJ rfl) ?_)))
  obtain ⟨rX,J6,hS⟩:=aO hS
  refine VL.bL (wT bR LY aG LX lW (⟨cA.work,cA.index,cA.refs,fX.branch,fX.dX,aR.kind,aR.other,aR.text,aR.o7,aR.todo,aR.made,aR.branch,aR.dO,aR.dP,aR.index,aR.work,cA.fZ⟩:kP) jN J6) rfl (by decide) ?_
  rintro ⟨x5,VQ⟩ rfl
  try dsimp only
  refine Zl ?_
  refine VC.keep (ρ':=[(2,ptr MX 0),(3,ptr lW 0)]) [2,3] rfl ?_
  refine Zq ?_
  refine l9 [(0,true),(1,true),(3,true),(4,true),(2,false),(6,true),(5,false),(7,false),(8,true),(9,false)] ?_
  refine Zw rfl (aB lX rfl) ?_
  refine Zw rfl (aL vT rfl rfl) ?_
  refine Zw rfl (aB BL rfl) ?_
  refine Zw rfl (aL M6 rfl rfl) ?_
  refine VD.one rfl ?_
  refine VL.shut cA.refs 301 (fun _ _ _ _=>trivial) ?_
  obtain ⟨TB,RX,hS⟩:=aO hS
  refine VL.dK (oX cA.refs RX) rfl (by decide) ?_
  rintro rS rfl
  try dsimp only
  refine jS [(4,cA.fZ.val),(3,ptr lW 16)] (aI.cons rfl (aL M6 rfl rfl) (aI.cons rfl (aB BL rfl) aI.nil)) ?_
  refine Zw rfl (aB lX rfl) ?_
  refine VD.one rfl ?_
  refine VL.shut cA.fZ 305 (fun h m=>fQ.out (X:=mH cA.fZ.l) h m) ?_
  obtain ⟨N2,LB,hS⟩:=aO hS
  refine VL.dK (nI cA.fZ LB) rfl (by decide) ?_
  rintro sH rfl
  try dsimp only
  refine jS [(6,ptr lW 2)] (aI.cons rfl (aB lX rfl) aI.nil) ?_
  refine VD.one rfl ?_
  refine Zv (cs':=[cA.work.val,cA.index.val,rS.val,str fX.branch,i64 fX.dX,str aR.kind,i64 aR.other,str aR.text,aR.o7.val,aR.todo.val,i64 aR.made,str aR.branch,str aR.dO,i64 aR.dP,aR.index.val,aR.work.val,cA.fZ.val]) rfl aDJ ?_
  refine jH ?_
  refine Zw rfl (aB BL rfl) ?_
  refine VD.one rfl ?_
  refine Zv (cs':=[cA.work.val,cA.index.val,rS.val,str fX.branch,i64 fX.dX,str aR.kind,i64 aR.other,str aR.text,aR.o7.val,aR.todo.val,i64 aR.made,str aR.branch,str aR.dO,i64 aR.dP,aR.index.val,aR.work.val,sH.val]) rfl aO1 ?_
  refine jH ?_
  refine VD.to (fun _ _ h=>h) ?_
  refine Zq (Zr (Zu (cJ J7 rfl rfl) ?_))
  refine Zv (cs':=[cA.work.val,cA.index.val,rS.val,str fX.branch,i64 fX.dX,str aR.kind,i64 aR.other,str aR.text,aR.o7.val,aR.todo.val,i64 aR.made,str aR.branch,str aR.dO,i64 aR.dP,aR.index.val,aR.work.val,sH.val]) rfl aDK ?_
  refine Zl ?_
  refine VC.keep (ρ':=[(2,ptr MX 0)]) [2] rfl ?_
  cases hS
  exact VC.ret (Z3 (⟨cA.work,cA.index,rS,fX.branch,fX.dX,aR.kind,aR.other,aR.text,aR.o7,aR.todo,aR.made,aR.branch,aR.dO,aR.dP,aR.index,aR.work,sH⟩,⟨x5.b,x5.at_,x5.err⟩,⟨VQ.bad⟩) [.agg #[cA.work.val,cA.index.val,rS.val,str fX.branch,i64 fX.dX,str aR.kind,i64 aR.other,str aR.text,aR.o7.val,aR.todo.val,i64 aR.made,str aR.branch,str aR.dO,i64 aR.dP,aR.index.val,aR.work.val,sH.val]] (fI.cell J7 rfl rfl Rd.blk (fI.nil)))
 refine UA.of rfl ?_
 refine gV [.slice none 0 0,.slice none 0 0,.slice none 0 0,str [],i64 0,str [],i64 0,str [],.slice none 0 0,.slice none 0 0,i64 0,str [],str [],i64 0,.slice none 0 0,.slice none 0 0,.slice none 0 0] fun lW => ?_
 refine VL.FC (D':=[(2,ptr bR 0),(0,ptr bR 0)]) (listed' := #[true,false,true,false,false,true,false]) (aI.cons rfl (aL dL rfl rfl) (aI.cons rfl (aL dL rfl rfl) (aI.nil))) (by kernel_rfl) (by kernel_rfl) ?_
 refine VG.ord [(1,false),(3,false),(4,true),(6,false)] (by kernel_rfl) (tM (by kernel_rfl)) (by kernel_rfl) ?_
 refine VD.one rfl ?_
 refine VL.bL (wH bR dD aG bA UK) rfl (by decide) ?_
 rintro ⟨mE,SD,SE⟩ rfl
 try dsimp only
 refine jS [(2,ptr bR 0)] (aI.cons rfl (aL dL rfl rfl) aI.nil) ?_
 refine VD.one rfl ?_
 refine VL.bL (rL bR SE aG SD aAC) rfl (by decide) ?_
 rintro ⟨lM,L5,L6⟩ rfl
 try dsimp only
 refine jH ?_
 refine Zw rfl (fR (vs:=[(0,mE.val),(1,lM.val)]) (cs := #[mE.val,lM.val,.slice none 0 0,str [],i64 0,str [],i64 0,str [],.slice none 0 0,.slice none 0 0,i64 0,str [],str [],i64 0,.slice none 0 0,.slice none 0 0,.slice none 0 0]) rfl (by kernel_rfl)) ?_
 refine VD.one rfl ?_
 refine Zv (cs':=[mE.val,lM.val,.slice none 0 0,str [],i64 0,str [],i64 0,str [],.slice none 0 0,.slice none 0 0,i64 0,str [],str [],i64 0,.slice none 0 0,.slice none 0 0,.slice none 0 0]) rfl aDK ?_
 refine jH ?_
 refine VD.to (fun _ _ h=>h) ?_
 refine Zq (Zr (Zu (aL dL rfl rfl) (Zu (sJ rfl) ?_)))
 refine VL.nU (⟨none,0,[]⟩:Sv fH) 301 ⟨rfl,rfl⟩ ?_
 refine VL.nU (⟨none,0,[]⟩:Sv eN) 305 ⟨rfl,rfl⟩ ?_
 refine VL.JD (s:=(⟨none,0,[]⟩:Sv eN)) rfl ?_
 refine VL.SI lW (cs':=[mE.val,lM.val,(⟨none,0,[]⟩:Sv fH).val,str [],i64 0,str [],i64 0,str [],(⟨none,0,[]⟩:Sv dB).val,(⟨none,0,[]⟩:Sv dB).val,i64 0,str [],str [],i64 0,(⟨none,0,[]⟩:Sv aE).val,(⟨none,0,[]⟩:Sv aC).val,(⟨none,0,[]⟩:Sv eN).val]) rfl ?_
 obtain ⟨GX,aBG,hS⟩:=aO hS
 refine VL.bL (wS bR L6 aG L5 lW (⟨mE,lM,(⟨none,0,[]⟩:Sv fH),[],0,[],0,[],(⟨none,0,[]⟩:Sv dB),(⟨none,0,[]⟩:Sv dB),0,[],[],0,(⟨none,0,[]⟩:Sv aE),(⟨none,0,[]⟩:Sv aC),(⟨none,0,[]⟩:Sv eN)⟩:kP) jN aBG) rfl (by decide) ?_
 rintro ⟨VH,IU,cA⟩ rfl
 try dsimp only
 refine Zl ?_
 refine VC.keep (ρ':=[(1,ptr jN 0),(2,ptr MX 0),(3,ptr lW 0)]) [1,2,3] rfl ?_
 refine Zq ?_
 refine l9 [(0,true),(2,true),(1,false),(4,true),(3,false),(5,false),(6,true),(7,false)] ?_
 refine Zw rfl (aL dL rfl rfl) ?_
 refine Zw rfl (aL dL rfl rfl) ?_
 refine VD.one rfl ?_
 obtain ⟨XA,aBH,hS⟩:=aO hS
 refine VL.bL (uT bR IU aG VH aBH) rfl (by decide) ?_
 rintro ⟨fX,VM⟩ rfl
 try dsimp only
 refine jS [(2,ptr bR 0)] (aI.cons rfl (aL dL rfl rfl) aI.nil) ?_
 refine Zw rfl (aB p4 rfl) ?_
 refine VD.one rfl ?_
 obtain ⟨oZ,RS,hS⟩:=aO hS
 refine VL.bL (B1 bR IU aG VM RS) rfl (by decide) ?_
 rintro ⟨aR,LX,LY⟩ rfl
 try dsimp only
 refine jS [(4,ptr lW 3)] (aI.cons rfl (aB p4 rfl) aI.nil) ?_
 refine VD.one rfl ?_
 refine Zv (cs':=[cA.work.val,cA.index.val,cA.refs.val,str fX.branch,i64 fX.dX,str cA.mS,i64 cA.lG,str cA.mU,cA.iC.val,cA.jF.val,i64 cA.mT,str cA.jY,str cA.fV,i64 cA.fW,cA.iD.val,cA.jG.val,cA.fZ.val]) rfl aAG ?_
 refine jH ?_
 refine Zw rfl (aB tQ rfl) ?_
 refine VD.one rfl ?_
 refine Zv (cs':=[cA.work.val,cA.index.val,cA.refs.val,str fX.branch,i64 fX.dX,str aR.kind,i64 aR.other,str aR.text,aR.o7.val,aR.todo.val,i64 aR.made,str aR.branch,str aR.dO,i64 aR.dP,aR.index.val,aR.work.val,cA.fZ.val]) rfl aAH ?_
 refine jH ?_
 refine VD.to (fun _ _ h=>h) ?_
 refine Zq (Zr (Zu (aL dL rfl rfl) (Zu (sJ rfl) ?_)))
 obtain ⟨rX,J6,hS⟩:=aO hS
 refine VL.bL (wT bR LY aG LX lW (⟨cA.work,cA.index,cA.refs,fX.branch,fX.dX,aR.kind,aR.other,aR.text,aR.o7,aR.todo,aR.made,aR.branch,aR.dO,aR.dP,aR.index,aR.work,cA.fZ⟩:kP) jN J6) rfl (by decide) ?_
 rintro ⟨x5,VQ⟩ rfl
 try dsimp only
 refine Zl ?_
 refine VC.keep (ρ':=[(2,ptr MX 0),(3,ptr lW 0)]) [2,3] rfl ?_
 refine Zq ?_
 refine l9 [(0,true),(1,true),(3,true),(4,true),(2,false),(6,true),(5,false),(7,false),(8,true),(9,false)] ?_
 refine Zw rfl (aB lX rfl) ?_
 refine Zw rfl (aL vT rfl rfl) ?_
 refine Zw rfl (aB BL rfl) ?_
 refine Zw rfl (aL M6 rfl rfl) ?_
 refine VD.one rfl ?_
 refine VL.shut cA.refs 301 (fun _ _ _ _=>trivial) ?_
 obtain ⟨TB,RX,hS⟩:=aO hS
 refine VL.dK (oX cA.refs RX) rfl (by decide) ?_
 rintro rS rfl
 try dsimp only
 refine jS [(4,cA.fZ.val),(3,ptr lW 16)] (aI.cons rfl (aL M6 rfl rfl) (aI.cons rfl (aB BL rfl) aI.nil)) ?_
 refine Zw rfl (aB lX rfl) ?_
 refine VD.one rfl ?_
 refine VL.shut cA.fZ 305 (fun h m=>fQ.out (X:=mH cA.fZ.l) h m) ?_
 obtain ⟨N2,LB,hS⟩:=aO hS
 refine VL.dK (nI cA.fZ LB) rfl (by decide) ?_
 rintro sH rfl
 try dsimp only
 refine jS [(6,ptr lW 2)] (aI.cons rfl (aB lX rfl) aI.nil) ?_
 refine VD.one rfl ?_
 refine Zv (cs':=[cA.work.val,cA.index.val,rS.val,str fX.branch,i64 fX.dX,str aR.kind,i64 aR.other,str aR.text,aR.o7.val,aR.todo.val,i64 aR.made,str aR.branch,str aR.dO,i64 aR.dP,aR.index.val,aR.work.val,cA.fZ.val]) rfl aDJ ?_
 refine jH ?_
 refine Zw rfl (aB BL rfl) ?_
 refine VD.one rfl ?_
 refine Zv (cs':=[cA.work.val,cA.index.val,rS.val,str fX.branch,i64 fX.dX,str aR.kind,i64 aR.other,str aR.text,aR.o7.val,aR.todo.val,i64 aR.made,str aR.branch,str aR.dO,i64 aR.dP,aR.index.val,aR.work.val,sH.val]) rfl aO1 ?_
 refine jH ?_
 refine VD.to (fun _ _ h=>h) ?_
 refine Zq (Zr (Zu (cJ J7 rfl rfl) ?_))
 refine Zv (cs':=[cA.work.val,cA.index.val,rS.val,str fX.branch,i64 fX.dX,str aR.kind,i64 aR.other,str aR.text,aR.o7.val,aR.todo.val,i64 aR.made,str aR.branch,str aR.dO,i64 aR.dP,aR.index.val,aR.work.val,sH.val]) rfl aDK ?_
 refine Zl ?_
 refine VC.keep (ρ':=[(2,ptr MX 0)]) [2] rfl ?_
 cases hS
 exact VC.ret (Z3 (⟨cA.work,cA.index,rS,fX.branch,fX.dX,aR.kind,aR.other,aR.text,aR.o7,aR.todo,aR.made,aR.branch,aR.dO,aR.dP,aR.index,aR.work,sH⟩,⟨x5.b,x5.at_,x5.err⟩,⟨VQ.bad⟩) [.agg #[cA.work.val,cA.index.val,rS.val,str fX.branch,i64 fX.dX,str aR.kind,i64 aR.other,str aR.text,aR.o7.val,aR.todo.val,i64 aR.made,str aR.branch,str aR.dO,i64 aR.dP,aR.index.val,aR.work.val,sH.val]] (fI.cell J7 rfl rfl Rd.blk (fI.nil)))
theorem MG (mA:Nat) (bZ:Sv Int) (jA:Nat) (cM:Nat) (a_1_:aW) (bY:Nat) (cW:cX) {r:List Int×bT} (hS:Sh.yM bZ.l a_1_ cW.pl=some r) :
 Ct Tryz.prog 337 [ptr mA 0,ptr jA 0] (cW.b.ok.and cW.err.ok) (Ow.star (Sv.own bZ 3) (Ow.star (bE mA [bZ.val] 83) (Ow.star (bE bY [cW.b.val,i64 cW.at_,cW.err.val] 221) (Ow.star (bE cM [ptr bY 0,.bool a_1_.bad] 279) (bE jA [ptr cM 0] 277))))) (X:=Sv Int×cX) (fun x => .tuple #[]) (fun x=>r=(x.1.l,x.2.pl)) (fun x=>(x.2.b.ok.and x.2.err.ok)) (fun x=>Ow.star (bE mA [x.1.val] 83) (Ow.star (Sv.own x.1 3) (Ow.star (bE bY [x.2.b.val,i64 x.2.at_,x.2.err.val] 221) (Ow.star (bE cM [ptr bY 0,.bool a_1_.bad] 279) (bE jA [ptr cM 0] 277))))):=by
 refine Zo Tryz.func337 Tryz.ntmps337 fun c => ?_
 unfold Sh.yM at hS
 refine l9 [(0,true),(1,true),(2,true),(3,true),(4,true),(5,false),(6,false),(7,false),(8,false)] ?_
 refine Zw rfl (aL HR rfl rfl) ?_
 refine Zw rfl (aL dL rfl rfl) ?_
 refine Zw rfl (aF rfl) ?_
 refine Zw rfl (aB cP rfl) ?_
 refine Zw rfl (aL dH rfl rfl) ?_
 refine VD.one rfl ?_
 obtain ⟨jO,mD,hS⟩:=aO hS
 refine VL.bL (fK bY cW mD) rfl (by decide) ?_
 rintro ⟨lJ,CK⟩ rfl
 try dsimp only
 refine jS [(0,bZ.val)] (aI.cons rfl (aL HR rfl rfl) aI.nil) ?_
 refine VD.one rfl ?_
 refine VL.lit (α:=Int) (xs:=[.tmp 7]) (vs:=[i64 lJ]) [lJ] Tryz.underlying83 oS (by decide) rfl rfl rfl rfl (by decide) (fun _ _ _ _=>trivial) (by decide) (fun aYh aO6 => ?_) (by decide)
 replace hS:=bW aO6 hS
 refine jS [(0,bZ.val)] (aI.cons rfl (aL HR rfl rfl) aI.nil) ?_
 refine VD.one rfl ?_
 obtain ⟨b9,hS⟩:=bU hS
 refine VL.app (s:=bZ) (r:=aYh) Tryz.underlying83 aFd (by decide) rfl Fo.out (wM b9) (wN b9 (by decide)) (by decide) (fun aNT aO7 => ?_)
 replace hS:=bW aO7 hS
 refine jH ?_
 refine VD.one rfl ?_
 refine Zv (cs':=[aNT.val]) rfl aJn ?_
 refine jH ?_
 cases hS
 exact VD.nil (pZ (.inl rfl) rfl (aNT,⟨CK.b,CK.at_,CK.err⟩) rfl rfl (by (try dsimp only); exact fQ.out) (by (try dsimp only); exact iY.out))
theorem OW (bR:Nat) (dD:aW) (aG:Nat) (bA:cX) (cD:Nat) (bF:Sv Int) (cE:Nat) {r:bT×aW×List Int} (hS:Sh.AU dD bA.pl bF.l=some r) :
 Ct Tryz.prog 269 [ptr bR 0,.func (.func 337) #[] #[ptr cD 0,ptr cE 0]] (bA.b.ok.and bA.err.ok) (Ow.star (bE aG [bA.b.val,i64 bA.at_,bA.err.val] 221) (Ow.star (bE bR [ptr aG 0,.bool dD.bad] 279) (Ow.star (Sv.own bF 3) (Ow.star (bE cD [bF.val] 83) (bE cE [ptr bR 0] 277))))) (X:=cX×aW×Sv Int) (fun x => .tuple #[]) (fun x=>r=(x.1.pl,x.2.1,x.2.2.l)) (fun x=>(x.1.b.ok.and x.1.err.ok)) (fun x=>Ow.star (bE aG [x.1.b.val,i64 x.1.at_,x.1.err.val] 221) (Ow.star (bE bR [ptr aG 0,.bool x.2.1.bad] 279) (Ow.star (bE cD [x.2.2.val] 83) (Ow.star (Sv.own x.2.2 3) (bE cE [ptr bR 0] 277))))):=by
 refine Zo Tryz.func269 Tryz.ntmps269 fun c => ?_
 unfold Sh.AU at hS
 refine Zq (Zr (Zm (Zu (aF rfl) (Zu (aB cP rfl) (Zu (aL dH rfl rfl) ?_)))))
 obtain ⟨dA,mC,hS⟩:=aO hS
 refine VL.bL (fK aG bA mC) rfl (by decide) ?_
 rintro ⟨gG,eS⟩ rfl
 try dsimp only
 refine Zy ?_
 refine VC.gN (S:=Bool) (fun (eY:Bool)=>eY) (fun (eY:Bool)=>[(0,ptr bR 0),(1,.func (.func 337) #[] #[ptr cD 0,ptr cE 0]),(4,i64 gG)]) (fun (eY:Bool)=>Mo.tt) (fun (eY:Bool)=>Ow.star (bE aG [eS.b.val,i64 eS.at_,eS.err.val] 221) (Ow.star (bE bR [ptr aG 0,.bool eY] 279) (Ow.star (bE cD [bF.val] 83) (Ow.star (bE cE [ptr bR 0] 277) (Ow.star (Sv.own bF 3) (Ow.emp)))))) hS ?_ ?_
 ·
  clear hS
  intro k3 hS
  refine Zr (Zy ?_)
  refine Zu (aF rfl) (Zu (aB kS rfl) (Zu (aL lK rfl rfl) (Zm ?_)))
  refine xJ 16 hS (fun h16 hS => ?_) (fun h16 hS => ?_)
  ·
   refine VL.runs 3 [(19,some true)] (by kernel_rfl) ?_
   refine Zu (aF rfl) (Zu (aB kS rfl) ?_)
   refine Zv (cs':=[ptr aG 0,.bool true]) rfl qV ?_
   refine VL.mt true [0,1,4] (fun _ _ h=>h) hS rfl
  refine Zg ?_
  refine Zh (dW rfl rfl) ?_
  refine Zf ?_
  refine Zu (aF rfl) (Zu (aB kS rfl) ?_)
  refine Zv (cs':=[ptr aG 0,.bool (decide (gG < 0))]) rfl qV ?_
  refine VL.mt (decide (gG < 0)) [0,1,4] (fun _ _ h=>h) hS rfl
 clear hS
 rintro eY hS
 refine Zq (Zr (Zy ?_))
 refine Zb ?_
 refine VC.iter (S:=Int×Sv UInt8×Int×Er×Sv Int) (fun sg=>(sg.1,sg.2.1.l,sg.2.2.1,sg.2.2.2.1.pl,sg.2.2.2.2.l)) (fun sg=>[(0,ptr bR 0),(1,.func (.func 337) #[] #[ptr cD 0,ptr cE 0]),(4,i64 gG),(5,i64 sg.1)]) (fun sg=>(sg.2.1.ok.and sg.2.2.2.1.ok)) (fun sg=>Ow.star (bE aG [sg.2.1.val,i64 sg.2.2.1,sg.2.2.2.1.val] 221) (Ow.star (bE bR [ptr aG 0,.bool eY] 279) (Ow.star (bE cD [sg.2.2.2.2.val] 83) (Ow.star (bE cE [ptr bR 0] 277) (Ow.star (Sv.own sg.2.2.2.2 3) (Ow.emp)))))) (0,eS.b,eS.at_,eS.err,bF) [0,1,4,5] hS rfl ?_
 clear hS
 rintro ⟨kN,fO,iE,iF,iZ⟩ m1 y1 hS hK1
 refine Zq (Zq (Zr (Zy ?_)))
 refine Zu (dW rfl rfl) (Zm ?_)
 refine o4 25 hS (fun h25 hS => ?_) (fun h25 hS => ?_)
 ·
  refine Zg ?_
  refine Zh (aF rfl) ?_
  refine Zh (aB cP rfl) ?_
  refine Zh (aL dH rfl rfl) ?_
  refine VL.guard rfl rfl ?_
  obtain ⟨mZ,y8,hS⟩:=aO hS
  refine VL.bL (nB aG (⟨fO,iE,iF⟩:cX) y8) rfl (by decide) ?_
  rintro tY rfl
  try dsimp only
  refine Zh (GG Tryz.underlying27 rfl) ?_
  refine Zy ?_
  refine VC.keep (ρ':=[(0,ptr bR 0),(1,.func (.func 337) #[] #[ptr cD 0,ptr cE 0]),(4,i64 gG),(5,i64 kN),(32,.bool (decide (tY.pl.isNil=true)))]) [0,1,4,5,32] rfl ?_
  refine Zc hS (fun h32 hS => ?_) (fun h32 hS => ?_)
  ·
   refine Zk ?_
   refine Zq (Zb (Zr (Zm ?_)))
   obtain ⟨nG,FT,hS⟩:=aO hS
   refine VL.MY (vs:=[]) (caps:=[ptr cD 0,ptr cE 0]) (MG cD iZ cE bR (⟨eY⟩:aW) aG (⟨fO,iE,iF⟩:cX) FT) rfl rfl (by decide) ?_
   rintro ⟨CI,oC⟩ rfl
   try dsimp only
   refine Zl ?_
   refine Zr (Zm ?_)
   obtain ⟨b34,hS⟩:=bU hS
   refine Zu (cR rfl rfl b34) (Za ?_)
   refine VL.jU ((kN+1),oC.b,oC.at_,oC.err,CI) [0,1,4,5] (fun _ _ h=>h) (go2 hS hK1) rfl
  replace hS:=iJ hS hK1
  cases hS
  exact VC.exit (pZ (.inl rfl) rfl (⟨fO,iE,iF⟩,⟨eY⟩,iZ) rfl rfl (by (try dsimp only); exact fQ.out) (by (try dsimp only); exact iY.out))
 refine VL.runs 7 [(32,some false)] (by kernel_rfl) ?_
 refine Zl ?_
 refine VC.CC rfl ?_
 replace hS:=iJ hS hK1
 cases hS
 exact VC.exit (pZ (.inl rfl) rfl (⟨fO,iE,iF⟩,⟨eY⟩,iZ) rfl rfl (by (try dsimp only); exact fQ.out) (by (try dsimp only); exact iY.out))
theorem yE (aA:Sv Int) {r:List Int} (hS:Sh.rV aA.l=some r) :
 Ct Tryz.prog 338 [aA.val] aA.ok (Ow.emp) (X:=Sv Int) (fun x=>x.val) (fun x=>r=x.l) (fun x=>x.ok) (fun x=>Ow.emp):=by
 refine Zo Tryz.func338 Tryz.ntmps338 fun c => ?_
 unfold Sh.rV at hS
 refine Zq (Zr (Zy ?_))
 refine Zq (Zr (Zy ?_))
 refine Zu (eB (s:=aA) Tryz.underlying83 rfl) (Zm (Zu (eB (s:=aA) Tryz.underlying83 rfl) ?_))
 obtain ⟨b8,hS⟩:=bU hS
 refine VL.WG Tryz.underlying83 DE rfl rfl rfl b8.1 (b8.2) (by decide) fun BY tU => ?_
 replace hS:=bW tU hS
 refine Zy ?_
 cases hS
 exact VC.ret (Z1 BY)
theorem OY (bR:Nat) (dD:aW) (aG:Nat) (bA:cX) {r:List Int×bT×aW} (hS:Sh.AW dD bA.pl=some r) :
 Ct Tryz.prog 272 [ptr bR 0] (bA.b.ok.and bA.err.ok) (Ow.star (bE aG [bA.b.val,i64 bA.at_,bA.err.val] 221) (bE bR [ptr aG 0,.bool dD.bad] 279)) (X:=Sv Int×cX×aW) (fun x=>x.1.val) (fun x=>r=(x.1.l,x.2.1.pl,x.2.2)) (fun x=>(x.1.ok.and (x.2.1.b.ok.and x.2.1.err.ok))) (fun x=>Ow.star (bE aG [x.2.1.b.val,i64 x.2.1.at_,x.2.1.err.val] 221) (bE bR [ptr aG 0,.bool x.2.2.bad] 279)):=by
 refine Zo Tryz.func272 Tryz.ntmps272 fun c => ?_
 unfold Sh.AW at hS
 refine Zq (Zr ?_)
 refine kQ [ptr bR 0] fun jN => ?_
 refine Zy ?_
 refine Zq (Zr ?_)
 refine gV [.slice none 0 0] fun lI => ?_
 refine Zl ?_
 refine Zq (Zr (Zu (aL dL rfl rfl) (Zu (sJ rfl) ?_)))
 refine VL.nU (⟨none,0,[]⟩:Sv Int) 3 ⟨rfl,rfl⟩ ?_
 refine VL.SI lI (cs':=[(⟨none,0,[]⟩:Sv Int).val]) rfl ?_
 obtain ⟨sN,R1,hS⟩:=aO hS
 refine VL.bL (OW bR dD aG bA lI (⟨none,0,[]⟩:Sv Int) jN R1) rfl (by decide) ?_
 rintro ⟨s8,KB,CJ⟩ rfl
 try dsimp only
 refine Zl ?_
 refine Zq (Zr (Zu (aL HR rfl rfl) ?_))
 refine VL.shut CJ 3 (fun _ _ _ _=>trivial) ?_
 obtain ⟨G6,LC,hS⟩:=aO hS
 refine VL.dK (yE CJ LC) rfl (by decide) ?_
 rintro A7 rfl
 try dsimp only
 refine Zy ?_
 cases hS
 exact VC.ret (Z1 (A7,⟨s8.b,s8.at_,s8.err⟩,⟨KB.bad⟩))
theorem OZ (mA:Nat) (bZ:cF) (jA:Nat) (cM:Nat) (a_1_:aW) (bY:Nat) (cW:cX) {r:bQ×bT×aW} (hS:Sh.AX bZ.pl a_1_ cW.pl=some r) :
 Ct Tryz.prog 270 [ptr mA 0,ptr jA 0] (bZ.bG.ok.and (bZ.aY.ok.and (bZ.bP.ok.and (bZ.aP.ok.and (bZ.aT.ok.and (bZ.aQ.ok.and (bZ.aU.ok.and (bZ.bC.ok.and ((mH bZ.bD.l).and (bZ.bS.ok.and (bZ.bJ.ok.and (cW.b.ok.and cW.err.ok)))))))))))) (Ow.star (Sv.own bZ.bD 85) (Ow.star (bE mA (aJ bZ) 77) (Ow.star (bE bY [cW.b.val,i64 cW.at_,cW.err.val] 221) (Ow.star (bE cM [ptr bY 0,.bool a_1_.bad] 279) (bE jA [ptr cM 0] 277))))) (X:=cF×cX×aW) (fun x => .tuple #[]) (fun x=>r=(x.1.pl,x.2.1.pl,x.2.2)) (fun x=>(x.1.bG.ok.and (x.1.aY.ok.and (x.1.bP.ok.and (x.1.aP.ok.and (x.1.aT.ok.and (x.1.aQ.ok.and (x.1.aU.ok.and (x.1.bC.ok.and ((mH x.1.bD.l).and (x.1.bS.ok.and (x.1.bJ.ok.and (x.2.1.b.ok.and x.2.1.err.ok))))))))))))) (fun x=>Ow.star (bE mA (aJ x.1) 77) (Ow.star (Sv.own x.1.bD 85) (Ow.star (bE bY [x.2.1.b.val,i64 x.2.1.at_,x.2.1.err.val] 221) (Ow.star (bE cM [ptr bY 0,.bool x.2.2.bad] 279) (bE jA [ptr cM 0] 277))))):=by
 refine Zo Tryz.func270 Tryz.ntmps270 fun c => ?_
 unfold Sh.AX at hS
 refine l9 [(0,true),(1,true),(2,true),(4,true),(6,true),(7,true),(8,true),(9,true),(11,true),(12,true),(13,true),(14,true),(3,false),(5,false),(10,false),(15,false),(16,true),(17,false),(18,false),(19,true),(20,false)] ?_
 refine Zw rfl (aB nT rfl) ?_
 refine Zw rfl (aL s5 rfl rfl) ?_
 refine Zw rfl (aL dL rfl rfl) ?_
 refine Zw rfl (aL dL rfl rfl) ?_
 refine Zw rfl (aL dL rfl rfl) ?_
 refine Zw rfl (aF rfl) ?_
 refine Zw rfl (aB cP rfl) ?_
 refine Zw rfl (aL dH rfl rfl) ?_
 refine Zw rfl (aL dL rfl rfl) ?_
 refine Zw rfl (aF rfl) ?_
 refine Zw rfl (aB cP rfl) ?_
 refine Zw rfl (aL dH rfl rfl) ?_
 refine VD.one rfl ?_
 obtain ⟨aSE,a5D,hS⟩:=aO hS
 refine VL.bL (wH cM a_1_ bY cW a5D) rfl (by decide) ?_
 rintro ⟨aCN,a2b,a2c⟩ rfl
 try dsimp only
 refine jS [(14,ptr bY 0),(13,ptr cM 0),(12,ptr cM 0),(11,ptr cM 0),(9,ptr bY 0),(8,ptr cM 0),(7,ptr cM 0),(6,ptr cM 0),(4,ptr cM 0),(1,bZ.bD.val),(0,ptr mA 17)] (aI.cons rfl (aL dH rfl rfl) (aI.cons rfl (aB cP rfl) (aI.cons rfl (aF rfl) (aI.cons rfl (aL dL rfl rfl) (aI.cons rfl (aL dH rfl rfl) (aI.cons rfl (aB cP rfl) (aI.cons rfl (aF rfl) (aI.cons rfl (aL dL rfl rfl) (aI.cons rfl (aL dL rfl rfl) (aI.cons rfl (aL s5 rfl rfl) (aI.cons rfl (aB nT rfl) aI.nil))))))))))) ?_
 refine VD.one rfl ?_
 obtain ⟨yU,EC,hS⟩:=aO hS
 refine VL.bL (OY cM a2c bY a2b EC) rfl (by decide) ?_
 rintro ⟨qS,aCP,a2f⟩ rfl
 try dsimp only
 refine jS [(14,ptr bY 0),(13,ptr cM 0),(12,ptr cM 0),(11,ptr cM 0),(9,ptr bY 0),(8,ptr cM 0),(7,ptr cM 0),(6,ptr cM 0),(1,bZ.bD.val),(0,ptr mA 17)] (aI.cons rfl (aL dH rfl rfl) (aI.cons rfl (aB cP rfl) (aI.cons rfl (aF rfl) (aI.cons rfl (aL dL rfl rfl) (aI.cons rfl (aL dH rfl rfl) (aI.cons rfl (aB cP rfl) (aI.cons rfl (aF rfl) (aI.cons rfl (aL dL rfl rfl) (aI.cons rfl (aL s5 rfl rfl) (aI.cons rfl (aB nT rfl) aI.nil)))))))))) ?_
 refine VD.one rfl ?_
 obtain ⟨mL,vR,hS⟩:=aO hS
 refine VL.bL (fK bY aCP vR) rfl (by decide) ?_
 rintro ⟨iG,LV⟩ rfl
 try dsimp only
 refine jS [(14,ptr bY 0),(13,ptr cM 0),(12,ptr cM 0),(11,ptr cM 0),(1,bZ.bD.val),(0,ptr mA 17)] (aI.cons rfl (aL dH rfl rfl) (aI.cons rfl (aB cP rfl) (aI.cons rfl (aF rfl) (aI.cons rfl (aL dL rfl rfl) (aI.cons rfl (aL s5 rfl rfl) (aI.cons rfl (aB nT rfl) aI.nil)))))) ?_
 refine VD.one rfl ?_
 obtain ⟨JN,aBK,hS⟩:=aO hS
 refine VL.bL (jB bY LV aBK) rfl (by decide) ?_
 rintro ⟨zU,VN⟩ rfl
 try dsimp only
 refine jS [(1,bZ.bD.val),(0,ptr mA 17)] (aI.cons rfl (aL s5 rfl rfl) (aI.cons rfl (aB nT rfl) aI.nil)) ?_
 refine Zw rfl (fR (vs:=[(0,aCN.val),(1,qS.val),(2,i64 iG),(3,str zU)]) (cs := #[aCN.val,qS.val,i64 iG,str zU]) rfl (by kernel_rfl)) ?_
 refine VD.one rfl ?_
 refine VL.lit (α:=cG) (xs:=[.tmp 18]) (vs:=[.agg #[aCN.val,qS.val,i64 iG,str zU]]) [⟨aCN,qS,iG,zU⟩] Tryz.underlying73 aJi (by decide) rfl rfl rfl rfl (by decide) (fun h m=>List.forall_mem_cons.2 ⟨fQ.out (X:=(aCN.ok.and qS.ok)) h m,fun _ h=>by cases h⟩) (by decide) (fun EP R9 => ?_) (by decide)
 replace hS:=bW (congrArg (List.map cG.pl) R9) hS
 refine jS [(1,bZ.bD.val),(0,ptr mA 17)] (aI.cons rfl (aL s5 rfl rfl) (aI.cons rfl (aB nT rfl) aI.nil)) ?_
 refine VD.one rfl ?_
 obtain ⟨b20,hS⟩:=bU hS
 refine VL.app (s:=bZ.bD) (r:=EP) Tryz.underlying73 aE3 (by decide) rfl Fo.out (wM (apm b20)) (wN (apm b20) (by decide)) (by decide) (fun aYc aPs => ?_)
 replace hS:=bW ((congrArg (List.map cG.pl) aPs).trans List.map_append) hS
 refine VL.aAU aPs ?_
 refine jH ?_
 refine Zw rfl (aB nT rfl) ?_
 refine VD.one rfl ?_
 refine Zv (cs':=[bZ.bG.val,bZ.aY.val,bZ.bP.val,str bZ.aS,i64 bZ.aH,str bZ.bK,i64 bZ.bI,str bZ.bO,bZ.aP.val,bZ.aT.val,i64 bZ.bN,str bZ.aZ,str bZ.aM,i64 bZ.aN,bZ.aQ.val,bZ.aU.val,bZ.bC.val,aYc.val,bZ.bS.val,bZ.bJ.val,i64 bZ.time]) rfl aJm ?_
 refine jH ?_
 cases hS
 exact VD.nil (pZ (.inl rfl) rfl (⟨bZ.bG,bZ.aY,bZ.bP,bZ.aS,bZ.aH,bZ.bK,bZ.bI,bZ.bO,bZ.aP,bZ.aT,bZ.bN,bZ.aZ,bZ.aM,bZ.aN,bZ.aQ,bZ.aU,bZ.bC,aYc,bZ.bS,bZ.bJ,bZ.time⟩,⟨VN.b,VN.at_,VN.err⟩,⟨a2f.bad⟩) rfl rfl (by (try dsimp only); exact fQ.out) (by (try dsimp only); exact iY.out))
theorem OV (bR:Nat) (dD:aW) (aG:Nat) (bA:cX) (cD:Nat) (bF:cF) (cE:Nat) {r:bT×aW×bQ} (hS:Sh.AT dD bA.pl bF.pl=some r) :
 Ct Tryz.prog 269 [ptr bR 0,.func (.func 270) #[] #[ptr cD 0,ptr cE 0]] (bA.b.ok.and (bA.err.ok.and (bF.bG.ok.and (bF.aY.ok.and (bF.bP.ok.and (bF.aP.ok.and (bF.aT.ok.and (bF.aQ.ok.and (bF.aU.ok.and (bF.bC.ok.and ((mH bF.bD.l).and (bF.bS.ok.and bF.bJ.ok)))))))))))) (Ow.star (bE aG [bA.b.val,i64 bA.at_,bA.err.val] 221) (Ow.star (bE bR [ptr aG 0,.bool dD.bad] 279) (Ow.star (Sv.own bF.bD 85) (Ow.star (bE cD (aJ bF) 77) (bE cE [ptr bR 0] 277))))) (X:=cX×aW×cF) (fun x => .tuple #[]) (fun x=>r=(x.1.pl,x.2.1,x.2.2.pl)) (fun x=>(x.1.b.ok.and (x.1.err.ok.and (x.2.2.bG.ok.and (x.2.2.aY.ok.and (x.2.2.bP.ok.and (x.2.2.aP.ok.and (x.2.2.aT.ok.and (x.2.2.aQ.ok.and (x.2.2.aU.ok.and (x.2.2.bC.ok.and ((mH x.2.2.bD.l).and (x.2.2.bS.ok.and x.2.2.bJ.ok))))))))))))) (fun x=>Ow.star (bE aG [x.1.b.val,i64 x.1.at_,x.1.err.val] 221) (Ow.star (bE bR [ptr aG 0,.bool x.2.1.bad] 279) (Ow.star (bE cD (aJ x.2.2) 77) (Ow.star (Sv.own x.2.2.bD 85) (bE cE [ptr bR 0] 277))))):=by
 refine Zo Tryz.func269 Tryz.ntmps269 fun c => ?_
 unfold Sh.AT at hS
 refine Zq (Zr (Zm (Zu (aF rfl) (Zu (aB cP rfl) (Zu (aL dH rfl rfl) ?_)))))
 obtain ⟨dA,mC,hS⟩:=aO hS
 refine VL.bL (fK aG bA mC) rfl (by decide) ?_
 rintro ⟨gG,eS⟩ rfl
 try dsimp only
 refine Zy ?_
 refine VC.gN (S:=Bool) (fun (eY:Bool)=>eY) (fun (eY:Bool)=>[(0,ptr bR 0),(1,.func (.func 270) #[] #[ptr cD 0,ptr cE 0]),(4,i64 gG)]) (fun (eY:Bool)=>Mo.tt) (fun (eY:Bool)=>Ow.star (bE aG [eS.b.val,i64 eS.at_,eS.err.val] 221) (Ow.star (bE bR [ptr aG 0,.bool eY] 279) (Ow.star (bE cD (aJ bF) 77) (Ow.star (bE cE [ptr bR 0] 277) (Ow.star (Sv.own bF.bD 85) (Ow.emp)))))) hS ?_ ?_
 ·
  clear hS
  intro k3 hS
  refine Zr (Zy ?_)
  refine Zu (aF rfl) (Zu (aB kS rfl) (Zu (aL lK rfl rfl) (Zm ?_)))
  refine xJ 16 hS (fun h16 hS => ?_) (fun h16 hS => ?_)
  ·
   refine VL.runs 3 [(19,some true)] (by kernel_rfl) ?_
   refine Zu (aF rfl) (Zu (aB kS rfl) ?_)
   refine Zv (cs':=[ptr aG 0,.bool true]) rfl qV ?_
   refine VL.mt true [0,1,4] (fun _ _ h=>h) hS rfl
  refine Zg ?_
  refine Zh (dW rfl rfl) ?_
  refine Zf ?_
  refine Zu (aF rfl) (Zu (aB kS rfl) ?_)
  refine Zv (cs':=[ptr aG 0,.bool (decide (gG < 0))]) rfl qV ?_
  refine VL.mt (decide (gG < 0)) [0,1,4] (fun _ _ h=>h) hS rfl
 clear hS
 rintro eY hS
 refine Zq (Zr (Zy ?_))
 refine Zb ?_
 refine VC.iter (S:=Int×Sv UInt8×Int×Er×Bool×Sv aC×Sv aE×Sv fH×aK×Int×aK×Int×aK×Sv dB×Sv dB×Int×aK×aK×Int×Sv aE×Sv aC×Sv eN×Sv cG×Sv aK×Sv aK×Int) (fun sg=>(sg.1,sg.2.1.l,sg.2.2.1,sg.2.2.2.1.pl,sg.2.2.2.2.1,sg.2.2.2.2.2.1.l,sg.2.2.2.2.2.2.1.l,sg.2.2.2.2.2.2.2.1.l,sg.2.2.2.2.2.2.2.2.1,sg.2.2.2.2.2.2.2.2.2.1,sg.2.2.2.2.2.2.2.2.2.2.1,sg.2.2.2.2.2.2.2.2.2.2.2.1,sg.2.2.2.2.2.2.2.2.2.2.2.2.1,sg.2.2.2.2.2.2.2.2.2.2.2.2.2.1.l,sg.2.2.2.2.2.2.2.2.2.2.2.2.2.2.1.l,sg.2.2.2.2.2.2.2.2.2.2.2.2.2.2.2.1,sg.2.2.2.2.2.2.2.2.2.2.2.2.2.2.2.2.1,sg.2.2.2.2.2.2.2.2.2.2.2.2.2.2.2.2.2.1,sg.2.2.2.2.2.2.2.2.2.2.2.2.2.2.2.2.2.2.1,sg.2.2.2.2.2.2.2.2.2.2.2.2.2.2.2.2.2.2.2.1.l,sg.2.2.2.2.2.2.2.2.2.2.2.2.2.2.2.2.2.2.2.2.1.l,(sg.2.2.2.2.2.2.2.2.2.2.2.2.2.2.2.2.2.2.2.2.2.1.l.map eN.pl),(sg.2.2.2.2.2.2.2.2.2.2.2.2.2.2.2.2.2.2.2.2.2.2.1.l.map cG.pl),sg.2.2.2.2.2.2.2.2.2.2.2.2.2.2.2.2.2.2.2.2.2.2.2.1.l,sg.2.2.2.2.2.2.2.2.2.2.2.2.2.2.2.2.2.2.2.2.2.2.2.2.1.l,sg.2.2.2.2.2.2.2.2.2.2.2.2.2.2.2.2.2.2.2.2.2.2.2.2.2)) (fun sg=>[(0,ptr bR 0),(1,.func (.func 270) #[] #[ptr cD 0,ptr cE 0]),(4,i64 gG),(5,i64 sg.1)]) (fun sg=>(sg.2.1.ok.and (sg.2.2.2.1.ok.and (sg.2.2.2.2.2.1.ok.and (sg.2.2.2.2.2.2.1.ok.and (sg.2.2.2.2.2.2.2.1.ok.and (sg.2.2.2.2.2.2.2.2.2.2.2.2.2.1.ok.and (sg.2.2.2.2.2.2.2.2.2.2.2.2.2.2.1.ok.and (sg.2.2.2.2.2.2.2.2.2.2.2.2.2.2.2.2.2.2.2.1.ok.and (sg.2.2.2.2.2.2.2.2.2.2.2.2.2.2.2.2.2.2.2.2.1.ok.and (sg.2.2.2.2.2.2.2.2.2.2.2.2.2.2.2.2.2.2.2.2.2.1.ok.and ((mH sg.2.2.2.2.2.2.2.2.2.2.2.2.2.2.2.2.2.2.2.2.2.2.1.l).and (sg.2.2.2.2.2.2.2.2.2.2.2.2.2.2.2.2.2.2.2.2.2.2.2.1.ok.and sg.2.2.2.2.2.2.2.2.2.2.2.2.2.2.2.2.2.2.2.2.2.2.2.2.1.ok))))))))))))) (fun sg=>Ow.star (bE aG [sg.2.1.val,i64 sg.2.2.1,sg.2.2.2.1.val] 221) (Ow.star (bE bR [ptr aG 0,.bool sg.2.2.2.2.1] 279) (Ow.star (bE cD [sg.2.2.2.2.2.1.val,sg.2.2.2.2.2.2.1.val,sg.2.2.2.2.2.2.2.1.val,str sg.2.2.2.2.2.2.2.2.1,i64 sg.2.2.2.2.2.2.2.2.2.1,str sg.2.2.2.2.2.2.2.2.2.2.1,i64 sg.2.2.2.2.2.2.2.2.2.2.2.1,str sg.2.2.2.2.2.2.2.2.2.2.2.2.1,sg.2.2.2.2.2.2.2.2.2.2.2.2.2.1.val,sg.2.2.2.2.2.2.2.2.2.2.2.2.2.2.1.val,i64 sg.2.2.2.2.2.2.2.2.2.2.2.2.2.2.2.1,str sg.2.2.2.2.2.2.2.2.2.2.2.2.2.2.2.2.1,str sg.2.2.2.2.2.2.2.2.2.2.2.2.2.2.2.2.2.1,i64 sg.2.2.2.2.2.2.2.2.2.2.2.2.2.2.2.2.2.2.1,sg.2.2.2.2.2.2.2.2.2.2.2.2.2.2.2.2.2.2.2.1.val,sg.2.2.2.2.2.2.2.2.2.2.2.2.2.2.2.2.2.2.2.2.1.val,sg.2.2.2.2.2.2.2.2.2.2.2.2.2.2.2.2.2.2.2.2.2.1.val,sg.2.2.2.2.2.2.2.2.2.2.2.2.2.2.2.2.2.2.2.2.2.2.1.val,sg.2.2.2.2.2.2.2.2.2.2.2.2.2.2.2.2.2.2.2.2.2.2.2.1.val,sg.2.2.2.2.2.2.2.2.2.2.2.2.2.2.2.2.2.2.2.2.2.2.2.2.1.val,i64 sg.2.2.2.2.2.2.2.2.2.2.2.2.2.2.2.2.2.2.2.2.2.2.2.2.2] 77) (Ow.star (bE cE [ptr bR 0] 277) (Ow.star (Sv.own sg.2.2.2.2.2.2.2.2.2.2.2.2.2.2.2.2.2.2.2.2.2.2.1 85) (Ow.emp)))))) (0,eS.b,eS.at_,eS.err,eY,bF.bG,bF.aY,bF.bP,bF.aS,bF.aH,bF.bK,bF.bI,bF.bO,bF.aP,bF.aT,bF.bN,bF.aZ,bF.aM,bF.aN,bF.aQ,bF.aU,bF.bC,bF.bD,bF.bS,bF.bJ,bF.time) [0,1,4,5] hS rfl ?_
 clear hS
 rintro ⟨kN,fO,iE,iF,aFE,aFD,ZE,ZF,ZH,ZK,ZN,ZQ,ZT,ZW,Z0,QZ,Q3,Q5,Q7,Q9,RB,RD,RE,RF,RG,RI⟩ m1 y1 hS hK1
 refine Zq (Zq (Zr (Zy ?_)))
 refine Zu (dW rfl rfl) (Zm ?_)
 refine o4 25 hS (fun h25 hS => ?_) (fun h25 hS => ?_)
 ·
  refine Zg ?_
  refine Zh (aF rfl) ?_
  refine Zh (aB cP rfl) ?_
  refine Zh (aL dH rfl rfl) ?_
  refine VL.guard rfl rfl ?_
  obtain ⟨aRa,aUs,hS⟩:=aO hS
  refine VL.bL (nB aG (⟨fO,iE,iF⟩:cX) aUs) rfl (by decide) ?_
  rintro aT5 rfl
  try dsimp only
  refine Zh (GG Tryz.underlying27 rfl) ?_
  refine Zy ?_
  refine VC.keep (ρ':=[(0,ptr bR 0),(1,.func (.func 270) #[] #[ptr cD 0,ptr cE 0]),(4,i64 gG),(5,i64 kN),(32,.bool (decide (aT5.pl.isNil=true)))]) [0,1,4,5,32] rfl ?_
  refine Zc hS (fun h32 hS => ?_) (fun h32 hS => ?_)
  ·
   refine Zk ?_
   refine Zq (Zb (Zr (Zm ?_)))
   obtain ⟨oP,aVE,hS⟩:=aO hS
   refine VL.MY (vs:=[]) (caps:=[ptr cD 0,ptr cE 0]) (OZ cD (⟨aFD,ZE,ZF,ZH,ZK,ZN,ZQ,ZT,ZW,Z0,QZ,Q3,Q5,Q7,Q9,RB,RD,RE,RF,RG,RI⟩:cF) cE bR (⟨aFE⟩:aW) aG (⟨fO,iE,iF⟩:cX) aVE) rfl rfl (by decide) ?_
   rintro ⟨mR,aD1,aTf⟩ rfl
   try dsimp only
   refine Zl ?_
   refine Zr (Zm ?_)
   obtain ⟨b34,hS⟩:=bU hS
   refine Zu (cR rfl rfl b34) (Za ?_)
   refine VL.jU ((kN+1),aD1.b,aD1.at_,aD1.err,aTf.bad,mR.bG,mR.aY,mR.bP,mR.aS,mR.aH,mR.bK,mR.bI,mR.bO,mR.aP,mR.aT,mR.bN,mR.aZ,mR.aM,mR.aN,mR.aQ,mR.aU,mR.bC,mR.bD,mR.bS,mR.bJ,mR.time) [0,1,4,5] (fun _ _ h=>h) (go2 hS hK1) rfl
  replace hS:=iJ hS hK1
  cases hS
  exact VC.exit (pZ (.inl rfl) rfl (⟨fO,iE,iF⟩,⟨aFE⟩,⟨aFD,ZE,ZF,ZH,ZK,ZN,ZQ,ZT,ZW,Z0,QZ,Q3,Q5,Q7,Q9,RB,RD,RE,RF,RG,RI⟩) rfl rfl (by (try dsimp only); exact fQ.out) (by (try dsimp only); exact iY.out))
 refine VL.runs 7 [(32,some false)] (by kernel_rfl) ?_
 refine Zl ?_
 refine VC.CC rfl ?_
 replace hS:=iJ hS hK1
 cases hS
 exact VC.exit (pZ (.inl rfl) rfl (⟨fO,iE,iF⟩,⟨aFE⟩,⟨aFD,ZE,ZF,ZH,ZK,ZN,ZQ,ZT,ZW,Z0,QZ,Q3,Q5,Q7,Q9,RB,RD,RE,RF,RG,RI⟩) rfl rfl (by (try dsimp only); exact fQ.out) (by (try dsimp only); exact iY.out))
theorem zY (aA:Sv cG) {r:List mO} (hS:Sh.nY (aA.l.map cG.pl)=some r) :
 Ct Tryz.prog 273 [aA.val] aA.ok (Ow.emp) (X:=Sv cG) (fun x=>x.val) (fun x=>r=(x.l.map cG.pl)) (fun x=>x.ok) (fun x=>Ow.emp):=by
 refine Zo Tryz.func273 Tryz.ntmps273 fun c => ?_
 unfold Sh.nY at hS
 refine Zq (Zr (Zy ?_))
 refine Zq (Zr (Zy ?_))
 refine Zu (qN cG.pl (s:=aA) Tryz.underlying73 rfl) (Zm (Zu (qN cG.pl (s:=aA) Tryz.underlying73 rfl) ?_))
 obtain ⟨b8,hS⟩:=bU hS
 refine VL.WG Tryz.underlying73 aAI rfl rfl rfl b8.1 (aOd b8.2) (by decide) fun BY tU => ?_
 replace hS:=bW ((congrArg (List.map cG.pl) tU).trans List.map_take) hS
 refine Zy ?_
 cases hS
 exact VC.ret (Z1 BY)
theorem O1 (mA:Nat) (bZ:Sv aK) (jA:Nat) (cM:Nat) (a_1_:aW) (bY:Nat) (cW:cX) {r:List aK×bT} (hS:Sh.AZ bZ.l a_1_ cW.pl=some r) :
 Ct Tryz.prog 339 [ptr mA 0,ptr jA 0] (cW.b.ok.and cW.err.ok) (Ow.star (Sv.own bZ 9) (Ow.star (bE mA [bZ.val] 39) (Ow.star (bE bY [cW.b.val,i64 cW.at_,cW.err.val] 221) (Ow.star (bE cM [ptr bY 0,.bool a_1_.bad] 279) (bE jA [ptr cM 0] 277))))) (X:=Sv aK×cX) (fun x => .tuple #[]) (fun x=>r=(x.1.l,x.2.pl)) (fun x=>(x.2.b.ok.and x.2.err.ok)) (fun x=>Ow.star (bE mA [x.1.val] 39) (Ow.star (Sv.own x.1 9) (Ow.star (bE bY [x.2.b.val,i64 x.2.at_,x.2.err.val] 221) (Ow.star (bE cM [ptr bY 0,.bool a_1_.bad] 279) (bE jA [ptr cM 0] 277))))):=by
 refine Zo Tryz.func339 Tryz.ntmps339 fun c => ?_
 unfold Sh.AZ at hS
 refine l9 [(0,true),(1,true),(2,true),(3,true),(4,true),(5,false),(6,false),(7,false),(8,false)] ?_
 refine Zw rfl (aL zC rfl rfl) ?_
 refine Zw rfl (aL dL rfl rfl) ?_
 refine Zw rfl (aF rfl) ?_
 refine Zw rfl (aB cP rfl) ?_
 refine Zw rfl (aL dH rfl rfl) ?_
 refine VD.one rfl ?_
 obtain ⟨jO,mD,hS⟩:=aO hS
 refine VL.bL (jB bY cW mD) rfl (by decide) ?_
 rintro ⟨lJ,CK⟩ rfl
 try dsimp only
 refine jS [(0,bZ.val)] (aI.cons rfl (aL zC rfl rfl) aI.nil) ?_
 refine VD.one rfl ?_
 refine VL.lit (α:=aK) (xs:=[.tmp 7]) (vs:=[str lJ]) [lJ] Tryz.underlying39 xQ (by decide) rfl rfl rfl rfl (by decide) (fun _ _ _ _=>trivial) (by decide) (fun aYh aO6 => ?_) (by decide)
 replace hS:=bW aO6 hS
 refine jS [(0,bZ.val)] (aI.cons rfl (aL zC rfl rfl) aI.nil) ?_
 refine VD.one rfl ?_
 obtain ⟨b9,hS⟩:=bU hS
 refine VL.app (s:=bZ) (r:=aYh) Tryz.underlying39 R6 (by decide) rfl Fo.out (wM b9) (wN b9 (by decide)) (by decide) (fun aNT aO7 => ?_)
 replace hS:=bW aO7 hS
 refine jH ?_
 refine VD.one rfl ?_
 refine Zv (cs':=[aNT.val]) rfl a5Q ?_
 refine jH ?_
 cases hS
 exact VD.nil (pZ (.inl rfl) rfl (aNT,⟨CK.b,CK.at_,CK.err⟩) rfl rfl (by (try dsimp only); exact fQ.out) (by (try dsimp only); exact iY.out))
theorem OX (bR:Nat) (dD:aW) (aG:Nat) (bA:cX) (cD:Nat) (bF:Sv aK) (cE:Nat) {r:bT×aW×List aK} (hS:Sh.AV dD bA.pl bF.l=some r) :
 Ct Tryz.prog 269 [ptr bR 0,.func (.func 339) #[] #[ptr cD 0,ptr cE 0]] (bA.b.ok.and bA.err.ok) (Ow.star (bE aG [bA.b.val,i64 bA.at_,bA.err.val] 221) (Ow.star (bE bR [ptr aG 0,.bool dD.bad] 279) (Ow.star (Sv.own bF 9) (Ow.star (bE cD [bF.val] 39) (bE cE [ptr bR 0] 277))))) (X:=cX×aW×Sv aK) (fun x => .tuple #[]) (fun x=>r=(x.1.pl,x.2.1,x.2.2.l)) (fun x=>(x.1.b.ok.and x.1.err.ok)) (fun x=>Ow.star (bE aG [x.1.b.val,i64 x.1.at_,x.1.err.val] 221) (Ow.star (bE bR [ptr aG 0,.bool x.2.1.bad] 279) (Ow.star (bE cD [x.2.2.val] 39) (Ow.star (Sv.own x.2.2 9) (bE cE [ptr bR 0] 277))))):=by
 refine Zo Tryz.func269 Tryz.ntmps269 fun c => ?_
 unfold Sh.AV at hS
 refine Zq (Zr (Zm (Zu (aF rfl) (Zu (aB cP rfl) (Zu (aL dH rfl rfl) ?_)))))
 obtain ⟨dA,mC,hS⟩:=aO hS
 refine VL.bL (fK aG bA mC) rfl (by decide) ?_
 rintro ⟨gG,eS⟩ rfl
 try dsimp only
 refine Zy ?_
 refine VC.gN (S:=Bool) (fun (eY:Bool)=>eY) (fun (eY:Bool)=>[(0,ptr bR 0),(1,.func (.func 339) #[] #[ptr cD 0,ptr cE 0]),(4,i64 gG)]) (fun (eY:Bool)=>Mo.tt) (fun (eY:Bool)=>Ow.star (bE aG [eS.b.val,i64 eS.at_,eS.err.val] 221) (Ow.star (bE bR [ptr aG 0,.bool eY] 279) (Ow.star (bE cD [bF.val] 39) (Ow.star (bE cE [ptr bR 0] 277) (Ow.star (Sv.own bF 9) (Ow.emp)))))) hS ?_ ?_
 ·
  clear hS
  intro k3 hS
  refine Zr (Zy ?_)
  refine Zu (aF rfl) (Zu (aB kS rfl) (Zu (aL lK rfl rfl) (Zm ?_)))
  refine xJ 16 hS (fun h16 hS => ?_) (fun h16 hS => ?_)
  ·
   refine VL.runs 3 [(19,some true)] (by kernel_rfl) ?_
   refine Zu (aF rfl) (Zu (aB kS rfl) ?_)
   refine Zv (cs':=[ptr aG 0,.bool true]) rfl qV ?_
   refine VL.mt true [0,1,4] (fun _ _ h=>h) hS rfl
  refine Zg ?_
  refine Zh (dW rfl rfl) ?_
  refine Zf ?_
  refine Zu (aF rfl) (Zu (aB kS rfl) ?_)
  refine Zv (cs':=[ptr aG 0,.bool (decide (gG < 0))]) rfl qV ?_
  refine VL.mt (decide (gG < 0)) [0,1,4] (fun _ _ h=>h) hS rfl
 clear hS
 rintro eY hS
 refine Zq (Zr (Zy ?_))
 refine Zb ?_
 refine VC.iter (S:=Int×Sv UInt8×Int×Er×Sv aK) (fun sg=>(sg.1,sg.2.1.l,sg.2.2.1,sg.2.2.2.1.pl,sg.2.2.2.2.l)) (fun sg=>[(0,ptr bR 0),(1,.func (.func 339) #[] #[ptr cD 0,ptr cE 0]),(4,i64 gG),(5,i64 sg.1)]) (fun sg=>(sg.2.1.ok.and sg.2.2.2.1.ok)) (fun sg=>Ow.star (bE aG [sg.2.1.val,i64 sg.2.2.1,sg.2.2.2.1.val] 221) (Ow.star (bE bR [ptr aG 0,.bool eY] 279) (Ow.star (bE cD [sg.2.2.2.2.val] 39) (Ow.star (bE cE [ptr bR 0] 277) (Ow.star (Sv.own sg.2.2.2.2 9) (Ow.emp)))))) (0,eS.b,eS.at_,eS.err,bF) [0,1,4,5] hS rfl ?_
 clear hS
 rintro ⟨kN,fO,iE,iF,iZ⟩ m1 y1 hS hK1
 refine Zq (Zq (Zr (Zy ?_)))
 refine Zu (dW rfl rfl) (Zm ?_)
 refine o4 25 hS (fun h25 hS => ?_) (fun h25 hS => ?_)
 ·
  refine Zg ?_
  refine Zh (aF rfl) ?_
  refine Zh (aB cP rfl) ?_
  refine Zh (aL dH rfl rfl) ?_
  refine VL.guard rfl rfl ?_
  obtain ⟨mZ,y8,hS⟩:=aO hS
  refine VL.bL (nB aG (⟨fO,iE,iF⟩:cX) y8) rfl (by decide) ?_
  rintro tY rfl
  try dsimp only
  refine Zh (GG Tryz.underlying27 rfl) ?_
  refine Zy ?_
  refine VC.keep (ρ':=[(0,ptr bR 0),(1,.func (.func 339) #[] #[ptr cD 0,ptr cE 0]),(4,i64 gG),(5,i64 kN),(32,.bool (decide (tY.pl.isNil=true)))]) [0,1,4,5,32] rfl ?_
  refine Zc hS (fun h32 hS => ?_) (fun h32 hS => ?_)
  ·
   refine Zk ?_
   refine Zq (Zb (Zr (Zm ?_)))
   obtain ⟨nG,FT,hS⟩:=aO hS
   refine VL.MY (vs:=[]) (caps:=[ptr cD 0,ptr cE 0]) (O1 cD iZ cE bR (⟨eY⟩:aW) aG (⟨fO,iE,iF⟩:cX) FT) rfl rfl (by decide) ?_
   rintro ⟨CI,oC⟩ rfl
   try dsimp only
   refine Zl ?_
   refine Zr (Zm ?_)
   obtain ⟨b34,hS⟩:=bU hS
   refine Zu (cR rfl rfl b34) (Za ?_)
   refine VL.jU ((kN+1),oC.b,oC.at_,oC.err,CI) [0,1,4,5] (fun _ _ h=>h) (go2 hS hK1) rfl
  replace hS:=iJ hS hK1
  cases hS
  exact VC.exit (pZ (.inl rfl) rfl (⟨fO,iE,iF⟩,⟨eY⟩,iZ) rfl rfl (by (try dsimp only); exact fQ.out) (by (try dsimp only); exact iY.out))
 refine VL.runs 7 [(32,some false)] (by kernel_rfl) ?_
 refine Zl ?_
 refine VC.CC rfl ?_
 replace hS:=iJ hS hK1
 cases hS
 exact VC.exit (pZ (.inl rfl) rfl (⟨fO,iE,iF⟩,⟨eY⟩,iZ) rfl rfl (by (try dsimp only); exact fQ.out) (by (try dsimp only); exact iY.out))
theorem lZ (aA:Sv aK) {r:List aK} (hS:Sh.iL aA.l=some r) :
 Ct Tryz.prog 71 [aA.val] Mo.tt (Sv.own aA 9) (X:=Sv aK) (fun x=>x.val) (fun x=>r=x.l) (fun x=>Mo.tt) (fun x=>Sv.own x 9):=by
 refine Zo Tryz.func71 Tryz.ntmps71 fun c => ?_
 unfold Sh.iL at hS
 refine Zq (Zr (Zy ?_))
 refine Zq (Zr (Zy ?_))
 refine Zu (eB (s:=aA) Tryz.underlying39 rfl) (Zm (Zu (eB (s:=aA) Tryz.underlying39 rfl) ?_))
 obtain ⟨b8,hS⟩:=bU hS
 refine VL.a4s (s:=aA) Tryz.underlying39 pU rfl rfl rfl b8.1 b8.2 Fo.out (by decide) fun BY tU => ?_
 replace hS:=bW tU hS
 refine Zy ?_
 cases hS
 exact VC.ret (Z1 BY)
theorem GO (bR:Nat) (dD:aW) (aG:Nat) (bA:cX) {r:List aK×bT×aW} (hS:Sh.xD dD bA.pl=some r) :
 Ct Tryz.prog 274 [ptr bR 0] (bA.b.ok.and bA.err.ok) (Ow.star (bE aG [bA.b.val,i64 bA.at_,bA.err.val] 221) (bE bR [ptr aG 0,.bool dD.bad] 279)) (X:=Sv aK×cX×aW) (fun x=>x.1.val) (fun x=>r=(x.1.l,x.2.1.pl,x.2.2)) (fun x=>(x.2.1.b.ok.and x.2.1.err.ok)) (fun x=>Ow.star (Sv.own x.1 9) (Ow.star (bE aG [x.2.1.b.val,i64 x.2.1.at_,x.2.1.err.val] 221) (bE bR [ptr aG 0,.bool x.2.2.bad] 279))):=by
 refine Zo Tryz.func274 Tryz.ntmps274 fun c => ?_
 unfold Sh.xD at hS
 refine Zq (Zr ?_)
 refine kQ [ptr bR 0] fun jN => ?_
 refine Zy ?_
 refine Zq (Zr ?_)
 refine gV [.slice none 0 0] fun lI => ?_
 refine Zl ?_
 refine Zq (Zr (Zu (aL dL rfl rfl) (Zu (sJ rfl) ?_)))
 refine VL.nU (⟨none,0,[]⟩:Sv aK) 9 ⟨rfl,rfl⟩ ?_
 refine VL.SI lI (cs':=[(⟨none,0,[]⟩:Sv aK).val]) rfl ?_
 obtain ⟨sN,R1,hS⟩:=aO hS
 refine VL.bL (OX bR dD aG bA lI (⟨none,0,[]⟩:Sv aK) jN R1) rfl (by decide) ?_
 rintro ⟨s8,KB,CJ⟩ rfl
 try dsimp only
 refine Zl ?_
 refine Zq (Zr (Zu (aL zC rfl rfl) ?_))
 obtain ⟨G6,LC,hS⟩:=aO hS
 refine VL.bL (lZ CJ LC) rfl (by decide) ?_
 rintro A7 rfl
 try dsimp only
 refine Zy ?_
 cases hS
 exact VC.ret (Z1 (A7,⟨s8.b,s8.at_,s8.err⟩,⟨KB.bad⟩))
theorem S2 (bR:Nat) (dD:aW) (aG:Nat) (bA:cX) {r:bQ×bT×aW} (hS:Sh.C4 dD bA.pl=some r) :
 Ct Tryz.prog 208 [ptr bR 0] (bA.b.ok.and bA.err.ok) (Ow.star (bE aG [bA.b.val,i64 bA.at_,bA.err.val] 221) (bE bR [ptr aG 0,.bool dD.bad] 279)) (X:=cF×cX×aW) (fun x => .agg (bM.enc x.1).toArray) (fun x=>r=(x.1.pl,x.2.1.pl,x.2.2)) (fun x=>(x.1.m.and (x.2.1.b.ok.and x.2.1.err.ok))) (fun x=>Ow.star (bE aG [x.2.1.b.val,i64 x.2.1.at_,x.2.1.err.val] 221) (bE bR [ptr aG 0,.bool x.2.2.bad] 279)):=by
 refine Zo Tryz.func208 Tryz.ntmps208 fun c => ?_
 unfold Sh.C4 at hS
 refine Zq (Zr ?_)
 refine kQ [ptr bR 0] fun jN => ?_
 refine gV [.slice none 0 0,.slice none 0 0,.slice none 0 0,str [],i64 0,str [],i64 0,str [],.slice none 0 0,.slice none 0 0,i64 0,str [],str [],i64 0,.slice none 0 0,.slice none 0 0,.slice none 0 0,.slice none 0 0,.slice none 0 0,.slice none 0 0,i64 0] fun MX => ?_
 refine Zl ?_
 refine Zq (Zr (Zu (aL dL rfl rfl) ?_))
 obtain ⟨uK,UK,hS⟩:=aO hS
 refine VL.bL (WD bR dD aG bA UK) rfl (by decide) ?_
 rintro ⟨eX,a2d,a2e⟩ rfl
 try dsimp only
 refine Zu (fR (vs:=[(0,.agg (nA eX).toArray)]) (cs := #[eX.work.val,eX.index.val,eX.refs.val,str eX.dO,i64 eX.dP,str eX.mS,i64 eX.lG,str eX.mU,eX.iC.val,eX.jF.val,i64 eX.mT,str eX.jY,str eX.fV,i64 eX.fW,eX.iD.val,eX.jG.val,eX.fZ.val,.slice none 0 0,.slice none 0 0,.slice none 0 0,i64 0]) rfl (by kernel_rfl)) ?_
 refine gV [.slice none 0 0,.slice none 0 0,.slice none 0 0,str [],i64 0,str [],i64 0,str [],.slice none 0 0,.slice none 0 0,i64 0,str [],str [],i64 0,.slice none 0 0,.slice none 0 0,.slice none 0 0,.slice none 0 0,.slice none 0 0,.slice none 0 0,i64 0] fun aPd => ?_
 refine Zv (cs':=[eX.work.val,eX.index.val,eX.refs.val,str eX.dO,i64 eX.dP,str eX.mS,i64 eX.lG,str eX.mU,eX.iC.val,eX.jF.val,i64 eX.mT,str eX.jY,str eX.fV,i64 eX.fW,eX.iD.val,eX.jG.val,eX.fZ.val,.slice none 0 0,.slice none 0 0,.slice none 0 0,i64 0]) rfl gP ?_
 refine Zl ?_
 refine Zq (Zr (Zu (aL dL rfl rfl) (Zu (sJ rfl) ?_)))
 refine VL.nU (⟨none,0,[]⟩:Sv cG) 85 ⟨rfl,rfl⟩ ?_
 refine VL.JD (s:=(⟨none,0,[]⟩:Sv cG)) rfl ?_
 refine VL.SI aPd (cs':=[eX.work.val,eX.index.val,eX.refs.val,str eX.dO,i64 eX.dP,str eX.mS,i64 eX.lG,str eX.mU,eX.iC.val,eX.jF.val,i64 eX.mT,str eX.jY,str eX.fV,i64 eX.fW,eX.iD.val,eX.jG.val,eX.fZ.val,(⟨none,0,[]⟩:Sv cG).val,(⟨none,0,[]⟩:Sv aK).val,(⟨none,0,[]⟩:Sv aK).val,i64 0]) rfl ?_
 obtain ⟨z6,a5H,hS⟩:=aO hS
 refine VL.bL (OV bR a2e aG a2d aPd (⟨eX.work,eX.index,eX.refs,eX.dO,eX.dP,eX.mS,eX.lG,eX.mU,eX.iC,eX.jF,eX.mT,eX.jY,eX.fV,eX.fW,eX.iD,eX.jG,eX.fZ,(⟨none,0,[]⟩:Sv cG),(⟨none,0,[]⟩:Sv aK),(⟨none,0,[]⟩:Sv aK),0⟩:cF) jN a5H) rfl (by decide) ?_
 rintro ⟨a2l,a2m,cZ⟩ rfl
 try dsimp only
 refine Zl ?_
 refine Zq (Zr (Zu (aB nT rfl) (Zu (aL s5 rfl rfl) ?_)))
 refine VL.shut cZ.bD 85 (fun h m=>fQ.out (X:=mH cZ.bD.l) h m) ?_
 obtain ⟨aYz,aZr,hS⟩:=aO hS
 refine VL.dK (zY cZ.bD aZr) rfl (by decide) ?_
 rintro QC rfl
 try dsimp only
 refine Zu (aB nT rfl) ?_
 refine Zv (cs':=[cZ.bG.val,cZ.aY.val,cZ.bP.val,str cZ.aS,i64 cZ.aH,str cZ.bK,i64 cZ.bI,str cZ.bO,cZ.aP.val,cZ.aT.val,i64 cZ.bN,str cZ.aZ,str cZ.aM,i64 cZ.aN,cZ.aQ.val,cZ.aU.val,cZ.bC.val,QC.val,cZ.bS.val,cZ.bJ.val,i64 cZ.time]) rfl aJm ?_
 refine Zl ?_
 refine VC.keep (ρ':=[(1,ptr jN 0),(2,ptr MX 0),(3,ptr aPd 0)]) [1,2,3] rfl ?_
 refine Zq ?_
 refine l9 [(0,true),(2,true),(1,false),(3,false),(4,true),(5,true),(6,false)] ?_
 refine Zw rfl (aL dL rfl rfl) ?_
 refine Zw rfl (aL dL rfl rfl) ?_
 refine VD.one rfl ?_
 obtain ⟨oZ,RS,hS⟩:=aO hS
 refine VL.bL (GO bR a2m aG a2l RS) rfl (by decide) ?_
 rintro ⟨aR,LX,LY⟩ rfl
 try dsimp only
 refine jS [(2,ptr bR 0)] (aI.cons rfl (aL dL rfl rfl) aI.nil) ?_
 refine VD.one rfl ?_
 obtain ⟨aAg,aJY,hS⟩:=aO hS
 refine VL.bL (GO bR LY aG LX aJY) rfl (by decide) ?_
 rintro ⟨BU,aYB,aYC⟩ rfl
 try dsimp only
 refine jH ?_
 refine Zw rfl (fR (vs:=[(0,aR.val),(1,BU.val)]) (cs := #[aR.val,BU.val]) rfl (by kernel_rfl)) ?_
 refine Zw rfl (aB US rfl) ?_
 refine VD.one rfl ?_
 refine Zv (cs':=[cZ.bG.val,cZ.aY.val,cZ.bP.val,str cZ.aS,i64 cZ.aH,str cZ.bK,i64 cZ.bI,str cZ.bO,cZ.aP.val,cZ.aT.val,i64 cZ.bN,str cZ.aZ,str cZ.aM,i64 cZ.aN,cZ.aQ.val,cZ.aU.val,cZ.bC.val,QC.val,aR.val,BU.val,i64 cZ.time]) rfl aO2 ?_
 refine jH ?_
 refine VD.to (fun _ _ h=>h) ?_
 refine Zq (Zr (Zu (aL dL rfl rfl) (Zu (aF rfl) (Zu (aB cP rfl) (Zu (aL dH rfl rfl) ?_)))))
 obtain ⟨rY,aBO,hS⟩:=aO hS
 refine VL.bL (fK aG aYB aBO) rfl (by decide) ?_
 rintro ⟨QE,aGZ⟩ rfl
 try dsimp only
 refine Zu (aB aB1 rfl) ?_
 refine Zv (cs':=[cZ.bG.val,cZ.aY.val,cZ.bP.val,str cZ.aS,i64 cZ.aH,str cZ.bK,i64 cZ.bI,str cZ.bO,cZ.aP.val,cZ.aT.val,i64 cZ.bN,str cZ.aZ,str cZ.aM,i64 cZ.aN,cZ.aQ.val,cZ.aU.val,cZ.bC.val,QC.val,aR.val,BU.val,i64 QE]) rfl DE ?_
 refine Zl ?_
 refine VC.keep (ρ':=[(2,ptr MX 0),(3,ptr aPd 0)]) [2,3] rfl ?_
 refine Zq (Zr (Zu (cJ cI rfl rfl) ?_))
 refine Zv (cs':=[cZ.bG.val,cZ.aY.val,cZ.bP.val,str cZ.aS,i64 cZ.aH,str cZ.bK,i64 cZ.bI,str cZ.bO,cZ.aP.val,cZ.aT.val,i64 cZ.bN,str cZ.aZ,str cZ.aM,i64 cZ.aN,cZ.aQ.val,cZ.aU.val,cZ.bC.val,QC.val,aR.val,BU.val,i64 QE]) rfl gP ?_
 refine Zl ?_
 refine VC.shut aR 9 (fun _ _ _ _=>trivial) ?_
 refine VC.shut BU 9 (fun _ _ _ _=>trivial) ?_
 cases hS
 exact VC.ret (Z3 (⟨cZ.bG,cZ.aY,cZ.bP,cZ.aS,cZ.aH,cZ.bK,cZ.bI,cZ.bO,cZ.aP,cZ.aT,cZ.bN,cZ.aZ,cZ.aM,cZ.aN,cZ.aQ,cZ.aU,cZ.bC,QC,aR,BU,QE⟩,⟨aGZ.b,aGZ.at_,aGZ.err⟩,⟨aYC.bad⟩) [.agg #[cZ.bG.val,cZ.aY.val,cZ.bP.val,str cZ.aS,i64 cZ.aH,str cZ.bK,i64 cZ.bI,str cZ.bO,cZ.aP.val,cZ.aT.val,i64 cZ.bN,str cZ.aZ,str cZ.aM,i64 cZ.aN,cZ.aQ.val,cZ.aU.val,cZ.bC.val,QC.val,aR.val,BU.val,i64 QE]] (fI.cell cI rfl rfl Rd.blk (fI.nil)))
theorem Z9 (nH:Nat) (lC:cX) {r:Int} (hS:Sh.I6 lC.pl=some r) :
 Cp Tryz.prog 102 [ptr nH 0] (lC.b.ok.and (lC.err.ok.and (Cells nH 0 [lC.b.val,i64 lC.at_,lC.err.val]))) (i64 r):=by
 refine Zo Tryz.func102 Tryz.ntmps102 fun c => ?_
 unfold Sh.I6 at hS
 refine Zq (Zr (Zy ?_))
 refine Zq (Zq (Zr (Zm (Zu (aF rfl) (Zu (aB XQ rfl) (Zu (VW aE6 rfl rfl) (Zu (o5 Tryz.underlying27 rfl) ?_)))))))
 refine Zl ?_
 refine o3 hS (fun h7 hS => ?_) (fun h7 hS => ?_)
 ·
  refine Zq ?_
  cases hS
 refine Zk ?_
 refine Zq ?_
 refine l9 ((List.range 11).map fun k=>(k,true)) ?_
 refine Zw rfl (bB rfl) ?_
 refine Zw rfl (aF rfl) ?_
 refine Zw rfl (aB PR rfl) ?_
 refine Zw rfl (VW qR rfl rfl) ?_
 refine Zw rfl (eB (s:=lC.b) Tryz.underlying35 rfl) ?_
 refine Zw rfl (bB rfl) ?_
 refine Zw rfl (aF rfl) ?_
 refine Zw rfl (aB vN rfl) ?_
 refine Zw rfl (VW fL rfl rfl) ?_
 obtain ⟨b17,hS⟩:=bU hS
 refine Zw rfl (zI rfl rfl b17) ?_
 refine Zw rfl (gI rfl) ?_
 refine VD.to (fun _ _ h=>h) ?_
 refine VC.keep (ρ':=[(2,i64 ((lC.b.l.length:Int) - lC.at_))]) [2] rfl ?_
 cases hS
 exact Ze
theorem WC (bR:Nat) (dD:aW) (aG:Nat) (bA:cX) {r:kH} (hS:Sh.GK dD bA.pl=some r) :
 Ct Tryz.prog 209 [ptr bR 0] (bA.b.ok.and bA.err.ok) (Ow.star (bE aG [bA.b.val,i64 bA.at_,bA.err.val] 221) (bE bR [ptr aG 0,.bool dD.bad] 279)) (X:=Er) (fun x=>x.val) (fun x=>r=x.pl) (fun x=>x.ok) (fun x=>Ow.star (bE aG [bA.b.val,i64 bA.at_,bA.err.val] 221) (bE bR [ptr aG 0,.bool dD.bad] 279)):=by
 refine Zo Tryz.func209 Tryz.ntmps209 fun c => ?_
 unfold Sh.GK at hS
 refine Zq (Zr (Zy ?_))
 refine Zq (Zb (Zq (Zr (Zm (Zu (aF rfl) (Zu (aB cP rfl) (Zu (aL dH rfl rfl) ?_)))))))
 obtain ⟨uL,G8,hS⟩:=aO hS
 refine VL.bL (nB aG bA G8) rfl (by decide) ?_
 rintro xA rfl
 try dsimp only
 refine Zu (o5 Tryz.underlying27 rfl) (Zy ?_)
 refine o3 hS (fun h3 hS => ?_) (fun h3 hS => ?_)
 ·
  refine Zq ?_
  cases hS
 refine VC.gN (S:=Bool) (fun (WR:Bool)=>WR) (fun (WR:Bool)=>[(15,.bool WR)]) (fun (WR:Bool)=>Mo.tt) (fun (WR:Bool)=>Ow.star (bE aG [bA.b.val,i64 bA.at_,bA.err.val] 221) (Ow.star (bE bR [ptr aG 0,.bool dD.bad] 279) (Ow.emp))) hS ?_ ?_
 ·
  clear hS
  intro k3 hS
  refine Zr (Zm (Zu (aF rfl) (Zu (aB kS rfl) (Zu (aL lK rfl rfl) (Zm ?_)))))
  refine xJ 20 hS (fun h20 hS => ?_) (fun h20 hS => ?_)
  ·
   refine VL.runs 8 [(15,some true)] (by kernel_rfl) ?_
   refine VL.mt true [15] (fun _ _ h=>h) hS rfl
  refine Zg ?_
  refine Zh (aF rfl) ?_
  refine Zh (aB cP rfl) ?_
  refine Zh (aL dH rfl rfl) ?_
  obtain ⟨aPM,a0T,hS⟩:=aO hS
  refine Zh (rT (Z9 aG bA a0T) rfl (fun _ _=>rfl)) ?_
  refine Zh (lE rfl rfl) ?_
  refine Zy ?_
  refine VL.mt (decide (0 < aPM)) [15] (fun _ _ h=>h) hS rfl
 clear hS
 rintro WR hS
 refine gR hS (fun h15 hS => ?_) (fun h15 hS => ?_)
 ·
  refine Zq ?_
  cases hS
 refine Zk ?_
 refine Zq (Zr (Zy ?_))
 cases hS
 exact VC.ret (Z1 .nil)
end Go.Proofs.YtedhnpjkoeblnaaGreatDoor
end
