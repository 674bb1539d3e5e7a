/- Part of the proofs of: what one side did, as pieces, done to base, is that side; merged with nothing done by the other it is that, too (any two texts) -/
import Derived.Test.YtcenmlklkpgmnaaGreatDoorPC
set_option linter.unusedVariables false
set_option linter.unusedSimpArgs false
set_option linter.unusedSectionVars false
section
set_option linter.unusedVariables false
namespace Go.Proofs.YtcenmlklkpgmnaaGreatDoor
set_option maxHeartbeats 4000000
set_option maxRecDepth 100000
set_option synthInstance.maxSize 2000
set_option synthInstance.maxHeartbeats 1000000
open Go.RowKit Go.V
open Go.S hiding aV
theorem R8 (kY:Nat) (jB:cQ) {r:Int×Int×bR} (hS:Sh.D6 jB.pl=some r) :
 Ct Tryz.prog 305 [ptr kY 0] (jB.b.ok.and jB.err.ok) (bP kY [jB.b.val,i64 jB.at_,jB.err.val] 298) (X:=Int×Int×cQ) (fun x => .tuple #[.int .u64 x.1,i64 x.2.1]) (fun x=>r=(x.1,x.2.1,x.2.2.pl)) (fun x=>(x.2.2.b.ok.and x.2.2.err.ok)) (fun x=>bP kY [x.2.2.b.val,i64 x.2.2.at_,x.2.2.err.val] 298):=by
 refine Zo Tryz.func305 Tryz.ntmps305 fun c => ?_
 unfold Sh.D6 at hS
 refine Zq (Zr ?_)
 refine Zy ?_
 refine Zq (Zr ?_)
 refine Zy ?_
 refine Zq (Zq (Zr ?_))
 refine Zy ?_
 refine Zb ?_
 refine VC.iter (S:=Int×Int) (fun sg=>(sg.1,sg.2)) (fun sg=>[(0,ptr kY 0),(4,.int .u64 sg.1),(7,i64 sg.2)]) (fun sg=>Mo.tt) (fun sg=>Ow.star (bP kY [jB.b.val,i64 jB.at_,jB.err.val] 298) (Ow.emp)) (0,0) [0,4,7] hS rfl ?_
 clear hS
 rintro ⟨G2,l8⟩ m1 y1 hS hK1
 refine Zq (Zr ?_)
 refine Zu (dL rfl rfl) ?_
 refine Zl ?_
 refine Zq ?_
 refine Zc hS (fun h8 hS => ?_) (fun h8 hS => ?_)
 ·
  refine Zk ?_
  refine Zq (Zb (Zq (Zr ?_)))
  refine Zy ?_
  refine Zq (Zq ?_)
  refine VC.draw ((List.range 12).map fun k=>(k,true)) mixed (by kernel_rfl) (by kernel_rfl) (by kernel_rfl) ?_
  refine Zw rfl (bT rfl) ?_
  refine Zw rfl (aG rfl) ?_
  refine Zw rfl (aC rR rfl) ?_
  refine Zw rfl (aT fG rfl rfl) ?_
  refine Zw rfl (bT rfl) ?_
  obtain ⟨b15,hS⟩:=bS hS
  refine Zw rfl (cK rfl rfl b15) ?_
  refine Zw rfl (bT rfl) ?_
  refine Zw rfl (aG rfl) ?_
  refine Zw rfl (aC JP rfl) ?_
  refine Zw rfl (aT DO rfl rfl) ?_
  refine Zw rfl (dO (s:=jB.b) Tryz.underlying124 rfl) ?_
  refine Zw rfl (qF rfl rfl) ?_
  refine VD.to (fun _ _ h=>h) ?_
  refine VC.keep (ρ':=[(0,ptr kY 0),(4,.int .u64 G2),(7,i64 l8),(5,i64 l8),(21,.bool (decide ((jB.b.l.length:Int)≤(jB.at_+l8))))]) [0,4,7,5,21] rfl ?_
  refine Zc hS (fun h21 hS => ?_) (fun h21 hS => ?_)
  ·
   refine Zq ?_
   cases hS
  refine Zk ?_
  refine Zq ?_
  refine VC.draw ((List.range 13).map fun k=>(k,true)) mixed (by kernel_rfl) (by kernel_rfl) (by kernel_rfl) ?_
  refine Zw rfl (bT rfl) ?_
  refine Zw rfl (aG rfl) ?_
  refine Zw rfl (aC JP rfl) ?_
  refine Zw rfl (aT DO rfl rfl) ?_
  refine Zw rfl (bT rfl) ?_
  refine Zw rfl (aG rfl) ?_
  refine Zw rfl (aC rR rfl) ?_
  refine Zw rfl (aT fG rfl rfl) ?_
  refine Zw rfl (bT rfl) ?_
  obtain ⟨b31,hS⟩:=bS hS
  refine Zw rfl (cK rfl rfl b31) ?_
  obtain ⟨sW,aI8,aHu,hS⟩:=e8 hS
  refine Zw rfl (fM (s:=jB.b) Tryz.underlying124 aE5 rfl rfl aI8 (bQ aI8 aHu)) ?_
  refine Zw rfl (rH (s:=jB.b) aGZ rfl aHu rfl) ?_
  refine Zw rfl (fT rfl) ?_
  refine VD.to (fun _ _ h=>h) ?_
  refine VC.keep (ρ':=[(0,ptr kY 0),(4,.int .u64 G2),(7,i64 l8),(5,i64 l8),(6,.int .u8 (sW.toNat:Int))]) [0,4,7,5,6] rfl ?_
  refine VC.gD (S:=Unit) (fun (_:Unit)=>()) (fun (_:Unit)=>[(0,ptr kY 0),(4,.int .u64 G2),(5,i64 l8),(6,.int .u8 (sW.toNat:Int)),(7,i64 l8)]) (fun (_:Unit)=>Mo.tt) (fun (_:Unit)=>Ow.star (bP kY [jB.b.val,i64 jB.at_,jB.err.val] 298) (Ow.emp)) hS ?_ ?_
  ·
   clear hS
   intro k4 hS
   refine Zq (Zr ?_)
   refine Zm ?_
   refine Zu (hU rfl rfl) ?_
   refine Zm ?_
   refine mF 36 hS (fun h36 hS => ?_) (fun h36 hS => ?_)
   ·
    refine Zg ?_
    refine Zh (jF rfl rfl) ?_
    refine Zy ?_
    refine mF 40 hS (fun h40 hS => ?_) (fun h40 hS => ?_)
    ·
     refine VL.runs 7 [(47,some true)] (by kernel_rfl) ?_
     refine Zl ?_
     refine VC.keep (ρ':=[(0,ptr kY 0),(4,.int .u64 G2),(7,i64 l8),(5,i64 l8),(6,.int .u8 (sW.toNat:Int)),(47,.bool true)]) [0,4,7,5,6,47] rfl ?_
     refine VC.EV rfl ?_
     replace hS:=gQ hS hK1
     refine Zx ?_
     refine Zq ?_
     cases hS
    refine Zg ?_
    refine Zh (jF rfl rfl) ?_
    refine Zg ?_
    refine mF 43 hS (fun h43 hS => ?_) (fun h43 hS => ?_)
    ·
     refine Zg ?_
     refine Zh (hU rfl rfl) ?_
     refine Zh (jR rfl rfl) ?_
     refine Zy ?_
     refine VC.keep (ρ':=[(0,ptr kY 0),(4,.int .u64 G2),(7,i64 l8),(5,i64 l8),(6,.int .u8 (sW.toNat:Int)),(47,.bool (decide ((sW.toNat:Int)=0)))]) [0,4,7,5,6,47] rfl ?_
     refine Zc hS (fun h47 hS => ?_) (fun h47 hS => ?_)
     ·
      replace hS:=gQ hS hK1
      refine Zx ?_
      refine Zq ?_
      cases hS
     refine VC.fZ () [0,4,5,6,7] (fun _ _ h=>h) hS rfl
    refine Zy ?_
    refine Zh (iG rfl rfl) ?_
    refine Zy ?_
    refine VC.keep (ρ':=[(0,ptr kY 0),(4,.int .u64 G2),(7,i64 l8),(5,i64 l8),(6,.int .u8 (sW.toNat:Int)),(47,.bool false)]) [0,4,7,5,6,47] rfl ?_
    refine VC.vY rfl ?_
    refine VC.fZ () [0,4,5,6,7] (fun _ _ h=>h) hS rfl
   refine VL.runs 4 [(40,some false)] (by kernel_rfl) ?_
   refine Zg ?_
   refine Zh (jF rfl rfl) ?_
   refine Zg ?_
   refine mF 43 hS (fun h43 hS => ?_) (fun h43 hS => ?_)
   ·
    refine Zg ?_
    refine Zh (hU rfl rfl) ?_
    refine Zh (jR rfl rfl) ?_
    refine Zy ?_
    refine VC.keep (ρ':=[(0,ptr kY 0),(4,.int .u64 G2),(7,i64 l8),(5,i64 l8),(6,.int .u8 (sW.toNat:Int)),(47,.bool (decide ((sW.toNat:Int)=0)))]) [0,4,7,5,6,47] rfl ?_
    refine Zc hS (fun h47 hS => ?_) (fun h47 hS => ?_)
    ·
     replace hS:=gQ hS hK1
     refine Zx ?_
     refine Zq ?_
     cases hS
    refine VC.fZ () [0,4,5,6,7] (fun _ _ h=>h) hS rfl
   refine Zy ?_
   refine Zh (iG rfl rfl) ?_
   refine Zy ?_
   refine VC.keep (ρ':=[(0,ptr kY 0),(4,.int .u64 G2),(7,i64 l8),(5,i64 l8),(6,.int .u8 (sW.toNat:Int)),(47,.bool false)]) [0,4,7,5,6,47] rfl ?_
   refine VC.vY rfl ?_
   refine VC.fZ () [0,4,5,6,7] (fun _ _ h=>h) hS rfl
  clear hS
  rintro _ hS
  refine Zq (Zr ?_)
  refine Zy ?_
  refine Zu (aOn rfl rfl) ?_
  refine Zu (y4 Tryz.underlying5 Tryz.underlying271 rfl) ?_
  refine Zm ?_
  obtain ⟨b53,hS⟩:=bS hS
  refine Zu (aDW rfl rfl b53) ?_
  obtain ⟨b54,hS⟩:=bS hS
  refine Zu (aOr rfl rfl b54) ?_
  refine Zu (aVl rfl rfl) ?_
  refine Zy ?_
  refine VC.keep (ρ':=[(0,ptr kY 0),(4,.int .u64 (bOr .u64 G2 (VY .u64 (IntKind.wrap .u64 (Q6 .u8 (sW.toNat:Int) 127)) (7*l8)))),(5,i64 l8),(6,.int .u8 (sW.toNat:Int)),(7,i64 l8)]) [0,4,5,6,7] rfl ?_
  refine Zq (Zr ?_)
  refine Zm ?_
  refine Zu (dL rfl rfl) ?_
  refine Zl ?_
  refine Zc hS (fun h57 hS => ?_) (fun h57 hS => ?_)
  ·
   refine Zq (Zr ?_)
   refine Zm ?_
   refine Zu (aG rfl) ?_
   refine Zu (aC rR rfl) ?_
   refine Zu (aT fG rfl rfl) ?_
   refine Zm ?_
   obtain ⟨b63,hS⟩:=bS hS
   refine Zu (cK rfl rfl b63) ?_
   obtain ⟨b64,hS⟩:=bS hS
   refine Zu (cK rfl rfl b64) ?_
   refine Zu (aG rfl) ?_
   refine Zu (aC rR rfl) ?_
   refine Zv (vc:=[i64 (jB.at_+(l8+1))]) (cs':=[jB.b.val,i64 (jB.at_+(l8+1)),jB.err.val]) rfl AE ?_
   refine Zl ?_
   refine VC.keep (ρ':=[(4,.int .u64 (bOr .u64 G2 (VY .u64 (IntKind.wrap .u64 (Q6 .u8 (sW.toNat:Int) 127)) (7*l8))))]) [4] rfl ?_
   refine Zq (Zr ?_)
   refine Zy ?_
   replace hS:=gQ hS hK1
   cases hS
   exact VC.ret (CA (.inr rfl) rfl rfl rfl ((bOr .u64 G2 (VY .u64 (IntKind.wrap .u64 (Q6 .u8 (sW.toNat:Int) 127)) (7*l8))),0,⟨jB.b,(jB.at_+(l8+1)),jB.err⟩) rfl rfl (by (try dsimp only); exact cO.out) (by (try dsimp only); exact eT.out))
  refine Zk ?_
  refine Zr ?_
  obtain ⟨b68,hS⟩:=bS hS
  refine Zu (cK rfl rfl b68) ?_
  refine Zm ?_
  refine VL.jC ((bOr .u64 G2 (VY .u64 (IntKind.wrap .u64 (Q6 .u8 (sW.toNat:Int) 127)) (7*l8))),(l8+1)) [0,4,7] (fun _ _ h=>h) (go2 hS hK1) rfl
 replace hS:=gQ hS hK1
 refine Zx ?_
 refine Zq ?_
 cases hS
theorem eL (kY:Nat) (jB:cQ) {r:Int×bR} (hS:Sh.fD jB.pl=some r) :
 Ct Tryz.prog 223 [ptr kY 0] (jB.b.ok.and jB.err.ok) (bP kY [jB.b.val,i64 jB.at_,jB.err.val] 298) (X:=Int×cQ) (fun x=>i64 x.1) (fun x=>r=(x.1,x.2.pl)) (fun x=>(x.2.b.ok.and x.2.err.ok)) (fun x=>bP kY [x.2.b.val,i64 x.2.at_,x.2.err.val] 298):=by
 refine Zo Tryz.func223 Tryz.ntmps223 fun c => ?_
 unfold Sh.fD at hS
 refine Zq (Zr ?_)
 refine Zy ?_
 refine Zq (Zq (Zr ?_))
 refine Zm ?_
 refine Zu (aG rfl) ?_
 refine Zu (aC P6 rfl) ?_
 refine Zu (aT Y0 rfl rfl) ?_
 refine Zu (nD Tryz.underlying27 rfl) ?_
 refine Zl ?_
 refine rI hS (fun h10 hS => ?_) (fun h10 hS => ?_)
 ·
  refine Zq ?_
  cases hS
 refine Zk ?_
 refine Zq (Zr ?_)
 refine Zm ?_
 refine Zu (aG rfl) ?_
 refine Zu (aC rR rfl) ?_
 refine Zu (aT fG rfl rfl) ?_
 refine Zy ?_
 refine VC.keep (ρ':=[(0,ptr kY 0),(3,i64 jB.at_)]) [0,3] rfl ?_
 refine Zq (Zr ?_)
 refine Zm ?_
 obtain ⟨TK,aQJ,hS⟩:=aU hS
 refine VL.cA (R8 kY jB aQJ) rfl (by decide) ?_
 rintro ⟨aAe,aVh,aAf⟩ rfl
 try dsimp only
 refine Zm ?_
 refine Zu (bG rfl rfl) ?_
 refine Zu (bG rfl rfl) ?_
 refine Zy ?_
 refine Zq (Zq (Zr ?_))
 refine Zm ?_
 refine Zu (vJ rfl rfl) ?_
 refine Zl ?_
 refine rI hS (fun h21 hS => ?_) (fun h21 hS => ?_)
 ·
  refine Zq ?_
  cases hS
 refine Zk ?_
 refine VC.keep (ρ':=[(4,.int .u64 aAe)]) [4] rfl ?_
 refine Zq (Zr ?_)
 refine Zm ?_
 refine Zu (aDX rfl rfl (by decide)) ?_
 refine Zu (y4 Tryz.underlying271 Tryz.underlying2 rfl) ?_
 refine Zm ?_
 refine Zu (aOn rfl rfl) ?_
 refine Zu (y4 Tryz.underlying271 Tryz.underlying2 rfl) ?_
 refine Zu (aUf rfl) ?_
 refine Zu (aOs rfl rfl) ?_
 refine Zy ?_
 cases hS
 exact VC.ret (fA (.inr rfl) rfl rfl ((Q7 .i64 (IntKind.wrap .i64 (BP .u64 aAe 1)) (IntKind.wrap .i64 (0 - (IntKind.wrap .i64 (Q6 .u64 aAe 1))))),⟨aAf.b,aAf.at_,aAf.err⟩) rfl rfl (by (try dsimp only); exact cO.out) (by (try dsimp only); exact eT.out))
theorem kT (kY:Nat) (jB:cQ) {r:gR} (hS:Sh.lH jB.pl=some r) :
 Ct Tryz.prog 227 [ptr kY 0] (jB.b.ok.and jB.err.ok) (bP kY [jB.b.val,i64 jB.at_,jB.err.val] 298) (X:=Er) (fun x=>x.val) (fun x=>r=x.pl) (fun x=>x.ok) (fun x=>bP kY [jB.b.val,i64 jB.at_,jB.err.val] 298):=by
 refine Zo Tryz.func227 Tryz.ntmps227 fun c => ?_
 unfold Sh.lH at hS
 refine Zq (Zr ?_)
 refine Zy ?_
 refine Zq (Zr ?_)
 refine Zm ?_
 refine Zu (aG rfl) ?_
 refine Zu (aC P6 rfl) ?_
 refine Zu (aT Y0 rfl rfl) ?_
 refine Zy ?_
 cases hS
 exact VC.ret (fA (.inr rfl) rfl rfl jB.err rfl rfl (by (try dsimp only); exact cO.out) (by (try dsimp only); exact eT.out))
theorem gJ (kY:Nat) (jB:cQ) {r:aV×bR} (hS:Sh.gX jB.pl=some r) :
 Ct Tryz.prog 224 [ptr kY 0] (jB.b.ok.and jB.err.ok) (bP kY [jB.b.val,i64 jB.at_,jB.err.val] 298) (X:=aV×cQ) (fun x=>str x.1) (fun x=>r=(x.1,x.2.pl)) (fun x=>(x.2.b.ok.and x.2.err.ok)) (fun x=>bP kY [x.2.b.val,i64 x.2.at_,x.2.err.val] 298):=by
 refine Zo Tryz.func224 Tryz.ntmps224 fun c => ?_
 unfold Sh.gX at hS
 refine Zq (Zr ?_)
 refine Zy ?_
 refine Zq (Zr ?_)
 refine Zm ?_
 refine Zu (aG rfl) ?_
 refine Zu (aC rR rfl) ?_
 refine Zu (aT fG rfl rfl) ?_
 refine Zy ?_
 refine Zq (Zr ?_)
 refine Zm ?_
 obtain ⟨iJ,EZ,hS⟩:=aU hS
 refine VL.cA (eL kY jB EZ) rfl (by decide) ?_
 rintro ⟨qA,wT⟩ rfl
 try dsimp only
 refine Zy ?_
 refine Zq (Zb (Zq (Zr ?_)))
 refine Zm ?_
 refine Zu (aG rfl) ?_
 refine Zu (aC P6 rfl) ?_
 refine Zu (aT Y0 rfl rfl) ?_
 refine Zu (nD Tryz.underlying27 rfl) ?_
 refine Zy ?_
 refine VC.keep (ρ':=[(0,ptr kY 0),(3,i64 jB.at_),(4,i64 qA),(12,.bool (!decide (wT.err.pl.isNil=true)))]) [0,3,4,12] rfl ?_
 refine rI hS (fun h12 hS => ?_) (fun h12 hS => ?_)
 ·
  refine Zq ?_
  cases hS
 refine Zq (Zr ?_)
 refine Zm ?_
 refine Zu (dL rfl rfl) ?_
 refine Zy ?_
 refine Zc hS (fun h18 hS => ?_) (fun h18 hS => ?_)
 ·
  refine Zq ?_
  cases hS
 refine Zq ?_
 refine VC.draw ((List.range 13).map fun k=>(k,true)) mixed (by kernel_rfl) (by kernel_rfl) (by kernel_rfl) ?_
 refine Zw rfl (bT rfl) ?_
 refine Zw rfl (bT rfl) ?_
 refine Zw rfl (aG rfl) ?_
 refine Zw rfl (aC JP rfl) ?_
 refine Zw rfl (aT DO rfl rfl) ?_
 refine Zw rfl (dO (s:=wT.b) Tryz.underlying124 rfl) ?_
 refine Zw rfl (bT rfl) ?_
 refine Zw rfl (aG rfl) ?_
 refine Zw rfl (aC rR rfl) ?_
 refine Zw rfl (aT fG rfl rfl) ?_
 obtain ⟨b35,hS⟩:=bS hS
 refine Zw rfl (o7 rfl rfl b35) ?_
 refine Zw rfl (jF rfl rfl) ?_
 refine Zw rfl (fT rfl) ?_
 refine VD.to (fun _ _ h=>h) ?_
 refine VC.keep (ρ':=[(0,ptr kY 0),(3,i64 jB.at_),(4,i64 qA),(24,.bool (decide (((wT.b.l.length:Int) - wT.at_) < qA)))]) [0,3,4,24] rfl ?_
 refine Zc hS (fun h24 hS => ?_) (fun h24 hS => ?_)
 ·
  refine Zq ?_
  cases hS
 refine Zk ?_
 refine Zq ?_
 refine VC.draw ((List.range 17).map fun k=>(k,true)) mixed (by kernel_rfl) (by kernel_rfl) (by kernel_rfl) ?_
 refine Zw rfl (bT rfl) ?_
 refine Zw rfl (aG rfl) ?_
 refine Zw rfl (aC JP rfl) ?_
 refine Zw rfl (aT DO rfl rfl) ?_
 refine Zw rfl (bT rfl) ?_
 refine Zw rfl (aG rfl) ?_
 refine Zw rfl (aC rR rfl) ?_
 refine Zw rfl (aT fG rfl rfl) ?_
 refine Zw rfl (bT rfl) ?_
 refine Zw rfl (aG rfl) ?_
 refine Zw rfl (aC rR rfl) ?_
 refine Zw rfl (aT fG rfl rfl) ?_
 refine Zw rfl (bT rfl) ?_
 obtain ⟨b53,hS⟩:=bS hS
 refine Zw rfl (cK rfl rfl b53) ?_
 obtain ⟨b54,hS⟩:=bS hS
 refine VD.aVK rfl Tryz.underlying124 aE5 rfl rfl rfl b54.1 b54.2.1 (b54.2.2) (by decide) fun aD1 aSG Qs54_2 => ?_
 replace hS:=b5 aSG hS
 refine Zw rfl (aOo (s:=aD1) Tryz.underlying124 Tryz.underlying5 Tryz.underlying9 rfl) ?_
 refine Zw rfl (fT rfl) ?_
 refine VD.to (fun _ _ h=>h) ?_
 refine VC.keep (ρ':=[(0,ptr kY 0),(4,i64 qA),(5,str aD1.l)]) [0,4,5] rfl ?_
 refine Zq (Zr ?_)
 refine Zm ?_
 refine Zu (aG rfl) ?_
 refine Zu (aC rR rfl) ?_
 refine Zu (aT fG rfl rfl) ?_
 refine Zm ?_
 obtain ⟨b61,hS⟩:=bS hS
 refine Zu (cK rfl rfl b61) ?_
 refine Zu (aG rfl) ?_
 refine Zu (aC rR rfl) ?_
 refine Zv (vc:=[i64 (wT.at_+qA)]) (cs':=[wT.b.val,i64 (wT.at_+qA),wT.err.val]) rfl AE ?_
 refine Zl ?_
 refine VC.keep (ρ':=[(5,str aD1.l)]) [5] rfl ?_
 refine Zq (Zr ?_)
 refine Zy ?_
 cases hS
 exact VC.ret (fA (.inr rfl) rfl rfl (aD1.l,⟨wT.b,(wT.at_+qA),wT.err⟩) rfl rfl (by (try dsimp only); exact cO.out) (by (try dsimp only); exact eT.out))
theorem MD (j8:Nat) (bU:Sv aD) (gS:Nat) (cI:Nat) (a_1_:aY) (bV:Nat) (cP:cQ) {r:List aD×bR} (hS:Sh.yP bU.l a_1_ cP.pl=some r) :
 Ct Tryz.prog 302 [ptr j8 0,ptr gS 0] (cP.b.ok.and cP.err.ok) (Ow.star (Sv.own bU 42) (Ow.star (bP j8 [bU.val] 35) (Ow.star (bP bV [cP.b.val,i64 cP.at_,cP.err.val] 298) (Ow.star (bP cI [ptr bV 0,.bool a_1_.bad] 225) (bP gS [ptr cI 0] 221))))) (X:=Sv aD×cQ) (fun x => .tuple #[]) (fun x=>r=(x.1.l,x.2.pl)) (fun x=>(x.2.b.ok.and x.2.err.ok)) (fun x=>Ow.star (bP j8 [x.1.val] 35) (Ow.star (Sv.own x.1 42) (Ow.star (bP bV [x.2.b.val,i64 x.2.at_,x.2.err.val] 298) (Ow.star (bP cI [ptr bV 0,.bool a_1_.bad] 225) (bP gS [ptr cI 0] 221))))):=by
 refine Zo Tryz.func302 Tryz.ntmps302 fun c => ?_
 unfold Sh.yP at hS
 refine VC.draw [(0,true),(1,true),(2,true),(3,true),(4,true),(6,true),(7,true),(8,true),(9,true),(11,true),(12,true),(13,true),(14,true),(5,false),(10,false),(15,false),(16,true),(17,false),(18,false),(19,false)] mixed (by kernel_rfl) (by kernel_rfl) (by kernel_rfl) ?_
 refine Zw rfl (aT iN rfl rfl) ?_
 refine Zw rfl (aT dF rfl rfl) ?_
 refine Zw rfl (aG rfl) ?_
 refine Zw rfl (aC cM rfl) ?_
 refine Zw rfl (aT cZ rfl rfl) ?_
 refine Zw rfl (aT dF rfl rfl) ?_
 refine Zw rfl (aG rfl) ?_
 refine Zw rfl (aC cM rfl) ?_
 refine Zw rfl (aT cZ rfl rfl) ?_
 refine Zw rfl (aT dF rfl rfl) ?_
 refine Zw rfl (aG rfl) ?_
 refine Zw rfl (aC cM rfl) ?_
 refine Zw rfl (aT cZ rfl rfl) ?_
 refine VD.one rfl ?_
 obtain ⟨iR,lI,hS⟩:=aU hS
 refine VL.cA (gJ bV cP lI) rfl (by decide) ?_
 rintro ⟨lY,x8⟩ rfl
 try dsimp only
 refine VL.back (D':=[(14,ptr bV 0),(13,ptr cI 0),(12,ptr cI 0),(11,ptr cI 0),(9,ptr bV 0),(8,ptr cI 0),(7,ptr cI 0),(6,ptr cI 0),(0,bU.val)]) (by kernel_rfl) (aN.cons rfl (aT cZ rfl rfl) (aN.cons rfl (aC cM rfl) (aN.cons rfl (aG rfl) (aN.cons rfl (aT dF rfl rfl) (aN.cons rfl (aT cZ rfl rfl) (aN.cons rfl (aC cM rfl) (aN.cons rfl (aG rfl) (aN.cons rfl (aT dF rfl rfl) (aN.cons rfl (aT iN rfl rfl) (aN.nil)))))))))) ?_
 refine VD.one rfl ?_
 obtain ⟨fJ,E0,hS⟩:=aU hS
 refine VL.cA (eL bV x8 E0) rfl (by decide) ?_
 rintro ⟨r8,OA⟩ rfl
 try dsimp only
 refine VL.back (D':=[(14,ptr bV 0),(13,ptr cI 0),(12,ptr cI 0),(11,ptr cI 0),(0,bU.val)]) (by kernel_rfl) (aN.cons rfl (aT cZ rfl rfl) (aN.cons rfl (aC cM rfl) (aN.cons rfl (aG rfl) (aN.cons rfl (aT dF rfl rfl) (aN.cons rfl (aT iN rfl rfl) (aN.nil)))))) ?_
 refine VD.one rfl ?_
 obtain ⟨vW,K9,hS⟩:=aU hS
 refine VL.cA (gJ bV OA K9) rfl (by decide) ?_
 rintro ⟨sA,BJ⟩ rfl
 try dsimp only
 refine VL.back (D':=[(0,bU.val)]) (by kernel_rfl) (aN.cons rfl (aT iN rfl rfl) (aN.nil)) ?_
 refine Zw rfl (fH (vs:=[(0,str lY),(1,i64 r8),(2,str sA)]) (cs := #[str lY,i64 r8,str sA]) rfl (by kernel_rfl)) ?_
 refine VD.one rfl ?_
 refine VL.lit (α:=aD) (xs:=[.tmp 18]) (vs:=[.agg #[str lY,i64 r8,str sA]]) [⟨lY,r8,sA⟩] Tryz.underlying35 HP (by decide) rfl rfl rfl rfl (by decide) (fun _ _ _ _=>trivial) (by decide) (fun aBA UL => ?_) (by decide)
 replace hS:=b5 UL hS
 refine VL.back (D':=[(0,bU.val)]) (by kernel_rfl) (aN.cons rfl (aT iN rfl rfl) (aN.nil)) ?_
 refine VD.one rfl ?_
 obtain ⟨b20,hS⟩:=bS hS
 refine VL.app (s:=bU) (r:=aBA) Tryz.underlying35 P3 (by decide) rfl Fo.out (uW b20) (uX b20 (by decide)) (by decide) (fun S8 aCu => ?_)
 replace hS:=b5 aCu hS
 refine VL.back (D':=[]) (by kernel_rfl) (aN.nil) ?_
 refine VD.one rfl ?_
 refine Zv (vc:=[S8.val]) (cs':=[S8.val]) rfl W4 ?_
 refine VL.back (D':=[]) (by kernel_rfl) (aN.nil) ?_
 cases hS
 exact VD.nil (p9 (.inl rfl) rfl (S8,⟨BJ.b,BJ.at_,BJ.err⟩) rfl rfl (by (try dsimp only); exact cO.out) (by (try dsimp only); exact eT.out))
theorem NC (bN:Nat) (dB:aY) (aH:Nat) (bF:cQ) (bY:Nat) (bH:Sv aD) (bZ:Nat) {r:bR×aY×List aD} (hS:Sh.zU dB bF.pl bH.l=some r) :
 Ct Tryz.prog 219 [ptr bN 0,.func (.func 302) #[] #[ptr bY 0,ptr bZ 0]] (bF.b.ok.and bF.err.ok) (Ow.star (bP aH [bF.b.val,i64 bF.at_,bF.err.val] 298) (Ow.star (bP bN [ptr aH 0,.bool dB.bad] 225) (Ow.star (Sv.own bH 42) (Ow.star (bP bY [bH.val] 35) (bP bZ [ptr bN 0] 221))))) (X:=cQ×aY×Sv aD) (fun x => .tuple #[]) (fun x=>r=(x.1.pl,x.2.1,x.2.2.l)) (fun x=>(x.1.b.ok.and x.1.err.ok)) (fun x=>Ow.star (bP aH [x.1.b.val,i64 x.1.at_,x.1.err.val] 298) (Ow.star (bP bN [ptr aH 0,.bool x.2.1.bad] 225) (Ow.star (bP bY [x.2.2.val] 35) (Ow.star (Sv.own x.2.2 42) (bP bZ [ptr bN 0] 221))))):=by
 refine Zo Tryz.func219 Tryz.ntmps219 fun c => ?_
 unfold Sh.zU at hS
 refine Zq (Zr ?_)
 refine Zm ?_
 refine Zu (aG rfl) ?_
 refine Zu (aC cM rfl) ?_
 refine Zu (aT cZ rfl rfl) ?_
 obtain ⟨dG,lU,hS⟩:=aU hS
 refine VL.cA (eL aH bF lU) rfl (by decide) ?_
 rintro ⟨eR,dY⟩ rfl
 try dsimp only
 refine Zy ?_
 refine VC.gD (S:=Bool) (fun (eH:Bool)=>eH) (fun (eH:Bool)=>[(0,ptr bN 0),(1,.func (.func 302) #[] #[ptr bY 0,ptr bZ 0]),(4,i64 eR)]) (fun (eH:Bool)=>Mo.tt) (fun (eH:Bool)=>Ow.star (bP aH [dY.b.val,i64 dY.at_,dY.err.val] 298) (Ow.star (bP bN [ptr aH 0,.bool eH] 225) (Ow.star (bP bY [bH.val] 35) (Ow.star (bP bZ [ptr bN 0] 221) (Ow.star (Sv.own bH 42) (Ow.emp)))))) hS ?_ ?_
 ·
  clear hS
  intro k3 hS
  refine Zr ?_
  refine Zy ?_
  refine Zu (aG rfl) ?_
  refine Zu (aC iZ rfl) ?_
  refine Zu (aT nN rfl rfl) ?_
  refine Zm ?_
  refine uV 16 hS (fun h16 hS => ?_) (fun h16 hS => ?_)
  ·
   refine VL.runs 3 [(19,some true)] (by kernel_rfl) ?_
   refine Zu (aG rfl) ?_
   refine Zu (aC iZ rfl) ?_
   refine Zv (vc:=[.bool true]) (cs':=[ptr aH 0,.bool true]) rfl pP ?_
   refine VL.mt true [0,1,4] (fun _ _ h=>h) hS rfl
  refine Zg ?_
  refine Zh (dL rfl rfl) ?_
  refine Zf ?_
  refine Zu (aG rfl) ?_
  refine Zu (aC iZ rfl) ?_
  refine Zv (vc:=[.bool (decide (eR < 0))]) (cs':=[ptr aH 0,.bool (decide (eR < 0))]) rfl pP ?_
  refine VL.mt (decide (eR < 0)) [0,1,4] (fun _ _ h=>h) hS rfl
 clear hS
 rintro eH hS
 refine Zq (Zr ?_)
 refine Zy ?_
 refine Zb ?_
 refine VC.iter (S:=Int×Sv UInt8×Int×Er×Sv aD) (fun sg=>(sg.1,sg.2.1.l,sg.2.2.1,sg.2.2.2.1.pl,sg.2.2.2.2.l)) (fun sg=>[(0,ptr bN 0),(1,.func (.func 302) #[] #[ptr bY 0,ptr bZ 0]),(4,i64 eR),(5,i64 sg.1)]) (fun sg=>(sg.2.1.ok.and sg.2.2.2.1.ok)) (fun sg=>Ow.star (bP aH [sg.2.1.val,i64 sg.2.2.1,sg.2.2.2.1.val] 298) (Ow.star (bP bN [ptr aH 0,.bool eH] 225) (Ow.star (bP bY [sg.2.2.2.2.val] 35) (Ow.star (bP bZ [ptr bN 0] 221) (Ow.star (Sv.own sg.2.2.2.2 42) (Ow.emp)))))) (0,dY.b,dY.at_,dY.err,bH) [0,1,4,5] hS rfl ?_
 clear hS
 rintro ⟨gO,fK,fY,fO,jZ⟩ m1 y1 hS hK1
 refine Zq (Zq (Zr ?_))
 refine Zy ?_
 refine Zu (dL rfl rfl) ?_
 refine Zm ?_
 refine mF 25 hS (fun h25 hS => ?_) (fun h25 hS => ?_)
 ·
  refine Zg ?_
  refine Zh (aG rfl) ?_
  refine Zh (aC cM rfl) ?_
  refine Zh (aT cZ rfl rfl) ?_
  refine VL.guard rfl rfl ?_
  obtain ⟨sV,xX,hS⟩:=aU hS
  refine VL.cA (kT aH (⟨fK,fY,fO⟩:cQ) xX) rfl (by decide) ?_
  rintro qW rfl
  try dsimp only
  refine Zh (x9 Tryz.underlying27 rfl) ?_
  refine Zy ?_
  refine VC.keep (ρ':=[(0,ptr bN 0),(1,.func (.func 302) #[] #[ptr bY 0,ptr bZ 0]),(4,i64 eR),(5,i64 gO),(32,.bool (decide (qW.pl.isNil=true)))]) [0,1,4,5,32] rfl ?_
  refine Zc hS (fun h32 hS => ?_) (fun h32 hS => ?_)
  ·
   refine Zk ?_
   refine Zq (Zb (Zr ?_))
   refine Zm ?_
   obtain ⟨kX,AZ,hS⟩:=aU hS
   refine VL.HJ (vs:=[]) (caps:=[ptr bY 0,ptr bZ 0]) (MD bY jZ bZ bN (⟨eH⟩:aY) aH (⟨fK,fY,fO⟩:cQ) AZ) rfl rfl (by decide) ?_
   rintro ⟨x5,lX⟩ rfl
   try dsimp only
   refine Zl ?_
   refine Zr ?_
   refine Zm ?_
   obtain ⟨b34,hS⟩:=bS hS
   refine Zu (cK rfl rfl b34) ?_
   refine Za ?_
   refine VL.jC ((gO+1),lX.b,lX.at_,lX.err,x5) [0,1,4,5] (fun _ _ h=>h) (go2 hS hK1) rfl
  replace hS:=gQ hS hK1
  cases hS
  exact VC.exit (p9 (.inl rfl) rfl (⟨fK,fY,fO⟩,⟨eH⟩,jZ) rfl rfl (by (try dsimp only); exact cO.out) (by (try dsimp only); exact eT.out))
 refine VL.runs 7 [(32,some false)] (by kernel_rfl) ?_
 refine Zl ?_
 refine VC.vY rfl ?_
 replace hS:=gQ hS hK1
 cases hS
 exact VC.exit (p9 (.inl rfl) rfl (⟨fK,fY,fO⟩,⟨eH⟩,jZ) rfl rfl (by (try dsimp only); exact cO.out) (by (try dsimp only); exact eT.out))
theorem sH (bN:Nat) (dB:aY) (aH:Nat) (bF:cQ) {r:List aD×bR×aY} (hS:Sh.sG dB bF.pl=some r) :
 Ct Tryz.prog 221 [ptr bN 0] (bF.b.ok.and bF.err.ok) (Ow.star (bP aH [bF.b.val,i64 bF.at_,bF.err.val] 298) (bP bN [ptr aH 0,.bool dB.bad] 225)) (X:=Sv aD×cQ×aY) (fun x=>x.1.val) (fun x=>r=(x.1.l,x.2.1.pl,x.2.2)) (fun x=>(x.1.ok.and (x.2.1.b.ok.and x.2.1.err.ok))) (fun x=>Ow.star (bP aH [x.2.1.b.val,i64 x.2.1.at_,x.2.1.err.val] 298) (bP bN [ptr aH 0,.bool x.2.2.bad] 225)):=by
 refine Zo Tryz.func221 Tryz.ntmps221 fun c => ?_
 unfold Sh.sG at hS
 refine Zq (Zr ?_)
 refine VL.box (cs:=[ptr bN 0]) rfl rfl (by decide) fun iE => ?_
 refine Zy ?_
 refine Zq (Zr ?_)
 refine VL.alloc (cs:=[.slice none 0 0]) (by kernel_rfl) (by decide) fun jX => ?_
 refine Zl ?_
 refine Zq (Zr ?_)
 refine Zu (aT dF rfl rfl) ?_
 refine Zu (qH rfl) ?_
 refine VL.lR (⟨none,0,[]⟩:Sv aD) 42 ⟨rfl,rfl⟩ ?_
 refine VL.SY jX (cs':=[(⟨none,0,[]⟩:Sv aD).val]) rfl ?_
 obtain ⟨pV,LG,hS⟩:=aU hS
 refine VL.cA (NC bN dB aH bF jX (⟨none,0,[]⟩:Sv aD) iE LG) rfl (by decide) ?_
 rintro ⟨qE,FA,wD⟩ rfl
 try dsimp only
 refine Zl ?_
 refine Zq (Zr ?_)
 refine Zu (aT iN rfl rfl) ?_
 refine VL.shut wD 42 (fun _ _ _ _=>trivial) ?_
 obtain ⟨CH,F3,hS⟩:=aU hS
 refine VL.cR (eN wD F3) rfl (by decide) ?_
 rintro s5 rfl
 try dsimp only
 refine Zy ?_
 cases hS
 exact VC.ret (fA (.inr rfl) rfl rfl (s5,⟨qE.b,qE.at_,qE.err⟩,⟨FA.bad⟩) rfl rfl (by (try dsimp only); exact cO.out) (by (try dsimp only); exact eT.out))
theorem G0 (j8:Nat) (bU:Sv aK) (gS:Nat) (cI:Nat) (a_1_:aY) (bV:Nat) (cP:cQ) {r:List aK×bR} (hS:Sh.tY bU.l a_1_ cP.pl=some r) :
 Ct Tryz.prog 348 [ptr j8 0,ptr gS 0] (cP.b.ok.and cP.err.ok) (Ow.star (Sv.own bU 97) (Ow.star (bP j8 [bU.val] 36) (Ow.star (bP bV [cP.b.val,i64 cP.at_,cP.err.val] 298) (Ow.star (bP cI [ptr bV 0,.bool a_1_.bad] 225) (bP gS [ptr cI 0] 221))))) (X:=Sv aK×cQ) (fun x => .tuple #[]) (fun x=>r=(x.1.l,x.2.pl)) (fun x=>(x.2.b.ok.and x.2.err.ok)) (fun x=>Ow.star (bP j8 [x.1.val] 36) (Ow.star (Sv.own x.1 97) (Ow.star (bP bV [x.2.b.val,i64 x.2.at_,x.2.err.val] 298) (Ow.star (bP cI [ptr bV 0,.bool a_1_.bad] 225) (bP gS [ptr cI 0] 221))))):=by
 refine Zo Tryz.func348 Tryz.ntmps348 fun c => ?_
 unfold Sh.tY at hS
 refine VC.draw [(0,true),(1,true),(2,true),(3,true),(4,true),(6,true),(7,true),(8,true),(9,true),(11,true),(12,true),(13,true),(14,true),(16,true),(17,true),(18,true),(19,true),(21,true),(22,true),(23,true),(24,true),(26,true),(27,true),(28,true),(29,true),(5,false),(10,false),(15,false),(20,false),(25,false),(30,false),(31,true),(32,false),(33,false),(34,false)] mixed (by kernel_rfl) (by kernel_rfl) (by kernel_rfl) ?_
 refine Zw rfl (aT lW rfl rfl) ?_
 refine Zw rfl (aT dF rfl rfl) ?_
 refine Zw rfl (aG rfl) ?_
 refine Zw rfl (aC cM rfl) ?_
 refine Zw rfl (aT cZ rfl rfl) ?_
 refine Zw rfl (aT dF rfl rfl) ?_
 refine Zw rfl (aG rfl) ?_
 refine Zw rfl (aC cM rfl) ?_
 refine Zw rfl (aT cZ rfl rfl) ?_
 refine Zw rfl (aT dF rfl rfl) ?_
 refine Zw rfl (aG rfl) ?_
 refine Zw rfl (aC cM rfl) ?_
 refine Zw rfl (aT cZ rfl rfl) ?_
 refine Zw rfl (aT dF rfl rfl) ?_
 refine Zw rfl (aG rfl) ?_
 refine Zw rfl (aC cM rfl) ?_
 refine Zw rfl (aT cZ rfl rfl) ?_
 refine Zw rfl (aT dF rfl rfl) ?_
 refine Zw rfl (aG rfl) ?_
 refine Zw rfl (aC cM rfl) ?_
 refine Zw rfl (aT cZ rfl rfl) ?_
 refine Zw rfl (aT dF rfl rfl) ?_
 refine Zw rfl (aG rfl) ?_
 refine Zw rfl (aC cM rfl) ?_
 refine Zw rfl (aT cZ rfl rfl) ?_
 refine VD.one rfl ?_
 obtain ⟨iR,lI,hS⟩:=aU hS
 refine VL.cA (gJ bV cP lI) rfl (by decide) ?_
 rintro ⟨lY,x8⟩ rfl
 try dsimp only
 refine VL.back (D':=[(29,ptr bV 0),(28,ptr cI 0),(27,ptr cI 0),(26,ptr cI 0),(24,ptr bV 0),(23,ptr cI 0),(22,ptr cI 0),(21,ptr cI 0),(19,ptr bV 0),(18,ptr cI 0),(17,ptr cI 0),(16,ptr cI 0),(14,ptr bV 0),(13,ptr cI 0),(12,ptr cI 0),(11,ptr cI 0),(9,ptr bV 0),(8,ptr cI 0),(7,ptr cI 0),(6,ptr cI 0),(0,bU.val)]) (by kernel_rfl) (aN.cons rfl (aT cZ rfl rfl) (aN.cons rfl (aC cM rfl) (aN.cons rfl (aG rfl) (aN.cons rfl (aT dF rfl rfl) (aN.cons rfl (aT cZ rfl rfl) (aN.cons rfl (aC cM rfl) (aN.cons rfl (aG rfl) (aN.cons rfl (aT dF rfl rfl) (aN.cons rfl (aT cZ rfl rfl) (aN.cons rfl (aC cM rfl) (aN.cons rfl (aG rfl) (aN.cons rfl (aT dF rfl rfl) (aN.cons rfl (aT cZ rfl rfl) (aN.cons rfl (aC cM rfl) (aN.cons rfl (aG rfl) (aN.cons rfl (aT dF rfl rfl) (aN.cons rfl (aT cZ rfl rfl) (aN.cons rfl (aC cM rfl) (aN.cons rfl (aG rfl) (aN.cons rfl (aT dF rfl rfl) (aN.cons rfl (aT lW rfl rfl) (aN.nil)))))))))))))))))))))) ?_
 refine VD.one rfl ?_
 obtain ⟨fJ,E0,hS⟩:=aU hS
 refine VL.cA (eL bV x8 E0) rfl (by decide) ?_
 rintro ⟨r8,OA⟩ rfl
 try dsimp only
 refine VL.back (D':=[(29,ptr bV 0),(28,ptr cI 0),(27,ptr cI 0),(26,ptr cI 0),(24,ptr bV 0),(23,ptr cI 0),(22,ptr cI 0),(21,ptr cI 0),(19,ptr bV 0),(18,ptr cI 0),(17,ptr cI 0),(16,ptr cI 0),(14,ptr bV 0),(13,ptr cI 0),(12,ptr cI 0),(11,ptr cI 0),(0,bU.val)]) (by kernel_rfl) (aN.cons rfl (aT cZ rfl rfl) (aN.cons rfl (aC cM rfl) (aN.cons rfl (aG rfl) (aN.cons rfl (aT dF rfl rfl) (aN.cons rfl (aT cZ rfl rfl) (aN.cons rfl (aC cM rfl) (aN.cons rfl (aG rfl) (aN.cons rfl (aT dF rfl rfl) (aN.cons rfl (aT cZ rfl rfl) (aN.cons rfl (aC cM rfl) (aN.cons rfl (aG rfl) (aN.cons rfl (aT dF rfl rfl) (aN.cons rfl (aT cZ rfl rfl) (aN.cons rfl (aC cM rfl) (aN.cons rfl (aG rfl) (aN.cons rfl (aT dF rfl rfl) (aN.cons rfl (aT lW rfl rfl) (aN.nil)))))))))))))))))) ?_
 refine VD.one rfl ?_
 obtain ⟨vW,K9,hS⟩:=aU hS
 refine VL.cA (eL bV OA K9) rfl (by decide) ?_
 rintro ⟨sA,BJ⟩ rfl
 try dsimp only
 refine VL.back (D':=[(29,ptr bV 0),(28,ptr cI 0),(27,ptr cI 0),(26,ptr cI 0),(24,ptr bV 0),(23,ptr cI 0),(22,ptr cI 0),(21,ptr cI 0),(19,ptr bV 0),(18,ptr cI 0),(17,ptr cI 0),(16,ptr cI 0),(0,bU.val)]) (by kernel_rfl) (aN.cons rfl (aT cZ rfl rfl) (aN.cons rfl (aC cM rfl) (aN.cons rfl (aG rfl) (aN.cons rfl (aT dF rfl rfl) (aN.cons rfl (aT cZ rfl rfl) (aN.cons rfl (aC cM rfl) (aN.cons rfl (aG rfl) (aN.cons rfl (aT dF rfl rfl) (aN.cons rfl (aT cZ rfl rfl) (aN.cons rfl (aC cM rfl) (aN.cons rfl (aG rfl) (aN.cons rfl (aT dF rfl rfl) (aN.cons rfl (aT lW rfl rfl) (aN.nil)))))))))))))) ?_
 refine VD.one rfl ?_
 obtain ⟨aGr,aQY,hS⟩:=aU hS
 refine VL.cA (gJ bV BJ aQY) rfl (by decide) ?_
 rintro ⟨VI,aO7⟩ rfl
 try dsimp only
 refine VL.back (D':=[(29,ptr bV 0),(28,ptr cI 0),(27,ptr cI 0),(26,ptr cI 0),(24,ptr bV 0),(23,ptr cI 0),(22,ptr cI 0),(21,ptr cI 0),(0,bU.val)]) (by kernel_rfl) (aN.cons rfl (aT cZ rfl rfl) (aN.cons rfl (aC cM rfl) (aN.cons rfl (aG rfl) (aN.cons rfl (aT dF rfl rfl) (aN.cons rfl (aT cZ rfl rfl) (aN.cons rfl (aC cM rfl) (aN.cons rfl (aG rfl) (aN.cons rfl (aT dF rfl rfl) (aN.cons rfl (aT lW rfl rfl) (aN.nil)))))))))) ?_
 refine VD.one rfl ?_
 obtain ⟨X8,aCg,hS⟩:=aU hS
 refine VL.cA (eL bV aO7 aCg) rfl (by decide) ?_
 rintro ⟨J5,aOa⟩ rfl
 try dsimp only
 refine VL.back (D':=[(29,ptr bV 0),(28,ptr cI 0),(27,ptr cI 0),(26,ptr cI 0),(0,bU.val)]) (by kernel_rfl) (aN.cons rfl (aT cZ rfl rfl) (aN.cons rfl (aC cM rfl) (aN.cons rfl (aG rfl) (aN.cons rfl (aT dF rfl rfl) (aN.cons rfl (aT lW rfl rfl) (aN.nil)))))) ?_
 refine VD.one rfl ?_
 obtain ⟨PS,aCh,hS⟩:=aU hS
 refine VL.cA (eL bV aOa aCh) rfl (by decide) ?_
 rintro ⟨GR,aAn⟩ rfl
 try dsimp only
 refine VL.back (D':=[(0,bU.val)]) (by kernel_rfl) (aN.cons rfl (aT lW rfl rfl) (aN.nil)) ?_
 refine Zw rfl (fH (vs:=[(0,str lY),(1,i64 r8),(2,i64 sA),(3,str VI),(4,i64 J5),(5,i64 GR)]) (cs := #[str lY,i64 r8,i64 sA,str VI,i64 J5,i64 GR]) rfl (by kernel_rfl)) ?_
 refine VD.one rfl ?_
 refine VL.lit (α:=aK) (xs:=[.tmp 33]) (vs:=[.agg #[str lY,i64 r8,i64 sA,str VI,i64 J5,i64 GR]]) [⟨lY,r8,sA,VI,J5,GR⟩] Tryz.underlying36 aCm (by decide) rfl rfl rfl rfl (by decide) (fun _ _ _ _=>trivial) (by decide) (fun aVE aRy => ?_) (by decide)
 replace hS:=b5 aRy hS
 refine VL.back (D':=[(0,bU.val)]) (by kernel_rfl) (aN.cons rfl (aT lW rfl rfl) (aN.nil)) ?_
 refine VD.one rfl ?_
 obtain ⟨b35,hS⟩:=bS hS
 refine VL.app (s:=bU) (r:=aVE) Tryz.underlying36 UE (by decide) rfl Fo.out (uW b35) (uX b35 (by decide)) (by decide) (fun aGg aRz => ?_)
 replace hS:=b5 aRz hS
 refine VL.back (D':=[]) (by kernel_rfl) (aN.nil) ?_
 refine VD.one rfl ?_
 refine Zv (vc:=[aGg.val]) (cs':=[aGg.val]) rfl aG0 ?_
 refine VL.back (D':=[]) (by kernel_rfl) (aN.nil) ?_
 cases hS
 exact VD.nil (p9 (.inl rfl) rfl (aGg,⟨aAn.b,aAn.at_,aAn.err⟩) rfl rfl (by (try dsimp only); exact cO.out) (by (try dsimp only); exact eT.out))
theorem IZ (bN:Nat) (dB:aY) (aH:Nat) (bF:cQ) (bY:Nat) (bH:Sv aK) (bZ:Nat) {r:bR×aY×List aK} (hS:Sh.vK dB bF.pl bH.l=some r) :
 Ct Tryz.prog 219 [ptr bN 0,.func (.func 348) #[] #[ptr bY 0,ptr bZ 0]] (bF.b.ok.and bF.err.ok) (Ow.star (bP aH [bF.b.val,i64 bF.at_,bF.err.val] 298) (Ow.star (bP bN [ptr aH 0,.bool dB.bad] 225) (Ow.star (Sv.own bH 97) (Ow.star (bP bY [bH.val] 36) (bP bZ [ptr bN 0] 221))))) (X:=cQ×aY×Sv aK) (fun x => .tuple #[]) (fun x=>r=(x.1.pl,x.2.1,x.2.2.l)) (fun x=>(x.1.b.ok.and x.1.err.ok)) (fun x=>Ow.star (bP aH [x.1.b.val,i64 x.1.at_,x.1.err.val] 298) (Ow.star (bP bN [ptr aH 0,.bool x.2.1.bad] 225) (Ow.star (bP bY [x.2.2.val] 36) (Ow.star (Sv.own x.2.2 97) (bP bZ [ptr bN 0] 221))))):=by
 refine Zo Tryz.func219 Tryz.ntmps219 fun c => ?_
 unfold Sh.vK at hS
 refine Zq (Zr ?_)
 refine Zm ?_
 refine Zu (aG rfl) ?_
 refine Zu (aC cM rfl) ?_
 refine Zu (aT cZ rfl rfl) ?_
 obtain ⟨dG,lU,hS⟩:=aU hS
 refine VL.cA (eL aH bF lU) rfl (by decide) ?_
 rintro ⟨eR,dY⟩ rfl
 try dsimp only
 refine Zy ?_
 refine VC.gD (S:=Bool) (fun (eH:Bool)=>eH) (fun (eH:Bool)=>[(0,ptr bN 0),(1,.func (.func 348) #[] #[ptr bY 0,ptr bZ 0]),(4,i64 eR)]) (fun (eH:Bool)=>Mo.tt) (fun (eH:Bool)=>Ow.star (bP aH [dY.b.val,i64 dY.at_,dY.err.val] 298) (Ow.star (bP bN [ptr aH 0,.bool eH] 225) (Ow.star (bP bY [bH.val] 36) (Ow.star (bP bZ [ptr bN 0] 221) (Ow.star (Sv.own bH 97) (Ow.emp)))))) hS ?_ ?_
 ·
  clear hS
  intro k3 hS
  refine Zr ?_
  refine Zy ?_
  refine Zu (aG rfl) ?_
  refine Zu (aC iZ rfl) ?_
  refine Zu (aT nN rfl rfl) ?_
  refine Zm ?_
  refine uV 16 hS (fun h16 hS => ?_) (fun h16 hS => ?_)
  ·
   refine VL.runs 3 [(19,some true)] (by kernel_rfl) ?_
   refine Zu (aG rfl) ?_
   refine Zu (aC iZ rfl) ?_
   refine Zv (vc:=[.bool true]) (cs':=[ptr aH 0,.bool true]) rfl pP ?_
   refine VL.mt true [0,1,4] (fun _ _ h=>h) hS rfl
  refine Zg ?_
  refine Zh (dL rfl rfl) ?_
  refine Zf ?_
  refine Zu (aG rfl) ?_
  refine Zu (aC iZ rfl) ?_
  refine Zv (vc:=[.bool (decide (eR < 0))]) (cs':=[ptr aH 0,.bool (decide (eR < 0))]) rfl pP ?_
  refine VL.mt (decide (eR < 0)) [0,1,4] (fun _ _ h=>h) hS rfl
 clear hS
 rintro eH hS
 refine Zq (Zr ?_)
 refine Zy ?_
 refine Zb ?_
 refine VC.iter (S:=Int×Sv UInt8×Int×Er×Sv aK) (fun sg=>(sg.1,sg.2.1.l,sg.2.2.1,sg.2.2.2.1.pl,sg.2.2.2.2.l)) (fun sg=>[(0,ptr bN 0),(1,.func (.func 348) #[] #[ptr bY 0,ptr bZ 0]),(4,i64 eR),(5,i64 sg.1)]) (fun sg=>(sg.2.1.ok.and sg.2.2.2.1.ok)) (fun sg=>Ow.star (bP aH [sg.2.1.val,i64 sg.2.2.1,sg.2.2.2.1.val] 298) (Ow.star (bP bN [ptr aH 0,.bool eH] 225) (Ow.star (bP bY [sg.2.2.2.2.val] 36) (Ow.star (bP bZ [ptr bN 0] 221) (Ow.star (Sv.own sg.2.2.2.2 97) (Ow.emp)))))) (0,dY.b,dY.at_,dY.err,bH) [0,1,4,5] hS rfl ?_
 clear hS
 rintro ⟨gO,fK,fY,fO,jZ⟩ m1 y1 hS hK1
 refine Zq (Zq (Zr ?_))
 refine Zy ?_
 refine Zu (dL rfl rfl) ?_
 refine Zm ?_
 refine mF 25 hS (fun h25 hS => ?_) (fun h25 hS => ?_)
 ·
  refine Zg ?_
  refine Zh (aG rfl) ?_
  refine Zh (aC cM rfl) ?_
  refine Zh (aT cZ rfl rfl) ?_
  refine VL.guard rfl rfl ?_
  obtain ⟨sV,xX,hS⟩:=aU hS
  refine VL.cA (kT aH (⟨fK,fY,fO⟩:cQ) xX) rfl (by decide) ?_
  rintro qW rfl
  try dsimp only
  refine Zh (x9 Tryz.underlying27 rfl) ?_
  refine Zy ?_
  refine VC.keep (ρ':=[(0,ptr bN 0),(1,.func (.func 348) #[] #[ptr bY 0,ptr bZ 0]),(4,i64 eR),(5,i64 gO),(32,.bool (decide (qW.pl.isNil=true)))]) [0,1,4,5,32] rfl ?_
  refine Zc hS (fun h32 hS => ?_) (fun h32 hS => ?_)
  ·
   refine Zk ?_
   refine Zq (Zb (Zr ?_))
   refine Zm ?_
   obtain ⟨kX,AZ,hS⟩:=aU hS
   refine VL.HJ (vs:=[]) (caps:=[ptr bY 0,ptr bZ 0]) (G0 bY jZ bZ bN (⟨eH⟩:aY) aH (⟨fK,fY,fO⟩:cQ) AZ) rfl rfl (by decide) ?_
   rintro ⟨x5,lX⟩ rfl
   try dsimp only
   refine Zl ?_
   refine Zr ?_
   refine Zm ?_
   obtain ⟨b34,hS⟩:=bS hS
   refine Zu (cK rfl rfl b34) ?_
   refine Za ?_
   refine VL.jC ((gO+1),lX.b,lX.at_,lX.err,x5) [0,1,4,5] (fun _ _ h=>h) (go2 hS hK1) rfl
  replace hS:=gQ hS hK1
  cases hS
  exact VC.exit (p9 (.inl rfl) rfl (⟨fK,fY,fO⟩,⟨eH⟩,jZ) rfl rfl (by (try dsimp only); exact cO.out) (by (try dsimp only); exact eT.out))
 refine VL.runs 7 [(32,some false)] (by kernel_rfl) ?_
 refine Zl ?_
 refine VC.vY rfl ?_
 replace hS:=gQ hS hK1
 cases hS
 exact VC.exit (p9 (.inl rfl) rfl (⟨fK,fY,fO⟩,⟨eH⟩,jZ) rfl rfl (by (try dsimp only); exact cO.out) (by (try dsimp only); exact eT.out))
theorem fU (aB:Sv aK) {r:List aK} (hS:Sh.eO aB.l=some r) :
 Ct Tryz.prog 30 [aB.val] aB.ok (Ow.emp) (X:=Sv aK) (fun x=>x.val) (fun x=>r=x.l) (fun x=>x.ok) (fun x=>Ow.emp):=by
 refine Zo Tryz.func30 Tryz.ntmps30 fun c => ?_
 unfold Sh.eO at hS
 refine Zq (Zr ?_)
 refine Zy ?_
 refine Zq (Zr ?_)
 refine Zy ?_
 refine Zu (dO (s:=aB) Tryz.underlying36 rfl) ?_
 refine Zm ?_
 refine Zu (dO (s:=aB) Tryz.underlying36 rfl) ?_
 obtain ⟨b8,hS⟩:=bS hS
 refine VL.M7 Tryz.underlying36 jM rfl rfl rfl b8.1 (b8.2) (by decide) fun wZ qU => ?_
 replace hS:=b5 qU hS
 refine Zy ?_
 cases hS
 exact VC.ret (fA (.inr rfl) rfl rfl wZ rfl rfl (by (try dsimp only); exact cO.out) (fun _ _=>trivial))
theorem oW (bN:Nat) (dB:aY) (aH:Nat) (bF:cQ) {r:List aK×bR×aY} (hS:Sh.rD dB bF.pl=some r) :
 Ct Tryz.prog 295 [ptr bN 0] (bF.b.ok.and bF.err.ok) (Ow.star (bP aH [bF.b.val,i64 bF.at_,bF.err.val] 298) (bP bN [ptr aH 0,.bool dB.bad] 225)) (X:=Sv aK×cQ×aY) (fun x=>x.1.val) (fun x=>r=(x.1.l,x.2.1.pl,x.2.2)) (fun x=>(x.1.ok.and (x.2.1.b.ok.and x.2.1.err.ok))) (fun x=>Ow.star (bP aH [x.2.1.b.val,i64 x.2.1.at_,x.2.1.err.val] 298) (bP bN [ptr aH 0,.bool x.2.2.bad] 225)):=by
 refine Zo Tryz.func295 Tryz.ntmps295 fun c => ?_
 unfold Sh.rD at hS
 refine Zq (Zr ?_)
 refine VL.box (cs:=[ptr bN 0]) rfl rfl (by decide) fun iE => ?_
 refine Zy ?_
 refine Zq (Zr ?_)
 refine VL.alloc (cs:=[.slice none 0 0]) (by kernel_rfl) (by decide) fun jX => ?_
 refine Zl ?_
 refine Zq (Zr ?_)
 refine Zu (aT dF rfl rfl) ?_
 refine Zu (qH rfl) ?_
 refine VL.lR (⟨none,0,[]⟩:Sv aK) 97 ⟨rfl,rfl⟩ ?_
 refine VL.SY jX (cs':=[(⟨none,0,[]⟩:Sv aK).val]) rfl ?_
 obtain ⟨pV,LG,hS⟩:=aU hS
 refine VL.cA (IZ bN dB aH bF jX (⟨none,0,[]⟩:Sv aK) iE LG) rfl (by decide) ?_
 rintro ⟨qE,FA,wD⟩ rfl
 try dsimp only
 refine Zl ?_
 refine Zq (Zr ?_)
 refine Zu (aT lW rfl rfl) ?_
 refine VL.shut wD 97 (fun _ _ _ _=>trivial) ?_
 obtain ⟨CH,F3,hS⟩:=aU hS
 refine VL.cR (fU wD F3) rfl (by decide) ?_
 rintro s5 rfl
 try dsimp only
 refine Zy ?_
 cases hS
 exact VC.ret (fA (.inr rfl) rfl rfl (s5,⟨qE.b,qE.at_,qE.err⟩,⟨FA.bad⟩) rfl rfl (by (try dsimp only); exact cO.out) (by (try dsimp only); exact eT.out))
theorem MB (j8:Nat) (bU:iX) (gS:Nat) (cI:Nat) (a_1_:aY) (bV:Nat) (cP:cQ) {r:kN×bR} (hS:Sh.yN bU.pl a_1_ cP.pl=some r) :
 Ct Tryz.prog 296 [ptr j8 0,ptr gS 0] (bU.work.ok.and (bU.index.ok.and (bU.fV.ok.and (bU.gK.ok.and (bU.fW.ok.and (bU.gL.ok.and ((zI bU.fB.l).and (cP.b.ok.and cP.err.ok)))))))) (Ow.star (Sv.own bU.refs 253) (Ow.star (Sv.own bU.fB 258) (Ow.star (bP j8 (kS bU) 54) (Ow.star (bP bV [cP.b.val,i64 cP.at_,cP.err.val] 298) (Ow.star (bP cI [ptr bV 0,.bool a_1_.bad] 225) (bP gS [ptr cI 0] 221)))))) (X:=iX×cQ) (fun x => .tuple #[]) (fun x=>r=(x.1.pl,x.2.pl)) (fun x=>(x.1.work.ok.and (x.1.index.ok.and (x.1.fV.ok.and (x.1.gK.ok.and (x.1.fW.ok.and (x.1.gL.ok.and ((zI x.1.fB.l).and (x.2.b.ok.and x.2.err.ok))))))))) (fun x=>Ow.star (bP j8 (kS x.1) 54) (Ow.star (Sv.own x.1.refs 253) (Ow.star (Sv.own x.1.fB 258) (Ow.star (bP bV [x.2.b.val,i64 x.2.at_,x.2.err.val] 298) (Ow.star (bP cI [ptr bV 0,.bool a_1_.bad] 225) (bP gS [ptr cI 0] 221)))))):=by
 refine Zo Tryz.func296 Tryz.ntmps296 fun c => ?_
 unfold Sh.yN at hS
 refine VC.draw [(0,true),(1,true),(2,true),(3,true),(4,true),(5,true),(7,true),(8,true),(9,true),(10,true),(6,false),(11,false),(12,true),(13,false),(14,false),(15,true),(16,false)] mixed (by kernel_rfl) (by kernel_rfl) (by kernel_rfl) ?_
 refine Zw rfl (aC j4 rfl) ?_
 refine Zw rfl (aT rW rfl rfl) ?_
 refine Zw rfl (aT dF rfl rfl) ?_
 refine Zw rfl (aG rfl) ?_
 refine Zw rfl (aC cM rfl) ?_
 refine Zw rfl (aT cZ rfl rfl) ?_
 refine Zw rfl (aT dF rfl rfl) ?_
 refine Zw rfl (aG rfl) ?_
 refine Zw rfl (aC cM rfl) ?_
 refine Zw rfl (aT cZ rfl rfl) ?_
 refine VD.one rfl ?_
 obtain ⟨B6,F1,hS⟩:=aU hS
 refine VL.cA (gJ bV cP F1) rfl (by decide) ?_
 rintro ⟨VP,aS6⟩ rfl
 try dsimp only
 refine VL.back (D':=[(10,ptr bV 0),(9,ptr cI 0),(8,ptr cI 0),(7,ptr cI 0),(1,bU.refs.val),(0,ptr j8 2)]) (by kernel_rfl) (aN.cons rfl (aT cZ rfl rfl) (aN.cons rfl (aC cM rfl) (aN.cons rfl (aG rfl) (aN.cons rfl (aT dF rfl rfl) (aN.cons rfl (aT rW rfl rfl) (aN.cons rfl (aC j4 rfl) (aN.nil))))))) ?_
 refine VD.one rfl ?_
 obtain ⟨jH,K5,hS⟩:=aU hS
 refine VL.cA (eL bV aS6 K5) rfl (by decide) ?_
 rintro ⟨VB,aAc⟩ rfl
 try dsimp only
 refine VL.back (D':=[(1,bU.refs.val),(0,ptr j8 2)]) (by kernel_rfl) (aN.cons rfl (aT rW rfl rfl) (aN.cons rfl (aC j4 rfl) (aN.nil))) ?_
 refine Zw rfl (fH (vs:=[(0,str VP),(1,i64 VB)]) (cs := #[str VP,i64 VB]) rfl (by kernel_rfl)) ?_
 refine VD.one rfl ?_
 refine VL.lit (α:=eG) (xs:=[.tmp 14]) (vs:=[.agg #[str VP,i64 VB]]) [⟨VP,VB⟩] Tryz.underlying45 aE3 (by decide) rfl rfl rfl rfl (by decide) (fun _ _ _ _=>trivial) (by decide) (fun aUk aR7 => ?_) (by decide)
 replace hS:=b5 aR7 hS
 refine VL.back (D':=[(1,bU.refs.val),(0,ptr j8 2)]) (by kernel_rfl) (aN.cons rfl (aT rW rfl rfl) (aN.cons rfl (aC j4 rfl) (aN.nil))) ?_
 refine VD.one rfl ?_
 obtain ⟨b16,hS⟩:=bS hS
 refine VL.app (s:=bU.refs) (r:=aUk) Tryz.underlying45 UD (by decide) rfl Fo.out (uW b16) (uX b16 (by decide)) (by decide) (fun S6 UK => ?_)
 replace hS:=b5 UK hS
 refine VL.back (D':=[]) (by kernel_rfl) (aN.nil) ?_
 refine Zw rfl (aC j4 rfl) ?_
 refine VD.one rfl ?_
 refine Zv (vc:=[S6.val]) (cs':=[bU.work.val,bU.index.val,S6.val,str bU.cU,i64 bU.cV,str bU.j5,i64 bU.iW,str bU.j7,bU.fV.val,bU.gK.val,i64 bU.j6,str bU.hG,str bU.eX,i64 bU.eY,bU.fW.val,bU.gL.val,bU.fB.val]) rfl W5 ?_
 refine VL.back (D':=[]) (by kernel_rfl) (aN.nil) ?_
 cases hS
 exact VD.nil (p9 (.inl rfl) rfl (⟨bU.work,bU.index,S6,bU.cU,bU.cV,bU.j5,bU.iW,bU.j7,bU.fV,bU.gK,bU.j6,bU.hG,bU.eX,bU.eY,bU.fW,bU.gL,bU.fB⟩,⟨aAc.b,aAc.at_,aAc.err⟩) rfl rfl (by (try dsimp only); exact cO.out) (by (try dsimp only); exact eT.out))
theorem sO (bN:Nat) (dB:aY) (aH:Nat) (bF:cQ) (bY:Nat) (bH:iX) (bZ:Nat) {r:bR×aY×kN} (hS:Sh.vL dB bF.pl bH.pl=some r) :
 Ct Tryz.prog 219 [ptr bN 0,.func (.func 296) #[] #[ptr bY 0,ptr bZ 0]] (bF.b.ok.and (bF.err.ok.and (bH.work.ok.and (bH.index.ok.and (bH.fV.ok.and (bH.gK.ok.and (bH.fW.ok.and (bH.gL.ok.and (zI bH.fB.l))))))))) (Ow.star (bP aH [bF.b.val,i64 bF.at_,bF.err.val] 298) (Ow.star (bP bN [ptr aH 0,.bool dB.bad] 225) (Ow.star (Sv.own bH.refs 253) (Ow.star (Sv.own bH.fB 258) (Ow.star (bP bY (kS bH) 54) (bP bZ [ptr bN 0] 221)))))) (X:=cQ×aY×iX) (fun x => .tuple #[]) (fun x=>r=(x.1.pl,x.2.1,x.2.2.pl)) (fun x=>(x.1.b.ok.and (x.1.err.ok.and (x.2.2.work.ok.and (x.2.2.index.ok.and (x.2.2.fV.ok.and (x.2.2.gK.ok.and (x.2.2.fW.ok.and (x.2.2.gL.ok.and (zI x.2.2.fB.l)))))))))) (fun x=>Ow.star (bP aH [x.1.b.val,i64 x.1.at_,x.1.err.val] 298) (Ow.star (bP bN [ptr aH 0,.bool x.2.1.bad] 225) (Ow.star (bP bY (kS x.2.2) 54) (Ow.star (Sv.own x.2.2.refs 253) (Ow.star (Sv.own x.2.2.fB 258) (bP bZ [ptr bN 0] 221)))))):=by
 refine Zo Tryz.func219 Tryz.ntmps219 fun c => ?_
 unfold Sh.vL at hS
 refine Zq (Zr ?_)
 refine Zm ?_
 refine Zu (aG rfl) ?_
 refine Zu (aC cM rfl) ?_
 refine Zu (aT cZ rfl rfl) ?_
 obtain ⟨dG,lU,hS⟩:=aU hS
 refine VL.cA (eL aH bF lU) rfl (by decide) ?_
 rintro ⟨eR,dY⟩ rfl
 try dsimp only
 refine Zy ?_
 refine VC.gD (S:=Bool) (fun (eH:Bool)=>eH) (fun (eH:Bool)=>[(0,ptr bN 0),(1,.func (.func 296) #[] #[ptr bY 0,ptr bZ 0]),(4,i64 eR)]) (fun (eH:Bool)=>Mo.tt) (fun (eH:Bool)=>Ow.star (bP aH [dY.b.val,i64 dY.at_,dY.err.val] 298) (Ow.star (bP bN [ptr aH 0,.bool eH] 225) (Ow.star (bP bY (kS bH) 54) (Ow.star (bP bZ [ptr bN 0] 221) (Ow.star (Sv.own bH.refs 253) (Ow.star (Sv.own bH.fB 258) (Ow.emp))))))) hS ?_ ?_
 ·
  clear hS
  intro k3 hS
  refine Zr ?_
  refine Zy ?_
  refine Zu (aG rfl) ?_
  refine Zu (aC iZ rfl) ?_
  refine Zu (aT nN rfl rfl) ?_
  refine Zm ?_
  refine uV 16 hS (fun h16 hS => ?_) (fun h16 hS => ?_)
  ·
   refine VL.runs 3 [(19,some true)] (by kernel_rfl) ?_
   refine Zu (aG rfl) ?_
   refine Zu (aC iZ rfl) ?_
   refine Zv (vc:=[.bool true]) (cs':=[ptr aH 0,.bool true]) rfl pP ?_
   refine VL.mt true [0,1,4] (fun _ _ h=>h) hS rfl
  refine Zg ?_
  refine Zh (dL rfl rfl) ?_
  refine Zf ?_
  refine Zu (aG rfl) ?_
  refine Zu (aC iZ rfl) ?_
  refine Zv (vc:=[.bool (decide (eR < 0))]) (cs':=[ptr aH 0,.bool (decide (eR < 0))]) rfl pP ?_
  refine VL.mt (decide (eR < 0)) [0,1,4] (fun _ _ h=>h) hS rfl
 clear hS
 rintro eH hS
 refine Zq (Zr ?_)
 refine Zy ?_
 refine Zb ?_
 refine VC.iter (S:=Int×Sv UInt8×Int×Er×Sv aD×Sv aK×Sv eG×aV×Int×aV×Int×aV×Sv cT×Sv cT×Int×aV×aV×Int×Sv aK×Sv aD×Sv dR) (fun sg=>(sg.1,sg.2.1.l,sg.2.2.1,sg.2.2.2.1.pl,sg.2.2.2.2.1.l,sg.2.2.2.2.2.1.l,sg.2.2.2.2.2.2.1.l,sg.2.2.2.2.2.2.2.1,sg.2.2.2.2.2.2.2.2.1,sg.2.2.2.2.2.2.2.2.2.1,sg.2.2.2.2.2.2.2.2.2.2.1,sg.2.2.2.2.2.2.2.2.2.2.2.1,sg.2.2.2.2.2.2.2.2.2.2.2.2.1.l,sg.2.2.2.2.2.2.2.2.2.2.2.2.2.1.l,sg.2.2.2.2.2.2.2.2.2.2.2.2.2.2.1,sg.2.2.2.2.2.2.2.2.2.2.2.2.2.2.2.1,sg.2.2.2.2.2.2.2.2.2.2.2.2.2.2.2.2.1,sg.2.2.2.2.2.2.2.2.2.2.2.2.2.2.2.2.2.1,sg.2.2.2.2.2.2.2.2.2.2.2.2.2.2.2.2.2.2.1.l,sg.2.2.2.2.2.2.2.2.2.2.2.2.2.2.2.2.2.2.2.1.l,(sg.2.2.2.2.2.2.2.2.2.2.2.2.2.2.2.2.2.2.2.2.l.map dR.pl))) (fun sg=>[(0,ptr bN 0),(1,.func (.func 296) #[] #[ptr bY 0,ptr bZ 0]),(4,i64 eR),(5,i64 sg.1)]) (fun sg=>(sg.2.1.ok.and (sg.2.2.2.1.ok.and (sg.2.2.2.2.1.ok.and (sg.2.2.2.2.2.1.ok.and (sg.2.2.2.2.2.2.2.2.2.2.2.2.1.ok.and (sg.2.2.2.2.2.2.2.2.2.2.2.2.2.1.ok.and (sg.2.2.2.2.2.2.2.2.2.2.2.2.2.2.2.2.2.2.1.ok.and (sg.2.2.2.2.2.2.2.2.2.2.2.2.2.2.2.2.2.2.2.1.ok.and (zI sg.2.2.2.2.2.2.2.2.2.2.2.2.2.2.2.2.2.2.2.2.l)))))))))) (fun sg=>Ow.star (bP aH [sg.2.1.val,i64 sg.2.2.1,sg.2.2.2.1.val] 298) (Ow.star (bP bN [ptr aH 0,.bool eH] 225) (Ow.star (bP bY [sg.2.2.2.2.1.val,sg.2.2.2.2.2.1.val,sg.2.2.2.2.2.2.1.val,str sg.2.2.2.2.2.2.2.1,i64 sg.2.2.2.2.2.2.2.2.1,str sg.2.2.2.2.2.2.2.2.2.1,i64 sg.2.2.2.2.2.2.2.2.2.2.1,str sg.2.2.2.2.2.2.2.2.2.2.2.1,sg.2.2.2.2.2.2.2.2.2.2.2.2.1.val,sg.2.2.2.2.2.2.2.2.2.2.2.2.2.1.val,i64 sg.2.2.2.2.2.2.2.2.2.2.2.2.2.2.1,str sg.2.2.2.2.2.2.2.2.2.2.2.2.2.2.2.1,str sg.2.2.2.2.2.2.2.2.2.2.2.2.2.2.2.2.1,i64 sg.2.2.2.2.2.2.2.2.2.2.2.2.2.2.2.2.2.1,sg.2.2.2.2.2.2.2.2.2.2.2.2.2.2.2.2.2.2.1.val,sg.2.2.2.2.2.2.2.2.2.2.2.2.2.2.2.2.2.2.2.1.val,sg.2.2.2.2.2.2.2.2.2.2.2.2.2.2.2.2.2.2.2.2.val] 54) (Ow.star (bP bZ [ptr bN 0] 221) (Ow.star (Sv.own sg.2.2.2.2.2.2.1 253) (Ow.star (Sv.own sg.2.2.2.2.2.2.2.2.2.2.2.2.2.2.2.2.2.2.2.2 258) (Ow.emp))))))) (0,dY.b,dY.at_,dY.err,bH.work,bH.index,bH.refs,bH.cU,bH.cV,bH.j5,bH.iW,bH.j7,bH.fV,bH.gK,bH.j6,bH.hG,bH.eX,bH.eY,bH.fW,bH.gL,bH.fB) [0,1,4,5] hS rfl ?_
 clear hS
 rintro ⟨gO,fK,fY,fO,jZ,JJ,RM,RO,RQ,RS,RU,RW,RY,R1,KI,KK,KM,KO,KQ,KS,KU⟩ m1 y1 hS hK1
 refine Zq (Zq (Zr ?_))
 refine Zy ?_
 refine Zu (dL rfl rfl) ?_
 refine Zm ?_
 refine mF 25 hS (fun h25 hS => ?_) (fun h25 hS => ?_)
 ·
  refine Zg ?_
  refine Zh (aG rfl) ?_
  refine Zh (aC cM rfl) ?_
  refine Zh (aT cZ rfl rfl) ?_
  refine VL.guard rfl rfl ?_
  obtain ⟨aJK,aLf,hS⟩:=aU hS
  refine VL.cA (kT aH (⟨fK,fY,fO⟩:cQ) aLf) rfl (by decide) ?_
  rintro aK7 rfl
  try dsimp only
  refine Zh (x9 Tryz.underlying27 rfl) ?_
  refine Zy ?_
  refine VC.keep (ρ':=[(0,ptr bN 0),(1,.func (.func 296) #[] #[ptr bY 0,ptr bZ 0]),(4,i64 eR),(5,i64 gO),(32,.bool (decide (aK7.pl.isNil=true)))]) [0,1,4,5,32] rfl ?_
  refine Zc hS (fun h32 hS => ?_) (fun h32 hS => ?_)
  ·
   refine Zk ?_
   refine Zq (Zb (Zr ?_))
   refine Zm ?_
   obtain ⟨oX,aLq,hS⟩:=aU hS
   refine VL.HJ (vs:=[]) (caps:=[ptr bY 0,ptr bZ 0]) (MB bY (⟨jZ,JJ,RM,RO,RQ,RS,RU,RW,RY,R1,KI,KK,KM,KO,KQ,KS,KU⟩:iX) bZ bN (⟨eH⟩:aY) aH (⟨fK,fY,fO⟩:cQ) aLq) rfl rfl (by decide) ?_
   rintro ⟨nB,XJ⟩ rfl
   try dsimp only
   refine Zl ?_
   refine Zr ?_
   refine Zm ?_
   obtain ⟨b34,hS⟩:=bS hS
   refine Zu (cK rfl rfl b34) ?_
   refine Za ?_
   refine VL.jC ((gO+1),XJ.b,XJ.at_,XJ.err,nB.work,nB.index,nB.refs,nB.cU,nB.cV,nB.j5,nB.iW,nB.j7,nB.fV,nB.gK,nB.j6,nB.hG,nB.eX,nB.eY,nB.fW,nB.gL,nB.fB) [0,1,4,5] (fun _ _ h=>h) (go2 hS hK1) rfl
  replace hS:=gQ hS hK1
  cases hS
  exact VC.exit (p9 (.inl rfl) rfl (⟨fK,fY,fO⟩,⟨eH⟩,⟨jZ,JJ,RM,RO,RQ,RS,RU,RW,RY,R1,KI,KK,KM,KO,KQ,KS,KU⟩) rfl rfl (by (try dsimp only); exact cO.out) (by (try dsimp only); exact eT.out))
 refine VL.runs 7 [(32,some false)] (by kernel_rfl) ?_
 refine Zl ?_
 refine VC.vY rfl ?_
 replace hS:=gQ hS hK1
 cases hS
 exact VC.exit (p9 (.inl rfl) rfl (⟨fK,fY,fO⟩,⟨eH⟩,⟨jZ,JJ,RM,RO,RQ,RS,RU,RW,RY,R1,KI,KK,KM,KO,KQ,KS,KU⟩) rfl rfl (by (try dsimp only); exact cO.out) (by (try dsimp only); exact eT.out))
theorem rE (bN:Nat) (dB:aY) (aH:Nat) (bF:cQ) {r:nI×bR} (hS:Sh.uQ dB bF.pl=some r) :
 Ct Tryz.prog 297 [ptr bN 0] (bF.b.ok.and bF.err.ok) (Ow.star (bP aH [bF.b.val,i64 bF.at_,bF.err.val] 298) (bP bN [ptr aH 0,.bool dB.bad] 225)) (X:=nI×cQ) (fun x => .agg #[str x.1.branch,i64 x.1.c8]) (fun x=>r=(x.1,x.2.pl)) (fun x=>(x.2.b.ok.and x.2.err.ok)) (fun x=>Ow.star (bP aH [x.2.b.val,i64 x.2.at_,x.2.err.val] 298) (bP bN [ptr aH 0,.bool dB.bad] 225)):=by
 refine Zo Tryz.func297 Tryz.ntmps297 fun c => ?_
 unfold Sh.uQ at hS
 refine Zq (Zr ?_)
 refine VL.alloc (cs:=[str [],i64 0]) (by kernel_rfl) (by decide) fun eP => ?_
 refine Zl ?_
 refine Zq ?_
 refine VC.draw [(0,true),(1,true),(2,true),(3,true),(5,true),(6,true),(7,true),(8,true),(4,false),(9,false),(10,true),(11,false)] mixed (by kernel_rfl) (by kernel_rfl) (by kernel_rfl) ?_
 refine Zw rfl (bT rfl) ?_
 refine Zw rfl (aG rfl) ?_
 refine Zw rfl (aC cM rfl) ?_
 refine Zw rfl (aT cZ rfl rfl) ?_
 refine Zw rfl (bT rfl) ?_
 refine Zw rfl (aG rfl) ?_
 refine Zw rfl (aC cM rfl) ?_
 refine Zw rfl (aT cZ rfl rfl) ?_
 refine VD.one rfl ?_
 obtain ⟨uF,zJ,hS⟩:=aU hS
 refine VL.cA (gJ aH bF zJ) rfl (by decide) ?_
 rintro ⟨mS,VO⟩ rfl
 try dsimp only
 refine VL.back (D':=[(8,ptr aH 0),(7,ptr bN 0),(6,ptr bN 0)]) (by kernel_rfl) (aN.cons rfl (aT cZ rfl rfl) (aN.cons rfl (aC cM rfl) (aN.cons rfl (aG rfl) (aN.nil)))) ?_
 refine VD.one rfl ?_
 obtain ⟨kH,rU,hS⟩:=aU hS
 refine VL.cA (eL aH VO rU) rfl (by decide) ?_
 rintro ⟨fN,GM⟩ rfl
 try dsimp only
 refine VL.back (D':=[]) (by kernel_rfl) (aN.nil) ?_
 refine Zw rfl (fH (vs:=[(0,str mS),(1,i64 fN)]) (cs := #[str mS,i64 fN]) rfl (by kernel_rfl)) ?_
 refine VD.one rfl ?_
 refine Zv (vc:=[str mS,i64 fN]) (cs':=[str mS,i64 fN]) rfl SG ?_
 refine VL.back (D':=[]) (by kernel_rfl) (aN.nil) ?_
 refine VD.to (fun _ _ h=>h) ?_
 refine VC.keep (ρ':=[(2,ptr eP 0)]) [2] rfl ?_
 cases hS
 exact VC.ret (jV (vs:=[.agg #[str mS,i64 fN]]) (.inr rfl) rfl (eW.cell UC rfl rfl Rd.blk (eW.nil)) (⟨mS,fN⟩,⟨GM.b,GM.at_,GM.err⟩) rfl rfl (by (try dsimp only); exact cO.out) (by (try dsimp only); exact eT.out))
theorem I6 (j8:Nat) (bU:Sv cT) (gS:Nat) (cI:Nat) (a_1_:aY) (bV:Nat) (cP:cQ) {r:List cT×bR} (hS:Sh.vT bU.l a_1_ cP.pl=some r) :
 Ct Tryz.prog 367 [ptr j8 0,ptr gS 0] (cP.b.ok.and cP.err.ok) (Ow.star (Sv.own bU 169) (Ow.star (bP j8 [bU.val] 48) (Ow.star (bP bV [cP.b.val,i64 cP.at_,cP.err.val] 298) (Ow.star (bP cI [ptr bV 0,.bool a_1_.bad] 225) (bP gS [ptr cI 0] 221))))) (X:=Sv cT×cQ) (fun x => .tuple #[]) (fun x=>r=(x.1.l,x.2.pl)) (fun x=>(x.2.b.ok.and x.2.err.ok)) (fun x=>Ow.star (bP j8 [x.1.val] 48) (Ow.star (Sv.own x.1 169) (Ow.star (bP bV [x.2.b.val,i64 x.2.at_,x.2.err.val] 298) (Ow.star (bP cI [ptr bV 0,.bool a_1_.bad] 225) (bP gS [ptr cI 0] 221))))):=by
 refine Zo Tryz.func367 Tryz.ntmps367 fun c => ?_
 unfold Sh.vT at hS
 refine VC.draw [(0,true),(1,true),(2,true),(3,true),(4,true),(6,true),(7,true),(8,true),(9,true),(11,true),(12,true),(13,true),(14,true),(5,false),(10,false),(15,false),(16,true),(17,false),(18,false),(19,false)] mixed (by kernel_rfl) (by kernel_rfl) (by kernel_rfl) ?_
 refine Zw rfl (aT E5 rfl rfl) ?_
 refine Zw rfl (aT dF rfl rfl) ?_
 refine Zw rfl (aG rfl) ?_
 refine Zw rfl (aC cM rfl) ?_
 refine Zw rfl (aT cZ rfl rfl) ?_
 refine Zw rfl (aT dF rfl rfl) ?_
 refine Zw rfl (aG rfl) ?_
 refine Zw rfl (aC cM rfl) ?_
 refine Zw rfl (aT cZ rfl rfl) ?_
 refine Zw rfl (aT dF rfl rfl) ?_
 refine Zw rfl (aG rfl) ?_
 refine Zw rfl (aC cM rfl) ?_
 refine Zw rfl (aT cZ rfl rfl) ?_
 refine VD.one rfl ?_
 obtain ⟨iR,lI,hS⟩:=aU hS
 refine VL.cA (gJ bV cP lI) rfl (by decide) ?_
 rintro ⟨lY,x8⟩ rfl
 try dsimp only
 refine VL.back (D':=[(14,ptr bV 0),(13,ptr cI 0),(12,ptr cI 0),(11,ptr cI 0),(9,ptr bV 0),(8,ptr cI 0),(7,ptr cI 0),(6,ptr cI 0),(0,bU.val)]) (by kernel_rfl) (aN.cons rfl (aT cZ rfl rfl) (aN.cons rfl (aC cM rfl) (aN.cons rfl (aG rfl) (aN.cons rfl (aT dF rfl rfl) (aN.cons rfl (aT cZ rfl rfl) (aN.cons rfl (aC cM rfl) (aN.cons rfl (aG rfl) (aN.cons rfl (aT dF rfl rfl) (aN.cons rfl (aT E5 rfl rfl) (aN.nil)))))))))) ?_
 refine VD.one rfl ?_
 obtain ⟨fJ,E0,hS⟩:=aU hS
 refine VL.cA (eL bV x8 E0) rfl (by decide) ?_
 rintro ⟨r8,OA⟩ rfl
 try dsimp only
 refine VL.back (D':=[(14,ptr bV 0),(13,ptr cI 0),(12,ptr cI 0),(11,ptr cI 0),(0,bU.val)]) (by kernel_rfl) (aN.cons rfl (aT cZ rfl rfl) (aN.cons rfl (aC cM rfl) (aN.cons rfl (aG rfl) (aN.cons rfl (aT dF rfl rfl) (aN.cons rfl (aT E5 rfl rfl) (aN.nil)))))) ?_
 refine VD.one rfl ?_
 obtain ⟨vW,K9,hS⟩:=aU hS
 refine VL.cA (gJ bV OA K9) rfl (by decide) ?_
 rintro ⟨sA,BJ⟩ rfl
 try dsimp only
 refine VL.back (D':=[(0,bU.val)]) (by kernel_rfl) (aN.cons rfl (aT E5 rfl rfl) (aN.nil)) ?_
 refine Zw rfl (fH (vs:=[(0,str lY),(1,i64 r8),(2,str sA)]) (cs := #[str lY,i64 r8,str sA]) rfl (by kernel_rfl)) ?_
 refine VD.one rfl ?_
 refine VL.lit (α:=cT) (xs:=[.tmp 18]) (vs:=[.agg #[str lY,i64 r8,str sA]]) [⟨lY,r8,sA⟩] Tryz.underlying48 aNT (by decide) rfl rfl rfl rfl (by decide) (fun _ _ _ _=>trivial) (by decide) (fun aBA UL => ?_) (by decide)
 replace hS:=b5 UL hS
 refine VL.back (D':=[(0,bU.val)]) (by kernel_rfl) (aN.cons rfl (aT E5 rfl rfl) (aN.nil)) ?_
 refine VD.one rfl ?_
 obtain ⟨b20,hS⟩:=bS hS
 refine VL.app (s:=bU) (r:=aBA) Tryz.underlying48 aNC (by decide) rfl Fo.out (uW b20) (uX b20 (by decide)) (by decide) (fun S8 aCu => ?_)
 replace hS:=b5 aCu hS
 refine VL.back (D':=[]) (by kernel_rfl) (aN.nil) ?_
 refine VD.one rfl ?_
 refine Zv (vc:=[S8.val]) (cs':=[S8.val]) rfl aUX ?_
 refine VL.back (D':=[]) (by kernel_rfl) (aN.nil) ?_
 cases hS
 exact VD.nil (p9 (.inl rfl) rfl (S8,⟨BJ.b,BJ.at_,BJ.err⟩) rfl rfl (by (try dsimp only); exact cO.out) (by (try dsimp only); exact eT.out))
theorem I0 (bN:Nat) (dB:aY) (aH:Nat) (bF:cQ) (bY:Nat) (bH:Sv cT) (bZ:Nat) {r:bR×aY×List cT} (hS:Sh.vM dB bF.pl bH.l=some r) :
 Ct Tryz.prog 219 [ptr bN 0,.func (.func 367) #[] #[ptr bY 0,ptr bZ 0]] (bF.b.ok.and bF.err.ok) (Ow.star (bP aH [bF.b.val,i64 bF.at_,bF.err.val] 298) (Ow.star (bP bN [ptr aH 0,.bool dB.bad] 225) (Ow.star (Sv.own bH 169) (Ow.star (bP bY [bH.val] 48) (bP bZ [ptr bN 0] 221))))) (X:=cQ×aY×Sv cT) (fun x => .tuple #[]) (fun x=>r=(x.1.pl,x.2.1,x.2.2.l)) (fun x=>(x.1.b.ok.and x.1.err.ok)) (fun x=>Ow.star (bP aH [x.1.b.val,i64 x.1.at_,x.1.err.val] 298) (Ow.star (bP bN [ptr aH 0,.bool x.2.1.bad] 225) (Ow.star (bP bY [x.2.2.val] 48) (Ow.star (Sv.own x.2.2 169) (bP bZ [ptr bN 0] 221))))):=by
 refine Zo Tryz.func219 Tryz.ntmps219 fun c => ?_
 unfold Sh.vM at hS
 refine Zq (Zr ?_)
 refine Zm ?_
 refine Zu (aG rfl) ?_
 refine Zu (aC cM rfl) ?_
 refine Zu (aT cZ rfl rfl) ?_
 obtain ⟨dG,lU,hS⟩:=aU hS
 refine VL.cA (eL aH bF lU) rfl (by decide) ?_
 rintro ⟨eR,dY⟩ rfl
 try dsimp only
 refine Zy ?_
 refine VC.gD (S:=Bool) (fun (eH:Bool)=>eH) (fun (eH:Bool)=>[(0,ptr bN 0),(1,.func (.func 367) #[] #[ptr bY 0,ptr bZ 0]),(4,i64 eR)]) (fun (eH:Bool)=>Mo.tt) (fun (eH:Bool)=>Ow.star (bP aH [dY.b.val,i64 dY.at_,dY.err.val] 298) (Ow.star (bP bN [ptr aH 0,.bool eH] 225) (Ow.star (bP bY [bH.val] 48) (Ow.star (bP bZ [ptr bN 0] 221) (Ow.star (Sv.own bH 169) (Ow.emp)))))) hS ?_ ?_
 ·
  clear hS
  intro k3 hS
  refine Zr ?_
  refine Zy ?_
  refine Zu (aG rfl) ?_
  refine Zu (aC iZ rfl) ?_
  refine Zu (aT nN rfl rfl) ?_
  refine Zm ?_
  refine uV 16 hS (fun h16 hS => ?_) (fun h16 hS => ?_)
  ·
   refine VL.runs 3 [(19,some true)] (by kernel_rfl) ?_
   refine Zu (aG rfl) ?_
   refine Zu (aC iZ rfl) ?_
   refine Zv (vc:=[.bool true]) (cs':=[ptr aH 0,.bool true]) rfl pP ?_
   refine VL.mt true [0,1,4] (fun _ _ h=>h) hS rfl
  refine Zg ?_
  refine Zh (dL rfl rfl) ?_
  refine Zf ?_
  refine Zu (aG rfl) ?_
  refine Zu (aC iZ rfl) ?_
  refine Zv (vc:=[.bool (decide (eR < 0))]) (cs':=[ptr aH 0,.bool (decide (eR < 0))]) rfl pP ?_
  refine VL.mt (decide (eR < 0)) [0,1,4] (fun _ _ h=>h) hS rfl
 clear hS
 rintro eH hS
 refine Zq (Zr ?_)
 refine Zy ?_
 refine Zb ?_
 refine VC.iter (S:=Int×Sv UInt8×Int×Er×Sv cT) (fun sg=>(sg.1,sg.2.1.l,sg.2.2.1,sg.2.2.2.1.pl,sg.2.2.2.2.l)) (fun sg=>[(0,ptr bN 0),(1,.func (.func 367) #[] #[ptr bY 0,ptr bZ 0]),(4,i64 eR),(5,i64 sg.1)]) (fun sg=>(sg.2.1.ok.and sg.2.2.2.1.ok)) (fun sg=>Ow.star (bP aH [sg.2.1.val,i64 sg.2.2.1,sg.2.2.2.1.val] 298) (Ow.star (bP bN [ptr aH 0,.bool eH] 225) (Ow.star (bP bY [sg.2.2.2.2.val] 48) (Ow.star (bP bZ [ptr bN 0] 221) (Ow.star (Sv.own sg.2.2.2.2 169) (Ow.emp)))))) (0,dY.b,dY.at_,dY.err,bH) [0,1,4,5] hS rfl ?_
 clear hS
 rintro ⟨gO,fK,fY,fO,jZ⟩ m1 y1 hS hK1
 refine Zq (Zq (Zr ?_))
 refine Zy ?_
 refine Zu (dL rfl rfl) ?_
 refine Zm ?_
 refine mF 25 hS (fun h25 hS => ?_) (fun h25 hS => ?_)
 ·
  refine Zg ?_
  refine Zh (aG rfl) ?_
  refine Zh (aC cM rfl) ?_
  refine Zh (aT cZ rfl rfl) ?_
  refine VL.guard rfl rfl ?_
  obtain ⟨sV,xX,hS⟩:=aU hS
  refine VL.cA (kT aH (⟨fK,fY,fO⟩:cQ) xX) rfl (by decide) ?_
  rintro qW rfl
  try dsimp only
  refine Zh (x9 Tryz.underlying27 rfl) ?_
  refine Zy ?_
  refine VC.keep (ρ':=[(0,ptr bN 0),(1,.func (.func 367) #[] #[ptr bY 0,ptr bZ 0]),(4,i64 eR),(5,i64 gO),(32,.bool (decide (qW.pl.isNil=true)))]) [0,1,4,5,32] rfl ?_
  refine Zc hS (fun h32 hS => ?_) (fun h32 hS => ?_)
  ·
   refine Zk ?_
   refine Zq (Zb (Zr ?_))
   refine Zm ?_
   obtain ⟨kX,AZ,hS⟩:=aU hS
   refine VL.HJ (vs:=[]) (caps:=[ptr bY 0,ptr bZ 0]) (I6 bY jZ bZ bN (⟨eH⟩:aY) aH (⟨fK,fY,fO⟩:cQ) AZ) rfl rfl (by decide) ?_
   rintro ⟨x5,lX⟩ rfl
   try dsimp only
   refine Zl ?_
   refine Zr ?_
   refine Zm ?_
   obtain ⟨b34,hS⟩:=bS hS
   refine Zu (cK rfl rfl b34) ?_
   refine Za ?_
   refine VL.jC ((gO+1),lX.b,lX.at_,lX.err,x5) [0,1,4,5] (fun _ _ h=>h) (go2 hS hK1) rfl
  replace hS:=gQ hS hK1
  cases hS
  exact VC.exit (p9 (.inl rfl) rfl (⟨fK,fY,fO⟩,⟨eH⟩,jZ) rfl rfl (by (try dsimp only); exact cO.out) (by (try dsimp only); exact eT.out))
 refine VL.runs 7 [(32,some false)] (by kernel_rfl) ?_
 refine Zl ?_
 refine VC.vY rfl ?_
 replace hS:=gQ hS hK1
 cases hS
 exact VC.exit (p9 (.inl rfl) rfl (⟨fK,fY,fO⟩,⟨eH⟩,jZ) rfl rfl (by (try dsimp only); exact cO.out) (by (try dsimp only); exact eT.out))
theorem y6 (aB:Sv cT) {r:List cT} (hS:Sh.nV aB.l=some r) :
 Ct Tryz.prog 89 [aB.val] aB.ok (Ow.emp) (X:=Sv cT) (fun x=>x.val) (fun x=>r=x.l) (fun x=>x.ok) (fun x=>Ow.emp):=by
 refine Zo Tryz.func89 Tryz.ntmps89 fun c => ?_
 unfold Sh.nV at hS
 refine Zq (Zr ?_)
 refine Zy ?_
 refine Zq (Zr ?_)
 refine Zy ?_
 refine Zu (dO (s:=aB) Tryz.underlying48 rfl) ?_
 refine Zm ?_
 refine Zu (dO (s:=aB) Tryz.underlying48 rfl) ?_
 obtain ⟨b8,hS⟩:=bS hS
 refine VL.M7 Tryz.underlying48 aCo rfl rfl rfl b8.1 (b8.2) (by decide) fun wZ qU => ?_
 replace hS:=b5 qU hS
 refine Zy ?_
 cases hS
 exact VC.ret (fA (.inr rfl) rfl rfl wZ rfl rfl (by (try dsimp only); exact cO.out) (fun _ _=>trivial))
theorem BU (bN:Nat) (dB:aY) (aH:Nat) (bF:cQ) {r:List cT×bR×aY} (hS:Sh.s6 dB bF.pl=some r) :
 Ct Tryz.prog 349 [ptr bN 0] (bF.b.ok.and bF.err.ok) (Ow.star (bP aH [bF.b.val,i64 bF.at_,bF.err.val] 298) (bP bN [ptr aH 0,.bool dB.bad] 225)) (X:=Sv cT×cQ×aY) (fun x=>x.1.val) (fun x=>r=(x.1.l,x.2.1.pl,x.2.2)) (fun x=>(x.1.ok.and (x.2.1.b.ok.and x.2.1.err.ok))) (fun x=>Ow.star (bP aH [x.2.1.b.val,i64 x.2.1.at_,x.2.1.err.val] 298) (bP bN [ptr aH 0,.bool x.2.2.bad] 225)):=by
 refine Zo Tryz.func349 Tryz.ntmps349 fun c => ?_
 unfold Sh.s6 at hS
 refine Zq (Zr ?_)
 refine VL.box (cs:=[ptr bN 0]) rfl rfl (by decide) fun iE => ?_
 refine Zy ?_
 refine Zq (Zr ?_)
 refine VL.alloc (cs:=[.slice none 0 0]) (by kernel_rfl) (by decide) fun jX => ?_
 refine Zl ?_
 refine Zq (Zr ?_)
 refine Zu (aT dF rfl rfl) ?_
 refine Zu (qH rfl) ?_
 refine VL.lR (⟨none,0,[]⟩:Sv cT) 169 ⟨rfl,rfl⟩ ?_
 refine VL.SY jX (cs':=[(⟨none,0,[]⟩:Sv cT).val]) rfl ?_
 obtain ⟨pV,LG,hS⟩:=aU hS
 refine VL.cA (I0 bN dB aH bF jX (⟨none,0,[]⟩:Sv cT) iE LG) rfl (by decide) ?_
 rintro ⟨qE,FA,wD⟩ rfl
 try dsimp only
 refine Zl ?_
 refine Zq (Zr ?_)
 refine Zu (aT E5 rfl rfl) ?_
 refine VL.shut wD 169 (fun _ _ _ _=>trivial) ?_
 obtain ⟨CH,F3,hS⟩:=aU hS
 refine VL.cR (y6 wD F3) rfl (by decide) ?_
 rintro s5 rfl
 try dsimp only
 refine Zy ?_
 cases hS
 exact VC.ret (fA (.inr rfl) rfl rfl (s5,⟨qE.b,qE.at_,qE.err⟩,⟨FA.bad⟩) rfl rfl (by (try dsimp only); exact cO.out) (by (try dsimp only); exact eT.out))
theorem xA (bN:Nat) (dB:aY) (aH:Nat) (bF:cQ) {r:FR×bR×aY} (hS:Sh.BT dB bF.pl=some r) :
 Ct Tryz.prog 298 [ptr bN 0] (bF.b.ok.and bF.err.ok) (Ow.star (bP aH [bF.b.val,i64 bF.at_,bF.err.val] 298) (bP bN [ptr aH 0,.bool dB.bad] 225)) (X:=vD×cQ×aY) (fun x => .agg (bO.enc x.1).toArray) (fun x=>r=(x.1.pl,x.2.1.pl,x.2.2)) (fun x=>(x.1.m.and (x.2.1.b.ok.and x.2.1.err.ok))) (fun x=>Ow.star (bP aH [x.2.1.b.val,i64 x.2.1.at_,x.2.1.err.val] 298) (bP bN [ptr aH 0,.bool x.2.2.bad] 225)):=by
 refine Zo Tryz.func298 Tryz.ntmps298 fun c => ?_
 unfold Sh.BT at hS
 refine Zq (Zr ?_)
 refine VL.alloc (cs:=[str [],i64 0,str [],.slice none 0 0,.slice none 0 0,i64 0,str [],str [],i64 0,.slice none 0 0,.slice none 0 0]) (by kernel_rfl) (by decide) fun eP => ?_
 refine Zl ?_
 refine Zq ?_
 refine VC.draw [(0,true),(1,true),(2,true),(3,true),(5,true),(6,true),(7,true),(8,true),(10,true),(11,true),(12,true),(13,true),(15,true),(17,true),(19,true),(20,true),(21,true),(22,true),(24,true),(25,true),(26,true),(27,true),(29,true),(31,true),(33,true),(4,false),(9,false),(14,false),(16,false),(18,false),(23,false),(28,false),(30,false),(32,false),(34,false),(35,true),(36,false)] mixed (by kernel_rfl) (by kernel_rfl) (by kernel_rfl) ?_
 refine Zw rfl (bT rfl) ?_
 refine Zw rfl (aG rfl) ?_
 refine Zw rfl (aC cM rfl) ?_
 refine Zw rfl (aT cZ rfl rfl) ?_
 refine Zw rfl (bT rfl) ?_
 refine Zw rfl (aG rfl) ?_
 refine Zw rfl (aC cM rfl) ?_
 refine Zw rfl (aT cZ rfl rfl) ?_
 refine Zw rfl (bT rfl) ?_
 refine Zw rfl (aG rfl) ?_
 refine Zw rfl (aC cM rfl) ?_
 refine Zw rfl (aT cZ rfl rfl) ?_
 refine Zw rfl (bT rfl) ?_
 refine Zw rfl (bT rfl) ?_
 refine Zw rfl (bT rfl) ?_
 refine Zw rfl (aG rfl) ?_
 refine Zw rfl (aC cM rfl) ?_
 refine Zw rfl (aT cZ rfl rfl) ?_
 refine Zw rfl (bT rfl) ?_
 refine Zw rfl (aG rfl) ?_
 refine Zw rfl (aC cM rfl) ?_
 refine Zw rfl (aT cZ rfl rfl) ?_
 refine Zw rfl (bT rfl) ?_
 refine Zw rfl (bT rfl) ?_
 refine Zw rfl (bT rfl) ?_
 refine VD.one rfl ?_
 obtain ⟨uF,zJ,hS⟩:=aU hS
 refine VL.cA (gJ aH bF zJ) rfl (by decide) ?_
 rintro ⟨mS,VO⟩ rfl
 try dsimp only
 refine VL.back (D':=[(27,ptr aH 0),(26,ptr bN 0),(25,ptr bN 0),(22,ptr aH 0),(21,ptr bN 0),(20,ptr bN 0),(13,ptr aH 0),(12,ptr bN 0),(11,ptr bN 0),(8,ptr aH 0),(7,ptr bN 0),(6,ptr bN 0)]) (by kernel_rfl) (aN.cons rfl (aT cZ rfl rfl) (aN.cons rfl (aC cM rfl) (aN.cons rfl (aG rfl) (aN.cons rfl (aT cZ rfl rfl) (aN.cons rfl (aC cM rfl) (aN.cons rfl (aG rfl) (aN.cons rfl (aT cZ rfl rfl) (aN.cons rfl (aC cM rfl) (aN.cons rfl (aG rfl) (aN.cons rfl (aT cZ rfl rfl) (aN.cons rfl (aC cM rfl) (aN.cons rfl (aG rfl) (aN.nil))))))))))))) ?_
 refine VD.one rfl ?_
 obtain ⟨kH,rU,hS⟩:=aU hS
 refine VL.cA (eL aH VO rU) rfl (by decide) ?_
 rintro ⟨fN,GM⟩ rfl
 try dsimp only
 refine VL.back (D':=[(27,ptr aH 0),(26,ptr bN 0),(25,ptr bN 0),(22,ptr aH 0),(21,ptr bN 0),(20,ptr bN 0),(13,ptr aH 0),(12,ptr bN 0),(11,ptr bN 0)]) (by kernel_rfl) (aN.cons rfl (aT cZ rfl rfl) (aN.cons rfl (aC cM rfl) (aN.cons rfl (aG rfl) (aN.cons rfl (aT cZ rfl rfl) (aN.cons rfl (aC cM rfl) (aN.cons rfl (aG rfl) (aN.cons rfl (aT cZ rfl rfl) (aN.cons rfl (aC cM rfl) (aN.cons rfl (aG rfl) (aN.nil)))))))))) ?_
 refine VD.one rfl ?_
 obtain ⟨mQ,LA,hS⟩:=aU hS
 refine VL.cA (gJ aH GM LA) rfl (by decide) ?_
 rintro ⟨tJ,OC⟩ rfl
 try dsimp only
 refine VL.back (D':=[(27,ptr aH 0),(26,ptr bN 0),(25,ptr bN 0),(22,ptr aH 0),(21,ptr bN 0),(20,ptr bN 0)]) (by kernel_rfl) (aN.cons rfl (aT cZ rfl rfl) (aN.cons rfl (aC cM rfl) (aN.cons rfl (aG rfl) (aN.cons rfl (aT cZ rfl rfl) (aN.cons rfl (aC cM rfl) (aN.cons rfl (aG rfl) (aN.nil))))))) ?_
 refine VD.one rfl ?_
 obtain ⟨kD,LC,hS⟩:=aU hS
 refine VL.cA (BU bN dB aH OC LC) rfl (by decide) ?_
 rintro ⟨mK,sB,aAh⟩ rfl
 try dsimp only
 refine VL.back (D':=[(27,ptr aH 0),(26,ptr bN 0),(25,ptr bN 0),(22,ptr aH 0),(21,ptr bN 0),(20,ptr bN 0)]) (by kernel_rfl) (aN.cons rfl (aT cZ rfl rfl) (aN.cons rfl (aC cM rfl) (aN.cons rfl (aG rfl) (aN.cons rfl (aT cZ rfl rfl) (aN.cons rfl (aC cM rfl) (aN.cons rfl (aG rfl) (aN.nil))))))) ?_
 refine VD.one rfl ?_
 obtain ⟨aBO,aQU,hS⟩:=aU hS
 refine VL.cA (BU bN aAh aH sB aQU) rfl (by decide) ?_
 rintro ⟨J1,aO6,aFc⟩ rfl
 try dsimp only
 refine VL.back (D':=[(27,ptr aH 0),(26,ptr bN 0),(25,ptr bN 0),(22,ptr aH 0),(21,ptr bN 0),(20,ptr bN 0)]) (by kernel_rfl) (aN.cons rfl (aT cZ rfl rfl) (aN.cons rfl (aC cM rfl) (aN.cons rfl (aG rfl) (aN.cons rfl (aT cZ rfl rfl) (aN.cons rfl (aC cM rfl) (aN.cons rfl (aG rfl) (aN.nil))))))) ?_
 refine VD.one rfl ?_
 obtain ⟨sU,aCf,hS⟩:=aU hS
 refine VL.cA (eL aH aO6 aCf) rfl (by decide) ?_
 rintro ⟨J3,aO8⟩ rfl
 try dsimp only
 refine VL.back (D':=[(27,ptr aH 0),(26,ptr bN 0),(25,ptr bN 0)]) (by kernel_rfl) (aN.cons rfl (aT cZ rfl rfl) (aN.cons rfl (aC cM rfl) (aN.cons rfl (aG rfl) (aN.nil)))) ?_
 refine VD.one rfl ?_
 obtain ⟨aGy,aQm,hS⟩:=aU hS
 refine VL.cA (gJ aH aO8 aQm) rfl (by decide) ?_
 rintro ⟨J7,aOg⟩ rfl
 try dsimp only
 refine VL.back (D':=[]) (by kernel_rfl) (aN.nil) ?_
 refine VD.one rfl ?_
 obtain ⟨aDh,aQq,hS⟩:=aU hS
 refine VL.cA (rE bN aFc aH aOg aQq) rfl (by decide) ?_
 rintro ⟨u5,aOh⟩ rfl
 try dsimp only
 refine VL.back (D':=[]) (by kernel_rfl) (aN.nil) ?_
 refine VD.one rfl ?_
 obtain ⟨QL,aLm,hS⟩:=aU hS
 refine VL.cA (oW bN aFc aH aOh aLm) rfl (by decide) ?_
 rintro ⟨FH,aKd,aKe⟩ rfl
 try dsimp only
 refine VL.back (D':=[]) (by kernel_rfl) (aN.nil) ?_
 refine VD.one rfl ?_
 obtain ⟨QM,aLs,hS⟩:=aU hS
 refine VL.cA (sH bN aKe aH aKd aLs) rfl (by decide) ?_
 rintro ⟨FI,XL,aKh⟩ rfl
 try dsimp only
 refine VL.back (D':=[]) (by kernel_rfl) (aN.nil) ?_
 refine Zw rfl (fH (vs:=[(0,str mS),(1,i64 fN),(2,str tJ),(3,mK.val),(4,J1.val),(5,i64 J3),(6,str J7),(7,.agg #[str u5.branch,i64 u5.c8]),(8,FH.val),(9,FI.val)]) (cs := #[str mS,i64 fN,str tJ,mK.val,J1.val,i64 J3,str J7,str u5.branch,i64 u5.c8,FH.val,FI.val]) rfl (by kernel_rfl)) ?_
 refine VD.one rfl ?_
 refine Zv (vc:=[str mS,i64 fN,str tJ,mK.val,J1.val,i64 J3,str J7,str u5.branch,i64 u5.c8,FH.val,FI.val]) (cs':=[str mS,i64 fN,str tJ,mK.val,J1.val,i64 J3,str J7,str u5.branch,i64 u5.c8,FH.val,FI.val]) rfl SH ?_
 refine VL.back (D':=[]) (by kernel_rfl) (aN.nil) ?_
 refine VD.to (fun _ _ h=>h) ?_
 refine VC.keep (ρ':=[(2,ptr eP 0)]) [2] rfl ?_
 cases hS
 exact VC.ret (jV (vs:=[.agg #[str mS,i64 fN,str tJ,mK.val,J1.val,i64 J3,str J7,str u5.branch,i64 u5.c8,FH.val,FI.val]]) (.inr rfl) rfl (eW.cell aH1 rfl rfl Rd.blk (eW.nil)) (⟨mS,fN,tJ,mK,J1,J3,J7,u5.branch,u5.c8,FH,FI⟩,⟨XL.b,XL.at_,XL.err⟩,⟨aKh.bad⟩) rfl rfl (by (try dsimp only); exact cO.out) (by (try dsimp only); exact eT.out))
theorem MC (j8:Nat) (bU:iX) (gS:Nat) (cI:Nat) (a_1_:aY) (bV:Nat) (cP:cQ) {r:Unit} (hS:Sh.yO bU.pl a_1_ cP.pl=some r) :
 Ct Tryz.prog 299 [ptr j8 0,ptr gS 0] (bU.work.ok.and (bU.index.ok.and (bU.fV.ok.and (bU.gK.ok.and (bU.fW.ok.and (bU.gL.ok.and ((zI bU.fB.l).and (cP.b.ok.and cP.err.ok)))))))) (Ow.star (Sv.own bU.refs 253) (Ow.star (Sv.own bU.fB 258) (Ow.star (bP j8 (kS bU) 54) (Ow.star (bP bV [cP.b.val,i64 cP.at_,cP.err.val] 298) (Ow.star (bP cI [ptr bV 0,.bool a_1_.bad] 225) (bP gS [ptr cI 0] 221)))))) (X:=Unit) (fun _ => .tuple #[]) (fun _=>True) (fun _=>Mo.tt) (fun _=>Ow.star (bP j8 (kS bU) 54) (Ow.star (Sv.own bU.refs 253) (Ow.star (Sv.own bU.fB 258) (Ow.star (bP bV [cP.b.val,i64 cP.at_,cP.err.val] 298) (Ow.star (bP cI [ptr bV 0,.bool a_1_.bad] 225) (bP gS [ptr cI 0] 221)))))):=by
 refine Zo Tryz.func299 Tryz.ntmps299 fun c => ?_
 unfold Sh.yO at hS
 cases hS
theorem sP (bN:Nat) (dB:aY) (aH:Nat) (bF:cQ) (bY:Nat) (bH:iX) (bZ:Nat) {r:bR×aY} (hS:Sh.vN dB bF.pl bH.pl=some r) :
 Ct Tryz.prog 219 [ptr bN 0,.func (.func 299) #[] #[ptr bY 0,ptr bZ 0]] (bF.b.ok.and (bF.err.ok.and (bH.work.ok.and (bH.index.ok.and (bH.fV.ok.and (bH.gK.ok.and (bH.fW.ok.and (bH.gL.ok.and (zI bH.fB.l))))))))) (Ow.star (bP aH [bF.b.val,i64 bF.at_,bF.err.val] 298) (Ow.star (bP bN [ptr aH 0,.bool dB.bad] 225) (Ow.star (Sv.own bH.refs 253) (Ow.star (Sv.own bH.fB 258) (Ow.star (bP bY (kS bH) 54) (bP bZ [ptr bN 0] 221)))))) (X:=cQ×aY) (fun x => .tuple #[]) (fun x=>r=(x.1.pl,x.2)) (fun x=>(x.1.b.ok.and x.1.err.ok)) (fun x=>Ow.star (bP aH [x.1.b.val,i64 x.1.at_,x.1.err.val] 298) (Ow.star (bP bN [ptr aH 0,.bool x.2.bad] 225) (Ow.star (bP bY (kS bH) 54) (Ow.star (Sv.own bH.refs 253) (Ow.star (Sv.own bH.fB 258) (bP bZ [ptr bN 0] 221)))))):=by
 refine Zo Tryz.func219 Tryz.ntmps219 fun c => ?_
 unfold Sh.vN at hS
 refine Zq (Zr ?_)
 refine Zm ?_
 refine Zu (aG rfl) ?_
 refine Zu (aC cM rfl) ?_
 refine Zu (aT cZ rfl rfl) ?_
 obtain ⟨dG,lU,hS⟩:=aU hS
 refine VL.cA (eL aH bF lU) rfl (by decide) ?_
 rintro ⟨eR,dY⟩ rfl
 try dsimp only
 refine Zy ?_
 refine VC.gD (S:=Bool) (fun (eH:Bool)=>eH) (fun (eH:Bool)=>[(0,ptr bN 0),(1,.func (.func 299) #[] #[ptr bY 0,ptr bZ 0]),(4,i64 eR)]) (fun (eH:Bool)=>Mo.tt) (fun (eH:Bool)=>Ow.star (bP aH [dY.b.val,i64 dY.at_,dY.err.val] 298) (Ow.star (bP bN [ptr aH 0,.bool eH] 225) (Ow.star (bP bY (kS bH) 54) (Ow.star (bP bZ [ptr bN 0] 221) (Ow.star (Sv.own bH.refs 253) (Ow.star (Sv.own bH.fB 258) (Ow.emp))))))) hS ?_ ?_
 ·
  clear hS
  intro k3 hS
  refine Zr ?_
  refine Zy ?_
  refine Zu (aG rfl) ?_
  refine Zu (aC iZ rfl) ?_
  refine Zu (aT nN rfl rfl) ?_
  refine Zm ?_
  refine uV 16 hS (fun h16 hS => ?_) (fun h16 hS => ?_)
  ·
   refine VL.runs 3 [(19,some true)] (by kernel_rfl) ?_
   refine Zu (aG rfl) ?_
   refine Zu (aC iZ rfl) ?_
   refine Zv (vc:=[.bool true]) (cs':=[ptr aH 0,.bool true]) rfl pP ?_
   refine VL.mt true [0,1,4] (fun _ _ h=>h) hS rfl
  refine Zg ?_
  refine Zh (dL rfl rfl) ?_
  refine Zf ?_
  refine Zu (aG rfl) ?_
  refine Zu (aC iZ rfl) ?_
  refine Zv (vc:=[.bool (decide (eR < 0))]) (cs':=[ptr aH 0,.bool (decide (eR < 0))]) rfl pP ?_
  refine VL.mt (decide (eR < 0)) [0,1,4] (fun _ _ h=>h) hS rfl
 clear hS
 rintro eH hS
 refine Zq (Zr ?_)
 refine Zy ?_
 refine Zb ?_
 refine VC.iter (S:=Int) (fun (gO:Int)=>gO) (fun (gO:Int)=>[(0,ptr bN 0),(1,.func (.func 299) #[] #[ptr bY 0,ptr bZ 0]),(4,i64 eR),(5,i64 gO)]) (fun (gO:Int)=>Mo.tt) (fun (gO:Int)=>Ow.star (bP aH [dY.b.val,i64 dY.at_,dY.err.val] 298) (Ow.star (bP bN [ptr aH 0,.bool eH] 225) (Ow.star (bP bY (kS bH) 54) (Ow.star (bP bZ [ptr bN 0] 221) (Ow.star (Sv.own bH.refs 253) (Ow.star (Sv.own bH.fB 258) (Ow.emp))))))) 0 [0,1,4,5] hS rfl ?_
 clear hS
 rintro gO m1 y1 hS hK1
 refine Zq (Zq (Zr ?_))
 refine Zy ?_
 refine Zu (dL rfl rfl) ?_
 refine Zm ?_
 refine mF 25 hS (fun h25 hS => ?_) (fun h25 hS => ?_)
 ·
  refine Zg ?_
  refine Zh (aG rfl) ?_
  refine Zh (aC cM rfl) ?_
  refine Zh (aT cZ rfl rfl) ?_
  refine VL.guard rfl rfl ?_
  obtain ⟨aP2,aQh,hS⟩:=aU hS
  refine VL.cA (kT aH dY aQh) rfl (by decide) ?_
  rintro aOe rfl
  try dsimp only
  refine Zh (x9 Tryz.underlying27 rfl) ?_
  refine Zy ?_
  refine VC.keep (ρ':=[(0,ptr bN 0),(1,.func (.func 299) #[] #[ptr bY 0,ptr bZ 0]),(4,i64 eR),(5,i64 gO),(32,.bool (decide (aOe.pl.isNil=true)))]) [0,1,4,5,32] rfl ?_
  refine Zc hS (fun h32 hS => ?_) (fun h32 hS => ?_)
  ·
   refine Zk ?_
   refine Zq (Zb (Zr ?_))
   refine Zm ?_
   obtain ⟨aVT,aQt,hS⟩:=aU hS
   refine VL.HJ (vs:=[]) (caps:=[ptr bY 0,ptr bZ 0]) (MC bY bH bZ bN (⟨eH⟩:aY) aH dY aQt) rfl rfl (by decide) ?_
   rintro _ _
   try dsimp only
   refine Zl ?_
   refine Zr ?_
   refine Zm ?_
   obtain ⟨b34,hS⟩:=bS hS
   refine Zu (cK rfl rfl b34) ?_
   refine Za ?_
   refine VL.jC (gO+1) [0,1,4,5] (fun _ _ h=>h) (go2 hS hK1) rfl
  replace hS:=gQ hS hK1
  cases hS
  exact VC.exit (p9 (.inl rfl) rfl (⟨dY.b,dY.at_,dY.err⟩,⟨eH⟩) rfl rfl (by (try dsimp only); exact cO.out) (by (try dsimp only); exact eT.out))
 refine VL.runs 7 [(32,some false)] (by kernel_rfl) ?_
 refine Zl ?_
 refine VC.vY rfl ?_
 replace hS:=gQ hS hK1
 cases hS
 exact VC.exit (p9 (.inl rfl) rfl (⟨dY.b,dY.at_,dY.err⟩,⟨eH⟩) rfl rfl (by (try dsimp only); exact cO.out) (by (try dsimp only); exact eT.out))
theorem mN (aB:Sv eG) {r:List eG} (hS:Sh.nU aB.l=some r) :
 Ct Tryz.prog 300 [aB.val] aB.ok (Ow.emp) (X:=Sv eG) (fun x=>x.val) (fun x=>r=x.l) (fun x=>x.ok) (fun x=>Ow.emp):=by
 refine Zo Tryz.func300 Tryz.ntmps300 fun c => ?_
 unfold Sh.nU at hS
 refine Zq (Zr ?_)
 refine Zy ?_
 refine Zq (Zr ?_)
 refine Zy ?_
 refine Zu (dO (s:=aB) Tryz.underlying45 rfl) ?_
 refine Zm ?_
 refine Zu (dO (s:=aB) Tryz.underlying45 rfl) ?_
 obtain ⟨b8,hS⟩:=bS hS
 refine VL.M7 Tryz.underlying45 nO rfl rfl rfl b8.1 (b8.2) (by decide) fun wZ qU => ?_
 replace hS:=b5 qU hS
 refine Zy ?_
 cases hS
 exact VC.ret (fA (.inr rfl) rfl rfl wZ rfl rfl (by (try dsimp only); exact cO.out) (fun _ _=>trivial))
theorem kZ (aB:Sv dR) {r:List nJ} (hS:Sh.mA (aB.l.map dR.pl)=some r) :
 Ct Tryz.prog 301 [aB.val] aB.ok (Ow.emp) (X:=Sv dR) (fun x=>x.val) (fun x=>r=(x.l.map dR.pl)) (fun x=>x.ok) (fun x=>Ow.emp):=by
 refine Zo Tryz.func301 Tryz.ntmps301 fun c => ?_
 unfold Sh.mA at hS
 refine Zq (Zr ?_)
 refine Zy ?_
 refine Zq (Zr ?_)
 refine Zy ?_
 refine Zu (qG dR.pl (s:=aB) Tryz.underlying52 rfl) ?_
 refine Zm ?_
 refine Zu (qG dR.pl (s:=aB) Tryz.underlying52 rfl) ?_
 obtain ⟨b8,hS⟩:=bS hS
 refine VL.M7 Tryz.underlying52 aCp rfl rfl rfl b8.1 (aDK b8.2) (by decide) fun wZ qU => ?_
 replace hS:=b5 ((congrArg (List.map dR.pl) qU).trans List.map_take) hS
 refine Zy ?_
 cases hS
 exact VC.ret (fA (.inr rfl) rfl rfl wZ rfl rfl (by (try dsimp only); exact cO.out) (fun _ _=>trivial))
theorem OU (bN:Nat) (dB:aY) (aH:Nat) (bF:cQ) {r:kN×bR×aY} (hS:Sh.BS dB bF.pl=some r) :
 Ct Tryz.prog 218 [ptr bN 0] (bF.b.ok.and bF.err.ok) (Ow.star (bP aH [bF.b.val,i64 bF.at_,bF.err.val] 298) (bP bN [ptr aH 0,.bool dB.bad] 225)) (X:=iX×cQ×aY) (fun x => .agg (bO.enc x.1).toArray) (fun x=>r=(x.1.pl,x.2.1.pl,x.2.2)) (fun x=>(x.1.m.and (x.2.1.b.ok.and x.2.1.err.ok))) (fun x=>Ow.star (bP aH [x.2.1.b.val,i64 x.2.1.at_,x.2.1.err.val] 298) (bP bN [ptr aH 0,.bool x.2.2.bad] 225)):=by
 refine Zo Tryz.func218 Tryz.ntmps218 fun c => ?_
 unfold Sh.BS at hS
 refine Zq (Zr ?_)
 refine VL.box (cs:=[ptr bN 0]) rfl rfl (by decide) fun iE => ?_
 refine VL.alloc (cs:=[.slice none 0 0,.slice none 0 0,.slice none 0 0,str [],i64 0,str [],i64 0,str [],.slice none 0 0,.slice none 0 0,i64 0,str [],str [],i64 0,.slice none 0 0,.slice none 0 0,.slice none 0 0]) (by kernel_rfl) (by decide) fun HH => ?_
 refine Zl ?_
 refine Zq ?_
 refine VC.aC1 (n:=5) (listed := #[true,false,true,false,false,false,false]) [(0,true),(2,true)] mixed (by kernel_rfl) (by kernel_rfl) (by kernel_rfl) (by kernel_rfl) ?_
 refine VD.q rfl (aT dF rfl rfl) (by decide) ?_
 refine VD.q rfl (aT dF rfl rfl) (by decide) ?_
 obtain ⟨q7,NM,hS⟩:=aU hS
 obtain ⟨uJ,SB,hS⟩:=aU hS
 refine VD.toG fun hcl => ?_
 refine VG.fork (l:=[1,5]) (n:=4) (by kernel_rfl) rfl fun i hi => ?_
 obtain rfl | rfl:i=1∨i=5:=by simpa using hi
 ·
  refine NG.of rfl ?_
  refine VL.cA (sH bN dB aH bF NM) rfl (by decide) ?_
  rintro ⟨iV,LV,LW⟩ rfl
  try dsimp only
  refine VL.AU (D':=[(2,ptr bN 0)]) (listed' := #[true,true,true,false,false,false,false]) (aN.cons rfl (aT dF rfl rfl) (aN.nil)) (by kernel_rfl) (by kernel_rfl) ?_
  refine VG.fork (l:=[3,5]) (n:=3) (by kernel_rfl) rfl fun i hi => ?_
  obtain rfl | rfl:i=3∨i=5:=by simpa using hi
  ·
   refine NG.of rfl ?_
   refine VL.cA (oW bN LW aH LV SB) rfl (by decide) ?_
   rintro ⟨iQ,GS,GU⟩ rfl
   try dsimp only
   refine VL.AU (D':=[]) (listed' := #[true,true,true,true,false,false,false]) (aN.nil) (by kernel_rfl) (by kernel_rfl) ?_
   refine VG.ord [(4,true),(5,false),(6,false)] (by kernel_rfl) (qP (by kernel_rfl)) (by kernel_rfl) ?_
   refine Zw rfl (fH (vs:=[(0,iV.val),(1,iQ.val)]) (cs := #[iV.val,iQ.val,.slice none 0 0,str [],i64 0,str [],i64 0,str [],.slice none 0 0,.slice none 0 0,i64 0,str [],str [],i64 0,.slice none 0 0,.slice none 0 0,.slice none 0 0]) rfl (by kernel_rfl)) ?_
   refine VD.one rfl ?_
   refine VL.alloc (cs:=[.slice none 0 0,.slice none 0 0,.slice none 0 0,str [],i64 0,str [],i64 0,str [],.slice none 0 0,.slice none 0 0,i64 0,str [],str [],i64 0,.slice none 0 0,.slice none 0 0,.slice none 0 0]) (by kernel_rfl) (by decide) fun jY => ?_
   refine VL.back (D':=[(4,.agg #[iV.val,iQ.val,.slice none 0 0,str [],i64 0,str [],i64 0,str [],.slice none 0 0,.slice none 0 0,i64 0,str [],str [],i64 0,.slice none 0 0,.slice none 0 0,.slice none 0 0])]) (by kernel_rfl) (aN.cons rfl (fH (vs:=[(0,iV.val),(1,iQ.val)]) (cs := #[iV.val,iQ.val,.slice none 0 0,str [],i64 0,str [],i64 0,str [],.slice none 0 0,.slice none 0 0,i64 0,str [],str [],i64 0,.slice none 0 0,.slice none 0 0,.slice none 0 0]) rfl (by kernel_rfl)) (aN.nil)) ?_
   refine VD.one rfl ?_
   refine Zv (vc:=[iV.val,iQ.val,.slice none 0 0,str [],i64 0,str [],i64 0,str [],.slice none 0 0,.slice none 0 0,i64 0,str [],str [],i64 0,.slice none 0 0,.slice none 0 0,.slice none 0 0]) (cs':=[iV.val,iQ.val,.slice none 0 0,str [],i64 0,str [],i64 0,str [],.slice none 0 0,.slice none 0 0,i64 0,str [],str [],i64 0,.slice none 0 0,.slice none 0 0,.slice none 0 0]) rfl W6 ?_
   refine VL.back (D':=[]) (by kernel_rfl) (aN.nil) ?_
   refine VD.to (fun _ _ h=>h) ?_
   refine Zq (Zr ?_)
   refine Zu (aT dF rfl rfl) ?_
   refine Zu (qH rfl) ?_
   refine VL.lR (⟨none,0,[]⟩:Sv eG) 253 ⟨rfl,rfl⟩ ?_
   refine VL.lR (⟨none,0,[]⟩:Sv dR) 258 ⟨rfl,rfl⟩ ?_
   refine VL.LQ (s:=(⟨none,0,[]⟩:Sv dR)) rfl ?_
   refine VL.SY jY (cs':=[iV.val,iQ.val,(⟨none,0,[]⟩:Sv eG).val,str [],i64 0,str [],i64 0,str [],(⟨none,0,[]⟩:Sv cT).val,(⟨none,0,[]⟩:Sv cT).val,i64 0,str [],str [],i64 0,(⟨none,0,[]⟩:Sv aK).val,(⟨none,0,[]⟩:Sv aD).val,(⟨none,0,[]⟩:Sv dR).val]) rfl ?_
   obtain ⟨B3,T3,hS⟩:=aU hS
   refine VL.cA (sO bN GU aH GS jY (⟨iV,iQ,(⟨none,0,[]⟩:Sv eG),[],0,[],0,[],(⟨none,0,[]⟩:Sv cT),(⟨none,0,[]⟩:Sv cT),0,[],[],0,(⟨none,0,[]⟩:Sv aK),(⟨none,0,[]⟩:Sv aD),(⟨none,0,[]⟩:Sv dR)⟩:iX) iE T3) rfl (by decide) ?_
   rintro ⟨N8,DT,bW⟩ rfl
   try dsimp only
   refine Zl ?_
   refine VC.keep (ρ':=[(1,ptr iE 0),(2,ptr HH 0),(3,ptr jY 0)]) [1,2,3] rfl ?_
   refine Zq ?_
   refine VC.draw [(0,true),(2,true),(1,false),(4,true),(3,false),(5,false),(6,true),(7,false)] mixed (by kernel_rfl) (by kernel_rfl) (by kernel_rfl) ?_
   refine Zw rfl (aT dF rfl rfl) ?_
   refine Zw rfl (aT dF rfl rfl) ?_
   refine VD.one rfl ?_
   obtain ⟨PO,T4,hS⟩:=aU hS
   refine VL.cA (rE bN DT aH N8 T4) rfl (by decide) ?_
   rintro ⟨eA,OB⟩ rfl
   try dsimp only
   refine VL.back (D':=[(2,ptr bN 0)]) (by kernel_rfl) (aN.cons rfl (aT dF rfl rfl) (aN.nil)) ?_
   refine Zw rfl (aC nM rfl) ?_
   refine VD.one rfl ?_
   obtain ⟨mP,K7,hS⟩:=aU hS
   refine VL.cA (xA bN DT aH OB K7) rfl (by decide) ?_
   rintro ⟨aL,GN,GO⟩ rfl
   try dsimp only
   refine VL.back (D':=[(4,ptr jY 3)]) (by kernel_rfl) (aN.cons rfl (aC nM rfl) (aN.nil)) ?_
   refine VD.one rfl ?_
   refine Zv (vc:=[str eA.branch,i64 eA.c8]) (cs':=[bW.work.val,bW.index.val,bW.refs.val,str eA.branch,i64 eA.c8,str bW.j5,i64 bW.iW,str bW.j7,bW.fV.val,bW.gK.val,i64 bW.j6,str bW.hG,str bW.eX,i64 bW.eY,bW.fW.val,bW.gL.val,bW.fB.val]) rfl SG ?_
   refine VL.back (D':=[]) (by kernel_rfl) (aN.nil) ?_
   refine Zw rfl (aC qT rfl) ?_
   refine VD.one rfl ?_
   refine Zv (vc:=(HD aL)) (cs':=[bW.work.val,bW.index.val,bW.refs.val,str eA.branch,i64 eA.c8,str aL.kind,i64 aL.other,str aL.text,aL.lT.val,aL.todo.val,i64 aL.made,str aL.branch,str aL.cU,i64 aL.cV,aL.index.val,aL.work.val,bW.fB.val]) rfl SH ?_
   refine VL.back (D':=[]) (by kernel_rfl) (aN.nil) ?_
   refine VD.to (fun _ _ h=>h) ?_
   refine Zq (Zr ?_)
   refine Zu (aT dF rfl rfl) ?_
   refine Zu (qH rfl) ?_
   obtain ⟨pF,E3,hS⟩:=aU hS
   refine VL.cA (sP bN GO aH GN jY (⟨bW.work,bW.index,bW.refs,eA.branch,eA.c8,aL.kind,aL.other,aL.text,aL.lT,aL.todo,aL.made,aL.branch,aL.cU,aL.cV,aL.index,aL.work,bW.fB⟩:iX) iE E3) rfl (by decide) ?_
   rintro ⟨tK,OE⟩ rfl
   try dsimp only
   refine Zl ?_
   refine VC.keep (ρ':=[(2,ptr HH 0),(3,ptr jY 0)]) [2,3] rfl ?_
   refine Zq ?_
   refine VC.draw [(0,true),(1,true),(3,true),(4,true),(2,false),(6,true),(5,false),(7,false),(8,true),(9,false)] mixed (by kernel_rfl) (by kernel_rfl) (by kernel_rfl) ?_
   refine Zw rfl (aC j4 rfl) ?_
   refine Zw rfl (aT rW rfl rfl) ?_
   refine Zw rfl (aC wJ rfl) ?_
   refine Zw rfl (aT HQ rfl rfl) ?_
   refine VD.one rfl ?_
   refine VL.shut bW.refs 253 (fun _ _ _ _=>trivial) ?_
   obtain ⟨ML,LF,hS⟩:=aU hS
   refine VL.cR (mN bW.refs LF) rfl (by decide) ?_
   rintro lK rfl
   try dsimp only
   refine VL.back (D':=[(4,bW.fB.val),(3,ptr jY 16)]) (by kernel_rfl) (aN.cons rfl (aT HQ rfl rfl) (aN.cons rfl (aC wJ rfl) (aN.nil))) ?_
   refine Zw rfl (aC j4 rfl) ?_
   refine VD.one rfl ?_
   refine VL.shut bW.fB 258 (fun h m=>cO.out (X:=zI bW.fB.l) h m) ?_
   obtain ⟨IE,F0,hS⟩:=aU hS
   refine VL.cR (kZ bW.fB F0) rfl (by decide) ?_
   rintro lD rfl
   try dsimp only
   refine VL.back (D':=[(6,ptr jY 2)]) (by kernel_rfl) (aN.cons rfl (aC j4 rfl) (aN.nil)) ?_
   refine VD.one rfl ?_
   refine Zv (vc:=[lK.val]) (cs':=[bW.work.val,bW.index.val,lK.val,str eA.branch,i64 eA.c8,str aL.kind,i64 aL.other,str aL.text,aL.lT.val,aL.todo.val,i64 aL.made,str aL.branch,str aL.cU,i64 aL.cV,aL.index.val,aL.work.val,bW.fB.val]) rfl W5 ?_
   refine VL.back (D':=[]) (by kernel_rfl) (aN.nil) ?_
   refine Zw rfl (aC wJ rfl) ?_
   refine VD.one rfl ?_
   refine Zv (vc:=[lD.val]) (cs':=[bW.work.val,bW.index.val,lK.val,str eA.branch,i64 eA.c8,str aL.kind,i64 aL.other,str aL.text,aL.lT.val,aL.todo.val,i64 aL.made,str aL.branch,str aL.cU,i64 aL.cV,aL.index.val,aL.work.val,lD.val]) rfl aG1 ?_
   refine VL.back (D':=[]) (by kernel_rfl) (aN.nil) ?_
   refine VD.to (fun _ _ h=>h) ?_
   refine Zq (Zr ?_)
   refine Zu (cL E4 rfl rfl) ?_
   refine Zv (vc:=[bW.work.val,bW.index.val,lK.val,str eA.branch,i64 eA.c8,str aL.kind,i64 aL.other,str aL.text,aL.lT.val,aL.todo.val,i64 aL.made,str aL.branch,str aL.cU,i64 aL.cV,aL.index.val,aL.work.val,lD.val]) (cs':=[bW.work.val,bW.index.val,lK.val,str eA.branch,i64 eA.c8,str aL.kind,i64 aL.other,str aL.text,aL.lT.val,aL.todo.val,i64 aL.made,str aL.branch,str aL.cU,i64 aL.cV,aL.index.val,aL.work.val,lD.val]) rfl W6 ?_
   refine Zl ?_
   refine VC.keep (ρ':=[(2,ptr HH 0)]) [2] rfl ?_
   cases hS
   exact VC.ret (jV (vs:=[.agg #[bW.work.val,bW.index.val,lK.val,str eA.branch,i64 eA.c8,str aL.kind,i64 aL.other,str aL.text,aL.lT.val,aL.todo.val,i64 aL.made,str aL.branch,str aL.cU,i64 aL.cV,aL.index.val,aL.work.val,lD.val]]) (.inr rfl) rfl (eW.cell E4 rfl rfl Rd.blk (eW.nil)) (⟨bW.work,bW.index,lK,eA.branch,eA.c8,aL.kind,aL.other,aL.text,aL.lT,aL.todo,aL.made,aL.branch,aL.cU,aL.cV,aL.index,aL.work,lD⟩,⟨tK.b,tK.at_,tK.err⟩,⟨OE.bad⟩) rfl rfl (by (try dsimp only); exact cO.out) (by (try dsimp only); exact eT.out))
  refine NG.of rfl ?_
  refine VL.alloc (cs:=[.slice none 0 0,.slice none 0 0,.slice none 0 0,str [],i64 0,str [],i64 0,str [],.slice none 0 0,.slice none 0 0,i64 0,str [],str [],i64 0,.slice none 0 0,.slice none 0 0,.slice none 0 0]) (by kernel_rfl) (by decide) fun jY => ?_
  refine VL.AU (D':=[(2,ptr bN 0)]) (listed' := #[true,true,true,false,false,true,false]) (aN.cons rfl (aT dF rfl rfl) (aN.nil)) (by kernel_rfl) (by kernel_rfl) ?_
  refine VG.ord [(3,false),(4,true),(6,false)] (by kernel_rfl) (qP (by kernel_rfl)) (by kernel_rfl) ?_
  refine VD.one rfl ?_
  refine VL.cA (oW bN LW aH LV SB) rfl (by decide) ?_
  rintro ⟨iQ,GS,GU⟩ rfl
  try dsimp only
  refine VL.back (D':=[]) (by kernel_rfl) (aN.nil) ?_
  refine Zw rfl (fH (vs:=[(0,iV.val),(1,iQ.val)]) (cs := #[iV.val,iQ.val,.slice none 0 0,str [],i64 0,str [],i64 0,str [],.slice none 0 0,.slice none 0 0,i64 0,str [],str [],i64 0,.slice none 0 0,.slice none 0 0,.slice none 0 0]) rfl (by kernel_rfl)) ?_
  refine VD.one rfl ?_
  refine Zv (vc:=[iV.val,iQ.val,.slice none 0 0,str [],i64 0,str [],i64 0,str [],.slice none 0 0,.slice none 0 0,i64 0,str [],str [],i64 0,.slice none 0 0,.slice none 0 0,.slice none 0 0]) (cs':=[iV.val,iQ.val,.slice none 0 0,str [],i64 0,str [],i64 0,str [],.slice none 0 0,.slice none 0 0,i64 0,str [],str [],i64 0,.slice none 0 0,.slice none 0 0,.slice none 0 0]) rfl W6 ?_
  refine VL.back (D':=[]) (by kernel_rfl) (aN.nil) ?_
  refine VD.to (fun _ _ h=>h) ?_
  refine Zq (Zr ?_)
  refine Zu (aT dF rfl rfl) ?_
  refine Zu (qH rfl) ?_
  refine VL.lR (⟨none,0,[]⟩:Sv eG) 253 ⟨rfl,rfl⟩ ?_
  refine VL.lR (⟨none,0,[]⟩:Sv dR) 258 ⟨rfl,rfl⟩ ?_
  refine VL.LQ (s:=(⟨none,0,[]⟩:Sv dR)) rfl ?_
  refine VL.SY jY (cs':=[iV.val,iQ.val,(⟨none,0,[]⟩:Sv eG).val,str [],i64 0,str [],i64 0,str [],(⟨none,0,[]⟩:Sv cT).val,(⟨none,0,[]⟩:Sv cT).val,i64 0,str [],str [],i64 0,(⟨none,0,[]⟩:Sv aK).val,(⟨none,0,[]⟩:Sv aD).val,(⟨none,0,[]⟩:Sv dR).val]) rfl ?_
  obtain ⟨B3,T3,hS⟩:=aU hS
  refine VL.cA (sO bN GU aH GS jY (⟨iV,iQ,(⟨none,0,[]⟩:Sv eG),[],0,[],0,[],(⟨none,0,[]⟩:Sv cT),(⟨none,0,[]⟩:Sv cT),0,[],[],0,(⟨none,0,[]⟩:Sv aK),(⟨none,0,[]⟩:Sv aD),(⟨none,0,[]⟩:Sv dR)⟩:iX) iE T3) rfl (by decide) ?_
  rintro ⟨N8,DT,bW⟩ rfl
  try dsimp only
  refine Zl ?_
  refine VC.keep (ρ':=[(1,ptr iE 0),(2,ptr HH 0),(3,ptr jY 0)]) [1,2,3] rfl ?_
  refine Zq ?_
  refine VC.draw [(0,true),(2,true),(1,false),(4,true),(3,false),(5,false),(6,true),(7,false)] mixed (by kernel_rfl) (by kernel_rfl) (by kernel_rfl) ?_
  refine Zw rfl (aT dF rfl rfl) ?_
  refine Zw rfl (aT dF rfl rfl) ?_
  refine VD.one rfl ?_
  obtain ⟨PO,T4,hS⟩:=aU hS
  refine VL.cA (rE bN DT aH N8 T4) rfl (by decide) ?_
  rintro ⟨eA,OB⟩ rfl
  try dsimp only
  refine VL.back (D':=[(2,ptr bN 0)]) (by kernel_rfl) (aN.cons rfl (aT dF rfl rfl) (aN.nil)) ?_
  refine Zw rfl (aC nM rfl) ?_
  refine VD.one rfl ?_
  obtain ⟨mP,K7,hS⟩:=aU hS
  refine VL.cA (xA bN DT aH OB K7) rfl (by decide) ?_
  rintro ⟨aL,GN,GO⟩ rfl
  try dsimp only
  refine VL.back (D':=[(4,ptr jY 3)]) (by kernel_rfl) (aN.cons rfl (aC nM rfl) (aN.nil)) ?_
  refine VD.one rfl ?_
  refine Zv (vc:=[str eA.branch,i64 eA.c8]) (cs':=[bW.work.val,bW.index.val,bW.refs.val,str eA.branch,i64 eA.c8,str bW.j5,i64 bW.iW,str bW.j7,bW.fV.val,bW.gK.val,i64 bW.j6,str bW.hG,str bW.eX,i64 bW.eY,bW.fW.val,bW.gL.val,bW.fB.val]) rfl SG ?_
  refine VL.back (D':=[]) (by kernel_rfl) (aN.nil) ?_
  refine Zw rfl (aC qT rfl) ?_
  refine VD.one rfl ?_
  refine Zv (vc:=(HD aL)) (cs':=[bW.work.val,bW.index.val,bW.refs.val,str eA.branch,i64 eA.c8,str aL.kind,i64 aL.other,str aL.text,aL.lT.val,aL.todo.val,i64 aL.made,str aL.branch,str aL.cU,i64 aL.cV,aL.index.val,aL.work.val,bW.fB.val]) rfl SH ?_
  refine VL.back (D':=[]) (by kernel_rfl) (aN.nil) ?_
  refine VD.to (fun _ _ h=>h) ?_
  refine Zq (Zr ?_)
  refine Zu (aT dF rfl rfl) ?_
  refine Zu (qH rfl) ?_
  obtain ⟨pF,E3,hS⟩:=aU hS
  refine VL.cA (sP bN GO aH GN jY (⟨bW.work,bW.index,bW.refs,eA.branch,eA.c8,aL.kind,aL.other,aL.text,aL.lT,aL.todo,aL.made,aL.branch,aL.cU,aL.cV,aL.index,aL.work,bW.fB⟩:iX) iE E3) rfl (by decide) ?_
  rintro ⟨tK,OE⟩ rfl
  try dsimp only
  refine Zl ?_
  refine VC.keep (ρ':=[(2,ptr HH 0),(3,ptr jY 0)]) [2,3] rfl ?_
  refine Zq ?_
  refine VC.draw [(0,true),(1,true),(3,true),(4,true),(2,false),(6,true),(5,false),(7,false),(8,true),(9,false)] mixed (by kernel_rfl) (by kernel_rfl) (by kernel_rfl) ?_
  refine Zw rfl (aC j4 rfl) ?_
  refine Zw rfl (aT rW rfl rfl) ?_
  refine Zw rfl (aC wJ rfl) ?_
  refine Zw rfl (aT HQ rfl rfl) ?_
  refine VD.one rfl ?_
  refine VL.shut bW.refs 253 (fun _ _ _ _=>trivial) ?_
  obtain ⟨ML,LF,hS⟩:=aU hS
  refine VL.cR (mN bW.refs LF) rfl (by decide) ?_
  rintro lK rfl
  try dsimp only
  refine VL.back (D':=[(4,bW.fB.val),(3,ptr jY 16)]) (by kernel_rfl) (aN.cons rfl (aT HQ rfl rfl) (aN.cons rfl (aC wJ rfl) (aN.nil))) ?_
  refine Zw rfl (aC j4 rfl) ?_
  refine VD.one rfl ?_
  refine VL.shut bW.fB 258 (fun h m=>cO.out (X:=zI bW.fB.l) h m) ?_
  obtain ⟨IE,F0,hS⟩:=aU hS
  refine VL.cR (kZ bW.fB F0) rfl (by decide) ?_
  rintro lD rfl
  try dsimp only
  refine VL.back (D':=[(6,ptr jY 2)]) (by kernel_rfl) (aN.cons rfl (aC j4 rfl) (aN.nil)) ?_
  refine VD.one rfl ?_
  refine Zv (vc:=[lK.val]) (cs':=[bW.work.val,bW.index.val,lK.val,str eA.branch,i64 eA.c8,str aL.kind,i64 aL.other,str aL.text,aL.lT.val,aL.todo.val,i64 aL.made,str aL.branch,str aL.cU,i64 aL.cV,aL.index.val,aL.work.val,bW.fB.val]) rfl W5 ?_
  refine VL.back (D':=[]) (by kernel_rfl) (aN.nil) ?_
  refine Zw rfl (aC wJ rfl) ?_
  refine VD.one rfl ?_
  refine Zv (vc:=[lD.val]) (cs':=[bW.work.val,bW.index.val,lK.val,str eA.branch,i64 eA.c8,str aL.kind,i64 aL.other,str aL.text,aL.lT.val,aL.todo.val,i64 aL.made,str aL.branch,str aL.cU,i64 aL.cV,aL.index.val,aL.work.val,lD.val]) rfl aG1 ?_
  refine VL.back (D':=[]) (by kernel_rfl) (aN.nil) ?_
  refine VD.to (fun _ _ h=>h) ?_
  refine Zq (Zr ?_)
  refine Zu (cL E4 rfl rfl) ?_
  refine Zv (vc:=[bW.work.val,bW.index.val,lK.val,str eA.branch,i64 eA.c8,str aL.kind,i64 aL.other,str aL.text,aL.lT.val,aL.todo.val,i64 aL.made,str aL.branch,str aL.cU,i64 aL.cV,aL.index.val,aL.work.val,lD.val]) (cs':=[bW.work.val,bW.index.val,lK.val,str eA.branch,i64 eA.c8,str aL.kind,i64 aL.other,str aL.text,aL.lT.val,aL.todo.val,i64 aL.made,str aL.branch,str aL.cU,i64 aL.cV,aL.index.val,aL.work.val,lD.val]) rfl W6 ?_
  refine Zl ?_
  refine VC.keep (ρ':=[(2,ptr HH 0)]) [2] rfl ?_
  cases hS
  exact VC.ret (jV (vs:=[.agg #[bW.work.val,bW.index.val,lK.val,str eA.branch,i64 eA.c8,str aL.kind,i64 aL.other,str aL.text,aL.lT.val,aL.todo.val,i64 aL.made,str aL.branch,str aL.cU,i64 aL.cV,aL.index.val,aL.work.val,lD.val]]) (.inr rfl) rfl (eW.cell E4 rfl rfl Rd.blk (eW.nil)) (⟨bW.work,bW.index,lK,eA.branch,eA.c8,aL.kind,aL.other,aL.text,aL.lT,aL.todo,aL.made,aL.branch,aL.cU,aL.cV,aL.index,aL.work,lD⟩,⟨tK.b,tK.at_,tK.err⟩,⟨OE.bad⟩) rfl rfl (by (try dsimp only); exact cO.out) (by (try dsimp only); exact eT.out))
 refine NG.of rfl ?_
 refine VL.alloc (cs:=[.slice none 0 0,.slice none 0 0,.slice none 0 0,str [],i64 0,str [],i64 0,str [],.slice none 0 0,.slice none 0 0,i64 0,str [],str [],i64 0,.slice none 0 0,.slice none 0 0,.slice none 0 0]) (by kernel_rfl) (by decide) fun jY => ?_
 refine VL.AU (D':=[(2,ptr bN 0),(0,ptr bN 0)]) (listed' := #[true,false,true,false,false,true,false]) (aN.cons rfl (aT dF rfl rfl) (aN.cons rfl (aT dF rfl rfl) (aN.nil))) (by kernel_rfl) (by kernel_rfl) ?_
 refine VG.ord [(1,false),(3,false),(4,true),(6,false)] (by kernel_rfl) (qP (by kernel_rfl)) (by kernel_rfl) ?_
 refine VD.one rfl ?_
 refine VL.cA (sH bN dB aH bF NM) rfl (by decide) ?_
 rintro ⟨iV,LV,LW⟩ rfl
 try dsimp only
 refine VL.back (D':=[(2,ptr bN 0)]) (by kernel_rfl) (aN.cons rfl (aT dF rfl rfl) (aN.nil)) ?_
 refine VD.one rfl ?_
 refine VL.cA (oW bN LW aH LV SB) rfl (by decide) ?_
 rintro ⟨iQ,GS,GU⟩ rfl
 try dsimp only
 refine VL.back (D':=[]) (by kernel_rfl) (aN.nil) ?_
 refine Zw rfl (fH (vs:=[(0,iV.val),(1,iQ.val)]) (cs := #[iV.val,iQ.val,.slice none 0 0,str [],i64 0,str [],i64 0,str [],.slice none 0 0,.slice none 0 0,i64 0,str [],str [],i64 0,.slice none 0 0,.slice none 0 0,.slice none 0 0]) rfl (by kernel_rfl)) ?_
 refine VD.one rfl ?_
 refine Zv (vc:=[iV.val,iQ.val,.slice none 0 0,str [],i64 0,str [],i64 0,str [],.slice none 0 0,.slice none 0 0,i64 0,str [],str [],i64 0,.slice none 0 0,.slice none 0 0,.slice none 0 0]) (cs':=[iV.val,iQ.val,.slice none 0 0,str [],i64 0,str [],i64 0,str [],.slice none 0 0,.slice none 0 0,i64 0,str [],str [],i64 0,.slice none 0 0,.slice none 0 0,.slice none 0 0]) rfl W6 ?_
 refine VL.back (D':=[]) (by kernel_rfl) (aN.nil) ?_
 refine VD.to (fun _ _ h=>h) ?_
 refine Zq (Zr ?_)
 refine Zu (aT dF rfl rfl) ?_
 refine Zu (qH rfl) ?_
 refine VL.lR (⟨none,0,[]⟩:Sv eG) 253 ⟨rfl,rfl⟩ ?_
 refine VL.lR (⟨none,0,[]⟩:Sv dR) 258 ⟨rfl,rfl⟩ ?_
 refine VL.LQ (s:=(⟨none,0,[]⟩:Sv dR)) rfl ?_
 refine VL.SY jY (cs':=[iV.val,iQ.val,(⟨none,0,[]⟩:Sv eG).val,str [],i64 0,str [],i64 0,str [],(⟨none,0,[]⟩:Sv cT).val,(⟨none,0,[]⟩:Sv cT).val,i64 0,str [],str [],i64 0,(⟨none,0,[]⟩:Sv aK).val,(⟨none,0,[]⟩:Sv aD).val,(⟨none,0,[]⟩:Sv dR).val]) rfl ?_
 obtain ⟨B3,T3,hS⟩:=aU hS
 refine VL.cA (sO bN GU aH GS jY (⟨iV,iQ,(⟨none,0,[]⟩:Sv eG),[],0,[],0,[],(⟨none,0,[]⟩:Sv cT),(⟨none,0,[]⟩:Sv cT),0,[],[],0,(⟨none,0,[]⟩:Sv aK),(⟨none,0,[]⟩:Sv aD),(⟨none,0,[]⟩:Sv dR)⟩:iX) iE T3) rfl (by decide) ?_
 rintro ⟨N8,DT,bW⟩ rfl
 try dsimp only
 refine Zl ?_
 refine VC.keep (ρ':=[(1,ptr iE 0),(2,ptr HH 0),(3,ptr jY 0)]) [1,2,3] rfl ?_
 refine Zq ?_
 refine VC.draw [(0,true),(2,true),(1,false),(4,true),(3,false),(5,false),(6,true),(7,false)] mixed (by kernel_rfl) (by kernel_rfl) (by kernel_rfl) ?_
 refine Zw rfl (aT dF rfl rfl) ?_
 refine Zw rfl (aT dF rfl rfl) ?_
 refine VD.one rfl ?_
 obtain ⟨PO,T4,hS⟩:=aU hS
 refine VL.cA (rE bN DT aH N8 T4) rfl (by decide) ?_
 rintro ⟨eA,OB⟩ rfl
 try dsimp only
 refine VL.back (D':=[(2,ptr bN 0)]) (by kernel_rfl) (aN.cons rfl (aT dF rfl rfl) (aN.nil)) ?_
 refine Zw rfl (aC nM rfl) ?_
 refine VD.one rfl ?_
 obtain ⟨mP,K7,hS⟩:=aU hS
 refine VL.cA (xA bN DT aH OB K7) rfl (by decide) ?_
 rintro ⟨aL,GN,GO⟩ rfl
 try dsimp only
 refine VL.back (D':=[(4,ptr jY 3)]) (by kernel_rfl) (aN.cons rfl (aC nM rfl) (aN.nil)) ?_
 refine VD.one rfl ?_
 refine Zv (vc:=[str eA.branch,i64 eA.c8]) (cs':=[bW.work.val,bW.index.val,bW.refs.val,str eA.branch,i64 eA.c8,str bW.j5,i64 bW.iW,str bW.j7,bW.fV.val,bW.gK.val,i64 bW.j6,str bW.hG,str bW.eX,i64 bW.eY,bW.fW.val,bW.gL.val,bW.fB.val]) rfl SG ?_
 refine VL.back (D':=[]) (by kernel_rfl) (aN.nil) ?_
 refine Zw rfl (aC qT rfl) ?_
 refine VD.one rfl ?_
 refine Zv (vc:=(HD aL)) (cs':=[bW.work.val,bW.index.val,bW.refs.val,str eA.branch,i64 eA.c8,str aL.kind,i64 aL.other,str aL.text,aL.lT.val,aL.todo.val,i64 aL.made,str aL.branch,str aL.cU,i64 aL.cV,aL.index.val,aL.work.val,bW.fB.val]) rfl SH ?_
 refine VL.back (D':=[]) (by kernel_rfl) (aN.nil) ?_
 refine VD.to (fun _ _ h=>h) ?_
 refine Zq (Zr ?_)
 refine Zu (aT dF rfl rfl) ?_
 refine Zu (qH rfl) ?_
 obtain ⟨pF,E3,hS⟩:=aU hS
 refine VL.cA (sP bN GO aH GN jY (⟨bW.work,bW.index,bW.refs,eA.branch,eA.c8,aL.kind,aL.other,aL.text,aL.lT,aL.todo,aL.made,aL.branch,aL.cU,aL.cV,aL.index,aL.work,bW.fB⟩:iX) iE E3) rfl (by decide) ?_
 rintro ⟨tK,OE⟩ rfl
 try dsimp only
 refine Zl ?_
 refine VC.keep (ρ':=[(2,ptr HH 0),(3,ptr jY 0)]) [2,3] rfl ?_
 refine Zq ?_
 refine VC.draw [(0,true),(1,true),(3,true),(4,true),(2,false),(6,true),(5,false),(7,false),(8,true),(9,false)] mixed (by kernel_rfl) (by kernel_rfl) (by kernel_rfl) ?_
 refine Zw rfl (aC j4 rfl) ?_
 refine Zw rfl (aT rW rfl rfl) ?_
 refine Zw rfl (aC wJ rfl) ?_
 refine Zw rfl (aT HQ rfl rfl) ?_
 refine VD.one rfl ?_
 refine VL.shut bW.refs 253 (fun _ _ _ _=>trivial) ?_
 obtain ⟨ML,LF,hS⟩:=aU hS
 refine VL.cR (mN bW.refs LF) rfl (by decide) ?_
 rintro lK rfl
 try dsimp only
 refine VL.back (D':=[(4,bW.fB.val),(3,ptr jY 16)]) (by kernel_rfl) (aN.cons rfl (aT HQ rfl rfl) (aN.cons rfl (aC wJ rfl) (aN.nil))) ?_
 refine Zw rfl (aC j4 rfl) ?_
 refine VD.one rfl ?_
 refine VL.shut bW.fB 258 (fun h m=>cO.out (X:=zI bW.fB.l) h m) ?_
 obtain ⟨IE,F0,hS⟩:=aU hS
 refine VL.cR (kZ bW.fB F0) rfl (by decide) ?_
 rintro lD rfl
 try dsimp only
 refine VL.back (D':=[(6,ptr jY 2)]) (by kernel_rfl) (aN.cons rfl (aC j4 rfl) (aN.nil)) ?_
 refine VD.one rfl ?_
 refine Zv (vc:=[lK.val]) (cs':=[bW.work.val,bW.index.val,lK.val,str eA.branch,i64 eA.c8,str aL.kind,i64 aL.other,str aL.text,aL.lT.val,aL.todo.val,i64 aL.made,str aL.branch,str aL.cU,i64 aL.cV,aL.index.val,aL.work.val,bW.fB.val]) rfl W5 ?_
 refine VL.back (D':=[]) (by kernel_rfl) (aN.nil) ?_
 refine Zw rfl (aC wJ rfl) ?_
 refine VD.one rfl ?_
 refine Zv (vc:=[lD.val]) (cs':=[bW.work.val,bW.index.val,lK.val,str eA.branch,i64 eA.c8,str aL.kind,i64 aL.other,str aL.text,aL.lT.val,aL.todo.val,i64 aL.made,str aL.branch,str aL.cU,i64 aL.cV,aL.index.val,aL.work.val,lD.val]) rfl aG1 ?_
 refine VL.back (D':=[]) (by kernel_rfl) (aN.nil) ?_
 refine VD.to (fun _ _ h=>h) ?_
 refine Zq (Zr ?_)
 refine Zu (cL E4 rfl rfl) ?_
 refine Zv (vc:=[bW.work.val,bW.index.val,lK.val,str eA.branch,i64 eA.c8,str aL.kind,i64 aL.other,str aL.text,aL.lT.val,aL.todo.val,i64 aL.made,str aL.branch,str aL.cU,i64 aL.cV,aL.index.val,aL.work.val,lD.val]) (cs':=[bW.work.val,bW.index.val,lK.val,str eA.branch,i64 eA.c8,str aL.kind,i64 aL.other,str aL.text,aL.lT.val,aL.todo.val,i64 aL.made,str aL.branch,str aL.cU,i64 aL.cV,aL.index.val,aL.work.val,lD.val]) rfl W6 ?_
 refine Zl ?_
 refine VC.keep (ρ':=[(2,ptr HH 0)]) [2] rfl ?_
 cases hS
 exact VC.ret (jV (vs:=[.agg #[bW.work.val,bW.index.val,lK.val,str eA.branch,i64 eA.c8,str aL.kind,i64 aL.other,str aL.text,aL.lT.val,aL.todo.val,i64 aL.made,str aL.branch,str aL.cU,i64 aL.cV,aL.index.val,aL.work.val,lD.val]]) (.inr rfl) rfl (eW.cell E4 rfl rfl Rd.blk (eW.nil)) (⟨bW.work,bW.index,lK,eA.branch,eA.c8,aL.kind,aL.other,aL.text,aL.lT,aL.todo,aL.made,aL.branch,aL.cU,aL.cV,aL.index,aL.work,lD⟩,⟨tK.b,tK.at_,tK.err⟩,⟨OE.bad⟩) rfl rfl (by (try dsimp only); exact cO.out) (by (try dsimp only); exact eT.out))
theorem G1 (j8:Nat) (bU:Sv Int) (gS:Nat) (cI:Nat) (a_1_:aY) (bV:Nat) (cP:cQ) {r:List Int×bR} (hS:Sh.tZ bU.l a_1_ cP.pl=some r) :
 Ct Tryz.prog 303 [ptr j8 0,ptr gS 0] (cP.b.ok.and cP.err.ok) (Ow.star (Sv.own bU 3) (Ow.star (bP j8 [bU.val] 65) (Ow.star (bP bV [cP.b.val,i64 cP.at_,cP.err.val] 298) (Ow.star (bP cI [ptr bV 0,.bool a_1_.bad] 225) (bP gS [ptr cI 0] 221))))) (X:=Sv Int×cQ) (fun x => .tuple #[]) (fun x=>r=(x.1.l,x.2.pl)) (fun x=>(x.2.b.ok.and x.2.err.ok)) (fun x=>Ow.star (bP j8 [x.1.val] 65) (Ow.star (Sv.own x.1 3) (Ow.star (bP bV [x.2.b.val,i64 x.2.at_,x.2.err.val] 298) (Ow.star (bP cI [ptr bV 0,.bool a_1_.bad] 225) (bP gS [ptr cI 0] 221))))):=by
 refine Zo Tryz.func303 Tryz.ntmps303 fun c => ?_
 unfold Sh.tZ at hS
 refine VC.draw [(0,true),(1,true),(2,true),(3,true),(4,true),(5,false),(6,false),(7,false),(8,false)] mixed (by kernel_rfl) (by kernel_rfl) (by kernel_rfl) ?_
 refine Zw rfl (aT zD rfl rfl) ?_
 refine Zw rfl (aT dF rfl rfl) ?_
 refine Zw rfl (aG rfl) ?_
 refine Zw rfl (aC cM rfl) ?_
 refine Zw rfl (aT cZ rfl rfl) ?_
 refine VD.one rfl ?_
 obtain ⟨iR,lI,hS⟩:=aU hS
 refine VL.cA (eL bV cP lI) rfl (by decide) ?_
 rintro ⟨lY,x8⟩ rfl
 try dsimp only
 refine VL.back (D':=[(0,bU.val)]) (by kernel_rfl) (aN.cons rfl (aT zD rfl rfl) (aN.nil)) ?_
 refine VD.one rfl ?_
 refine VL.lit (α:=Int) (xs:=[.tmp 7]) (vs:=[i64 lY]) [lY] Tryz.underlying65 oI (by decide) rfl rfl rfl rfl (by decide) (fun _ _ _ _=>trivial) (by decide) (fun aOz aG3 => ?_) (by decide)
 replace hS:=b5 aG3 hS
 refine VL.back (D':=[(0,bU.val)]) (by kernel_rfl) (aN.cons rfl (aT zD rfl rfl) (aN.nil)) ?_
 refine VD.one rfl ?_
 obtain ⟨b9,hS⟩:=bS hS
 refine VL.app (s:=bU) (r:=aOz) Tryz.underlying65 aAE (by decide) rfl Fo.out (uW b9) (uX b9 (by decide)) (by decide) (fun aBC aG4 => ?_)
 replace hS:=b5 aG4 hS
 refine VL.back (D':=[]) (by kernel_rfl) (aN.nil) ?_
 refine VD.one rfl ?_
 refine Zv (vc:=[aBC.val]) (cs':=[aBC.val]) rfl aCr ?_
 refine VL.back (D':=[]) (by kernel_rfl) (aN.nil) ?_
 cases hS
 exact VD.nil (p9 (.inl rfl) rfl (aBC,⟨x8.b,x8.at_,x8.err⟩) rfl rfl (by (try dsimp only); exact cO.out) (by (try dsimp only); exact eT.out))
theorem I2 (bN:Nat) (dB:aY) (aH:Nat) (bF:cQ) (bY:Nat) (bH:Sv Int) (bZ:Nat) {r:bR×aY×List Int} (hS:Sh.vP dB bF.pl bH.l=some r) :
 Ct Tryz.prog 219 [ptr bN 0,.func (.func 303) #[] #[ptr bY 0,ptr bZ 0]] (bF.b.ok.and bF.err.ok) (Ow.star (bP aH [bF.b.val,i64 bF.at_,bF.err.val] 298) (Ow.star (bP bN [ptr aH 0,.bool dB.bad] 225) (Ow.star (Sv.own bH 3) (Ow.star (bP bY [bH.val] 65) (bP bZ [ptr bN 0] 221))))) (X:=cQ×aY×Sv Int) (fun x => .tuple #[]) (fun x=>r=(x.1.pl,x.2.1,x.2.2.l)) (fun x=>(x.1.b.ok.and x.1.err.ok)) (fun x=>Ow.star (bP aH [x.1.b.val,i64 x.1.at_,x.1.err.val] 298) (Ow.star (bP bN [ptr aH 0,.bool x.2.1.bad] 225) (Ow.star (bP bY [x.2.2.val] 65) (Ow.star (Sv.own x.2.2 3) (bP bZ [ptr bN 0] 221))))):=by
 refine Zo Tryz.func219 Tryz.ntmps219 fun c => ?_
 unfold Sh.vP at hS
 refine Zq (Zr ?_)
 refine Zm ?_
 refine Zu (aG rfl) ?_
 refine Zu (aC cM rfl) ?_
 refine Zu (aT cZ rfl rfl) ?_
 obtain ⟨dG,lU,hS⟩:=aU hS
 refine VL.cA (eL aH bF lU) rfl (by decide) ?_
 rintro ⟨eR,dY⟩ rfl
 try dsimp only
 refine Zy ?_
 refine VC.gD (S:=Bool) (fun (eH:Bool)=>eH) (fun (eH:Bool)=>[(0,ptr bN 0),(1,.func (.func 303) #[] #[ptr bY 0,ptr bZ 0]),(4,i64 eR)]) (fun (eH:Bool)=>Mo.tt) (fun (eH:Bool)=>Ow.star (bP aH [dY.b.val,i64 dY.at_,dY.err.val] 298) (Ow.star (bP bN [ptr aH 0,.bool eH] 225) (Ow.star (bP bY [bH.val] 65) (Ow.star (bP bZ [ptr bN 0] 221) (Ow.star (Sv.own bH 3) (Ow.emp)))))) hS ?_ ?_
 ·
  clear hS
  intro k3 hS
  refine Zr ?_
  refine Zy ?_
  refine Zu (aG rfl) ?_
  refine Zu (aC iZ rfl) ?_
  refine Zu (aT nN rfl rfl) ?_
  refine Zm ?_
  refine uV 16 hS (fun h16 hS => ?_) (fun h16 hS => ?_)
  ·
   refine VL.runs 3 [(19,some true)] (by kernel_rfl) ?_
   refine Zu (aG rfl) ?_
   refine Zu (aC iZ rfl) ?_
   refine Zv (vc:=[.bool true]) (cs':=[ptr aH 0,.bool true]) rfl pP ?_
   refine VL.mt true [0,1,4] (fun _ _ h=>h) hS rfl
  refine Zg ?_
  refine Zh (dL rfl rfl) ?_
  refine Zf ?_
  refine Zu (aG rfl) ?_
  refine Zu (aC iZ rfl) ?_
  refine Zv (vc:=[.bool (decide (eR < 0))]) (cs':=[ptr aH 0,.bool (decide (eR < 0))]) rfl pP ?_
  refine VL.mt (decide (eR < 0)) [0,1,4] (fun _ _ h=>h) hS rfl
 clear hS
 rintro eH hS
 refine Zq (Zr ?_)
 refine Zy ?_
 refine Zb ?_
 refine VC.iter (S:=Int×Sv UInt8×Int×Er×Sv Int) (fun sg=>(sg.1,sg.2.1.l,sg.2.2.1,sg.2.2.2.1.pl,sg.2.2.2.2.l)) (fun sg=>[(0,ptr bN 0),(1,.func (.func 303) #[] #[ptr bY 0,ptr bZ 0]),(4,i64 eR),(5,i64 sg.1)]) (fun sg=>(sg.2.1.ok.and sg.2.2.2.1.ok)) (fun sg=>Ow.star (bP aH [sg.2.1.val,i64 sg.2.2.1,sg.2.2.2.1.val] 298) (Ow.star (bP bN [ptr aH 0,.bool eH] 225) (Ow.star (bP bY [sg.2.2.2.2.val] 65) (Ow.star (bP bZ [ptr bN 0] 221) (Ow.star (Sv.own sg.2.2.2.2 3) (Ow.emp)))))) (0,dY.b,dY.at_,dY.err,bH) [0,1,4,5] hS rfl ?_
 clear hS
 rintro ⟨gO,fK,fY,fO,jZ⟩ m1 y1 hS hK1
 refine Zq (Zq (Zr ?_))
 refine Zy ?_
 refine Zu (dL rfl rfl) ?_
 refine Zm ?_
 refine mF 25 hS (fun h25 hS => ?_) (fun h25 hS => ?_)
 ·
  refine Zg ?_
  refine Zh (aG rfl) ?_
  refine Zh (aC cM rfl) ?_
  refine Zh (aT cZ rfl rfl) ?_
  refine VL.guard rfl rfl ?_
  obtain ⟨sV,xX,hS⟩:=aU hS
  refine VL.cA (kT aH (⟨fK,fY,fO⟩:cQ) xX) rfl (by decide) ?_
  rintro qW rfl
  try dsimp only
  refine Zh (x9 Tryz.underlying27 rfl) ?_
  refine Zy ?_
  refine VC.keep (ρ':=[(0,ptr bN 0),(1,.func (.func 303) #[] #[ptr bY 0,ptr bZ 0]),(4,i64 eR),(5,i64 gO),(32,.bool (decide (qW.pl.isNil=true)))]) [0,1,4,5,32] rfl ?_
  refine Zc hS (fun h32 hS => ?_) (fun h32 hS => ?_)
  ·
   refine Zk ?_
   refine Zq (Zb (Zr ?_))
   refine Zm ?_
   obtain ⟨kX,AZ,hS⟩:=aU hS
   refine VL.HJ (vs:=[]) (caps:=[ptr bY 0,ptr bZ 0]) (G1 bY jZ bZ bN (⟨eH⟩:aY) aH (⟨fK,fY,fO⟩:cQ) AZ) rfl rfl (by decide) ?_
   rintro ⟨x5,lX⟩ rfl
   try dsimp only
   refine Zl ?_
   refine Zr ?_
   refine Zm ?_
   obtain ⟨b34,hS⟩:=bS hS
   refine Zu (cK rfl rfl b34) ?_
   refine Za ?_
   refine VL.jC ((gO+1),lX.b,lX.at_,lX.err,x5) [0,1,4,5] (fun _ _ h=>h) (go2 hS hK1) rfl
  replace hS:=gQ hS hK1
  cases hS
  exact VC.exit (p9 (.inl rfl) rfl (⟨fK,fY,fO⟩,⟨eH⟩,jZ) rfl rfl (by (try dsimp only); exact cO.out) (by (try dsimp only); exact eT.out))
 refine VL.runs 7 [(32,some false)] (by kernel_rfl) ?_
 refine Zl ?_
 refine VC.vY rfl ?_
 replace hS:=gQ hS hK1
 cases hS
 exact VC.exit (p9 (.inl rfl) rfl (⟨fK,fY,fO⟩,⟨eH⟩,jZ) rfl rfl (by (try dsimp only); exact cO.out) (by (try dsimp only); exact eT.out))
theorem tP (aB:Sv Int) {r:List Int} (hS:Sh.o8 aB.l=some r) :
 Ct Tryz.prog 304 [aB.val] aB.ok (Ow.emp) (X:=Sv Int) (fun x=>x.val) (fun x=>r=x.l) (fun x=>x.ok) (fun x=>Ow.emp):=by
 refine Zo Tryz.func304 Tryz.ntmps304 fun c => ?_
 unfold Sh.o8 at hS
 refine Zq (Zr ?_)
 refine Zy ?_
 refine Zq (Zr ?_)
 refine Zy ?_
 refine Zu (dO (s:=aB) Tryz.underlying65 rfl) ?_
 refine Zm ?_
 refine Zu (dO (s:=aB) Tryz.underlying65 rfl) ?_
 obtain ⟨b8,hS⟩:=bS hS
 refine VL.M7 Tryz.underlying65 AE rfl rfl rfl b8.1 (b8.2) (by decide) fun wZ qU => ?_
 replace hS:=b5 qU hS
 refine Zy ?_
 cases hS
 exact VC.ret (fA (.inr rfl) rfl rfl wZ rfl rfl (by (try dsimp only); exact cO.out) (fun _ _=>trivial))
theorem I4 (bN:Nat) (dB:aY) (aH:Nat) (bF:cQ) {r:List Int×bR×aY} (hS:Sh.vR dB bF.pl=some r) :
 Ct Tryz.prog 222 [ptr bN 0] (bF.b.ok.and bF.err.ok) (Ow.star (bP aH [bF.b.val,i64 bF.at_,bF.err.val] 298) (bP bN [ptr aH 0,.bool dB.bad] 225)) (X:=Sv Int×cQ×aY) (fun x=>x.1.val) (fun x=>r=(x.1.l,x.2.1.pl,x.2.2)) (fun x=>(x.1.ok.and (x.2.1.b.ok.and x.2.1.err.ok))) (fun x=>Ow.star (bP aH [x.2.1.b.val,i64 x.2.1.at_,x.2.1.err.val] 298) (bP bN [ptr aH 0,.bool x.2.2.bad] 225)):=by
 refine Zo Tryz.func222 Tryz.ntmps222 fun c => ?_
 unfold Sh.vR at hS
 refine Zq (Zr ?_)
 refine VL.box (cs:=[ptr bN 0]) rfl rfl (by decide) fun iE => ?_
 refine Zy ?_
 refine Zq (Zr ?_)
 refine VL.alloc (cs:=[.slice none 0 0]) (by kernel_rfl) (by decide) fun jX => ?_
 refine Zl ?_
 refine Zq (Zr ?_)
 refine Zu (aT dF rfl rfl) ?_
 refine Zu (qH rfl) ?_
 refine VL.lR (⟨none,0,[]⟩:Sv Int) 3 ⟨rfl,rfl⟩ ?_
 refine VL.SY jX (cs':=[(⟨none,0,[]⟩:Sv Int).val]) rfl ?_
 obtain ⟨pV,LG,hS⟩:=aU hS
 refine VL.cA (I2 bN dB aH bF jX (⟨none,0,[]⟩:Sv Int) iE LG) rfl (by decide) ?_
 rintro ⟨qE,FA,wD⟩ rfl
 try dsimp only
 refine Zl ?_
 refine Zq (Zr ?_)
 refine Zu (aT zD rfl rfl) ?_
 refine VL.shut wD 3 (fun _ _ _ _=>trivial) ?_
 obtain ⟨CH,F3,hS⟩:=aU hS
 refine VL.cR (tP wD F3) rfl (by decide) ?_
 rintro s5 rfl
 try dsimp only
 refine Zy ?_
 cases hS
 exact VC.ret (fA (.inr rfl) rfl rfl (s5,⟨qE.b,qE.at_,qE.err⟩,⟨FA.bad⟩) rfl rfl (by (try dsimp only); exact cO.out) (by (try dsimp only); exact eT.out))
theorem I5 (j8:Nat) (bU:cC) (gS:Nat) (cI:Nat) (a_1_:aY) (bV:Nat) (cP:cQ) {r:bM×bR×aY} (hS:Sh.vS bU.pl a_1_ cP.pl=some r) :
 Ct Tryz.prog 220 [ptr j8 0,ptr gS 0] (bU.bD.ok.and (bU.aX.ok.and (bU.bK.ok.and (bU.aM.ok.and (bU.aR.ok.and (bU.aO.ok.and (bU.aS.ok.and (bU.aZ.ok.and ((zI bU.bB.l).and (bU.bL.ok.and (bU.bE.ok.and (cP.b.ok.and cP.err.ok)))))))))))) (Ow.star (Sv.own bU.bB 67) (Ow.star (bP j8 (aE bU) 59) (Ow.star (bP bV [cP.b.val,i64 cP.at_,cP.err.val] 298) (Ow.star (bP cI [ptr bV 0,.bool a_1_.bad] 225) (bP gS [ptr cI 0] 221))))) (X:=cC×cQ×aY) (fun x => .tuple #[]) (fun x=>r=(x.1.pl,x.2.1.pl,x.2.2)) (fun x=>(x.1.bD.ok.and (x.1.aX.ok.and (x.1.bK.ok.and (x.1.aM.ok.and (x.1.aR.ok.and (x.1.aO.ok.and (x.1.aS.ok.and (x.1.aZ.ok.and ((zI x.1.bB.l).and (x.1.bL.ok.and (x.1.bE.ok.and (x.2.1.b.ok.and x.2.1.err.ok))))))))))))) (fun x=>Ow.star (bP j8 (aE x.1) 59) (Ow.star (Sv.own x.1.bB 67) (Ow.star (bP bV [x.2.1.b.val,i64 x.2.1.at_,x.2.1.err.val] 298) (Ow.star (bP cI [ptr bV 0,.bool x.2.2.bad] 225) (bP gS [ptr cI 0] 221))))):=by
 refine Zo Tryz.func220 Tryz.ntmps220 fun c => ?_
 unfold Sh.vS at hS
 refine VC.draw [(0,true),(1,true),(2,true),(4,true),(6,true),(7,true),(8,true),(9,true),(11,true),(12,true),(13,true),(14,true),(3,false),(5,false),(10,false),(15,false),(16,true),(17,false),(18,false),(19,true),(20,false)] mixed (by kernel_rfl) (by kernel_rfl) (by kernel_rfl) ?_
 refine Zw rfl (aC lJ rfl) ?_
 refine Zw rfl (aT qC rfl rfl) ?_
 refine Zw rfl (aT dF rfl rfl) ?_
 refine Zw rfl (aT dF rfl rfl) ?_
 refine Zw rfl (aT dF rfl rfl) ?_
 refine Zw rfl (aG rfl) ?_
 refine Zw rfl (aC cM rfl) ?_
 refine Zw rfl (aT cZ rfl rfl) ?_
 refine Zw rfl (aT dF rfl rfl) ?_
 refine Zw rfl (aG rfl) ?_
 refine Zw rfl (aC cM rfl) ?_
 refine Zw rfl (aT cZ rfl rfl) ?_
 refine VD.one rfl ?_
 obtain ⟨aJd,aUJ,hS⟩:=aU hS
 refine VL.cA (sH cI a_1_ bV cP aUJ) rfl (by decide) ?_
 rintro ⟨VM,aS0,aS1⟩ rfl
 try dsimp only
 refine VL.back (D':=[(14,ptr bV 0),(13,ptr cI 0),(12,ptr cI 0),(11,ptr cI 0),(9,ptr bV 0),(8,ptr cI 0),(7,ptr cI 0),(6,ptr cI 0),(4,ptr cI 0),(1,bU.bB.val),(0,ptr j8 17)]) (by kernel_rfl) (aN.cons rfl (aT cZ rfl rfl) (aN.cons rfl (aC cM rfl) (aN.cons rfl (aG rfl) (aN.cons rfl (aT dF rfl rfl) (aN.cons rfl (aT cZ rfl rfl) (aN.cons rfl (aC cM rfl) (aN.cons rfl (aG rfl) (aN.cons rfl (aT dF rfl rfl) (aN.cons rfl (aT dF rfl rfl) (aN.cons rfl (aT qC rfl rfl) (aN.cons rfl (aC lJ rfl) (aN.nil)))))))))))) ?_
 refine VD.one rfl ?_
 obtain ⟨uF,zJ,hS⟩:=aU hS
 refine VL.cA (I4 cI aS1 bV aS0 zJ) rfl (by decide) ?_
 rintro ⟨mS,VO,aS4⟩ rfl
 try dsimp only
 refine VL.back (D':=[(14,ptr bV 0),(13,ptr cI 0),(12,ptr cI 0),(11,ptr cI 0),(9,ptr bV 0),(8,ptr cI 0),(7,ptr cI 0),(6,ptr cI 0),(1,bU.bB.val),(0,ptr j8 17)]) (by kernel_rfl) (aN.cons rfl (aT cZ rfl rfl) (aN.cons rfl (aC cM rfl) (aN.cons rfl (aG rfl) (aN.cons rfl (aT dF rfl rfl) (aN.cons rfl (aT cZ rfl rfl) (aN.cons rfl (aC cM rfl) (aN.cons rfl (aG rfl) (aN.cons rfl (aT dF rfl rfl) (aN.cons rfl (aT qC rfl rfl) (aN.cons rfl (aC lJ rfl) (aN.nil))))))))))) ?_
 refine VD.one rfl ?_
 obtain ⟨kH,rU,hS⟩:=aU hS
 refine VL.cA (eL bV VO rU) rfl (by decide) ?_
 rintro ⟨fN,GM⟩ rfl
 try dsimp only
 refine VL.back (D':=[(14,ptr bV 0),(13,ptr cI 0),(12,ptr cI 0),(11,ptr cI 0),(1,bU.bB.val),(0,ptr j8 17)]) (by kernel_rfl) (aN.cons rfl (aT cZ rfl rfl) (aN.cons rfl (aC cM rfl) (aN.cons rfl (aG rfl) (aN.cons rfl (aT dF rfl rfl) (aN.cons rfl (aT qC rfl rfl) (aN.cons rfl (aC lJ rfl) (aN.nil))))))) ?_
 refine VD.one rfl ?_
 obtain ⟨mQ,LA,hS⟩:=aU hS
 refine VL.cA (gJ bV GM LA) rfl (by decide) ?_
 rintro ⟨tJ,OC⟩ rfl
 try dsimp only
 refine VL.back (D':=[(1,bU.bB.val),(0,ptr j8 17)]) (by kernel_rfl) (aN.cons rfl (aT qC rfl rfl) (aN.cons rfl (aC lJ rfl) (aN.nil))) ?_
 refine Zw rfl (fH (vs:=[(0,VM.val),(1,mS.val),(2,i64 fN),(3,str tJ)]) (cs := #[VM.val,mS.val,i64 fN,str tJ]) rfl (by kernel_rfl)) ?_
 refine VD.one rfl ?_
 refine VL.lit (α:=cD) (xs:=[.tmp 18]) (vs:=[.agg #[VM.val,mS.val,i64 fN,str tJ]]) [⟨VM,mS,fN,tJ⟩] Tryz.underlying55 aCl (by decide) rfl rfl rfl rfl (by decide) (fun h m=>List.forall_mem_cons.2 ⟨cO.out (X:=(VM.ok.and mS.ok)) h m,fun _ h=>by cases h⟩) (by decide) (fun wX LL => ?_) (by decide)
 replace hS:=b5 (congrArg (List.map cD.pl) LL) hS
 refine VL.back (D':=[(1,bU.bB.val),(0,ptr j8 17)]) (by kernel_rfl) (aN.cons rfl (aT qC rfl rfl) (aN.cons rfl (aC lJ rfl) (aN.nil))) ?_
 refine VD.one rfl ?_
 obtain ⟨b20,hS⟩:=bS hS
 refine VL.app (s:=bU.bB) (r:=wX) Tryz.underlying55 YY (by decide) rfl Fo.out (uW (TV b20)) (uX (TV b20) (by decide)) (by decide) (fun aGd aH8 => ?_)
 replace hS:=b5 ((congrArg (List.map cD.pl) aH8).trans List.map_append) hS
 refine VL.SS aH8 ?_
 refine VL.back (D':=[]) (by kernel_rfl) (aN.nil) ?_
 refine Zw rfl (aC lJ rfl) ?_
 refine VD.one rfl ?_
 refine Zv (vc:=[aGd.val]) (cs':=[bU.bD.val,bU.aX.val,bU.bK.val,str bU.aP,i64 bU.aF,str bU.bC,i64 bU.bA,str bU.bJ,bU.aM.val,bU.aR.val,i64 bU.bI,str bU.aW,str bU.aI,i64 bU.aJ,bU.aO.val,bU.aS.val,bU.aZ.val,aGd.val,bU.bL.val,bU.bE.val,i64 bU.time]) rfl aCq ?_
 refine VL.back (D':=[]) (by kernel_rfl) (aN.nil) ?_
 cases hS
 exact VD.nil (p9 (.inl rfl) rfl (⟨bU.bD,bU.aX,bU.bK,bU.aP,bU.aF,bU.bC,bU.bA,bU.bJ,bU.aM,bU.aR,bU.bI,bU.aW,bU.aI,bU.aJ,bU.aO,bU.aS,bU.aZ,aGd,bU.bL,bU.bE,bU.time⟩,⟨OC.b,OC.at_,OC.err⟩,⟨aS4.bad⟩) rfl rfl (by (try dsimp only); exact cO.out) (by (try dsimp only); exact eT.out))
theorem I1 (bN:Nat) (dB:aY) (aH:Nat) (bF:cQ) (bY:Nat) (bH:cC) (bZ:Nat) {r:bR×aY×bM} (hS:Sh.vO dB bF.pl bH.pl=some r) :
 Ct Tryz.prog 219 [ptr bN 0,.func (.func 220) #[] #[ptr bY 0,ptr bZ 0]] (bF.b.ok.and (bF.err.ok.and (bH.bD.ok.and (bH.aX.ok.and (bH.bK.ok.and (bH.aM.ok.and (bH.aR.ok.and (bH.aO.ok.and (bH.aS.ok.and (bH.aZ.ok.and ((zI bH.bB.l).and (bH.bL.ok.and bH.bE.ok)))))))))))) (Ow.star (bP aH [bF.b.val,i64 bF.at_,bF.err.val] 298) (Ow.star (bP bN [ptr aH 0,.bool dB.bad] 225) (Ow.star (Sv.own bH.bB 67) (Ow.star (bP bY (aE bH) 59) (bP bZ [ptr bN 0] 221))))) (X:=cQ×aY×cC) (fun x => .tuple #[]) (fun x=>r=(x.1.pl,x.2.1,x.2.2.pl)) (fun x=>(x.1.b.ok.and (x.1.err.ok.and (x.2.2.bD.ok.and (x.2.2.aX.ok.and (x.2.2.bK.ok.and (x.2.2.aM.ok.and (x.2.2.aR.ok.and (x.2.2.aO.ok.and (x.2.2.aS.ok.and (x.2.2.aZ.ok.and ((zI x.2.2.bB.l).and (x.2.2.bL.ok.and x.2.2.bE.ok))))))))))))) (fun x=>Ow.star (bP aH [x.1.b.val,i64 x.1.at_,x.1.err.val] 298) (Ow.star (bP bN [ptr aH 0,.bool x.2.1.bad] 225) (Ow.star (bP bY (aE x.2.2) 59) (Ow.star (Sv.own x.2.2.bB 67) (bP bZ [ptr bN 0] 221))))):=by
 refine Zo Tryz.func219 Tryz.ntmps219 fun c => ?_
 unfold Sh.vO at hS
 refine Zq (Zr ?_)
 refine Zm ?_
 refine Zu (aG rfl) ?_
 refine Zu (aC cM rfl) ?_
 refine Zu (aT cZ rfl rfl) ?_
 obtain ⟨dG,lU,hS⟩:=aU hS
 refine VL.cA (eL aH bF lU) rfl (by decide) ?_
 rintro ⟨eR,dY⟩ rfl
 try dsimp only
 refine Zy ?_
 refine VC.gD (S:=Bool) (fun (eH:Bool)=>eH) (fun (eH:Bool)=>[(0,ptr bN 0),(1,.func (.func 220) #[] #[ptr bY 0,ptr bZ 0]),(4,i64 eR)]) (fun (eH:Bool)=>Mo.tt) (fun (eH:Bool)=>Ow.star (bP aH [dY.b.val,i64 dY.at_,dY.err.val] 298) (Ow.star (bP bN [ptr aH 0,.bool eH] 225) (Ow.star (bP bY (aE bH) 59) (Ow.star (bP bZ [ptr bN 0] 221) (Ow.star (Sv.own bH.bB 67) (Ow.emp)))))) hS ?_ ?_
 ·
  clear hS
  intro k3 hS
  refine Zr ?_
  refine Zy ?_
  refine Zu (aG rfl) ?_
  refine Zu (aC iZ rfl) ?_
  refine Zu (aT nN rfl rfl) ?_
  refine Zm ?_
  refine uV 16 hS (fun h16 hS => ?_) (fun h16 hS => ?_)
  ·
   refine VL.runs 3 [(19,some true)] (by kernel_rfl) ?_
   refine Zu (aG rfl) ?_
   refine Zu (aC iZ rfl) ?_
   refine Zv (vc:=[.bool true]) (cs':=[ptr aH 0,.bool true]) rfl pP ?_
   refine VL.mt true [0,1,4] (fun _ _ h=>h) hS rfl
  refine Zg ?_
  refine Zh (dL rfl rfl) ?_
  refine Zf ?_
  refine Zu (aG rfl) ?_
  refine Zu (aC iZ rfl) ?_
  refine Zv (vc:=[.bool (decide (eR < 0))]) (cs':=[ptr aH 0,.bool (decide (eR < 0))]) rfl pP ?_
  refine VL.mt (decide (eR < 0)) [0,1,4] (fun _ _ h=>h) hS rfl
 clear hS
 rintro eH hS
 refine Zq (Zr ?_)
 refine Zy ?_
 refine Zb ?_
 refine VC.iter (S:=Int×Sv UInt8×Int×Er×Bool×Sv aD×Sv aK×Sv eG×aV×Int×aV×Int×aV×Sv cT×Sv cT×Int×aV×aV×Int×Sv aK×Sv aD×Sv dR×Sv cD×Sv aV×Sv aV×Int) (fun sg=>(sg.1,sg.2.1.l,sg.2.2.1,sg.2.2.2.1.pl,sg.2.2.2.2.1,sg.2.2.2.2.2.1.l,sg.2.2.2.2.2.2.1.l,sg.2.2.2.2.2.2.2.1.l,sg.2.2.2.2.2.2.2.2.1,sg.2.2.2.2.2.2.2.2.2.1,sg.2.2.2.2.2.2.2.2.2.2.1,sg.2.2.2.2.2.2.2.2.2.2.2.1,sg.2.2.2.2.2.2.2.2.2.2.2.2.1,sg.2.2.2.2.2.2.2.2.2.2.2.2.2.1.l,sg.2.2.2.2.2.2.2.2.2.2.2.2.2.2.1.l,sg.2.2.2.2.2.2.2.2.2.2.2.2.2.2.2.1,sg.2.2.2.2.2.2.2.2.2.2.2.2.2.2.2.2.1,sg.2.2.2.2.2.2.2.2.2.2.2.2.2.2.2.2.2.1,sg.2.2.2.2.2.2.2.2.2.2.2.2.2.2.2.2.2.2.1,sg.2.2.2.2.2.2.2.2.2.2.2.2.2.2.2.2.2.2.2.1.l,sg.2.2.2.2.2.2.2.2.2.2.2.2.2.2.2.2.2.2.2.2.1.l,(sg.2.2.2.2.2.2.2.2.2.2.2.2.2.2.2.2.2.2.2.2.2.1.l.map dR.pl),(sg.2.2.2.2.2.2.2.2.2.2.2.2.2.2.2.2.2.2.2.2.2.2.1.l.map cD.pl),sg.2.2.2.2.2.2.2.2.2.2.2.2.2.2.2.2.2.2.2.2.2.2.2.1.l,sg.2.2.2.2.2.2.2.2.2.2.2.2.2.2.2.2.2.2.2.2.2.2.2.2.1.l,sg.2.2.2.2.2.2.2.2.2.2.2.2.2.2.2.2.2.2.2.2.2.2.2.2.2)) (fun sg=>[(0,ptr bN 0),(1,.func (.func 220) #[] #[ptr bY 0,ptr bZ 0]),(4,i64 eR),(5,i64 sg.1)]) (fun sg=>(sg.2.1.ok.and (sg.2.2.2.1.ok.and (sg.2.2.2.2.2.1.ok.and (sg.2.2.2.2.2.2.1.ok.and (sg.2.2.2.2.2.2.2.1.ok.and (sg.2.2.2.2.2.2.2.2.2.2.2.2.2.1.ok.and (sg.2.2.2.2.2.2.2.2.2.2.2.2.2.2.1.ok.and (sg.2.2.2.2.2.2.2.2.2.2.2.2.2.2.2.2.2.2.2.1.ok.and (sg.2.2.2.2.2.2.2.2.2.2.2.2.2.2.2.2.2.2.2.2.1.ok.and (sg.2.2.2.2.2.2.2.2.2.2.2.2.2.2.2.2.2.2.2.2.2.1.ok.and ((zI sg.2.2.2.2.2.2.2.2.2.2.2.2.2.2.2.2.2.2.2.2.2.2.1.l).and (sg.2.2.2.2.2.2.2.2.2.2.2.2.2.2.2.2.2.2.2.2.2.2.2.1.ok.and sg.2.2.2.2.2.2.2.2.2.2.2.2.2.2.2.2.2.2.2.2.2.2.2.2.1.ok))))))))))))) (fun sg=>Ow.star (bP aH [sg.2.1.val,i64 sg.2.2.1,sg.2.2.2.1.val] 298) (Ow.star (bP bN [ptr aH 0,.bool sg.2.2.2.2.1] 225) (Ow.star (bP bY [sg.2.2.2.2.2.1.val,sg.2.2.2.2.2.2.1.val,sg.2.2.2.2.2.2.2.1.val,str sg.2.2.2.2.2.2.2.2.1,i64 sg.2.2.2.2.2.2.2.2.2.1,str sg.2.2.2.2.2.2.2.2.2.2.1,i64 sg.2.2.2.2.2.2.2.2.2.2.2.1,str sg.2.2.2.2.2.2.2.2.2.2.2.2.1,sg.2.2.2.2.2.2.2.2.2.2.2.2.2.1.val,sg.2.2.2.2.2.2.2.2.2.2.2.2.2.2.1.val,i64 sg.2.2.2.2.2.2.2.2.2.2.2.2.2.2.2.1,str sg.2.2.2.2.2.2.2.2.2.2.2.2.2.2.2.2.1,str sg.2.2.2.2.2.2.2.2.2.2.2.2.2.2.2.2.2.1,i64 sg.2.2.2.2.2.2.2.2.2.2.2.2.2.2.2.2.2.2.1,sg.2.2.2.2.2.2.2.2.2.2.2.2.2.2.2.2.2.2.2.1.val,sg.2.2.2.2.2.2.2.2.2.2.2.2.2.2.2.2.2.2.2.2.1.val,sg.2.2.2.2.2.2.2.2.2.2.2.2.2.2.2.2.2.2.2.2.2.1.val,sg.2.2.2.2.2.2.2.2.2.2.2.2.2.2.2.2.2.2.2.2.2.2.1.val,sg.2.2.2.2.2.2.2.2.2.2.2.2.2.2.2.2.2.2.2.2.2.2.2.1.val,sg.2.2.2.2.2.2.2.2.2.2.2.2.2.2.2.2.2.2.2.2.2.2.2.2.1.val,i64 sg.2.2.2.2.2.2.2.2.2.2.2.2.2.2.2.2.2.2.2.2.2.2.2.2.2] 59) (Ow.star (bP bZ [ptr bN 0] 221) (Ow.star (Sv.own sg.2.2.2.2.2.2.2.2.2.2.2.2.2.2.2.2.2.2.2.2.2.2.1 67) (Ow.emp)))))) (0,dY.b,dY.at_,dY.err,eH,bH.bD,bH.aX,bH.bK,bH.aP,bH.aF,bH.bC,bH.bA,bH.bJ,bH.aM,bH.aR,bH.bI,bH.aW,bH.aI,bH.aJ,bH.aO,bH.aS,bH.aZ,bH.bB,bH.bL,bH.bE,bH.time) [0,1,4,5] hS rfl ?_
 clear hS
 rintro ⟨gO,fK,fY,fO,ZX,ZW,RL,RN,RP,RR,RT,RV,RX,RZ,R2,KJ,KL,KN,KP,KR,KT,KV,KW,KX,KY,KZ⟩ m1 y1 hS hK1
 refine Zq (Zq (Zr ?_))
 refine Zy ?_
 refine Zu (dL rfl rfl) ?_
 refine Zm ?_
 refine mF 25 hS (fun h25 hS => ?_) (fun h25 hS => ?_)
 ·
  refine Zg ?_
  refine Zh (aG rfl) ?_
  refine Zh (aC cM rfl) ?_
  refine Zh (aT cZ rfl rfl) ?_
  refine VL.guard rfl rfl ?_
  obtain ⟨aJL,aLg,hS⟩:=aU hS
  refine VL.cA (kT aH (⟨fK,fY,fO⟩:cQ) aLg) rfl (by decide) ?_
  rintro aK8 rfl
  try dsimp only
  refine Zh (x9 Tryz.underlying27 rfl) ?_
  refine Zy ?_
  refine VC.keep (ρ':=[(0,ptr bN 0),(1,.func (.func 220) #[] #[ptr bY 0,ptr bZ 0]),(4,i64 eR),(5,i64 gO),(32,.bool (decide (aK8.pl.isNil=true)))]) [0,1,4,5,32] rfl ?_
  refine Zc hS (fun h32 hS => ?_) (fun h32 hS => ?_)
  ·
   refine Zk ?_
   refine Zq (Zb (Zr ?_))
   refine Zm ?_
   obtain ⟨mE,aLr,hS⟩:=aU hS
   refine VL.HJ (vs:=[]) (caps:=[ptr bY 0,ptr bZ 0]) (I5 bY (⟨ZW,RL,RN,RP,RR,RT,RV,RX,RZ,R2,KJ,KL,KN,KP,KR,KT,KV,KW,KX,KY,KZ⟩:cC) bZ bN (⟨ZX⟩:aY) aH (⟨fK,fY,fO⟩:cQ) aLr) rfl rfl (by decide) ?_
   rintro ⟨kK,XK,aKg⟩ rfl
   try dsimp only
   refine Zl ?_
   refine Zr ?_
   refine Zm ?_
   obtain ⟨b34,hS⟩:=bS hS
   refine Zu (cK rfl rfl b34) ?_
   refine Za ?_
   refine VL.jC ((gO+1),XK.b,XK.at_,XK.err,aKg.bad,kK.bD,kK.aX,kK.bK,kK.aP,kK.aF,kK.bC,kK.bA,kK.bJ,kK.aM,kK.aR,kK.bI,kK.aW,kK.aI,kK.aJ,kK.aO,kK.aS,kK.aZ,kK.bB,kK.bL,kK.bE,kK.time) [0,1,4,5] (fun _ _ h=>h) (go2 hS hK1) rfl
  replace hS:=gQ hS hK1
  cases hS
  exact VC.exit (p9 (.inl rfl) rfl (⟨fK,fY,fO⟩,⟨ZX⟩,⟨ZW,RL,RN,RP,RR,RT,RV,RX,RZ,R2,KJ,KL,KN,KP,KR,KT,KV,KW,KX,KY,KZ⟩) rfl rfl (by (try dsimp only); exact cO.out) (by (try dsimp only); exact eT.out))
 refine VL.runs 7 [(32,some false)] (by kernel_rfl) ?_
 refine Zl ?_
 refine VC.vY rfl ?_
 replace hS:=gQ hS hK1
 cases hS
 exact VC.exit (p9 (.inl rfl) rfl (⟨fK,fY,fO⟩,⟨ZX⟩,⟨ZW,RL,RN,RP,RR,RT,RV,RX,RZ,R2,KJ,KL,KN,KP,KR,KT,KV,KW,KX,KY,KZ⟩) rfl rfl (by (try dsimp only); exact cO.out) (by (try dsimp only); exact eT.out))
theorem u7 (aB:Sv cD) {r:List kI} (hS:Sh.lP (aB.l.map cD.pl)=some r) :
 Ct Tryz.prog 225 [aB.val] aB.ok (Ow.emp) (X:=Sv cD) (fun x=>x.val) (fun x=>r=(x.l.map cD.pl)) (fun x=>x.ok) (fun x=>Ow.emp):=by
 refine Zo Tryz.func225 Tryz.ntmps225 fun c => ?_
 unfold Sh.lP at hS
 refine Zq (Zr ?_)
 refine Zy ?_
 refine Zq (Zr ?_)
 refine Zy ?_
 refine Zu (qG cD.pl (s:=aB) Tryz.underlying55 rfl) ?_
 refine Zm ?_
 refine Zu (qG cD.pl (s:=aB) Tryz.underlying55 rfl) ?_
 obtain ⟨b8,hS⟩:=bS hS
 refine VL.M7 Tryz.underlying55 SI rfl rfl rfl b8.1 (aDK b8.2) (by decide) fun wZ qU => ?_
 replace hS:=b5 ((congrArg (List.map cD.pl) qU).trans List.map_take) hS
 refine Zy ?_
 cases hS
 exact VC.ret (fA (.inr rfl) rfl rfl wZ rfl rfl (by (try dsimp only); exact cO.out) (fun _ _=>trivial))
theorem I7 (j8:Nat) (bU:Sv aV) (gS:Nat) (cI:Nat) (a_1_:aY) (bV:Nat) (cP:cQ) {r:List aV×bR} (hS:Sh.vU bU.l a_1_ cP.pl=some r) :
 Ct Tryz.prog 307 [ptr j8 0,ptr gS 0] (cP.b.ok.and cP.err.ok) (Ow.star (Sv.own bU 9) (Ow.star (bP j8 [bU.val] 23) (Ow.star (bP bV [cP.b.val,i64 cP.at_,cP.err.val] 298) (Ow.star (bP cI [ptr bV 0,.bool a_1_.bad] 225) (bP gS [ptr cI 0] 221))))) (X:=Sv aV×cQ) (fun x => .tuple #[]) (fun x=>r=(x.1.l,x.2.pl)) (fun x=>(x.2.b.ok.and x.2.err.ok)) (fun x=>Ow.star (bP j8 [x.1.val] 23) (Ow.star (Sv.own x.1 9) (Ow.star (bP bV [x.2.b.val,i64 x.2.at_,x.2.err.val] 298) (Ow.star (bP cI [ptr bV 0,.bool a_1_.bad] 225) (bP gS [ptr cI 0] 221))))):=by
 refine Zo Tryz.func307 Tryz.ntmps307 fun c => ?_
 unfold Sh.vU at hS
 refine VC.draw [(0,true),(1,true),(2,true),(3,true),(4,true),(5,false),(6,false),(7,false),(8,false)] mixed (by kernel_rfl) (by kernel_rfl) (by kernel_rfl) ?_
 refine Zw rfl (aT oK rfl rfl) ?_
 refine Zw rfl (aT dF rfl rfl) ?_
 refine Zw rfl (aG rfl) ?_
 refine Zw rfl (aC cM rfl) ?_
 refine Zw rfl (aT cZ rfl rfl) ?_
 refine VD.one rfl ?_
 obtain ⟨iR,lI,hS⟩:=aU hS
 refine VL.cA (gJ bV cP lI) rfl (by decide) ?_
 rintro ⟨lY,x8⟩ rfl
 try dsimp only
 refine VL.back (D':=[(0,bU.val)]) (by kernel_rfl) (aN.cons rfl (aT oK rfl rfl) (aN.nil)) ?_
 refine VD.one rfl ?_
 refine VL.lit (α:=aV) (xs:=[.tmp 7]) (vs:=[str lY]) [lY] Tryz.underlying23 wL (by decide) rfl rfl rfl rfl (by decide) (fun _ _ _ _=>trivial) (by decide) (fun aOz aG3 => ?_) (by decide)
 replace hS:=b5 aG3 hS
 refine VL.back (D':=[(0,bU.val)]) (by kernel_rfl) (aN.cons rfl (aT oK rfl rfl) (aN.nil)) ?_
 refine VD.one rfl ?_
 obtain ⟨b9,hS⟩:=bS hS
 refine VL.app (s:=bU) (r:=aOz) Tryz.underlying23 LI (by decide) rfl Fo.out (uW b9) (uX b9 (by decide)) (by decide) (fun aBC aG4 => ?_)
 replace hS:=b5 aG4 hS
 refine VL.back (D':=[]) (by kernel_rfl) (aN.nil) ?_
 refine VD.one rfl ?_
 refine Zv (vc:=[aBC.val]) (cs':=[aBC.val]) rfl aUW ?_
 refine VL.back (D':=[]) (by kernel_rfl) (aN.nil) ?_
 cases hS
 exact VD.nil (p9 (.inl rfl) rfl (aBC,⟨x8.b,x8.at_,x8.err⟩) rfl rfl (by (try dsimp only); exact cO.out) (by (try dsimp only); exact eT.out))
theorem I3 (bN:Nat) (dB:aY) (aH:Nat) (bF:cQ) (bY:Nat) (bH:Sv aV) (bZ:Nat) {r:bR×aY×List aV} (hS:Sh.vQ dB bF.pl bH.l=some r) :
 Ct Tryz.prog 219 [ptr bN 0,.func (.func 307) #[] #[ptr bY 0,ptr bZ 0]] (bF.b.ok.and bF.err.ok) (Ow.star (bP aH [bF.b.val,i64 bF.at_,bF.err.val] 298) (Ow.star (bP bN [ptr aH 0,.bool dB.bad] 225) (Ow.star (Sv.own bH 9) (Ow.star (bP bY [bH.val] 23) (bP bZ [ptr bN 0] 221))))) (X:=cQ×aY×Sv aV) (fun x => .tuple #[]) (fun x=>r=(x.1.pl,x.2.1,x.2.2.l)) (fun x=>(x.1.b.ok.and x.1.err.ok)) (fun x=>Ow.star (bP aH [x.1.b.val,i64 x.1.at_,x.1.err.val] 298) (Ow.star (bP bN [ptr aH 0,.bool x.2.1.bad] 225) (Ow.star (bP bY [x.2.2.val] 23) (Ow.star (Sv.own x.2.2 9) (bP bZ [ptr bN 0] 221))))):=by
 refine Zo Tryz.func219 Tryz.ntmps219 fun c => ?_
 unfold Sh.vQ at hS
 refine Zq (Zr ?_)
 refine Zm ?_
 refine Zu (aG rfl) ?_
 refine Zu (aC cM rfl) ?_
 refine Zu (aT cZ rfl rfl) ?_
 obtain ⟨dG,lU,hS⟩:=aU hS
 refine VL.cA (eL aH bF lU) rfl (by decide) ?_
 rintro ⟨eR,dY⟩ rfl
 try dsimp only
 refine Zy ?_
 refine VC.gD (S:=Bool) (fun (eH:Bool)=>eH) (fun (eH:Bool)=>[(0,ptr bN 0),(1,.func (.func 307) #[] #[ptr bY 0,ptr bZ 0]),(4,i64 eR)]) (fun (eH:Bool)=>Mo.tt) (fun (eH:Bool)=>Ow.star (bP aH [dY.b.val,i64 dY.at_,dY.err.val] 298) (Ow.star (bP bN [ptr aH 0,.bool eH] 225) (Ow.star (bP bY [bH.val] 23) (Ow.star (bP bZ [ptr bN 0] 221) (Ow.star (Sv.own bH 9) (Ow.emp)))))) hS ?_ ?_
 ·
  clear hS
  intro k3 hS
  refine Zr ?_
  refine Zy ?_
  refine Zu (aG rfl) ?_
  refine Zu (aC iZ rfl) ?_
  refine Zu (aT nN rfl rfl) ?_
  refine Zm ?_
  refine uV 16 hS (fun h16 hS => ?_) (fun h16 hS => ?_)
  ·
   refine VL.runs 3 [(19,some true)] (by kernel_rfl) ?_
   refine Zu (aG rfl) ?_
   refine Zu (aC iZ rfl) ?_
   refine Zv (vc:=[.bool true]) (cs':=[ptr aH 0,.bool true]) rfl pP ?_
   refine VL.mt true [0,1,4] (fun _ _ h=>h) hS rfl
  refine Zg ?_
  refine Zh (dL rfl rfl) ?_
  refine Zf ?_
  refine Zu (aG rfl) ?_
  refine Zu (aC iZ rfl) ?_
  refine Zv (vc:=[.bool (decide (eR < 0))]) (cs':=[ptr aH 0,.bool (decide (eR < 0))]) rfl pP ?_
  refine VL.mt (decide (eR < 0)) [0,1,4] (fun _ _ h=>h) hS rfl
 clear hS
 rintro eH hS
 refine Zq (Zr ?_)
 refine Zy ?_
 refine Zb ?_
 refine VC.iter (S:=Int×Sv UInt8×Int×Er×Sv aV) (fun sg=>(sg.1,sg.2.1.l,sg.2.2.1,sg.2.2.2.1.pl,sg.2.2.2.2.l)) (fun sg=>[(0,ptr bN 0),(1,.func (.func 307) #[] #[ptr bY 0,ptr bZ 0]),(4,i64 eR),(5,i64 sg.1)]) (fun sg=>(sg.2.1.ok.and sg.2.2.2.1.ok)) (fun sg=>Ow.star (bP aH [sg.2.1.val,i64 sg.2.2.1,sg.2.2.2.1.val] 298) (Ow.star (bP bN [ptr aH 0,.bool eH] 225) (Ow.star (bP bY [sg.2.2.2.2.val] 23) (Ow.star (bP bZ [ptr bN 0] 221) (Ow.star (Sv.own sg.2.2.2.2 9) (Ow.emp)))))) (0,dY.b,dY.at_,dY.err,bH) [0,1,4,5] hS rfl ?_
 clear hS
 rintro ⟨gO,fK,fY,fO,jZ⟩ m1 y1 hS hK1
 refine Zq (Zq (Zr ?_))
 refine Zy ?_
 refine Zu (dL rfl rfl) ?_
 refine Zm ?_
 refine mF 25 hS (fun h25 hS => ?_) (fun h25 hS => ?_)
 ·
  refine Zg ?_
  refine Zh (aG rfl) ?_
  refine Zh (aC cM rfl) ?_
  refine Zh (aT cZ rfl rfl) ?_
  refine VL.guard rfl rfl ?_
  obtain ⟨sV,xX,hS⟩:=aU hS
  refine VL.cA (kT aH (⟨fK,fY,fO⟩:cQ) xX) rfl (by decide) ?_
  rintro qW rfl
  try dsimp only
  refine Zh (x9 Tryz.underlying27 rfl) ?_
  refine Zy ?_
  refine VC.keep (ρ':=[(0,ptr bN 0),(1,.func (.func 307) #[] #[ptr bY 0,ptr bZ 0]),(4,i64 eR),(5,i64 gO),(32,.bool (decide (qW.pl.isNil=true)))]) [0,1,4,5,32] rfl ?_
  refine Zc hS (fun h32 hS => ?_) (fun h32 hS => ?_)
  ·
   refine Zk ?_
   refine Zq (Zb (Zr ?_))
   refine Zm ?_
   obtain ⟨kX,AZ,hS⟩:=aU hS
   refine VL.HJ (vs:=[]) (caps:=[ptr bY 0,ptr bZ 0]) (I7 bY jZ bZ bN (⟨eH⟩:aY) aH (⟨fK,fY,fO⟩:cQ) AZ) rfl rfl (by decide) ?_
   rintro ⟨x5,lX⟩ rfl
   try dsimp only
   refine Zl ?_
   refine Zr ?_
   refine Zm ?_
   obtain ⟨b34,hS⟩:=bS hS
   refine Zu (cK rfl rfl b34) ?_
   refine Za ?_
   refine VL.jC ((gO+1),lX.b,lX.at_,lX.err,x5) [0,1,4,5] (fun _ _ h=>h) (go2 hS hK1) rfl
  replace hS:=gQ hS hK1
  cases hS
  exact VC.exit (p9 (.inl rfl) rfl (⟨fK,fY,fO⟩,⟨eH⟩,jZ) rfl rfl (by (try dsimp only); exact cO.out) (by (try dsimp only); exact eT.out))
 refine VL.runs 7 [(32,some false)] (by kernel_rfl) ?_
 refine Zl ?_
 refine VC.vY rfl ?_
 replace hS:=gQ hS hK1
 cases hS
 exact VC.exit (p9 (.inl rfl) rfl (⟨fK,fY,fO⟩,⟨eH⟩,jZ) rfl rfl (by (try dsimp only); exact cO.out) (by (try dsimp only); exact eT.out))
theorem gG (aB:Sv aV) {r:List aV} (hS:Sh.dP aB.l=some r) :
 Ct Tryz.prog 16 [aB.val] aB.ok (Ow.emp) (X:=Sv aV) (fun x=>x.val) (fun x=>r=x.l) (fun x=>x.ok) (fun x=>Ow.emp):=by
 refine Zo Tryz.func16 Tryz.ntmps16 fun c => ?_
 unfold Sh.dP at hS
 refine Zq (Zr ?_)
 refine Zy ?_
 refine Zq (Zr ?_)
 refine Zy ?_
 refine Zu (dO (s:=aB) Tryz.underlying23 rfl) ?_
 refine Zm ?_
 refine Zu (dO (s:=aB) Tryz.underlying23 rfl) ?_
 obtain ⟨b8,hS⟩:=bS hS
 refine VL.M7 Tryz.underlying23 o4 rfl rfl rfl b8.1 (b8.2) (by decide) fun wZ qU => ?_
 replace hS:=b5 qU hS
 refine Zy ?_
 cases hS
 exact VC.ret (fA (.inr rfl) rfl rfl wZ rfl rfl (by (try dsimp only); exact cO.out) (fun _ _=>trivial))
theorem BV (bN:Nat) (dB:aY) (aH:Nat) (bF:cQ) {r:List aV×bR×aY} (hS:Sh.s7 dB bF.pl=some r) :
 Ct Tryz.prog 226 [ptr bN 0] (bF.b.ok.and bF.err.ok) (Ow.star (bP aH [bF.b.val,i64 bF.at_,bF.err.val] 298) (bP bN [ptr aH 0,.bool dB.bad] 225)) (X:=Sv aV×cQ×aY) (fun x=>x.1.val) (fun x=>r=(x.1.l,x.2.1.pl,x.2.2)) (fun x=>(x.1.ok.and (x.2.1.b.ok.and x.2.1.err.ok))) (fun x=>Ow.star (bP aH [x.2.1.b.val,i64 x.2.1.at_,x.2.1.err.val] 298) (bP bN [ptr aH 0,.bool x.2.2.bad] 225)):=by
 refine Zo Tryz.func226 Tryz.ntmps226 fun c => ?_
 unfold Sh.s7 at hS
 refine Zq (Zr ?_)
 refine VL.box (cs:=[ptr bN 0]) rfl rfl (by decide) fun iE => ?_
 refine Zy ?_
 refine Zq (Zr ?_)
 refine VL.alloc (cs:=[.slice none 0 0]) (by kernel_rfl) (by decide) fun jX => ?_
 refine Zl ?_
 refine Zq (Zr ?_)
 refine Zu (aT dF rfl rfl) ?_
 refine Zu (qH rfl) ?_
 refine VL.lR (⟨none,0,[]⟩:Sv aV) 9 ⟨rfl,rfl⟩ ?_
 refine VL.SY jX (cs':=[(⟨none,0,[]⟩:Sv aV).val]) rfl ?_
 obtain ⟨pV,LG,hS⟩:=aU hS
 refine VL.cA (I3 bN dB aH bF jX (⟨none,0,[]⟩:Sv aV) iE LG) rfl (by decide) ?_
 rintro ⟨qE,FA,wD⟩ rfl
 try dsimp only
 refine Zl ?_
 refine Zq (Zr ?_)
 refine Zu (aT oK rfl rfl) ?_
 refine VL.shut wD 9 (fun _ _ _ _=>trivial) ?_
 obtain ⟨CH,F3,hS⟩:=aU hS
 refine VL.cR (gG wD F3) rfl (by decide) ?_
 rintro s5 rfl
 try dsimp only
 refine Zy ?_
 cases hS
 exact VC.ret (fA (.inr rfl) rfl rfl (s5,⟨qE.b,qE.at_,qE.err⟩,⟨FA.bad⟩) rfl rfl (by (try dsimp only); exact cO.out) (by (try dsimp only); exact eT.out))
theorem ME (bN:Nat) (dB:aY) (aH:Nat) (bF:cQ) {r:bM×bR×aY} (hS:Sh.yQ dB bF.pl=some r) :
 Ct Tryz.prog 142 [ptr bN 0] (bF.b.ok.and bF.err.ok) (Ow.star (bP aH [bF.b.val,i64 bF.at_,bF.err.val] 298) (bP bN [ptr aH 0,.bool dB.bad] 225)) (X:=cC×cQ×aY) (fun x => .agg (bO.enc x.1).toArray) (fun x=>r=(x.1.pl,x.2.1.pl,x.2.2)) (fun x=>(x.1.m.and (x.2.1.b.ok.and x.2.1.err.ok))) (fun x=>Ow.star (bP aH [x.2.1.b.val,i64 x.2.1.at_,x.2.1.err.val] 298) (bP bN [ptr aH 0,.bool x.2.2.bad] 225)):=by
 refine Zo Tryz.func142 Tryz.ntmps142 fun c => ?_
 unfold Sh.yQ at hS
 refine Zq (Zr ?_)
 refine VL.box (cs:=[ptr bN 0]) rfl rfl (by decide) fun iE => ?_
 refine VL.alloc (cs:=[.slice none 0 0,.slice none 0 0,.slice none 0 0,str [],i64 0,str [],i64 0,str [],.slice none 0 0,.slice none 0 0,i64 0,str [],str [],i64 0,.slice none 0 0,.slice none 0 0,.slice none 0 0,.slice none 0 0,.slice none 0 0,.slice none 0 0,i64 0]) (by kernel_rfl) (by decide) fun HH => ?_
 refine Zl ?_
 refine Zq (Zr ?_)
 refine Zu (aT dF rfl rfl) ?_
 obtain ⟨q7,NM,hS⟩:=aU hS
 refine VL.cA (OU bN dB aH bF NM) rfl (by decide) ?_
 rintro ⟨dI,aS2,aS3⟩ rfl
 try dsimp only
 refine Zu (fH (vs:=[(0,.agg (kS dI).toArray)]) (cs := #[dI.work.val,dI.index.val,dI.refs.val,str dI.cU,i64 dI.cV,str dI.j5,i64 dI.iW,str dI.j7,dI.fV.val,dI.gK.val,i64 dI.j6,str dI.hG,str dI.eX,i64 dI.eY,dI.fW.val,dI.gL.val,dI.fB.val,.slice none 0 0,.slice none 0 0,.slice none 0 0,i64 0]) rfl (by kernel_rfl)) ?_
 refine VL.alloc (cs:=[.slice none 0 0,.slice none 0 0,.slice none 0 0,str [],i64 0,str [],i64 0,str [],.slice none 0 0,.slice none 0 0,i64 0,str [],str [],i64 0,.slice none 0 0,.slice none 0 0,.slice none 0 0,.slice none 0 0,.slice none 0 0,.slice none 0 0,i64 0]) (by kernel_rfl) (by decide) fun aHV => ?_
 refine Zv (vc:=[dI.work.val,dI.index.val,dI.refs.val,str dI.cU,i64 dI.cV,str dI.j5,i64 dI.iW,str dI.j7,dI.fV.val,dI.gK.val,i64 dI.j6,str dI.hG,str dI.eX,i64 dI.eY,dI.fW.val,dI.gL.val,dI.fB.val,.slice none 0 0,.slice none 0 0,.slice none 0 0,i64 0]) (cs':=[dI.work.val,dI.index.val,dI.refs.val,str dI.cU,i64 dI.cV,str dI.j5,i64 dI.iW,str dI.j7,dI.fV.val,dI.gK.val,i64 dI.j6,str dI.hG,str dI.eX,i64 dI.eY,dI.fW.val,dI.gL.val,dI.fB.val,.slice none 0 0,.slice none 0 0,.slice none 0 0,i64 0]) rfl fR ?_
 refine Zl ?_
 refine Zq (Zr ?_)
 refine Zu (aT dF rfl rfl) ?_
 refine Zu (qH rfl) ?_
 refine VL.lR (⟨none,0,[]⟩:Sv cD) 67 ⟨rfl,rfl⟩ ?_
 refine VL.LQ (s:=(⟨none,0,[]⟩:Sv cD)) rfl ?_
 refine VL.SY aHV (cs':=[dI.work.val,dI.index.val,dI.refs.val,str dI.cU,i64 dI.cV,str dI.j5,i64 dI.iW,str dI.j7,dI.fV.val,dI.gK.val,i64 dI.j6,str dI.hG,str dI.eX,i64 dI.eY,dI.fW.val,dI.gL.val,dI.fB.val,(⟨none,0,[]⟩:Sv cD).val,(⟨none,0,[]⟩:Sv aV).val,(⟨none,0,[]⟩:Sv aV).val,i64 0]) rfl ?_
 obtain ⟨vB,aUO,hS⟩:=aU hS
 refine VL.cA (I1 bN aS3 aH aS2 aHV (⟨dI.work,dI.index,dI.refs,dI.cU,dI.cV,dI.j5,dI.iW,dI.j7,dI.fV,dI.gK,dI.j6,dI.hG,dI.eX,dI.eY,dI.fW,dI.gL,dI.fB,(⟨none,0,[]⟩:Sv cD),(⟨none,0,[]⟩:Sv aV),(⟨none,0,[]⟩:Sv aV),0⟩:cC) iE aUO) rfl (by decide) ?_
 rintro ⟨aS9,aSa,cF⟩ rfl
 try dsimp only
 refine Zl ?_
 refine Zq (Zr ?_)
 refine Zu (aC lJ rfl) ?_
 refine Zu (aT qC rfl rfl) ?_
 refine VL.shut cF.bB 67 (fun h m=>cO.out (X:=zI cF.bB.l) h m) ?_
 obtain ⟨aPM,aPz,hS⟩:=aU hS
 refine VL.cR (u7 cF.bB aPz) rfl (by decide) ?_
 rintro DU rfl
 try dsimp only
 refine Zu (aC lJ rfl) ?_
 refine Zv (vc:=[DU.val]) (cs':=[cF.bD.val,cF.aX.val,cF.bK.val,str cF.aP,i64 cF.aF,str cF.bC,i64 cF.bA,str cF.bJ,cF.aM.val,cF.aR.val,i64 cF.bI,str cF.aW,str cF.aI,i64 cF.aJ,cF.aO.val,cF.aS.val,cF.aZ.val,DU.val,cF.bL.val,cF.bE.val,i64 cF.time]) rfl aCq ?_
 refine Zl ?_
 refine VC.keep (ρ':=[(1,ptr iE 0),(2,ptr HH 0),(3,ptr aHV 0)]) [1,2,3] rfl ?_
 refine Zq ?_
 refine VC.draw [(0,true),(2,true),(1,false),(3,false),(4,true),(5,true),(6,false)] mixed (by kernel_rfl) (by kernel_rfl) (by kernel_rfl) ?_
 refine Zw rfl (aT dF rfl rfl) ?_
 refine Zw rfl (aT dF rfl rfl) ?_
 refine VD.one rfl ?_
 obtain ⟨mP,K7,hS⟩:=aU hS
 refine VL.cA (BV bN aSa aH aS9 K7) rfl (by decide) ?_
 rintro ⟨aL,GN,GO⟩ rfl
 try dsimp only
 refine VL.back (D':=[(2,ptr bN 0)]) (by kernel_rfl) (aN.cons rfl (aT dF rfl rfl) (aN.nil)) ?_
 refine VD.one rfl ?_
 obtain ⟨TL,aC6,hS⟩:=aU hS
 refine VL.cA (BV bN GO aH GN aC6) rfl (by decide) ?_
 rintro ⟨u0,aO3,aO4⟩ rfl
 try dsimp only
 refine VL.back (D':=[]) (by kernel_rfl) (aN.nil) ?_
 refine Zw rfl (fH (vs:=[(0,aL.val),(1,u0.val)]) (cs := #[aL.val,u0.val]) rfl (by kernel_rfl)) ?_
 refine Zw rfl (aC NR rfl) ?_
 refine VD.one rfl ?_
 refine Zv (vc:=[aL.val,u0.val]) (cs':=[cF.bD.val,cF.aX.val,cF.bK.val,str cF.aP,i64 cF.aF,str cF.bC,i64 cF.bA,str cF.bJ,cF.aM.val,cF.aR.val,i64 cF.bI,str cF.aW,str cF.aI,i64 cF.aJ,cF.aO.val,cF.aS.val,cF.aZ.val,DU.val,aL.val,u0.val,i64 cF.time]) rfl aG2 ?_
 refine VL.back (D':=[]) (by kernel_rfl) (aN.nil) ?_
 refine VD.to (fun _ _ h=>h) ?_
 refine Zq (Zr ?_)
 refine Zu (aT dF rfl rfl) ?_
 refine Zu (aG rfl) ?_
 refine Zu (aC cM rfl) ?_
 refine Zu (aT cZ rfl rfl) ?_
 obtain ⟨pG,T8,hS⟩:=aU hS
 refine VL.cA (eL aH aO3 T8) rfl (by decide) ?_
 rintro ⟨DX,aAk⟩ rfl
 try dsimp only
 refine Zu (aC UF rfl) ?_
 refine Zv (vc:=[i64 DX]) (cs':=[cF.bD.val,cF.aX.val,cF.bK.val,str cF.aP,i64 cF.aF,str cF.bC,i64 cF.bA,str cF.bJ,cF.aM.val,cF.aR.val,i64 cF.bI,str cF.aW,str cF.aI,i64 cF.aJ,cF.aO.val,cF.aS.val,cF.aZ.val,DU.val,aL.val,u0.val,i64 DX]) rfl AE ?_
 refine Zl ?_
 refine VC.keep (ρ':=[(2,ptr HH 0),(3,ptr aHV 0)]) [2,3] rfl ?_
 refine Zq (Zr ?_)
 refine Zu (cL cE rfl rfl) ?_
 refine Zv (vc:=[cF.bD.val,cF.aX.val,cF.bK.val,str cF.aP,i64 cF.aF,str cF.bC,i64 cF.bA,str cF.bJ,cF.aM.val,cF.aR.val,i64 cF.bI,str cF.aW,str cF.aI,i64 cF.aJ,cF.aO.val,cF.aS.val,cF.aZ.val,DU.val,aL.val,u0.val,i64 DX]) (cs':=[cF.bD.val,cF.aX.val,cF.bK.val,str cF.aP,i64 cF.aF,str cF.bC,i64 cF.bA,str cF.bJ,cF.aM.val,cF.aR.val,i64 cF.bI,str cF.aW,str cF.aI,i64 cF.aJ,cF.aO.val,cF.aS.val,cF.aZ.val,DU.val,aL.val,u0.val,i64 DX]) rfl fR ?_
 refine Zl ?_
 cases hS
 exact VC.ret (jV (vs:=[.agg #[cF.bD.val,cF.aX.val,cF.bK.val,str cF.aP,i64 cF.aF,str cF.bC,i64 cF.bA,str cF.bJ,cF.aM.val,cF.aR.val,i64 cF.bI,str cF.aW,str cF.aI,i64 cF.aJ,cF.aO.val,cF.aS.val,cF.aZ.val,DU.val,aL.val,u0.val,i64 DX]]) (.inr rfl) rfl (eW.cell cE rfl rfl Rd.blk (eW.nil)) (⟨cF.bD,cF.aX,cF.bK,cF.aP,cF.aF,cF.bC,cF.bA,cF.bJ,cF.aM,cF.aR,cF.bI,cF.aW,cF.aI,cF.aJ,cF.aO,cF.aS,cF.aZ,DU,aL,u0,DX⟩,⟨aAk.b,aAk.at_,aAk.err⟩,⟨aO4.bad⟩) rfl rfl (by (try dsimp only); exact cO.out) (by (try dsimp only); exact eT.out))
theorem R7 (kY:Nat) (jB:cQ) {r:Int} (hS:Sh.D5 jB.pl=some r) :
 Ct Tryz.prog 228 [ptr kY 0] (jB.b.ok.and (jB.err.ok.and (Cells kY 0 [jB.b.val,i64 jB.at_,jB.err.val]))) (Ow.emp) (X:=Unit) (fun _=>i64 r) (fun _=>True) (fun _=>Mo.tt) (fun _=>Ow.emp):=by
 refine Zo Tryz.func228 Tryz.ntmps228 fun c => ?_
 unfold Sh.D5 at hS
 refine Zq (Zr ?_)
 refine Zy ?_
 refine Zq (Zq (Zr ?_))
 refine Zm ?_
 refine Zu (aG rfl) ?_
 refine Zu (aC P6 rfl) ?_
 refine Zu (CE Y0 rfl rfl) ?_
 refine Zu (nD Tryz.underlying27 rfl) ?_
 refine Zl ?_
 refine rI hS (fun h7 hS => ?_) (fun h7 hS => ?_)
 ·
  refine Zq ?_
  cases hS
 refine Zk ?_
 refine Zq ?_
 refine VC.draw ((List.range 11).map fun k=>(k,true)) mixed (by kernel_rfl) (by kernel_rfl) (by kernel_rfl) ?_
 refine Zw rfl (bT rfl) ?_
 refine Zw rfl (aG rfl) ?_
 refine Zw rfl (aC JP rfl) ?_
 refine Zw rfl (CE DO rfl rfl) ?_
 refine Zw rfl (dO (s:=jB.b) Tryz.underlying124 rfl) ?_
 refine Zw rfl (bT rfl) ?_
 refine Zw rfl (aG rfl) ?_
 refine Zw rfl (aC rR rfl) ?_
 refine Zw rfl (CE fG rfl rfl) ?_
 obtain ⟨b17,hS⟩:=bS hS
 refine Zw rfl (o7 rfl rfl b17) ?_
 refine Zw rfl (fT rfl) ?_
 refine VD.to (fun _ _ h=>h) ?_
 refine VC.keep (ρ':=[(2,i64 ((jB.b.l.length:Int) - jB.at_))]) [2] rfl ?_
 cases hS
 exact Ze
theorem OT (bN:Nat) (dB:aY) (aH:Nat) (bF:cQ) {r:gR} (hS:Sh.BR dB bF.pl=some r) :
 Ct Tryz.prog 143 [ptr bN 0] (bF.b.ok.and bF.err.ok) (Ow.star (bP aH [bF.b.val,i64 bF.at_,bF.err.val] 298) (bP bN [ptr aH 0,.bool dB.bad] 225)) (X:=Er) (fun x=>x.val) (fun x=>r=x.pl) (fun x=>x.ok) (fun x=>Ow.star (bP aH [bF.b.val,i64 bF.at_,bF.err.val] 298) (bP bN [ptr aH 0,.bool dB.bad] 225)):=by
 refine Zo Tryz.func143 Tryz.ntmps143 fun c => ?_
 unfold Sh.BR at hS
 refine Zq (Zr ?_)
 refine Zy ?_
 refine Zq (Zb (Zq (Zr ?_)))
 refine Zm ?_
 refine Zu (aG rfl) ?_
 refine Zu (aC cM rfl) ?_
 refine Zu (aT cZ rfl rfl) ?_
 obtain ⟨B6,F1,hS⟩:=aU hS
 refine VL.cA (kT aH bF F1) rfl (by decide) ?_
 rintro VP rfl
 try dsimp only
 refine Zu (nD Tryz.underlying27 rfl) ?_
 refine Zy ?_
 refine rI hS (fun h3 hS => ?_) (fun h3 hS => ?_)
 ·
  refine Zq ?_
  cases hS
 refine VC.gD (S:=Bool) (fun (O5:Bool)=>O5) (fun (O5:Bool)=>[(15,.bool O5)]) (fun (O5:Bool)=>Mo.tt) (fun (O5:Bool)=>Ow.star (bP aH [bF.b.val,i64 bF.at_,bF.err.val] 298) (Ow.star (bP bN [ptr aH 0,.bool dB.bad] 225) (Ow.emp))) hS ?_ ?_
 ·
  clear hS
  intro k3 hS
  refine Zr ?_
  refine Zm ?_
  refine Zu (aG rfl) ?_
  refine Zu (aC iZ rfl) ?_
  refine Zu (aT nN rfl rfl) ?_
  refine Zm ?_
  refine uV 20 hS (fun h20 hS => ?_) (fun h20 hS => ?_)
  ·
   refine VL.runs 8 [(15,some true)] (by kernel_rfl) ?_
   refine VL.mt true [15] (fun _ _ h=>h) hS rfl
  refine Zg ?_
  refine Zh (aG rfl) ?_
  refine Zh (aC cM rfl) ?_
  refine Zh (aT cZ rfl rfl) ?_
  obtain ⟨TM,aCc,hS⟩:=aU hS
  refine Zh (oO (R7 aH bF aCc) rfl (fun _ _=>rfl)) ?_
  refine Zh (jF rfl rfl) ?_
  refine Zy ?_
  refine VL.mt (decide (0 < TM)) [15] (fun _ _ h=>h) hS rfl
 clear hS
 rintro O5 hS
 refine iT hS (fun h15 hS => ?_) (fun h15 hS => ?_)
 ·
  refine Zq ?_
  cases hS
 refine Zk ?_
 refine Zq (Zr ?_)
 refine Zy ?_
 cases hS
 exact VC.ret (fA (.inr rfl) rfl rfl .nil rfl rfl (by (try dsimp only); exact cO.out) (by (try dsimp only); exact eT.out))
end Go.Proofs.YtcenmlklkpgmnaaGreatDoor
end
