/- Part of the proofs of: a folder's tree, put into a store, file by file, is there again, told in bytes and loaded; each file's bytes are there once, named by one name (any tree) -/
import Derived.Test.YtcenmlklkpgmnabGreatDoorSC
set_option linter.unusedVariables false
set_option linter.unusedSimpArgs false
set_option linter.unusedSectionVars false
section
set_option linter.unusedVariables false
namespace Go.Proofs.YtcenmlklkpgmnabGreatDoor
set_option maxHeartbeats 4000000
set_option maxRecDepth 100000
set_option synthInstance.maxSize 2000
set_option synthInstance.maxHeartbeats 1000000
open Go.RowKit Go.V
open Go.S hiding bB
theorem aAG (j8:Nat) (fR:cH) {r:Int×Int×bL} (hS:Sh.yH fR.pl=some r) :
 Ct Tryz.prog 52 [ptr j8 0] (fR.b.ok.and fR.err.ok) (bD j8 [fR.b.val,i64 fR.at_,fR.err.val] 127) (X:=Int×Int×cH) (fun x => .tuple #[.int .u64 x.1,i64 x.2.1]) (fun x=>r=(x.1,x.2.1,x.2.2.pl)) (fun x=>(x.2.2.b.ok.and x.2.2.err.ok)) (fun x=>bD j8 [x.2.2.b.val,i64 x.2.2.at_,x.2.2.err.val] 127):=by
 refine Zo Tryz.func52 Tryz.ntmps52 fun c => ?_
 unfold Sh.yH at hS
 refine Zq (Zr ?_)
 refine Zy ?_
 refine Zq (Zr ?_)
 refine Zy ?_
 refine Zq (Zq (Zr ?_))
 refine Zy ?_
 refine Zb ?_
 refine VC.iter (S:=Int×Int) (fun sg=>(sg.1,sg.2)) (fun sg=>[(0,ptr j8 0),(4,.int .u64 sg.1),(7,i64 sg.2)]) (fun sg=>Mo.tt) (fun sg=>Ow.star (bD j8 [fR.b.val,i64 fR.at_,fR.err.val] 127) (Ow.emp)) (0,0) [0,4,7] hS rfl ?_
 clear hS
 rintro ⟨MF,nX⟩ m1 y1 hS hK1
 refine Zq (Zr ?_)
 refine Zu (c4 rfl rfl) ?_
 refine Zl ?_
 refine Zq ?_
 refine Zc hS (fun h8 hS => ?_) (fun h8 hS => ?_)
 ·
  refine Zk ?_
  refine Zq (Zb (Zq (Zr ?_)))
  refine Zy ?_
  refine Zq (Zq ?_)
  refine VC.draw ((List.range 12).map fun k=>(k,true)) mixed (by kernel_rfl) (by kernel_rfl) (by kernel_rfl) ?_
  refine Zw rfl (bA rfl) ?_
  refine Zw rfl (aD rfl) ?_
  refine Zw rfl (aB uW rfl) ?_
  refine Zw rfl (aJ eP rfl rfl) ?_
  refine Zw rfl (bA rfl) ?_
  obtain ⟨b15,hS⟩:=bU hS
  refine Zw rfl (cR rfl rfl b15) ?_
  refine Zw rfl (bA rfl) ?_
  refine Zw rfl (aD rfl) ?_
  refine Zw rfl (aB O8 rfl) ?_
  refine Zw rfl (aJ qM rfl rfl) ?_
  refine Zw rfl (dX (s:=fR.b) Tryz.underlying30 rfl) ?_
  refine Zw rfl (sK rfl rfl) ?_
  refine VD.to (fun _ _ h=>h) ?_
  refine VC.keep (ρ':=[(0,ptr j8 0),(4,.int .u64 MF),(7,i64 nX),(5,i64 nX),(21,.bool (decide ((fR.b.l.length:Int)≤(fR.at_+nX))))]) [0,4,7,5,21] rfl ?_
  refine Zc hS (fun h21 hS => ?_) (fun h21 hS => ?_)
  ·
   refine Zq (Zr ?_)
   refine Zy ?_
   replace hS:=gA hS hK1
   cases hS
   exact VC.ret (s6 (.inr rfl) rfl rfl rfl (0,3,⟨fR.b,fR.at_,fR.err⟩) rfl rfl (by (try dsimp only); exact cA.out) (by (try dsimp only); exact dJ.out))
  refine Zk ?_
  refine Zq ?_
  refine VC.draw ((List.range 13).map fun k=>(k,true)) mixed (by kernel_rfl) (by kernel_rfl) (by kernel_rfl) ?_
  refine Zw rfl (bA rfl) ?_
  refine Zw rfl (aD rfl) ?_
  refine Zw rfl (aB O8 rfl) ?_
  refine Zw rfl (aJ qM rfl rfl) ?_
  refine Zw rfl (bA rfl) ?_
  refine Zw rfl (aD rfl) ?_
  refine Zw rfl (aB uW rfl) ?_
  refine Zw rfl (aJ eP rfl rfl) ?_
  refine Zw rfl (bA rfl) ?_
  obtain ⟨b31,hS⟩:=bU hS
  refine Zw rfl (cR rfl rfl b31) ?_
  obtain ⟨vU,aQL,aP5,hS⟩:=c6 hS
  refine Zw rfl (e8 (s:=fR.b) Tryz.underlying30 AD rfl rfl aQL (bN aQL aP5)) ?_
  refine Zw rfl (q9 (s:=fR.b) RS rfl aP5 rfl) ?_
  refine Zw rfl (eO rfl) ?_
  refine VD.to (fun _ _ h=>h) ?_
  refine VC.keep (ρ':=[(0,ptr j8 0),(4,.int .u64 MF),(7,i64 nX),(5,i64 nX),(6,.int .u8 (vU.toNat:Int))]) [0,4,7,5,6] rfl ?_
  refine VC.gK (S:=Unit) (fun (_:Unit)=>()) (fun (_:Unit)=>[(0,ptr j8 0),(4,.int .u64 MF),(5,i64 nX),(6,.int .u8 (vU.toNat:Int)),(7,i64 nX)]) (fun (_:Unit)=>Mo.tt) (fun (_:Unit)=>Ow.star (bD j8 [fR.b.val,i64 fR.at_,fR.err.val] 127) (Ow.emp)) hS ?_ ?_
  ·
   clear hS
   intro k4 hS
   refine Zq (Zr ?_)
   refine Zm ?_
   refine Zu (gV rfl rfl) ?_
   refine Zm ?_
   refine pL 36 hS (fun h36 hS => ?_) (fun h36 hS => ?_)
   ·
    refine Zg ?_
    refine Zh (iZ rfl rfl) ?_
    refine Zy ?_
    refine pL 40 hS (fun h40 hS => ?_) (fun h40 hS => ?_)
    ·
     refine VL.runs 7 [(47,some true)] (by kernel_rfl) ?_
     refine Zl ?_
     refine VC.keep (ρ':=[(0,ptr j8 0),(4,.int .u64 MF),(7,i64 nX),(5,i64 nX),(6,.int .u8 (vU.toNat:Int)),(47,.bool true)]) [0,4,7,5,6,47] rfl ?_
     refine VC.RD rfl ?_
     replace hS:=gA hS hK1
     refine Zx ?_
     refine Zq (Zr ?_)
     refine Zy ?_
     cases hS
     exact VC.ret (s6 (.inr rfl) rfl rfl rfl (0,2,⟨fR.b,fR.at_,fR.err⟩) rfl rfl (by (try dsimp only); exact cA.out) (by (try dsimp only); exact dJ.out))
    refine Zg ?_
    refine Zh (iZ rfl rfl) ?_
    refine Zg ?_
    refine pL 43 hS (fun h43 hS => ?_) (fun h43 hS => ?_)
    ·
     refine Zg ?_
     refine Zh (gV rfl rfl) ?_
     refine Zh (kE rfl rfl) ?_
     refine Zy ?_
     refine VC.keep (ρ':=[(0,ptr j8 0),(4,.int .u64 MF),(7,i64 nX),(5,i64 nX),(6,.int .u8 (vU.toNat:Int)),(47,.bool (decide ((vU.toNat:Int)=0)))]) [0,4,7,5,6,47] rfl ?_
     refine Zc hS (fun h47 hS => ?_) (fun h47 hS => ?_)
     ·
      replace hS:=gA hS hK1
      refine Zx ?_
      refine Zq (Zr ?_)
      refine Zy ?_
      cases hS
      exact VC.ret (s6 (.inr rfl) rfl rfl rfl (0,2,⟨fR.b,fR.at_,fR.err⟩) rfl rfl (by (try dsimp only); exact cA.out) (by (try dsimp only); exact dJ.out))
     refine VC.iC () [0,4,5,6,7] (fun _ _ h=>h) hS rfl
    refine Zy ?_
    refine Zh (iX rfl rfl) ?_
    refine Zy ?_
    refine VC.keep (ρ':=[(0,ptr j8 0),(4,.int .u64 MF),(7,i64 nX),(5,i64 nX),(6,.int .u8 (vU.toNat:Int)),(47,.bool false)]) [0,4,7,5,6,47] rfl ?_
    refine VC.BB rfl ?_
    refine VC.iC () [0,4,5,6,7] (fun _ _ h=>h) hS rfl
   refine VL.runs 4 [(40,some false)] (by kernel_rfl) ?_
   refine Zg ?_
   refine Zh (iZ rfl rfl) ?_
   refine Zg ?_
   refine pL 43 hS (fun h43 hS => ?_) (fun h43 hS => ?_)
   ·
    refine Zg ?_
    refine Zh (gV rfl rfl) ?_
    refine Zh (kE rfl rfl) ?_
    refine Zy ?_
    refine VC.keep (ρ':=[(0,ptr j8 0),(4,.int .u64 MF),(7,i64 nX),(5,i64 nX),(6,.int .u8 (vU.toNat:Int)),(47,.bool (decide ((vU.toNat:Int)=0)))]) [0,4,7,5,6,47] rfl ?_
    refine Zc hS (fun h47 hS => ?_) (fun h47 hS => ?_)
    ·
     replace hS:=gA hS hK1
     refine Zx ?_
     refine Zq (Zr ?_)
     refine Zy ?_
     cases hS
     exact VC.ret (s6 (.inr rfl) rfl rfl rfl (0,2,⟨fR.b,fR.at_,fR.err⟩) rfl rfl (by (try dsimp only); exact cA.out) (by (try dsimp only); exact dJ.out))
    refine VC.iC () [0,4,5,6,7] (fun _ _ h=>h) hS rfl
   refine Zy ?_
   refine Zh (iX rfl rfl) ?_
   refine Zy ?_
   refine VC.keep (ρ':=[(0,ptr j8 0),(4,.int .u64 MF),(7,i64 nX),(5,i64 nX),(6,.int .u8 (vU.toNat:Int)),(47,.bool false)]) [0,4,7,5,6,47] rfl ?_
   refine VC.BB rfl ?_
   refine VC.iC () [0,4,5,6,7] (fun _ _ h=>h) hS rfl
  clear hS
  rintro _ hS
  refine Zq (Zr ?_)
  refine Zy ?_
  refine Zu (B4 rfl rfl) ?_
  refine Zu (jK Tryz.underlying5 Tryz.underlying101 rfl) ?_
  refine Zm ?_
  obtain ⟨b53,hS⟩:=bU hS
  refine Zu (N9 rfl rfl b53) ?_
  obtain ⟨b54,hS⟩:=bU hS
  refine Zu (aAX rfl rfl b54) ?_
  refine Zu (aGd rfl rfl) ?_
  refine Zy ?_
  refine VC.keep (ρ':=[(0,ptr j8 0),(4,.int .u64 (GH .u64 MF (I0 .u64 (IntKind.wrap .u64 (gE .u8 (vU.toNat:Int) 127)) (7*nX)))),(5,i64 nX),(6,.int .u8 (vU.toNat:Int)),(7,i64 nX)]) [0,4,5,6,7] rfl ?_
  refine Zq (Zr ?_)
  refine Zm ?_
  refine Zu (c4 rfl rfl) ?_
  refine Zl ?_
  refine Zc hS (fun h57 hS => ?_) (fun h57 hS => ?_)
  ·
   refine Zq (Zr ?_)
   refine Zm ?_
   refine Zu (aD rfl) ?_
   refine Zu (aB uW rfl) ?_
   refine Zu (aJ eP rfl rfl) ?_
   refine Zm ?_
   obtain ⟨b63,hS⟩:=bU hS
   refine Zu (cR rfl rfl b63) ?_
   obtain ⟨b64,hS⟩:=bU hS
   refine Zu (cR rfl rfl b64) ?_
   refine Zu (aD rfl) ?_
   refine Zu (aB uW rfl) ?_
   refine Zv (cs':=[fR.b.val,i64 (fR.at_+(nX+1)),fR.err.val]) rfl u9 ?_
   refine Zl ?_
   refine VC.keep (ρ':=[(4,.int .u64 (GH .u64 MF (I0 .u64 (IntKind.wrap .u64 (gE .u8 (vU.toNat:Int) 127)) (7*nX))))]) [4] rfl ?_
   refine Zq (Zr ?_)
   refine Zy ?_
   replace hS:=gA hS hK1
   cases hS
   exact VC.ret (s6 (.inr rfl) rfl rfl rfl ((GH .u64 MF (I0 .u64 (IntKind.wrap .u64 (gE .u8 (vU.toNat:Int) 127)) (7*nX))),0,⟨fR.b,(fR.at_+(nX+1)),fR.err⟩) rfl rfl (by (try dsimp only); exact cA.out) (by (try dsimp only); exact dJ.out))
  refine Zk ?_
  refine Zr ?_
  obtain ⟨b68,hS⟩:=bU hS
  refine Zu (cR rfl rfl b68) ?_
  refine Zm ?_
  refine VL.iP ((GH .u64 MF (I0 .u64 (IntKind.wrap .u64 (gE .u8 (vU.toNat:Int) 127)) (7*nX))),(nX+1)) [0,4,7] (fun _ _ h=>h) (go2 hS hK1) rfl
 replace hS:=gA hS hK1
 refine Zx ?_
 refine Zq (Zr ?_)
 refine Zy ?_
 cases hS
 exact VC.ret (s6 (.inr rfl) rfl rfl rfl (0,2,⟨fR.b,fR.at_,fR.err⟩) rfl rfl (by (try dsimp only); exact cA.out) (by (try dsimp only); exact dJ.out))
theorem DF (j8:Nat) (fR:cH) (aAr:Int) (e_2:Int) {r:bL} (hS:Sh.sJ fR.pl aAr e_2=some r) :
 Ct Tryz.prog 53 [ptr j8 0,i64 aAr,i64 e_2] (fR.b.ok.and fR.err.ok) (bD j8 [fR.b.val,i64 fR.at_,fR.err.val] 127) (X:=cH) (fun x => .tuple #[]) (fun x=>r=x.pl) (fun x=>(x.b.ok.and x.err.ok)) (fun x=>bD j8 [x.b.val,i64 x.at_,x.err.val] 127):=by
 refine Zo Tryz.func53 Tryz.ntmps53 fun c => ?_
 unfold Sh.sJ at hS
 refine Zr ?_
 refine Zy ?_
 refine Zu (kW Tryz.underlying75 (fun _ h=>by cases h) rfl) ?_
 refine Zu (eN (vs:=[(0,str [98,121,116,101]),(1,i64 aAr),(2,(Er.no e_2).val)]) (cs := #[str [98,121,116,101],i64 aAr,(Er.no e_2).val]) rfl (by kernel_rfl)) ?_
 refine VL.box (cs:=[str [98,121,116,101],i64 aAr,(Er.no e_2).val]) rfl rfl (by decide) fun aNW => ?_
 refine VL.OD aNW ?_
 refine Zu (kW Tryz.underlying74 (fun _ h=>by cases h) rfl) ?_
 refine Zu (aD rfl) ?_
 refine Zu (aB O9 rfl) ?_
 refine Zv (cs':=[fR.b.val,i64 fR.at_,(Er.fault aNW [98,121,116,101] aAr (Er.no e_2)).val]) rfl a5E ?_
 cases hS
 exact VL.nil (q8 (.inl rfl) rfl ⟨fR.b,fR.at_,(Er.fault aNW [98,121,116,101] aAr (Er.no e_2))⟩ rfl rfl (by (try dsimp only); exact cA.out) (by (try dsimp only); exact dJ.out))
theorem dG (j8:Nat) (fR:cH) {r:Int×bL} (hS:Sh.dY fR.pl=some r) :
 Ct Tryz.prog 23 [ptr j8 0] (fR.b.ok.and fR.err.ok) (bD j8 [fR.b.val,i64 fR.at_,fR.err.val] 127) (X:=Int×cH) (fun x=>i64 x.1) (fun x=>r=(x.1,x.2.pl)) (fun x=>(x.2.b.ok.and x.2.err.ok)) (fun x=>bD j8 [x.2.b.val,i64 x.2.at_,x.2.err.val] 127):=by
 refine Zo Tryz.func23 Tryz.ntmps23 fun c => ?_
 unfold Sh.dY at hS
 refine Zq (Zr ?_)
 refine Zy ?_
 refine Zq (Zq (Zr ?_))
 refine Zm ?_
 refine Zu (aD rfl) ?_
 refine Zu (aB O9 rfl) ?_
 refine Zu (aJ aEV rfl rfl) ?_
 refine Zu (jM Tryz.underlying26 rfl) ?_
 refine Zl ?_
 refine rE hS (fun h10 hS => ?_) (fun h10 hS => ?_)
 ·
  refine Zq (Zr ?_)
  refine Zy ?_
  cases hS
  exact VC.ret (eB (.inr rfl) rfl rfl (0,⟨fR.b,fR.at_,fR.err⟩) rfl rfl (by (try dsimp only); exact cA.out) (by (try dsimp only); exact dJ.out))
 refine Zk ?_
 refine Zq (Zr ?_)
 refine Zm ?_
 refine Zu (aD rfl) ?_
 refine Zu (aB uW rfl) ?_
 refine Zu (aJ eP rfl rfl) ?_
 refine Zy ?_
 refine VC.keep (ρ':=[(0,ptr j8 0),(3,i64 fR.at_)]) [0,3] rfl ?_
 refine Zq (Zr ?_)
 refine Zm ?_
 obtain ⟨S6,a0B,hS⟩:=aK hS
 refine VL.bS (aAG j8 fR a0B) rfl (by decide) ?_
 rintro ⟨aGX,aYA,aBu⟩ rfl
 try dsimp only
 refine Zm ?_
 refine Zu (aW rfl rfl) ?_
 refine Zu (aW rfl rfl) ?_
 refine Zy ?_
 refine Zq (Zq (Zr ?_))
 refine Zm ?_
 refine Zu (yY rfl rfl) ?_
 refine Zl ?_
 refine rE hS (fun h21 hS => ?_) (fun h21 hS => ?_)
 ·
  refine Zq (Zr ?_)
  refine Zy ?_
  obtain ⟨aK8,a0U,hS⟩:=aK hS
  refine VL.bS (DF j8 aBu fR.at_ aYA a0U) rfl (by decide) ?_
  rintro aG7 rfl
  try dsimp only
  refine Zl ?_
  refine VC.keep (ρ':=[]) [] rfl ?_
  refine Zq (Zr ?_)
  refine Zy ?_
  cases hS
  exact VC.ret (eB (.inr rfl) rfl rfl (0,⟨aG7.b,aG7.at_,aG7.err⟩) rfl rfl (by (try dsimp only); exact cA.out) (by (try dsimp only); exact dJ.out))
 refine Zk ?_
 refine VC.keep (ρ':=[(4,.int .u64 aGX)]) [4] rfl ?_
 refine Zq (Zr ?_)
 refine Zm ?_
 refine Zu (yZ rfl rfl (by decide)) ?_
 refine Zu (jK Tryz.underlying101 Tryz.underlying2 rfl) ?_
 refine Zm ?_
 refine Zu (B4 rfl rfl) ?_
 refine Zu (jK Tryz.underlying101 Tryz.underlying2 rfl) ?_
 refine Zu (aY0 rfl) ?_
 refine Zu (tP rfl rfl) ?_
 refine Zy ?_
 cases hS
 exact VC.ret (eB (.inr rfl) rfl rfl ((fF .i64 (IntKind.wrap .i64 (nD .u64 aGX 1)) (IntKind.wrap .i64 (0 - (IntKind.wrap .i64 (gE .u64 aGX 1))))),⟨aBu.b,aBu.at_,aBu.err⟩) rfl rfl (by (try dsimp only); exact cA.out) (by (try dsimp only); exact dJ.out))
theorem jF (j8:Nat) (fR:cH) {r:eY} (hS:Sh.hO fR.pl=some r) :
 Ct Tryz.prog 26 [ptr j8 0] (fR.b.ok.and fR.err.ok) (bD j8 [fR.b.val,i64 fR.at_,fR.err.val] 127) (X:=Er) (fun x=>x.val) (fun x=>r=x.pl) (fun x=>x.ok) (fun x=>bD j8 [fR.b.val,i64 fR.at_,fR.err.val] 127):=by
 refine Zo Tryz.func26 Tryz.ntmps26 fun c => ?_
 unfold Sh.hO at hS
 refine Zq (Zr ?_)
 refine Zy ?_
 refine Zq (Zr ?_)
 refine Zm ?_
 refine Zu (aD rfl) ?_
 refine Zu (aB O9 rfl) ?_
 refine Zu (aJ aEV rfl rfl) ?_
 refine Zy ?_
 cases hS
 exact VC.ret (eB (.inr rfl) rfl rfl fR.err rfl rfl (by (try dsimp only); exact cA.out) (by (try dsimp only); exact dJ.out))
theorem fQ (j8:Nat) (fR:cH) {r:bB×bL} (hS:Sh.fN fR.pl=some r) :
 Ct Tryz.prog 25 [ptr j8 0] (fR.b.ok.and fR.err.ok) (bD j8 [fR.b.val,i64 fR.at_,fR.err.val] 127) (X:=bB×cH) (fun x=>str x.1) (fun x=>r=(x.1,x.2.pl)) (fun x=>(x.2.b.ok.and x.2.err.ok)) (fun x=>bD j8 [x.2.b.val,i64 x.2.at_,x.2.err.val] 127):=by
 refine Zo Tryz.func25 Tryz.ntmps25 fun c => ?_
 unfold Sh.fN at hS
 refine Zq (Zr ?_)
 refine Zy ?_
 refine Zq (Zr ?_)
 refine Zm ?_
 refine Zu (aD rfl) ?_
 refine Zu (aB uW rfl) ?_
 refine Zu (aJ eP rfl rfl) ?_
 refine Zy ?_
 refine Zq (Zr ?_)
 refine Zm ?_
 obtain ⟨iJ,JK,hS⟩:=aK hS
 refine VL.bS (dG j8 fR JK) rfl (by decide) ?_
 rintro ⟨tL,tM⟩ rfl
 try dsimp only
 refine Zy ?_
 refine Zq (Zb (Zq (Zr ?_)))
 refine Zm ?_
 refine Zu (aD rfl) ?_
 refine Zu (aB O9 rfl) ?_
 refine Zu (aJ aEV rfl rfl) ?_
 refine Zu (jM Tryz.underlying26 rfl) ?_
 refine Zy ?_
 refine VC.keep (ρ':=[(0,ptr j8 0),(3,i64 fR.at_),(4,i64 tL),(12,.bool (!decide (tM.err.pl.isNil=true)))]) [0,3,4,12] rfl ?_
 refine rE hS (fun h12 hS => ?_) (fun h12 hS => ?_)
 ·
  refine Zq (Zr ?_)
  refine Zy ?_
  cases hS
  exact VC.ret (eB (.inr rfl) rfl rfl ([],⟨tM.b,tM.at_,tM.err⟩) rfl rfl (by (try dsimp only); exact cA.out) (by (try dsimp only); exact dJ.out))
 refine Zq (Zr ?_)
 refine Zm ?_
 refine Zu (c4 rfl rfl) ?_
 refine Zy ?_
 refine Zc hS (fun h18 hS => ?_) (fun h18 hS => ?_)
 ·
  refine Zq (Zr ?_)
  refine Zy ?_
  obtain ⟨aK5,a0O,hS⟩:=aK hS
  refine VL.bS (DF j8 tM fR.at_ 2 a0O) rfl (by decide) ?_
  rintro aG4 rfl
  try dsimp only
  refine Zl ?_
  refine Zq (Zr ?_)
  refine Zy ?_
  refine VC.keep (ρ':=[(2,str [])]) [2] rfl ?_
  cases hS
  exact VC.ret (eB (.inr rfl) rfl rfl ([],⟨aG4.b,aG4.at_,aG4.err⟩) rfl rfl (by (try dsimp only); exact cA.out) (by (try dsimp only); exact dJ.out))
 refine Zq ?_
 refine VC.draw ((List.range 13).map fun k=>(k,true)) mixed (by kernel_rfl) (by kernel_rfl) (by kernel_rfl) ?_
 refine Zw rfl (bA rfl) ?_
 refine Zw rfl (bA rfl) ?_
 refine Zw rfl (aD rfl) ?_
 refine Zw rfl (aB O8 rfl) ?_
 refine Zw rfl (aJ qM rfl rfl) ?_
 refine Zw rfl (dX (s:=tM.b) Tryz.underlying30 rfl) ?_
 refine Zw rfl (bA rfl) ?_
 refine Zw rfl (aD rfl) ?_
 refine Zw rfl (aB uW rfl) ?_
 refine Zw rfl (aJ eP rfl rfl) ?_
 obtain ⟨b35,hS⟩:=bU hS
 refine Zw rfl (qK rfl rfl b35) ?_
 refine Zw rfl (iZ rfl rfl) ?_
 refine Zw rfl (eO rfl) ?_
 refine VD.to (fun _ _ h=>h) ?_
 refine VC.keep (ρ':=[(0,ptr j8 0),(3,i64 fR.at_),(4,i64 tL),(24,.bool (decide (((tM.b.l.length:Int) - tM.at_) < tL)))]) [0,3,4,24] rfl ?_
 refine Zc hS (fun h24 hS => ?_) (fun h24 hS => ?_)
 ·
  refine Zq (Zr ?_)
  refine Zy ?_
  obtain ⟨aKd,a0i,hS⟩:=aK hS
  refine VL.bS (DF j8 tM fR.at_ 3 a0i) rfl (by decide) ?_
  rintro aGb rfl
  try dsimp only
  refine Zl ?_
  refine Zq (Zr ?_)
  refine Zy ?_
  cases hS
  exact VC.ret (eB (.inr rfl) rfl rfl ([],⟨aGb.b,aGb.at_,aGb.err⟩) rfl rfl (by (try dsimp only); exact cA.out) (by (try dsimp only); exact dJ.out))
 refine Zk ?_
 refine Zq ?_
 refine VC.draw ((List.range 17).map fun k=>(k,true)) mixed (by kernel_rfl) (by kernel_rfl) (by kernel_rfl) ?_
 refine Zw rfl (bA rfl) ?_
 refine Zw rfl (aD rfl) ?_
 refine Zw rfl (aB O8 rfl) ?_
 refine Zw rfl (aJ qM rfl rfl) ?_
 refine Zw rfl (bA rfl) ?_
 refine Zw rfl (aD rfl) ?_
 refine Zw rfl (aB uW rfl) ?_
 refine Zw rfl (aJ eP rfl rfl) ?_
 refine Zw rfl (bA rfl) ?_
 refine Zw rfl (aD rfl) ?_
 refine Zw rfl (aB uW rfl) ?_
 refine Zw rfl (aJ eP rfl rfl) ?_
 refine Zw rfl (bA rfl) ?_
 obtain ⟨b53,hS⟩:=bU hS
 refine Zw rfl (cR rfl rfl b53) ?_
 obtain ⟨b54,hS⟩:=bU hS
 refine VD.a6E rfl Tryz.underlying30 AD rfl rfl rfl b54.1 b54.2.1 (b54.2.2) (by decide) fun aKN a1k Qs54_4 => ?_
 replace hS:=bV a1k hS
 refine Zw rfl (R6 (s:=aKN) Tryz.underlying30 Tryz.underlying5 Tryz.underlying9 rfl) ?_
 refine Zw rfl (eO rfl) ?_
 refine VD.to (fun _ _ h=>h) ?_
 refine VC.keep (ρ':=[(0,ptr j8 0),(4,i64 tL),(5,str aKN.l)]) [0,4,5] rfl ?_
 refine Zq (Zr ?_)
 refine Zm ?_
 refine Zu (aD rfl) ?_
 refine Zu (aB uW rfl) ?_
 refine Zu (aJ eP rfl rfl) ?_
 refine Zm ?_
 obtain ⟨b61,hS⟩:=bU hS
 refine Zu (cR rfl rfl b61) ?_
 refine Zu (aD rfl) ?_
 refine Zu (aB uW rfl) ?_
 refine Zv (cs':=[tM.b.val,i64 (tM.at_+tL),tM.err.val]) rfl u9 ?_
 refine Zl ?_
 refine VC.keep (ρ':=[(5,str aKN.l)]) [5] rfl ?_
 refine Zq (Zr ?_)
 refine Zy ?_
 cases hS
 exact VC.ret (eB (.inr rfl) rfl rfl (aKN.l,⟨tM.b,(tM.at_+tL),tM.err⟩) rfl rfl (by (try dsimp only); exact cA.out) (by (try dsimp only); exact dJ.out))
theorem SU (lG:Nat) (cX:Sv aC) (iB:Nat) (cO:Nat) (a_1_:aU) (bW:Nat) (cV:cH) {r:List aC×bL} (hS:Sh.B8 cX.l a_1_ cV.pl=some r) :
 Ct Tryz.prog 281 [ptr lG 0,ptr iB 0] (cV.b.ok.and cV.err.ok) (Ow.star (Sv.own cX 36) (Ow.star (bD lG [cX.val] 23) (Ow.star (bD bW [cV.b.val,i64 cV.at_,cV.err.val] 127) (Ow.star (bD cO [ptr bW 0,.bool a_1_.bad] 214) (bD iB [ptr cO 0] 212))))) (X:=Sv aC×cH) (fun x => .tuple #[]) (fun x=>r=(x.1.l,x.2.pl)) (fun x=>(x.2.b.ok.and x.2.err.ok)) (fun x=>Ow.star (bD lG [x.1.val] 23) (Ow.star (Sv.own x.1 36) (Ow.star (bD bW [x.2.b.val,i64 x.2.at_,x.2.err.val] 127) (Ow.star (bD cO [ptr bW 0,.bool a_1_.bad] 214) (bD iB [ptr cO 0] 212))))):=by
 refine Zo Tryz.func281 Tryz.ntmps281 fun c => ?_
 unfold Sh.B8 at hS
 refine VC.draw [(0,true),(1,true),(2,true),(3,true),(4,true),(6,true),(7,true),(8,true),(9,true),(11,true),(12,true),(13,true),(14,true),(5,false),(10,false),(15,false),(16,true),(17,false),(18,false),(19,false)] mixed (by kernel_rfl) (by kernel_rfl) (by kernel_rfl) ?_
 refine Zw rfl (aJ jS rfl rfl) ?_
 refine Zw rfl (aJ c7 rfl rfl) ?_
 refine Zw rfl (aD rfl) ?_
 refine Zw rfl (aB cQ rfl) ?_
 refine Zw rfl (aJ c5 rfl rfl) ?_
 refine Zw rfl (aJ c7 rfl rfl) ?_
 refine Zw rfl (aD rfl) ?_
 refine Zw rfl (aB cQ rfl) ?_
 refine Zw rfl (aJ c5 rfl rfl) ?_
 refine Zw rfl (aJ c7 rfl rfl) ?_
 refine Zw rfl (aD rfl) ?_
 refine Zw rfl (aB cQ rfl) ?_
 refine Zw rfl (aJ c5 rfl rfl) ?_
 refine VD.one rfl ?_
 obtain ⟨iD,kL,hS⟩:=aK hS
 refine VL.bS (fQ bW cV kL) rfl (by decide) ?_
 rintro ⟨lZ,BP⟩ rfl
 try dsimp only
 refine VL.back (D':=[(14,ptr bW 0),(13,ptr cO 0),(12,ptr cO 0),(11,ptr cO 0),(9,ptr bW 0),(8,ptr cO 0),(7,ptr cO 0),(6,ptr cO 0),(0,cX.val)]) (by kernel_rfl) (aF.cons rfl (aJ c5 rfl rfl) (aF.cons rfl (aB cQ rfl) (aF.cons rfl (aD rfl) (aF.cons rfl (aJ c7 rfl rfl) (aF.cons rfl (aJ c5 rfl rfl) (aF.cons rfl (aB cQ rfl) (aF.cons rfl (aD rfl) (aF.cons rfl (aJ c7 rfl rfl) (aF.cons rfl (aJ jS rfl rfl) (aF.nil)))))))))) ?_
 refine VD.one rfl ?_
 obtain ⟨fP,BD,hS⟩:=aK hS
 refine VL.bS (dG bW BP BD) rfl (by decide) ?_
 rintro ⟨pS,CQ⟩ rfl
 try dsimp only
 refine VL.back (D':=[(14,ptr bW 0),(13,ptr cO 0),(12,ptr cO 0),(11,ptr cO 0),(0,cX.val)]) (by kernel_rfl) (aF.cons rfl (aJ c5 rfl rfl) (aF.cons rfl (aB cQ rfl) (aF.cons rfl (aD rfl) (aF.cons rfl (aJ c7 rfl rfl) (aF.cons rfl (aJ jS rfl rfl) (aF.nil)))))) ?_
 refine VD.one rfl ?_
 obtain ⟨zI,RG,hS⟩:=aK hS
 refine VL.bS (fQ bW CQ RG) rfl (by decide) ?_
 rintro ⟨vC,FN⟩ rfl
 try dsimp only
 refine VL.back (D':=[(0,cX.val)]) (by kernel_rfl) (aF.cons rfl (aJ jS rfl rfl) (aF.nil)) ?_
 refine Zw rfl (eN (vs:=[(0,str lZ),(1,i64 pS),(2,str vC)]) (cs := #[str lZ,i64 pS,str vC]) rfl (by kernel_rfl)) ?_
 refine VD.one rfl ?_
 refine VL.lit (α:=aC) (xs:=[.tmp 18]) (vs:=[.agg #[str lZ,i64 pS,str vC]]) [⟨lZ,pS,vC⟩] Tryz.underlying23 X9 (by decide) rfl rfl rfl rfl (by decide) (fun _ _ _ _=>trivial) (by decide) (fun SO RV => ?_) (by decide)
 replace hS:=bV RV hS
 refine VL.back (D':=[(0,cX.val)]) (by kernel_rfl) (aF.cons rfl (aJ jS rfl rfl) (aF.nil)) ?_
 refine VD.one rfl ?_
 obtain ⟨b20,hS⟩:=bU hS
 refine VL.app (s:=cX) (r:=SO) Tryz.underlying23 RO (by decide) rfl Fo.out (sU b20) (sV b20 (by decide)) (by decide) (fun aGr aJf => ?_)
 replace hS:=bV aJf hS
 refine VL.back (D':=[]) (by kernel_rfl) (aF.nil) ?_
 refine VD.one rfl ?_
 refine Zv (cs':=[aGr.val]) rfl aCw ?_
 refine VL.back (D':=[]) (by kernel_rfl) (aF.nil) ?_
 cases hS
 exact VD.nil (q8 (.inl rfl) rfl (aGr,⟨FN.b,FN.at_,FN.err⟩) rfl rfl (by (try dsimp only); exact cA.out) (by (try dsimp only); exact dJ.out))
theorem UB (bG:Nat) (cJ:aU) (aE:Nat) (aT:cH) (cB:Nat) (bF:Sv aC) (cC:Nat) {r:bL×aU×List aC} (hS:Sh.DT cJ aT.pl bF.l=some r) :
 Ct Tryz.prog 203 [ptr bG 0,.func (.func 281) #[] #[ptr cB 0,ptr cC 0]] (aT.b.ok.and aT.err.ok) (Ow.star (bD aE [aT.b.val,i64 aT.at_,aT.err.val] 127) (Ow.star (bD bG [ptr aE 0,.bool cJ.bad] 214) (Ow.star (Sv.own bF 36) (Ow.star (bD cB [bF.val] 23) (bD cC [ptr bG 0] 212))))) (X:=cH×aU×Sv aC) (fun x => .tuple #[]) (fun x=>r=(x.1.pl,x.2.1,x.2.2.l)) (fun x=>(x.1.b.ok.and x.1.err.ok)) (fun x=>Ow.star (bD aE [x.1.b.val,i64 x.1.at_,x.1.err.val] 127) (Ow.star (bD bG [ptr aE 0,.bool x.2.1.bad] 214) (Ow.star (bD cB [x.2.2.val] 23) (Ow.star (Sv.own x.2.2 36) (bD cC [ptr bG 0] 212))))):=by
 refine Zo Tryz.func203 Tryz.ntmps203 fun c => ?_
 unfold Sh.DT at hS
 refine Zq (Zr ?_)
 refine Zm ?_
 refine Zu (aD rfl) ?_
 refine Zu (aB cQ rfl) ?_
 refine Zu (aJ c5 rfl rfl) ?_
 obtain ⟨c9,nF,hS⟩:=aK hS
 refine VL.bS (dG aE aT nF) rfl (by decide) ?_
 rintro ⟨fU,eM⟩ rfl
 try dsimp only
 refine Zy ?_
 refine VC.gK (S:=Bool) (fun (eX:Bool)=>eX) (fun (eX:Bool)=>[(0,ptr bG 0),(1,.func (.func 281) #[] #[ptr cB 0,ptr cC 0]),(4,i64 fU)]) (fun (eX:Bool)=>Mo.tt) (fun (eX:Bool)=>Ow.star (bD aE [eM.b.val,i64 eM.at_,eM.err.val] 127) (Ow.star (bD bG [ptr aE 0,.bool eX] 214) (Ow.star (bD cB [bF.val] 23) (Ow.star (bD cC [ptr bG 0] 212) (Ow.star (Sv.own bF 36) (Ow.emp)))))) hS ?_ ?_
 ·
  clear hS
  intro k3 hS
  refine Zr ?_
  refine Zy ?_
  refine Zu (aD rfl) ?_
  refine Zu (aB jX rfl) ?_
  refine Zu (aJ o9 rfl rfl) ?_
  refine Zm ?_
  refine vV 16 hS (fun h16 hS => ?_) (fun h16 hS => ?_)
  ·
   refine VL.runs 3 [(19,some true)] (by kernel_rfl) ?_
   refine Zu (aD rfl) ?_
   refine Zu (aB jX rfl) ?_
   refine Zv (cs':=[ptr aE 0,.bool true]) rfl rJ ?_
   refine VL.mt true [0,1,4] (fun _ _ h=>h) hS rfl
  refine Zg ?_
  refine Zh (c4 rfl rfl) ?_
  refine Zf ?_
  refine Zu (aD rfl) ?_
  refine Zu (aB jX rfl) ?_
  refine Zv (cs':=[ptr aE 0,.bool (decide (fU < 0))]) rfl rJ ?_
  refine VL.mt (decide (fU < 0)) [0,1,4] (fun _ _ h=>h) hS rfl
 clear hS
 rintro eX hS
 refine Zq (Zr ?_)
 refine Zy ?_
 refine Zb ?_
 refine VC.iter (S:=Int×Sv UInt8×Int×Er×Sv aC) (fun sg=>(sg.1,sg.2.1.l,sg.2.2.1,sg.2.2.2.1.pl,sg.2.2.2.2.l)) (fun sg=>[(0,ptr bG 0),(1,.func (.func 281) #[] #[ptr cB 0,ptr cC 0]),(4,i64 fU),(5,i64 sg.1)]) (fun sg=>(sg.2.1.ok.and sg.2.2.2.1.ok)) (fun sg=>Ow.star (bD aE [sg.2.1.val,i64 sg.2.2.1,sg.2.2.2.1.val] 127) (Ow.star (bD bG [ptr aE 0,.bool eX] 214) (Ow.star (bD cB [sg.2.2.2.2.val] 23) (Ow.star (bD cC [ptr bG 0] 212) (Ow.star (Sv.own sg.2.2.2.2 36) (Ow.emp)))))) (0,eM.b,eM.at_,eM.err,bF) [0,1,4,5] hS rfl ?_
 clear hS
 rintro ⟨jR,fA,gQ,gR,dM⟩ m1 y1 hS hK1
 refine Zq (Zq (Zr ?_))
 refine Zy ?_
 refine Zu (c4 rfl rfl) ?_
 refine Zm ?_
 refine pL 25 hS (fun h25 hS => ?_) (fun h25 hS => ?_)
 ·
  refine Zg ?_
  refine Zh (aD rfl) ?_
  refine Zh (aB cQ rfl) ?_
  refine Zh (aJ c5 rfl rfl) ?_
  refine VL.guard rfl rfl ?_
  obtain ⟨s5,xY,hS⟩:=aK hS
  refine VL.bS (jF aE (⟨fA,gQ,gR⟩:cH) xY) rfl (by decide) ?_
  rintro nO rfl
  try dsimp only
  refine Zh (FU Tryz.underlying26 rfl) ?_
  refine Zy ?_
  refine VC.keep (ρ':=[(0,ptr bG 0),(1,.func (.func 281) #[] #[ptr cB 0,ptr cC 0]),(4,i64 fU),(5,i64 jR),(32,.bool (decide (nO.pl.isNil=true)))]) [0,1,4,5,32] rfl ?_
  refine Zc hS (fun h32 hS => ?_) (fun h32 hS => ?_)
  ·
   refine Zk ?_
   refine Zq (Zb (Zr ?_))
   refine Zm ?_
   obtain ⟨mN,EZ,hS⟩:=aK hS
   refine VL.MR (vs:=[]) (caps:=[ptr cB 0,ptr cC 0]) (SU cB dM cC bG (⟨eX⟩:aU) aE (⟨fA,gQ,gR⟩:cH) EZ) rfl rfl (by decide) ?_
   rintro ⟨BO,nJ⟩ rfl
   try dsimp only
   refine Zl ?_
   refine Zr ?_
   refine Zm ?_
   obtain ⟨b34,hS⟩:=bU hS
   refine Zu (cR rfl rfl b34) ?_
   refine Za ?_
   refine VL.iP ((jR+1),nJ.b,nJ.at_,nJ.err,BO) [0,1,4,5] (fun _ _ h=>h) (go2 hS hK1) rfl
  replace hS:=gA hS hK1
  cases hS
  exact VC.exit (q8 (.inl rfl) rfl (⟨fA,gQ,gR⟩,⟨eX⟩,dM) rfl rfl (by (try dsimp only); exact cA.out) (by (try dsimp only); exact dJ.out))
 refine VL.runs 7 [(32,some false)] (by kernel_rfl) ?_
 refine Zl ?_
 refine VC.BB rfl ?_
 replace hS:=gA hS hK1
 cases hS
 exact VC.exit (q8 (.inl rfl) rfl (⟨fA,gQ,gR⟩,⟨eX⟩,dM) rfl rfl (by (try dsimp only); exact cA.out) (by (try dsimp only); exact dJ.out))
theorem vI (bG:Nat) (cJ:aU) (aE:Nat) (aT:cH) {r:List aC×bL×aU} (hS:Sh.vH cJ aT.pl=some r) :
 Ct Tryz.prog 205 [ptr bG 0] (aT.b.ok.and aT.err.ok) (Ow.star (bD aE [aT.b.val,i64 aT.at_,aT.err.val] 127) (bD bG [ptr aE 0,.bool cJ.bad] 214)) (X:=Sv aC×cH×aU) (fun x=>x.1.val) (fun x=>r=(x.1.l,x.2.1.pl,x.2.2)) (fun x=>(x.1.ok.and (x.2.1.b.ok.and x.2.1.err.ok))) (fun x=>Ow.star (bD aE [x.2.1.b.val,i64 x.2.1.at_,x.2.1.err.val] 127) (bD bG [ptr aE 0,.bool x.2.2.bad] 214)):=by
 refine Zo Tryz.func205 Tryz.ntmps205 fun c => ?_
 unfold Sh.vH at hS
 refine Zq (Zr ?_)
 refine VL.box (cs:=[ptr bG 0]) rfl rfl (by decide) fun fE => ?_
 refine Zy ?_
 refine Zq (Zr ?_)
 refine VL.alloc (cs:=[.slice none 0 0]) (by kernel_rfl) (by decide) fun jQ => ?_
 refine Zl ?_
 refine Zq (Zr ?_)
 refine Zu (aJ c7 rfl rfl) ?_
 refine Zu (sE rfl) ?_
 refine VL.kH (⟨none,0,[]⟩:Sv aC) 36 ⟨rfl,rfl⟩ ?_
 refine VL.SD jQ (cs':=[(⟨none,0,[]⟩:Sv aC).val]) rfl ?_
 obtain ⟨mT,K3,hS⟩:=aK hS
 refine VL.bS (UB bG cJ aE aT jQ (⟨none,0,[]⟩:Sv aC) fE K3) rfl (by decide) ?_
 rintro ⟨sX,JX,zS⟩ rfl
 try dsimp only
 refine Zl ?_
 refine Zq (Zr ?_)
 refine Zu (aJ jS rfl rfl) ?_
 refine VL.shut zS 36 (fun _ _ _ _=>trivial) ?_
 obtain ⟨GV,K4,hS⟩:=aK hS
 refine VL.cU (e7 zS K4) rfl (by decide) ?_
 rintro zT rfl
 try dsimp only
 refine Zy ?_
 cases hS
 exact VC.ret (eB (.inr rfl) rfl rfl (zT,⟨sX.b,sX.at_,sX.err⟩,⟨JX.bad⟩) rfl rfl (by (try dsimp only); exact cA.out) (by (try dsimp only); exact dJ.out))
theorem MB (lG:Nat) (cX:Sv aI) (iB:Nat) (cO:Nat) (a_1_:aU) (bW:Nat) (cV:cH) {r:List aI×bL} (hS:Sh.xH cX.l a_1_ cV.pl=some r) :
 Ct Tryz.prog 323 [ptr lG 0,ptr iB 0] (cV.b.ok.and cV.err.ok) (Ow.star (Sv.own cX 274) (Ow.star (bD lG [cX.val] 50) (Ow.star (bD bW [cV.b.val,i64 cV.at_,cV.err.val] 127) (Ow.star (bD cO [ptr bW 0,.bool a_1_.bad] 214) (bD iB [ptr cO 0] 212))))) (X:=Sv aI×cH) (fun x => .tuple #[]) (fun x=>r=(x.1.l,x.2.pl)) (fun x=>(x.2.b.ok.and x.2.err.ok)) (fun x=>Ow.star (bD lG [x.1.val] 50) (Ow.star (Sv.own x.1 274) (Ow.star (bD bW [x.2.b.val,i64 x.2.at_,x.2.err.val] 127) (Ow.star (bD cO [ptr bW 0,.bool a_1_.bad] 214) (bD iB [ptr cO 0] 212))))):=by
 refine Zo Tryz.func323 Tryz.ntmps323 fun c => ?_
 unfold Sh.xH at hS
 refine VC.draw [(0,true),(1,true),(2,true),(3,true),(4,true),(6,true),(7,true),(8,true),(9,true),(11,true),(12,true),(13,true),(14,true),(16,true),(17,true),(18,true),(19,true),(21,true),(22,true),(23,true),(24,true),(26,true),(27,true),(28,true),(29,true),(5,false),(10,false),(15,false),(20,false),(25,false),(30,false),(31,true),(32,false),(33,false),(34,false)] mixed (by kernel_rfl) (by kernel_rfl) (by kernel_rfl) ?_
 refine Zw rfl (aJ nG rfl rfl) ?_
 refine Zw rfl (aJ c7 rfl rfl) ?_
 refine Zw rfl (aD rfl) ?_
 refine Zw rfl (aB cQ rfl) ?_
 refine Zw rfl (aJ c5 rfl rfl) ?_
 refine Zw rfl (aJ c7 rfl rfl) ?_
 refine Zw rfl (aD rfl) ?_
 refine Zw rfl (aB cQ rfl) ?_
 refine Zw rfl (aJ c5 rfl rfl) ?_
 refine Zw rfl (aJ c7 rfl rfl) ?_
 refine Zw rfl (aD rfl) ?_
 refine Zw rfl (aB cQ rfl) ?_
 refine Zw rfl (aJ c5 rfl rfl) ?_
 refine Zw rfl (aJ c7 rfl rfl) ?_
 refine Zw rfl (aD rfl) ?_
 refine Zw rfl (aB cQ rfl) ?_
 refine Zw rfl (aJ c5 rfl rfl) ?_
 refine Zw rfl (aJ c7 rfl rfl) ?_
 refine Zw rfl (aD rfl) ?_
 refine Zw rfl (aB cQ rfl) ?_
 refine Zw rfl (aJ c5 rfl rfl) ?_
 refine Zw rfl (aJ c7 rfl rfl) ?_
 refine Zw rfl (aD rfl) ?_
 refine Zw rfl (aB cQ rfl) ?_
 refine Zw rfl (aJ c5 rfl rfl) ?_
 refine VD.one rfl ?_
 obtain ⟨iD,kL,hS⟩:=aK hS
 refine VL.bS (fQ bW cV kL) rfl (by decide) ?_
 rintro ⟨lZ,BP⟩ rfl
 try dsimp only
 refine VL.back (D':=[(29,ptr bW 0),(28,ptr cO 0),(27,ptr cO 0),(26,ptr cO 0),(24,ptr bW 0),(23,ptr cO 0),(22,ptr cO 0),(21,ptr cO 0),(19,ptr bW 0),(18,ptr cO 0),(17,ptr cO 0),(16,ptr cO 0),(14,ptr bW 0),(13,ptr cO 0),(12,ptr cO 0),(11,ptr cO 0),(9,ptr bW 0),(8,ptr cO 0),(7,ptr cO 0),(6,ptr cO 0),(0,cX.val)]) (by kernel_rfl) (aF.cons rfl (aJ c5 rfl rfl) (aF.cons rfl (aB cQ rfl) (aF.cons rfl (aD rfl) (aF.cons rfl (aJ c7 rfl rfl) (aF.cons rfl (aJ c5 rfl rfl) (aF.cons rfl (aB cQ rfl) (aF.cons rfl (aD rfl) (aF.cons rfl (aJ c7 rfl rfl) (aF.cons rfl (aJ c5 rfl rfl) (aF.cons rfl (aB cQ rfl) (aF.cons rfl (aD rfl) (aF.cons rfl (aJ c7 rfl rfl) (aF.cons rfl (aJ c5 rfl rfl) (aF.cons rfl (aB cQ rfl) (aF.cons rfl (aD rfl) (aF.cons rfl (aJ c7 rfl rfl) (aF.cons rfl (aJ c5 rfl rfl) (aF.cons rfl (aB cQ rfl) (aF.cons rfl (aD rfl) (aF.cons rfl (aJ c7 rfl rfl) (aF.cons rfl (aJ nG rfl rfl) (aF.nil)))))))))))))))))))))) ?_
 refine VD.one rfl ?_
 obtain ⟨fP,BD,hS⟩:=aK hS
 refine VL.bS (dG bW BP BD) rfl (by decide) ?_
 rintro ⟨pS,CQ⟩ rfl
 try dsimp only
 refine VL.back (D':=[(29,ptr bW 0),(28,ptr cO 0),(27,ptr cO 0),(26,ptr cO 0),(24,ptr bW 0),(23,ptr cO 0),(22,ptr cO 0),(21,ptr cO 0),(19,ptr bW 0),(18,ptr cO 0),(17,ptr cO 0),(16,ptr cO 0),(14,ptr bW 0),(13,ptr cO 0),(12,ptr cO 0),(11,ptr cO 0),(0,cX.val)]) (by kernel_rfl) (aF.cons rfl (aJ c5 rfl rfl) (aF.cons rfl (aB cQ rfl) (aF.cons rfl (aD rfl) (aF.cons rfl (aJ c7 rfl rfl) (aF.cons rfl (aJ c5 rfl rfl) (aF.cons rfl (aB cQ rfl) (aF.cons rfl (aD rfl) (aF.cons rfl (aJ c7 rfl rfl) (aF.cons rfl (aJ c5 rfl rfl) (aF.cons rfl (aB cQ rfl) (aF.cons rfl (aD rfl) (aF.cons rfl (aJ c7 rfl rfl) (aF.cons rfl (aJ c5 rfl rfl) (aF.cons rfl (aB cQ rfl) (aF.cons rfl (aD rfl) (aF.cons rfl (aJ c7 rfl rfl) (aF.cons rfl (aJ nG rfl rfl) (aF.nil)))))))))))))))))) ?_
 refine VD.one rfl ?_
 obtain ⟨zI,RG,hS⟩:=aK hS
 refine VL.bS (dG bW CQ RG) rfl (by decide) ?_
 rintro ⟨vC,FN⟩ rfl
 try dsimp only
 refine VL.back (D':=[(29,ptr bW 0),(28,ptr cO 0),(27,ptr cO 0),(26,ptr cO 0),(24,ptr bW 0),(23,ptr cO 0),(22,ptr cO 0),(21,ptr cO 0),(19,ptr bW 0),(18,ptr cO 0),(17,ptr cO 0),(16,ptr cO 0),(0,cX.val)]) (by kernel_rfl) (aF.cons rfl (aJ c5 rfl rfl) (aF.cons rfl (aB cQ rfl) (aF.cons rfl (aD rfl) (aF.cons rfl (aJ c7 rfl rfl) (aF.cons rfl (aJ c5 rfl rfl) (aF.cons rfl (aB cQ rfl) (aF.cons rfl (aD rfl) (aF.cons rfl (aJ c7 rfl rfl) (aF.cons rfl (aJ c5 rfl rfl) (aF.cons rfl (aB cQ rfl) (aF.cons rfl (aD rfl) (aF.cons rfl (aJ c7 rfl rfl) (aF.cons rfl (aJ nG rfl rfl) (aF.nil)))))))))))))) ?_
 refine VD.one rfl ?_
 obtain ⟨aOW,a0N,hS⟩:=aK hS
 refine VL.bS (fQ bW FN a0N) rfl (by decide) ?_
 rintro ⟨aBy,aYG⟩ rfl
 try dsimp only
 refine VL.back (D':=[(29,ptr bW 0),(28,ptr cO 0),(27,ptr cO 0),(26,ptr cO 0),(24,ptr bW 0),(23,ptr cO 0),(22,ptr cO 0),(21,ptr cO 0),(0,cX.val)]) (by kernel_rfl) (aF.cons rfl (aJ c5 rfl rfl) (aF.cons rfl (aB cQ rfl) (aF.cons rfl (aD rfl) (aF.cons rfl (aJ c7 rfl rfl) (aF.cons rfl (aJ c5 rfl rfl) (aF.cons rfl (aB cQ rfl) (aF.cons rfl (aD rfl) (aF.cons rfl (aJ c7 rfl rfl) (aF.cons rfl (aJ nG rfl rfl) (aF.nil)))))))))) ?_
 refine VD.one rfl ?_
 obtain ⟨aO0,a0Z,hS⟩:=aK hS
 refine VL.bS (dG bW aYG a0Z) rfl (by decide) ?_
 rintro ⟨aCA,aYK⟩ rfl
 try dsimp only
 refine VL.back (D':=[(29,ptr bW 0),(28,ptr cO 0),(27,ptr cO 0),(26,ptr cO 0),(0,cX.val)]) (by kernel_rfl) (aF.cons rfl (aJ c5 rfl rfl) (aF.cons rfl (aB cQ rfl) (aF.cons rfl (aD rfl) (aF.cons rfl (aJ c7 rfl rfl) (aF.cons rfl (aJ nG rfl rfl) (aF.nil)))))) ?_
 refine VD.one rfl ?_
 obtain ⟨XW,aJ2,hS⟩:=aK hS
 refine VL.bS (dG bW aYK aJ2) rfl (by decide) ?_
 rintro ⟨L1,aG9⟩ rfl
 try dsimp only
 refine VL.back (D':=[(0,cX.val)]) (by kernel_rfl) (aF.cons rfl (aJ nG rfl rfl) (aF.nil)) ?_
 refine Zw rfl (eN (vs:=[(0,str lZ),(1,i64 pS),(2,i64 vC),(3,str aBy),(4,i64 aCA),(5,i64 L1)]) (cs := #[str lZ,i64 pS,i64 vC,str aBy,i64 aCA,i64 L1]) rfl (by kernel_rfl)) ?_
 refine VD.one rfl ?_
 refine VL.lit (α:=aI) (xs:=[.tmp 33]) (vs:=[.agg #[str lZ,i64 pS,i64 vC,str aBy,i64 aCA,i64 L1]]) [⟨lZ,pS,vC,aBy,aCA,L1⟩] Tryz.underlying50 aFe (by decide) rfl rfl rfl rfl (by decide) (fun _ _ _ _=>trivial) (by decide) (fun a6B a1h => ?_) (by decide)
 replace hS:=bV a1h hS
 refine VL.back (D':=[(0,cX.val)]) (by kernel_rfl) (aF.cons rfl (aJ nG rfl rfl) (aF.nil)) ?_
 refine VD.one rfl ?_
 obtain ⟨b35,hS⟩:=bU hS
 refine VL.app (s:=cX) (r:=a6B) Tryz.underlying50 UX (by decide) rfl Fo.out (sU b35) (sV b35 (by decide)) (by decide) (fun aYe a1i => ?_)
 replace hS:=bV a1i hS
 refine VL.back (D':=[]) (by kernel_rfl) (aF.nil) ?_
 refine VD.one rfl ?_
 refine Zv (cs':=[aYe.val]) rfl aNo ?_
 refine VL.back (D':=[]) (by kernel_rfl) (aF.nil) ?_
 cases hS
 exact VD.nil (q8 (.inl rfl) rfl (aYe,⟨aG9.b,aG9.at_,aG9.err⟩) rfl rfl (by (try dsimp only); exact cA.out) (by (try dsimp only); exact dJ.out))
theorem OH (bG:Nat) (cJ:aU) (aE:Nat) (aT:cH) (cB:Nat) (bF:Sv aI) (cC:Nat) {r:bL×aU×List aI} (hS:Sh.y6 cJ aT.pl bF.l=some r) :
 Ct Tryz.prog 203 [ptr bG 0,.func (.func 323) #[] #[ptr cB 0,ptr cC 0]] (aT.b.ok.and aT.err.ok) (Ow.star (bD aE [aT.b.val,i64 aT.at_,aT.err.val] 127) (Ow.star (bD bG [ptr aE 0,.bool cJ.bad] 214) (Ow.star (Sv.own bF 274) (Ow.star (bD cB [bF.val] 50) (bD cC [ptr bG 0] 212))))) (X:=cH×aU×Sv aI) (fun x => .tuple #[]) (fun x=>r=(x.1.pl,x.2.1,x.2.2.l)) (fun x=>(x.1.b.ok.and x.1.err.ok)) (fun x=>Ow.star (bD aE [x.1.b.val,i64 x.1.at_,x.1.err.val] 127) (Ow.star (bD bG [ptr aE 0,.bool x.2.1.bad] 214) (Ow.star (bD cB [x.2.2.val] 50) (Ow.star (Sv.own x.2.2 274) (bD cC [ptr bG 0] 212))))):=by
 refine Zo Tryz.func203 Tryz.ntmps203 fun c => ?_
 unfold Sh.y6 at hS
 refine Zq (Zr ?_)
 refine Zm ?_
 refine Zu (aD rfl) ?_
 refine Zu (aB cQ rfl) ?_
 refine Zu (aJ c5 rfl rfl) ?_
 obtain ⟨c9,nF,hS⟩:=aK hS
 refine VL.bS (dG aE aT nF) rfl (by decide) ?_
 rintro ⟨fU,eM⟩ rfl
 try dsimp only
 refine Zy ?_
 refine VC.gK (S:=Bool) (fun (eX:Bool)=>eX) (fun (eX:Bool)=>[(0,ptr bG 0),(1,.func (.func 323) #[] #[ptr cB 0,ptr cC 0]),(4,i64 fU)]) (fun (eX:Bool)=>Mo.tt) (fun (eX:Bool)=>Ow.star (bD aE [eM.b.val,i64 eM.at_,eM.err.val] 127) (Ow.star (bD bG [ptr aE 0,.bool eX] 214) (Ow.star (bD cB [bF.val] 50) (Ow.star (bD cC [ptr bG 0] 212) (Ow.star (Sv.own bF 274) (Ow.emp)))))) hS ?_ ?_
 ·
  clear hS
  intro k3 hS
  refine Zr ?_
  refine Zy ?_
  refine Zu (aD rfl) ?_
  refine Zu (aB jX rfl) ?_
  refine Zu (aJ o9 rfl rfl) ?_
  refine Zm ?_
  refine vV 16 hS (fun h16 hS => ?_) (fun h16 hS => ?_)
  ·
   refine VL.runs 3 [(19,some true)] (by kernel_rfl) ?_
   refine Zu (aD rfl) ?_
   refine Zu (aB jX rfl) ?_
   refine Zv (cs':=[ptr aE 0,.bool true]) rfl rJ ?_
   refine VL.mt true [0,1,4] (fun _ _ h=>h) hS rfl
  refine Zg ?_
  refine Zh (c4 rfl rfl) ?_
  refine Zf ?_
  refine Zu (aD rfl) ?_
  refine Zu (aB jX rfl) ?_
  refine Zv (cs':=[ptr aE 0,.bool (decide (fU < 0))]) rfl rJ ?_
  refine VL.mt (decide (fU < 0)) [0,1,4] (fun _ _ h=>h) hS rfl
 clear hS
 rintro eX hS
 refine Zq (Zr ?_)
 refine Zy ?_
 refine Zb ?_
 refine VC.iter (S:=Int×Sv UInt8×Int×Er×Sv aI) (fun sg=>(sg.1,sg.2.1.l,sg.2.2.1,sg.2.2.2.1.pl,sg.2.2.2.2.l)) (fun sg=>[(0,ptr bG 0),(1,.func (.func 323) #[] #[ptr cB 0,ptr cC 0]),(4,i64 fU),(5,i64 sg.1)]) (fun sg=>(sg.2.1.ok.and sg.2.2.2.1.ok)) (fun sg=>Ow.star (bD aE [sg.2.1.val,i64 sg.2.2.1,sg.2.2.2.1.val] 127) (Ow.star (bD bG [ptr aE 0,.bool eX] 214) (Ow.star (bD cB [sg.2.2.2.2.val] 50) (Ow.star (bD cC [ptr bG 0] 212) (Ow.star (Sv.own sg.2.2.2.2 274) (Ow.emp)))))) (0,eM.b,eM.at_,eM.err,bF) [0,1,4,5] hS rfl ?_
 clear hS
 rintro ⟨jR,fA,gQ,gR,dM⟩ m1 y1 hS hK1
 refine Zq (Zq (Zr ?_))
 refine Zy ?_
 refine Zu (c4 rfl rfl) ?_
 refine Zm ?_
 refine pL 25 hS (fun h25 hS => ?_) (fun h25 hS => ?_)
 ·
  refine Zg ?_
  refine Zh (aD rfl) ?_
  refine Zh (aB cQ rfl) ?_
  refine Zh (aJ c5 rfl rfl) ?_
  refine VL.guard rfl rfl ?_
  obtain ⟨s5,xY,hS⟩:=aK hS
  refine VL.bS (jF aE (⟨fA,gQ,gR⟩:cH) xY) rfl (by decide) ?_
  rintro nO rfl
  try dsimp only
  refine Zh (FU Tryz.underlying26 rfl) ?_
  refine Zy ?_
  refine VC.keep (ρ':=[(0,ptr bG 0),(1,.func (.func 323) #[] #[ptr cB 0,ptr cC 0]),(4,i64 fU),(5,i64 jR),(32,.bool (decide (nO.pl.isNil=true)))]) [0,1,4,5,32] rfl ?_
  refine Zc hS (fun h32 hS => ?_) (fun h32 hS => ?_)
  ·
   refine Zk ?_
   refine Zq (Zb (Zr ?_))
   refine Zm ?_
   obtain ⟨mN,EZ,hS⟩:=aK hS
   refine VL.MR (vs:=[]) (caps:=[ptr cB 0,ptr cC 0]) (MB cB dM cC bG (⟨eX⟩:aU) aE (⟨fA,gQ,gR⟩:cH) EZ) rfl rfl (by decide) ?_
   rintro ⟨BO,nJ⟩ rfl
   try dsimp only
   refine Zl ?_
   refine Zr ?_
   refine Zm ?_
   obtain ⟨b34,hS⟩:=bU hS
   refine Zu (cR rfl rfl b34) ?_
   refine Za ?_
   refine VL.iP ((jR+1),nJ.b,nJ.at_,nJ.err,BO) [0,1,4,5] (fun _ _ h=>h) (go2 hS hK1) rfl
  replace hS:=gA hS hK1
  cases hS
  exact VC.exit (q8 (.inl rfl) rfl (⟨fA,gQ,gR⟩,⟨eX⟩,dM) rfl rfl (by (try dsimp only); exact cA.out) (by (try dsimp only); exact dJ.out))
 refine VL.runs 7 [(32,some false)] (by kernel_rfl) ?_
 refine Zl ?_
 refine VC.BB rfl ?_
 replace hS:=gA hS hK1
 cases hS
 exact VC.exit (q8 (.inl rfl) rfl (⟨fA,gQ,gR⟩,⟨eX⟩,dM) rfl rfl (by (try dsimp only); exact cA.out) (by (try dsimp only); exact dJ.out))
theorem gI (aA:Sv aI) {r:List aI} (hS:Sh.fJ aA.l=some r) :
 Ct Tryz.prog 217 [aA.val] aA.ok (Ow.emp) (X:=Sv aI) (fun x=>x.val) (fun x=>r=x.l) (fun x=>x.ok) (fun x=>Ow.emp):=by
 refine Zo Tryz.func217 Tryz.ntmps217 fun c => ?_
 unfold Sh.fJ at hS
 refine Zq (Zr ?_)
 refine Zy ?_
 refine Zq (Zr ?_)
 refine Zy ?_
 refine Zu (dX (s:=aA) Tryz.underlying50 rfl) ?_
 refine Zm ?_
 refine Zu (dX (s:=aA) Tryz.underlying50 rfl) ?_
 obtain ⟨b8,hS⟩:=bU hS
 refine VL.WX Tryz.underlying50 iN rfl rfl rfl b8.1 (b8.2) (by decide) fun CX vL => ?_
 replace hS:=bV vL hS
 refine Zy ?_
 cases hS
 exact VC.ret (eB (.inr rfl) rfl rfl CX rfl rfl (by (try dsimp only); exact cA.out) (fun _ _=>trivial))
theorem rC (bG:Nat) (cJ:aU) (aE:Nat) (aT:cH) {r:List aI×bL×aU} (hS:Sh.uE cJ aT.pl=some r) :
 Ct Tryz.prog 274 [ptr bG 0] (aT.b.ok.and aT.err.ok) (Ow.star (bD aE [aT.b.val,i64 aT.at_,aT.err.val] 127) (bD bG [ptr aE 0,.bool cJ.bad] 214)) (X:=Sv aI×cH×aU) (fun x=>x.1.val) (fun x=>r=(x.1.l,x.2.1.pl,x.2.2)) (fun x=>(x.1.ok.and (x.2.1.b.ok.and x.2.1.err.ok))) (fun x=>Ow.star (bD aE [x.2.1.b.val,i64 x.2.1.at_,x.2.1.err.val] 127) (bD bG [ptr aE 0,.bool x.2.2.bad] 214)):=by
 refine Zo Tryz.func274 Tryz.ntmps274 fun c => ?_
 unfold Sh.uE at hS
 refine Zq (Zr ?_)
 refine VL.box (cs:=[ptr bG 0]) rfl rfl (by decide) fun fE => ?_
 refine Zy ?_
 refine Zq (Zr ?_)
 refine VL.alloc (cs:=[.slice none 0 0]) (by kernel_rfl) (by decide) fun jQ => ?_
 refine Zl ?_
 refine Zq (Zr ?_)
 refine Zu (aJ c7 rfl rfl) ?_
 refine Zu (sE rfl) ?_
 refine VL.kH (⟨none,0,[]⟩:Sv aI) 274 ⟨rfl,rfl⟩ ?_
 refine VL.SD jQ (cs':=[(⟨none,0,[]⟩:Sv aI).val]) rfl ?_
 obtain ⟨mT,K3,hS⟩:=aK hS
 refine VL.bS (OH bG cJ aE aT jQ (⟨none,0,[]⟩:Sv aI) fE K3) rfl (by decide) ?_
 rintro ⟨sX,JX,zS⟩ rfl
 try dsimp only
 refine Zl ?_
 refine Zq (Zr ?_)
 refine Zu (aJ nG rfl rfl) ?_
 refine VL.shut zS 274 (fun _ _ _ _=>trivial) ?_
 obtain ⟨GV,K4,hS⟩:=aK hS
 refine VL.cU (gI zS K4) rfl (by decide) ?_
 rintro zT rfl
 try dsimp only
 refine Zy ?_
 cases hS
 exact VC.ret (eB (.inr rfl) rfl rfl (zT,⟨sX.b,sX.at_,sX.err⟩,⟨JX.bad⟩) rfl rfl (by (try dsimp only); exact cA.out) (by (try dsimp only); exact dJ.out))
theorem SR (lG:Nat) (cX:jV) (iB:Nat) (cO:Nat) (a_1_:aU) (bW:Nat) (cV:cH) {r:mF×bL} (hS:Sh.B6 cX.pl a_1_ cV.pl=some r) :
 Ct Tryz.prog 275 [ptr lG 0,ptr iB 0] (cX.work.ok.and (cX.index.ok.and (cX.gO.ok.and (cX.iE.ok.and (cX.gP.ok.and (cX.iF.ok.and ((xW cX.fK.l).and (cV.b.ok.and cV.err.ok)))))))) (Ow.star (Sv.own cX.refs 241) (Ow.star (Sv.own cX.fK 245) (Ow.star (bD lG (mK cX) 60) (Ow.star (bD bW [cV.b.val,i64 cV.at_,cV.err.val] 127) (Ow.star (bD cO [ptr bW 0,.bool a_1_.bad] 214) (bD iB [ptr cO 0] 212)))))) (X:=jV×cH) (fun x => .tuple #[]) (fun x=>r=(x.1.pl,x.2.pl)) (fun x=>(x.1.work.ok.and (x.1.index.ok.and (x.1.gO.ok.and (x.1.iE.ok.and (x.1.gP.ok.and (x.1.iF.ok.and ((xW x.1.fK.l).and (x.2.b.ok.and x.2.err.ok))))))))) (fun x=>Ow.star (bD lG (mK x.1) 60) (Ow.star (Sv.own x.1.refs 241) (Ow.star (Sv.own x.1.fK 245) (Ow.star (bD bW [x.2.b.val,i64 x.2.at_,x.2.err.val] 127) (Ow.star (bD cO [ptr bW 0,.bool a_1_.bad] 214) (bD iB [ptr cO 0] 212)))))):=by
 refine Zo Tryz.func275 Tryz.ntmps275 fun c => ?_
 unfold Sh.B6 at hS
 refine VC.draw [(0,true),(1,true),(2,true),(3,true),(4,true),(5,true),(7,true),(8,true),(9,true),(10,true),(6,false),(11,false),(12,true),(13,false),(14,false),(15,true),(16,false)] mixed (by kernel_rfl) (by kernel_rfl) (by kernel_rfl) ?_
 refine Zw rfl (aB kZ rfl) ?_
 refine Zw rfl (aJ u6 rfl rfl) ?_
 refine Zw rfl (aJ c7 rfl rfl) ?_
 refine Zw rfl (aD rfl) ?_
 refine Zw rfl (aB cQ rfl) ?_
 refine Zw rfl (aJ c5 rfl rfl) ?_
 refine Zw rfl (aJ c7 rfl rfl) ?_
 refine Zw rfl (aD rfl) ?_
 refine Zw rfl (aB cQ rfl) ?_
 refine Zw rfl (aJ c5 rfl rfl) ?_
 refine VD.one rfl ?_
 obtain ⟨sS,DH,hS⟩:=aK hS
 refine VL.bS (fQ bW cV DH) rfl (by decide) ?_
 rintro ⟨JY,FR⟩ rfl
 try dsimp only
 refine VL.back (D':=[(10,ptr bW 0),(9,ptr cO 0),(8,ptr cO 0),(7,ptr cO 0),(1,cX.refs.val),(0,ptr lG 2)]) (by kernel_rfl) (aF.cons rfl (aJ c5 rfl rfl) (aF.cons rfl (aB cQ rfl) (aF.cons rfl (aD rfl) (aF.cons rfl (aJ c7 rfl rfl) (aF.cons rfl (aJ u6 rfl rfl) (aF.cons rfl (aB kZ rfl) (aF.nil))))))) ?_
 refine VD.one rfl ?_
 obtain ⟨pG,aBC,hS⟩:=aK hS
 refine VL.bS (dG bW FR aBC) rfl (by decide) ?_
 rintro ⟨aBs,aGW⟩ rfl
 try dsimp only
 refine VL.back (D':=[(1,cX.refs.val),(0,ptr lG 2)]) (by kernel_rfl) (aF.cons rfl (aJ u6 rfl rfl) (aF.cons rfl (aB kZ rfl) (aF.nil))) ?_
 refine Zw rfl (eN (vs:=[(0,str JY),(1,i64 aBs)]) (cs := #[str JY,i64 aBs]) rfl (by kernel_rfl)) ?_
 refine VD.one rfl ?_
 refine VL.lit (α:=eV) (xs:=[.tmp 14]) (vs:=[.agg #[str JY,i64 aBs]]) [⟨JY,aBs⟩] Tryz.underlying51 aL3 (by decide) rfl rfl rfl rfl (by decide) (fun _ _ _ _=>trivial) (by decide) (fun a5j a1Q => ?_) (by decide)
 replace hS:=bV a1Q hS
 refine VL.back (D':=[(1,cX.refs.val),(0,ptr lG 2)]) (by kernel_rfl) (aF.cons rfl (aJ u6 rfl rfl) (aF.cons rfl (aB kZ rfl) (aF.nil))) ?_
 refine VD.one rfl ?_
 obtain ⟨b16,hS⟩:=bU hS
 refine VL.app (s:=cX.refs) (r:=a5j) Tryz.underlying51 aBS (by decide) rfl Fo.out (sU b16) (sV b16 (by decide)) (by decide) (fun aDd aB0 => ?_)
 replace hS:=bV aB0 hS
 refine VL.back (D':=[]) (by kernel_rfl) (aF.nil) ?_
 refine Zw rfl (aB kZ rfl) ?_
 refine VD.one rfl ?_
 refine Zv (cs':=[cX.work.val,cX.index.val,aDd.val,str cX.dA,i64 cX.dB,str cX.l9,i64 cX.j9,str cX.mB,cX.gO.val,cX.iE.val,i64 cX.mA,str cX.jC,str cX.fG,i64 cX.fH,cX.gP.val,cX.iF.val,cX.fK.val]) rfl aCy ?_
 refine VL.back (D':=[]) (by kernel_rfl) (aF.nil) ?_
 cases hS
 exact VD.nil (q8 (.inl rfl) rfl (⟨cX.work,cX.index,aDd,cX.dA,cX.dB,cX.l9,cX.j9,cX.mB,cX.gO,cX.iE,cX.mA,cX.jC,cX.fG,cX.fH,cX.gP,cX.iF,cX.fK⟩,⟨aGW.b,aGW.at_,aGW.err⟩) rfl rfl (by (try dsimp only); exact cA.out) (by (try dsimp only); exact dJ.out))
theorem vQ (bG:Nat) (cJ:aU) (aE:Nat) (aT:cH) (cB:Nat) (bF:jV) (cC:Nat) {r:bL×aU×mF} (hS:Sh.y7 cJ aT.pl bF.pl=some r) :
 Ct Tryz.prog 203 [ptr bG 0,.func (.func 275) #[] #[ptr cB 0,ptr cC 0]] (aT.b.ok.and (aT.err.ok.and (bF.work.ok.and (bF.index.ok.and (bF.gO.ok.and (bF.iE.ok.and (bF.gP.ok.and (bF.iF.ok.and (xW bF.fK.l))))))))) (Ow.star (bD aE [aT.b.val,i64 aT.at_,aT.err.val] 127) (Ow.star (bD bG [ptr aE 0,.bool cJ.bad] 214) (Ow.star (Sv.own bF.refs 241) (Ow.star (Sv.own bF.fK 245) (Ow.star (bD cB (mK bF) 60) (bD cC [ptr bG 0] 212)))))) (X:=cH×aU×jV) (fun x => .tuple #[]) (fun x=>r=(x.1.pl,x.2.1,x.2.2.pl)) (fun x=>(x.1.b.ok.and (x.1.err.ok.and (x.2.2.work.ok.and (x.2.2.index.ok.and (x.2.2.gO.ok.and (x.2.2.iE.ok.and (x.2.2.gP.ok.and (x.2.2.iF.ok.and (xW x.2.2.fK.l)))))))))) (fun x=>Ow.star (bD aE [x.1.b.val,i64 x.1.at_,x.1.err.val] 127) (Ow.star (bD bG [ptr aE 0,.bool x.2.1.bad] 214) (Ow.star (bD cB (mK x.2.2) 60) (Ow.star (Sv.own x.2.2.refs 241) (Ow.star (Sv.own x.2.2.fK 245) (bD cC [ptr bG 0] 212)))))):=by
 refine Zo Tryz.func203 Tryz.ntmps203 fun c => ?_
 unfold Sh.y7 at hS
 refine Zq (Zr ?_)
 refine Zm ?_
 refine Zu (aD rfl) ?_
 refine Zu (aB cQ rfl) ?_
 refine Zu (aJ c5 rfl rfl) ?_
 obtain ⟨c9,nF,hS⟩:=aK hS
 refine VL.bS (dG aE aT nF) rfl (by decide) ?_
 rintro ⟨fU,eM⟩ rfl
 try dsimp only
 refine Zy ?_
 refine VC.gK (S:=Bool) (fun (eX:Bool)=>eX) (fun (eX:Bool)=>[(0,ptr bG 0),(1,.func (.func 275) #[] #[ptr cB 0,ptr cC 0]),(4,i64 fU)]) (fun (eX:Bool)=>Mo.tt) (fun (eX:Bool)=>Ow.star (bD aE [eM.b.val,i64 eM.at_,eM.err.val] 127) (Ow.star (bD bG [ptr aE 0,.bool eX] 214) (Ow.star (bD cB (mK bF) 60) (Ow.star (bD cC [ptr bG 0] 212) (Ow.star (Sv.own bF.refs 241) (Ow.star (Sv.own bF.fK 245) (Ow.emp))))))) hS ?_ ?_
 ·
  clear hS
  intro k3 hS
  refine Zr ?_
  refine Zy ?_
  refine Zu (aD rfl) ?_
  refine Zu (aB jX rfl) ?_
  refine Zu (aJ o9 rfl rfl) ?_
  refine Zm ?_
  refine vV 16 hS (fun h16 hS => ?_) (fun h16 hS => ?_)
  ·
   refine VL.runs 3 [(19,some true)] (by kernel_rfl) ?_
   refine Zu (aD rfl) ?_
   refine Zu (aB jX rfl) ?_
   refine Zv (cs':=[ptr aE 0,.bool true]) rfl rJ ?_
   refine VL.mt true [0,1,4] (fun _ _ h=>h) hS rfl
  refine Zg ?_
  refine Zh (c4 rfl rfl) ?_
  refine Zf ?_
  refine Zu (aD rfl) ?_
  refine Zu (aB jX rfl) ?_
  refine Zv (cs':=[ptr aE 0,.bool (decide (fU < 0))]) rfl rJ ?_
  refine VL.mt (decide (fU < 0)) [0,1,4] (fun _ _ h=>h) hS rfl
 clear hS
 rintro eX hS
 refine Zq (Zr ?_)
 refine Zy ?_
 refine Zb ?_
 refine VC.iter (S:=Int×Sv UInt8×Int×Er×Sv aC×Sv aI×Sv eV×bB×Int×bB×Int×bB×Sv cZ×Sv cZ×Int×bB×bB×Int×Sv aI×Sv aC×Sv dZ) (fun sg=>(sg.1,sg.2.1.l,sg.2.2.1,sg.2.2.2.1.pl,sg.2.2.2.2.1.l,sg.2.2.2.2.2.1.l,sg.2.2.2.2.2.2.1.l,sg.2.2.2.2.2.2.2.1,sg.2.2.2.2.2.2.2.2.1,sg.2.2.2.2.2.2.2.2.2.1,sg.2.2.2.2.2.2.2.2.2.2.1,sg.2.2.2.2.2.2.2.2.2.2.2.1,sg.2.2.2.2.2.2.2.2.2.2.2.2.1.l,sg.2.2.2.2.2.2.2.2.2.2.2.2.2.1.l,sg.2.2.2.2.2.2.2.2.2.2.2.2.2.2.1,sg.2.2.2.2.2.2.2.2.2.2.2.2.2.2.2.1,sg.2.2.2.2.2.2.2.2.2.2.2.2.2.2.2.2.1,sg.2.2.2.2.2.2.2.2.2.2.2.2.2.2.2.2.2.1,sg.2.2.2.2.2.2.2.2.2.2.2.2.2.2.2.2.2.2.1.l,sg.2.2.2.2.2.2.2.2.2.2.2.2.2.2.2.2.2.2.2.1.l,(sg.2.2.2.2.2.2.2.2.2.2.2.2.2.2.2.2.2.2.2.2.l.map dZ.pl))) (fun sg=>[(0,ptr bG 0),(1,.func (.func 275) #[] #[ptr cB 0,ptr cC 0]),(4,i64 fU),(5,i64 sg.1)]) (fun sg=>(sg.2.1.ok.and (sg.2.2.2.1.ok.and (sg.2.2.2.2.1.ok.and (sg.2.2.2.2.2.1.ok.and (sg.2.2.2.2.2.2.2.2.2.2.2.2.1.ok.and (sg.2.2.2.2.2.2.2.2.2.2.2.2.2.1.ok.and (sg.2.2.2.2.2.2.2.2.2.2.2.2.2.2.2.2.2.2.1.ok.and (sg.2.2.2.2.2.2.2.2.2.2.2.2.2.2.2.2.2.2.2.1.ok.and (xW sg.2.2.2.2.2.2.2.2.2.2.2.2.2.2.2.2.2.2.2.2.l)))))))))) (fun sg=>Ow.star (bD aE [sg.2.1.val,i64 sg.2.2.1,sg.2.2.2.1.val] 127) (Ow.star (bD bG [ptr aE 0,.bool eX] 214) (Ow.star (bD cB [sg.2.2.2.2.1.val,sg.2.2.2.2.2.1.val,sg.2.2.2.2.2.2.1.val,str sg.2.2.2.2.2.2.2.1,i64 sg.2.2.2.2.2.2.2.2.1,str sg.2.2.2.2.2.2.2.2.2.1,i64 sg.2.2.2.2.2.2.2.2.2.2.1,str sg.2.2.2.2.2.2.2.2.2.2.2.1,sg.2.2.2.2.2.2.2.2.2.2.2.2.1.val,sg.2.2.2.2.2.2.2.2.2.2.2.2.2.1.val,i64 sg.2.2.2.2.2.2.2.2.2.2.2.2.2.2.1,str sg.2.2.2.2.2.2.2.2.2.2.2.2.2.2.2.1,str sg.2.2.2.2.2.2.2.2.2.2.2.2.2.2.2.2.1,i64 sg.2.2.2.2.2.2.2.2.2.2.2.2.2.2.2.2.2.1,sg.2.2.2.2.2.2.2.2.2.2.2.2.2.2.2.2.2.2.1.val,sg.2.2.2.2.2.2.2.2.2.2.2.2.2.2.2.2.2.2.2.1.val,sg.2.2.2.2.2.2.2.2.2.2.2.2.2.2.2.2.2.2.2.2.val] 60) (Ow.star (bD cC [ptr bG 0] 212) (Ow.star (Sv.own sg.2.2.2.2.2.2.1 241) (Ow.star (Sv.own sg.2.2.2.2.2.2.2.2.2.2.2.2.2.2.2.2.2.2.2.2 245) (Ow.emp))))))) (0,eM.b,eM.at_,eM.err,bF.work,bF.index,bF.refs,bF.dA,bF.dB,bF.l9,bF.j9,bF.mB,bF.gO,bF.iE,bF.mA,bF.jC,bF.fG,bF.fH,bF.gP,bF.iF,bF.fK) [0,1,4,5] hS rfl ?_
 clear hS
 rintro ⟨jR,fA,gQ,gR,dM,ES,GX,ZW,ZY,Z0,Z2,Z4,Z6,Z8,QO,QT,QV,QX,QZ,Q2,Q4⟩ m1 y1 hS hK1
 refine Zq (Zq (Zr ?_))
 refine Zy ?_
 refine Zu (c4 rfl rfl) ?_
 refine Zm ?_
 refine pL 25 hS (fun h25 hS => ?_) (fun h25 hS => ?_)
 ·
  refine Zg ?_
  refine Zh (aD rfl) ?_
  refine Zh (aB cQ rfl) ?_
  refine Zh (aJ c5 rfl rfl) ?_
  refine VL.guard rfl rfl ?_
  obtain ⟨aRD,aU3,hS⟩:=aK hS
  refine VL.bS (jF aE (⟨fA,gQ,gR⟩:cH) aU3) rfl (by decide) ?_
  rintro aTA rfl
  try dsimp only
  refine Zh (FU Tryz.underlying26 rfl) ?_
  refine Zy ?_
  refine VC.keep (ρ':=[(0,ptr bG 0),(1,.func (.func 275) #[] #[ptr cB 0,ptr cC 0]),(4,i64 fU),(5,i64 jR),(32,.bool (decide (aTA.pl.isNil=true)))]) [0,1,4,5,32] rfl ?_
  refine Zc hS (fun h32 hS => ?_) (fun h32 hS => ?_)
  ·
   refine Zk ?_
   refine Zq (Zb (Zr ?_))
   refine Zm ?_
   obtain ⟨rD,aUe,hS⟩:=aK hS
   refine VL.MR (vs:=[]) (caps:=[ptr cB 0,ptr cC 0]) (SR cB (⟨dM,ES,GX,ZW,ZY,Z0,Z2,Z4,Z6,Z8,QO,QT,QV,QX,QZ,Q2,Q4⟩:jV) cC bG (⟨eX⟩:aU) aE (⟨fA,gQ,gR⟩:cH) aUe) rfl rfl (by decide) ?_
   rintro ⟨oW,aDT⟩ rfl
   try dsimp only
   refine Zl ?_
   refine Zr ?_
   refine Zm ?_
   obtain ⟨b34,hS⟩:=bU hS
   refine Zu (cR rfl rfl b34) ?_
   refine Za ?_
   refine VL.iP ((jR+1),aDT.b,aDT.at_,aDT.err,oW.work,oW.index,oW.refs,oW.dA,oW.dB,oW.l9,oW.j9,oW.mB,oW.gO,oW.iE,oW.mA,oW.jC,oW.fG,oW.fH,oW.gP,oW.iF,oW.fK) [0,1,4,5] (fun _ _ h=>h) (go2 hS hK1) rfl
  replace hS:=gA hS hK1
  cases hS
  exact VC.exit (q8 (.inl rfl) rfl (⟨fA,gQ,gR⟩,⟨eX⟩,⟨dM,ES,GX,ZW,ZY,Z0,Z2,Z4,Z6,Z8,QO,QT,QV,QX,QZ,Q2,Q4⟩) rfl rfl (by (try dsimp only); exact cA.out) (by (try dsimp only); exact dJ.out))
 refine VL.runs 7 [(32,some false)] (by kernel_rfl) ?_
 refine Zl ?_
 refine VC.BB rfl ?_
 replace hS:=gA hS hK1
 cases hS
 exact VC.exit (q8 (.inl rfl) rfl (⟨fA,gQ,gR⟩,⟨eX⟩,⟨dM,ES,GX,ZW,ZY,Z0,Z2,Z4,Z6,Z8,QO,QT,QV,QX,QZ,Q2,Q4⟩) rfl rfl (by (try dsimp only); exact cA.out) (by (try dsimp only); exact dJ.out))
theorem uF (bG:Nat) (cJ:aU) (aE:Nat) (aT:cH) {r:pJ×bL} (hS:Sh.yB cJ aT.pl=some r) :
 Ct Tryz.prog 276 [ptr bG 0] (aT.b.ok.and aT.err.ok) (Ow.star (bD aE [aT.b.val,i64 aT.at_,aT.err.val] 127) (bD bG [ptr aE 0,.bool cJ.bad] 214)) (X:=pJ×cH) (fun x => .agg #[str x.1.branch,i64 x.1.dO]) (fun x=>r=(x.1,x.2.pl)) (fun x=>(x.2.b.ok.and x.2.err.ok)) (fun x=>Ow.star (bD aE [x.2.b.val,i64 x.2.at_,x.2.err.val] 127) (bD bG [ptr aE 0,.bool cJ.bad] 214)):=by
 refine Zo Tryz.func276 Tryz.ntmps276 fun c => ?_
 unfold Sh.yB at hS
 refine Zq (Zr ?_)
 refine VL.alloc (cs:=[str [],i64 0]) (by kernel_rfl) (by decide) fun dQ => ?_
 refine Zl ?_
 refine Zq ?_
 refine VC.draw [(0,true),(1,true),(2,true),(3,true),(5,true),(6,true),(7,true),(8,true),(4,false),(9,false),(10,true),(11,false)] mixed (by kernel_rfl) (by kernel_rfl) (by kernel_rfl) ?_
 refine Zw rfl (bA rfl) ?_
 refine Zw rfl (aD rfl) ?_
 refine Zw rfl (aB cQ rfl) ?_
 refine Zw rfl (aJ c5 rfl rfl) ?_
 refine Zw rfl (bA rfl) ?_
 refine Zw rfl (aD rfl) ?_
 refine Zw rfl (aB cQ rfl) ?_
 refine Zw rfl (aJ c5 rfl rfl) ?_
 refine VD.one rfl ?_
 obtain ⟨xO,DG,hS⟩:=aK hS
 refine VL.bS (fQ aE aT DG) rfl (by decide) ?_
 rintro ⟨qN,aCE⟩ rfl
 try dsimp only
 refine VL.back (D':=[(8,ptr aE 0),(7,ptr bG 0),(6,ptr bG 0)]) (by kernel_rfl) (aF.cons rfl (aJ c5 rfl rfl) (aF.cons rfl (aB cQ rfl) (aF.cons rfl (aD rfl) (aF.nil)))) ?_
 refine VD.one rfl ?_
 obtain ⟨lY,uZ,hS⟩:=aK hS
 refine VL.bS (dG aE aCE uZ) rfl (by decide) ?_
 rintro ⟨gT,LQ⟩ rfl
 try dsimp only
 refine VL.back (D':=[]) (by kernel_rfl) (aF.nil) ?_
 refine Zw rfl (eN (vs:=[(0,str qN),(1,i64 gT)]) (cs := #[str qN,i64 gT]) rfl (by kernel_rfl)) ?_
 refine VD.one rfl ?_
 refine Zv (cs':=[str qN,i64 gT]) rfl aAM ?_
 refine VL.back (D':=[]) (by kernel_rfl) (aF.nil) ?_
 refine VD.to (fun _ _ h=>h) ?_
 refine VC.keep (ρ':=[(2,ptr dQ 0)]) [2] rfl ?_
 cases hS
 exact VC.ret (hG (vs:=[.agg #[str qN,i64 gT]]) (.inr rfl) rfl (dS.cell aBR rfl rfl Rd.blk (dS.nil)) (⟨qN,gT⟩,⟨LQ.b,LQ.at_,LQ.err⟩) rfl rfl (by (try dsimp only); exact cA.out) (by (try dsimp only); exact dJ.out))
theorem OO (lG:Nat) (cX:Sv cZ) (iB:Nat) (cO:Nat) (a_1_:aU) (bW:Nat) (cV:cH) {r:List cZ×bL} (hS:Sh.zF cX.l a_1_ cV.pl=some r) :
 Ct Tryz.prog 354 [ptr lG 0,ptr iB 0] (cV.b.ok.and cV.err.ok) (Ow.star (Sv.own cX 173) (Ow.star (bD lG [cX.val] 54) (Ow.star (bD bW [cV.b.val,i64 cV.at_,cV.err.val] 127) (Ow.star (bD cO [ptr bW 0,.bool a_1_.bad] 214) (bD iB [ptr cO 0] 212))))) (X:=Sv cZ×cH) (fun x => .tuple #[]) (fun x=>r=(x.1.l,x.2.pl)) (fun x=>(x.2.b.ok.and x.2.err.ok)) (fun x=>Ow.star (bD lG [x.1.val] 54) (Ow.star (Sv.own x.1 173) (Ow.star (bD bW [x.2.b.val,i64 x.2.at_,x.2.err.val] 127) (Ow.star (bD cO [ptr bW 0,.bool a_1_.bad] 214) (bD iB [ptr cO 0] 212))))):=by
 refine Zo Tryz.func354 Tryz.ntmps354 fun c => ?_
 unfold Sh.zF at hS
 refine VC.draw [(0,true),(1,true),(2,true),(3,true),(4,true),(6,true),(7,true),(8,true),(9,true),(11,true),(12,true),(13,true),(14,true),(5,false),(10,false),(15,false),(16,true),(17,false),(18,false),(19,false)] mixed (by kernel_rfl) (by kernel_rfl) (by kernel_rfl) ?_
 refine Zw rfl (aJ JQ rfl rfl) ?_
 refine Zw rfl (aJ c7 rfl rfl) ?_
 refine Zw rfl (aD rfl) ?_
 refine Zw rfl (aB cQ rfl) ?_
 refine Zw rfl (aJ c5 rfl rfl) ?_
 refine Zw rfl (aJ c7 rfl rfl) ?_
 refine Zw rfl (aD rfl) ?_
 refine Zw rfl (aB cQ rfl) ?_
 refine Zw rfl (aJ c5 rfl rfl) ?_
 refine Zw rfl (aJ c7 rfl rfl) ?_
 refine Zw rfl (aD rfl) ?_
 refine Zw rfl (aB cQ rfl) ?_
 refine Zw rfl (aJ c5 rfl rfl) ?_
 refine VD.one rfl ?_
 obtain ⟨iD,kL,hS⟩:=aK hS
 refine VL.bS (fQ bW cV kL) rfl (by decide) ?_
 rintro ⟨lZ,BP⟩ rfl
 try dsimp only
 refine VL.back (D':=[(14,ptr bW 0),(13,ptr cO 0),(12,ptr cO 0),(11,ptr cO 0),(9,ptr bW 0),(8,ptr cO 0),(7,ptr cO 0),(6,ptr cO 0),(0,cX.val)]) (by kernel_rfl) (aF.cons rfl (aJ c5 rfl rfl) (aF.cons rfl (aB cQ rfl) (aF.cons rfl (aD rfl) (aF.cons rfl (aJ c7 rfl rfl) (aF.cons rfl (aJ c5 rfl rfl) (aF.cons rfl (aB cQ rfl) (aF.cons rfl (aD rfl) (aF.cons rfl (aJ c7 rfl rfl) (aF.cons rfl (aJ JQ rfl rfl) (aF.nil)))))))))) ?_
 refine VD.one rfl ?_
 obtain ⟨fP,BD,hS⟩:=aK hS
 refine VL.bS (dG bW BP BD) rfl (by decide) ?_
 rintro ⟨pS,CQ⟩ rfl
 try dsimp only
 refine VL.back (D':=[(14,ptr bW 0),(13,ptr cO 0),(12,ptr cO 0),(11,ptr cO 0),(0,cX.val)]) (by kernel_rfl) (aF.cons rfl (aJ c5 rfl rfl) (aF.cons rfl (aB cQ rfl) (aF.cons rfl (aD rfl) (aF.cons rfl (aJ c7 rfl rfl) (aF.cons rfl (aJ JQ rfl rfl) (aF.nil)))))) ?_
 refine VD.one rfl ?_
 obtain ⟨zI,RG,hS⟩:=aK hS
 refine VL.bS (fQ bW CQ RG) rfl (by decide) ?_
 rintro ⟨vC,FN⟩ rfl
 try dsimp only
 refine VL.back (D':=[(0,cX.val)]) (by kernel_rfl) (aF.cons rfl (aJ JQ rfl rfl) (aF.nil)) ?_
 refine Zw rfl (eN (vs:=[(0,str lZ),(1,i64 pS),(2,str vC)]) (cs := #[str lZ,i64 pS,str vC]) rfl (by kernel_rfl)) ?_
 refine VD.one rfl ?_
 refine VL.lit (α:=cZ) (xs:=[.tmp 18]) (vs:=[.agg #[str lZ,i64 pS,str vC]]) [⟨lZ,pS,vC⟩] Tryz.underlying54 aWS (by decide) rfl rfl rfl rfl (by decide) (fun _ _ _ _=>trivial) (by decide) (fun SO RV => ?_) (by decide)
 replace hS:=bV RV hS
 refine VL.back (D':=[(0,cX.val)]) (by kernel_rfl) (aF.cons rfl (aJ JQ rfl rfl) (aF.nil)) ?_
 refine VD.one rfl ?_
 obtain ⟨b20,hS⟩:=bU hS
 refine VL.app (s:=cX) (r:=SO) Tryz.underlying54 aWE (by decide) rfl Fo.out (sU b20) (sV b20 (by decide)) (by decide) (fun aGr aJf => ?_)
 replace hS:=bV aJf hS
 refine VL.back (D':=[]) (by kernel_rfl) (aF.nil) ?_
 refine VD.one rfl ?_
 refine Zv (cs':=[aGr.val]) rfl a5G ?_
 refine VL.back (D':=[]) (by kernel_rfl) (aF.nil) ?_
 cases hS
 exact VD.nil (q8 (.inl rfl) rfl (aGr,⟨FN.b,FN.at_,FN.err⟩) rfl rfl (by (try dsimp only); exact cA.out) (by (try dsimp only); exact dJ.out))
theorem OI (bG:Nat) (cJ:aU) (aE:Nat) (aT:cH) (cB:Nat) (bF:Sv cZ) (cC:Nat) {r:bL×aU×List cZ} (hS:Sh.y8 cJ aT.pl bF.l=some r) :
 Ct Tryz.prog 203 [ptr bG 0,.func (.func 354) #[] #[ptr cB 0,ptr cC 0]] (aT.b.ok.and aT.err.ok) (Ow.star (bD aE [aT.b.val,i64 aT.at_,aT.err.val] 127) (Ow.star (bD bG [ptr aE 0,.bool cJ.bad] 214) (Ow.star (Sv.own bF 173) (Ow.star (bD cB [bF.val] 54) (bD cC [ptr bG 0] 212))))) (X:=cH×aU×Sv cZ) (fun x => .tuple #[]) (fun x=>r=(x.1.pl,x.2.1,x.2.2.l)) (fun x=>(x.1.b.ok.and x.1.err.ok)) (fun x=>Ow.star (bD aE [x.1.b.val,i64 x.1.at_,x.1.err.val] 127) (Ow.star (bD bG [ptr aE 0,.bool x.2.1.bad] 214) (Ow.star (bD cB [x.2.2.val] 54) (Ow.star (Sv.own x.2.2 173) (bD cC [ptr bG 0] 212))))):=by
 refine Zo Tryz.func203 Tryz.ntmps203 fun c => ?_
 unfold Sh.y8 at hS
 refine Zq (Zr ?_)
 refine Zm ?_
 refine Zu (aD rfl) ?_
 refine Zu (aB cQ rfl) ?_
 refine Zu (aJ c5 rfl rfl) ?_
 obtain ⟨c9,nF,hS⟩:=aK hS
 refine VL.bS (dG aE aT nF) rfl (by decide) ?_
 rintro ⟨fU,eM⟩ rfl
 try dsimp only
 refine Zy ?_
 refine VC.gK (S:=Bool) (fun (eX:Bool)=>eX) (fun (eX:Bool)=>[(0,ptr bG 0),(1,.func (.func 354) #[] #[ptr cB 0,ptr cC 0]),(4,i64 fU)]) (fun (eX:Bool)=>Mo.tt) (fun (eX:Bool)=>Ow.star (bD aE [eM.b.val,i64 eM.at_,eM.err.val] 127) (Ow.star (bD bG [ptr aE 0,.bool eX] 214) (Ow.star (bD cB [bF.val] 54) (Ow.star (bD cC [ptr bG 0] 212) (Ow.star (Sv.own bF 173) (Ow.emp)))))) hS ?_ ?_
 ·
  clear hS
  intro k3 hS
  refine Zr ?_
  refine Zy ?_
  refine Zu (aD rfl) ?_
  refine Zu (aB jX rfl) ?_
  refine Zu (aJ o9 rfl rfl) ?_
  refine Zm ?_
  refine vV 16 hS (fun h16 hS => ?_) (fun h16 hS => ?_)
  ·
   refine VL.runs 3 [(19,some true)] (by kernel_rfl) ?_
   refine Zu (aD rfl) ?_
   refine Zu (aB jX rfl) ?_
   refine Zv (cs':=[ptr aE 0,.bool true]) rfl rJ ?_
   refine VL.mt true [0,1,4] (fun _ _ h=>h) hS rfl
  refine Zg ?_
  refine Zh (c4 rfl rfl) ?_
  refine Zf ?_
  refine Zu (aD rfl) ?_
  refine Zu (aB jX rfl) ?_
  refine Zv (cs':=[ptr aE 0,.bool (decide (fU < 0))]) rfl rJ ?_
  refine VL.mt (decide (fU < 0)) [0,1,4] (fun _ _ h=>h) hS rfl
 clear hS
 rintro eX hS
 refine Zq (Zr ?_)
 refine Zy ?_
 refine Zb ?_
 refine VC.iter (S:=Int×Sv UInt8×Int×Er×Sv cZ) (fun sg=>(sg.1,sg.2.1.l,sg.2.2.1,sg.2.2.2.1.pl,sg.2.2.2.2.l)) (fun sg=>[(0,ptr bG 0),(1,.func (.func 354) #[] #[ptr cB 0,ptr cC 0]),(4,i64 fU),(5,i64 sg.1)]) (fun sg=>(sg.2.1.ok.and sg.2.2.2.1.ok)) (fun sg=>Ow.star (bD aE [sg.2.1.val,i64 sg.2.2.1,sg.2.2.2.1.val] 127) (Ow.star (bD bG [ptr aE 0,.bool eX] 214) (Ow.star (bD cB [sg.2.2.2.2.val] 54) (Ow.star (bD cC [ptr bG 0] 212) (Ow.star (Sv.own sg.2.2.2.2 173) (Ow.emp)))))) (0,eM.b,eM.at_,eM.err,bF) [0,1,4,5] hS rfl ?_
 clear hS
 rintro ⟨jR,fA,gQ,gR,dM⟩ m1 y1 hS hK1
 refine Zq (Zq (Zr ?_))
 refine Zy ?_
 refine Zu (c4 rfl rfl) ?_
 refine Zm ?_
 refine pL 25 hS (fun h25 hS => ?_) (fun h25 hS => ?_)
 ·
  refine Zg ?_
  refine Zh (aD rfl) ?_
  refine Zh (aB cQ rfl) ?_
  refine Zh (aJ c5 rfl rfl) ?_
  refine VL.guard rfl rfl ?_
  obtain ⟨s5,xY,hS⟩:=aK hS
  refine VL.bS (jF aE (⟨fA,gQ,gR⟩:cH) xY) rfl (by decide) ?_
  rintro nO rfl
  try dsimp only
  refine Zh (FU Tryz.underlying26 rfl) ?_
  refine Zy ?_
  refine VC.keep (ρ':=[(0,ptr bG 0),(1,.func (.func 354) #[] #[ptr cB 0,ptr cC 0]),(4,i64 fU),(5,i64 jR),(32,.bool (decide (nO.pl.isNil=true)))]) [0,1,4,5,32] rfl ?_
  refine Zc hS (fun h32 hS => ?_) (fun h32 hS => ?_)
  ·
   refine Zk ?_
   refine Zq (Zb (Zr ?_))
   refine Zm ?_
   obtain ⟨mN,EZ,hS⟩:=aK hS
   refine VL.MR (vs:=[]) (caps:=[ptr cB 0,ptr cC 0]) (OO cB dM cC bG (⟨eX⟩:aU) aE (⟨fA,gQ,gR⟩:cH) EZ) rfl rfl (by decide) ?_
   rintro ⟨BO,nJ⟩ rfl
   try dsimp only
   refine Zl ?_
   refine Zr ?_
   refine Zm ?_
   obtain ⟨b34,hS⟩:=bU hS
   refine Zu (cR rfl rfl b34) ?_
   refine Za ?_
   refine VL.iP ((jR+1),nJ.b,nJ.at_,nJ.err,BO) [0,1,4,5] (fun _ _ h=>h) (go2 hS hK1) rfl
  replace hS:=gA hS hK1
  cases hS
  exact VC.exit (q8 (.inl rfl) rfl (⟨fA,gQ,gR⟩,⟨eX⟩,dM) rfl rfl (by (try dsimp only); exact cA.out) (by (try dsimp only); exact dJ.out))
 refine VL.runs 7 [(32,some false)] (by kernel_rfl) ?_
 refine Zl ?_
 refine VC.BB rfl ?_
 replace hS:=gA hS hK1
 cases hS
 exact VC.exit (q8 (.inl rfl) rfl (⟨fA,gQ,gR⟩,⟨eX⟩,dM) rfl rfl (by (try dsimp only); exact cA.out) (by (try dsimp only); exact dJ.out))
theorem C0 (aA:Sv cZ) {r:List cZ} (hS:Sh.pY aA.l=some r) :
 Ct Tryz.prog 92 [aA.val] aA.ok (Ow.emp) (X:=Sv cZ) (fun x=>x.val) (fun x=>r=x.l) (fun x=>x.ok) (fun x=>Ow.emp):=by
 refine Zo Tryz.func92 Tryz.ntmps92 fun c => ?_
 unfold Sh.pY at hS
 refine Zq (Zr ?_)
 refine Zy ?_
 refine Zq (Zr ?_)
 refine Zy ?_
 refine Zu (dX (s:=aA) Tryz.underlying54 rfl) ?_
 refine Zm ?_
 refine Zu (dX (s:=aA) Tryz.underlying54 rfl) ?_
 obtain ⟨b8,hS⟩:=bU hS
 refine VL.WX Tryz.underlying54 aJa rfl rfl rfl b8.1 (b8.2) (by decide) fun CX vL => ?_
 replace hS:=bV vL hS
 refine Zy ?_
 cases hS
 exact VC.ret (eB (.inr rfl) rfl rfl CX rfl rfl (by (try dsimp only); exact cA.out) (fun _ _=>trivial))
theorem F1 (bG:Nat) (cJ:aU) (aE:Nat) (aT:cH) {r:List cZ×bL×aU} (hS:Sh.v8 cJ aT.pl=some r) :
 Ct Tryz.prog 324 [ptr bG 0] (aT.b.ok.and aT.err.ok) (Ow.star (bD aE [aT.b.val,i64 aT.at_,aT.err.val] 127) (bD bG [ptr aE 0,.bool cJ.bad] 214)) (X:=Sv cZ×cH×aU) (fun x=>x.1.val) (fun x=>r=(x.1.l,x.2.1.pl,x.2.2)) (fun x=>(x.1.ok.and (x.2.1.b.ok.and x.2.1.err.ok))) (fun x=>Ow.star (bD aE [x.2.1.b.val,i64 x.2.1.at_,x.2.1.err.val] 127) (bD bG [ptr aE 0,.bool x.2.2.bad] 214)):=by
 refine Zo Tryz.func324 Tryz.ntmps324 fun c => ?_
 unfold Sh.v8 at hS
 refine Zq (Zr ?_)
 refine VL.box (cs:=[ptr bG 0]) rfl rfl (by decide) fun fE => ?_
 refine Zy ?_
 refine Zq (Zr ?_)
 refine VL.alloc (cs:=[.slice none 0 0]) (by kernel_rfl) (by decide) fun jQ => ?_
 refine Zl ?_
 refine Zq (Zr ?_)
 refine Zu (aJ c7 rfl rfl) ?_
 refine Zu (sE rfl) ?_
 refine VL.kH (⟨none,0,[]⟩:Sv cZ) 173 ⟨rfl,rfl⟩ ?_
 refine VL.SD jQ (cs':=[(⟨none,0,[]⟩:Sv cZ).val]) rfl ?_
 obtain ⟨mT,K3,hS⟩:=aK hS
 refine VL.bS (OI bG cJ aE aT jQ (⟨none,0,[]⟩:Sv cZ) fE K3) rfl (by decide) ?_
 rintro ⟨sX,JX,zS⟩ rfl
 try dsimp only
 refine Zl ?_
 refine Zq (Zr ?_)
 refine Zu (aJ JQ rfl rfl) ?_
 refine VL.shut zS 173 (fun _ _ _ _=>trivial) ?_
 obtain ⟨GV,K4,hS⟩:=aK hS
 refine VL.cU (C0 zS K4) rfl (by decide) ?_
 rintro zT rfl
 try dsimp only
 refine Zy ?_
 cases hS
 exact VC.ret (eB (.inr rfl) rfl rfl (zT,⟨sX.b,sX.at_,sX.err⟩,⟨JX.bad⟩) rfl rfl (by (try dsimp only); exact cA.out) (by (try dsimp only); exact dJ.out))
theorem AU (bG:Nat) (cJ:aU) (aE:Nat) (aT:cH) {r:KL×bL×aU} (hS:Sh.F0 cJ aT.pl=some r) :
 Ct Tryz.prog 277 [ptr bG 0] (aT.b.ok.and aT.err.ok) (Ow.star (bD aE [aT.b.val,i64 aT.at_,aT.err.val] 127) (bD bG [ptr aE 0,.bool cJ.bad] 214)) (X:=yS×cH×aU) (fun x => .agg (bM.enc x.1).toArray) (fun x=>r=(x.1.pl,x.2.1.pl,x.2.2)) (fun x=>(x.1.m.and (x.2.1.b.ok.and x.2.1.err.ok))) (fun x=>Ow.star (bD aE [x.2.1.b.val,i64 x.2.1.at_,x.2.1.err.val] 127) (bD bG [ptr aE 0,.bool x.2.2.bad] 214)):=by
 refine Zo Tryz.func277 Tryz.ntmps277 fun c => ?_
 unfold Sh.F0 at hS
 refine Zq (Zr ?_)
 refine VL.alloc (cs:=[str [],i64 0,str [],.slice none 0 0,.slice none 0 0,i64 0,str [],str [],i64 0,.slice none 0 0,.slice none 0 0]) (by kernel_rfl) (by decide) fun dQ => ?_
 refine Zl ?_
 refine Zq ?_
 refine VC.draw [(0,true),(1,true),(2,true),(3,true),(5,true),(6,true),(7,true),(8,true),(10,true),(11,true),(12,true),(13,true),(15,true),(17,true),(19,true),(20,true),(21,true),(22,true),(24,true),(25,true),(26,true),(27,true),(29,true),(31,true),(33,true),(4,false),(9,false),(14,false),(16,false),(18,false),(23,false),(28,false),(30,false),(32,false),(34,false),(35,true),(36,false)] mixed (by kernel_rfl) (by kernel_rfl) (by kernel_rfl) ?_
 refine Zw rfl (bA rfl) ?_
 refine Zw rfl (aD rfl) ?_
 refine Zw rfl (aB cQ rfl) ?_
 refine Zw rfl (aJ c5 rfl rfl) ?_
 refine Zw rfl (bA rfl) ?_
 refine Zw rfl (aD rfl) ?_
 refine Zw rfl (aB cQ rfl) ?_
 refine Zw rfl (aJ c5 rfl rfl) ?_
 refine Zw rfl (bA rfl) ?_
 refine Zw rfl (aD rfl) ?_
 refine Zw rfl (aB cQ rfl) ?_
 refine Zw rfl (aJ c5 rfl rfl) ?_
 refine Zw rfl (bA rfl) ?_
 refine Zw rfl (bA rfl) ?_
 refine Zw rfl (bA rfl) ?_
 refine Zw rfl (aD rfl) ?_
 refine Zw rfl (aB cQ rfl) ?_
 refine Zw rfl (aJ c5 rfl rfl) ?_
 refine Zw rfl (bA rfl) ?_
 refine Zw rfl (aD rfl) ?_
 refine Zw rfl (aB cQ rfl) ?_
 refine Zw rfl (aJ c5 rfl rfl) ?_
 refine Zw rfl (bA rfl) ?_
 refine Zw rfl (bA rfl) ?_
 refine Zw rfl (bA rfl) ?_
 refine VD.one rfl ?_
 obtain ⟨xO,DG,hS⟩:=aK hS
 refine VL.bS (fQ aE aT DG) rfl (by decide) ?_
 rintro ⟨qN,aCE⟩ rfl
 try dsimp only
 refine VL.back (D':=[(27,ptr aE 0),(26,ptr bG 0),(25,ptr bG 0),(22,ptr aE 0),(21,ptr bG 0),(20,ptr bG 0),(13,ptr aE 0),(12,ptr bG 0),(11,ptr bG 0),(8,ptr aE 0),(7,ptr bG 0),(6,ptr bG 0)]) (by kernel_rfl) (aF.cons rfl (aJ c5 rfl rfl) (aF.cons rfl (aB cQ rfl) (aF.cons rfl (aD rfl) (aF.cons rfl (aJ c5 rfl rfl) (aF.cons rfl (aB cQ rfl) (aF.cons rfl (aD rfl) (aF.cons rfl (aJ c5 rfl rfl) (aF.cons rfl (aB cQ rfl) (aF.cons rfl (aD rfl) (aF.cons rfl (aJ c5 rfl rfl) (aF.cons rfl (aB cQ rfl) (aF.cons rfl (aD rfl) (aF.nil))))))))))))) ?_
 refine VD.one rfl ?_
 obtain ⟨lY,uZ,hS⟩:=aK hS
 refine VL.bS (dG aE aCE uZ) rfl (by decide) ?_
 rintro ⟨gT,LQ⟩ rfl
 try dsimp only
 refine VL.back (D':=[(27,ptr aE 0),(26,ptr bG 0),(25,ptr bG 0),(22,ptr aE 0),(21,ptr bG 0),(20,ptr bG 0),(13,ptr aE 0),(12,ptr bG 0),(11,ptr bG 0)]) (by kernel_rfl) (aF.cons rfl (aJ c5 rfl rfl) (aF.cons rfl (aB cQ rfl) (aF.cons rfl (aD rfl) (aF.cons rfl (aJ c5 rfl rfl) (aF.cons rfl (aB cQ rfl) (aF.cons rfl (aD rfl) (aF.cons rfl (aJ c5 rfl rfl) (aF.cons rfl (aB cQ rfl) (aF.cons rfl (aD rfl) (aF.nil)))))))))) ?_
 refine VD.one rfl ?_
 obtain ⟨DY,RH,hS⟩:=aK hS
 refine VL.bS (fQ aE LQ RH) rfl (by decide) ?_
 rintro ⟨yK,V5⟩ rfl
 try dsimp only
 refine VL.back (D':=[(27,ptr aE 0),(26,ptr bG 0),(25,ptr bG 0),(22,ptr aE 0),(21,ptr bG 0),(20,ptr bG 0)]) (by kernel_rfl) (aF.cons rfl (aJ c5 rfl rfl) (aF.cons rfl (aB cQ rfl) (aF.cons rfl (aD rfl) (aF.cons rfl (aJ c5 rfl rfl) (aF.cons rfl (aB cQ rfl) (aF.cons rfl (aD rfl) (aF.nil))))))) ?_
 refine VD.one rfl ?_
 obtain ⟨mR,RK,hS⟩:=aK hS
 refine VL.bS (F1 bG cJ aE V5 RK) rfl (by decide) ?_
 rintro ⟨rN,yL,aG1⟩ rfl
 try dsimp only
 refine VL.back (D':=[(27,ptr aE 0),(26,ptr bG 0),(25,ptr bG 0),(22,ptr aE 0),(21,ptr bG 0),(20,ptr bG 0)]) (by kernel_rfl) (aF.cons rfl (aJ c5 rfl rfl) (aF.cons rfl (aB cQ rfl) (aF.cons rfl (aD rfl) (aF.cons rfl (aJ c5 rfl rfl) (aF.cons rfl (aB cQ rfl) (aF.cons rfl (aD rfl) (aF.nil))))))) ?_
 refine VD.one rfl ?_
 obtain ⟨aHJ,a0K,hS⟩:=aK hS
 refine VL.bS (F1 bG aG1 aE yL a0K) rfl (by decide) ?_
 rintro ⟨V8,aYF,aMd⟩ rfl
 try dsimp only
 refine VL.back (D':=[(27,ptr aE 0),(26,ptr bG 0),(25,ptr bG 0),(22,ptr aE 0),(21,ptr bG 0),(20,ptr bG 0)]) (by kernel_rfl) (aF.cons rfl (aJ c5 rfl rfl) (aF.cons rfl (aB cQ rfl) (aF.cons rfl (aD rfl) (aF.cons rfl (aJ c5 rfl rfl) (aF.cons rfl (aB cQ rfl) (aF.cons rfl (aD rfl) (aF.nil))))))) ?_
 refine VD.one rfl ?_
 obtain ⟨aOZ,a0X,hS⟩:=aK hS
 refine VL.bS (dG aE aYF a0X) rfl (by decide) ?_
 rintro ⟨WA,aYJ⟩ rfl
 try dsimp only
 refine VL.back (D':=[(27,ptr aE 0),(26,ptr bG 0),(25,ptr bG 0)]) (by kernel_rfl) (aF.cons rfl (aJ c5 rfl rfl) (aF.cons rfl (aB cQ rfl) (aF.cons rfl (aD rfl) (aF.nil)))) ?_
 refine VD.one rfl ?_
 obtain ⟨I7,a07,hS⟩:=aK hS
 refine VL.bS (fQ aE aYJ a07) rfl (by decide) ?_
 rintro ⟨WB,aYO⟩ rfl
 try dsimp only
 refine VL.back (D':=[]) (by kernel_rfl) (aF.nil) ?_
 refine VD.one rfl ?_
 obtain ⟨aDq,a0a,hS⟩:=aK hS
 refine VL.bS (uF bG aMd aE aYO a0a) rfl (by decide) ?_
 rintro ⟨CV,aYQ⟩ rfl
 try dsimp only
 refine VL.back (D':=[]) (by kernel_rfl) (aF.nil) ?_
 refine VD.one rfl ?_
 obtain ⟨YW,aUb,hS⟩:=aK hS
 refine VL.bS (rC bG aMd aE aYQ aUb) rfl (by decide) ?_
 rintro ⟨PY,aTF,aTG⟩ rfl
 try dsimp only
 refine VL.back (D':=[]) (by kernel_rfl) (aF.nil) ?_
 refine VD.one rfl ?_
 obtain ⟨YX,aUg,hS⟩:=aK hS
 refine VL.bS (vI bG aTG aE aTF aUg) rfl (by decide) ?_
 rintro ⟨P0,aDV,aTJ⟩ rfl
 try dsimp only
 refine VL.back (D':=[]) (by kernel_rfl) (aF.nil) ?_
 refine Zw rfl (eN (vs:=[(0,str qN),(1,i64 gT),(2,str yK),(3,rN.val),(4,V8.val),(5,i64 WA),(6,str WB),(7,.agg #[str CV.branch,i64 CV.dO]),(8,PY.val),(9,P0.val)]) (cs := #[str qN,i64 gT,str yK,rN.val,V8.val,i64 WA,str WB,str CV.branch,i64 CV.dO,PY.val,P0.val]) rfl (by kernel_rfl)) ?_
 refine VD.one rfl ?_
 refine Zv (cs':=[str qN,i64 gT,str yK,rN.val,V8.val,i64 WA,str WB,str CV.branch,i64 CV.dO,PY.val,P0.val]) rfl aAN ?_
 refine VL.back (D':=[]) (by kernel_rfl) (aF.nil) ?_
 refine VD.to (fun _ _ h=>h) ?_
 refine VC.keep (ρ':=[(2,ptr dQ 0)]) [2] rfl ?_
 cases hS
 exact VC.ret (hG (vs:=[.agg #[str qN,i64 gT,str yK,rN.val,V8.val,i64 WA,str WB,str CV.branch,i64 CV.dO,PY.val,P0.val]]) (.inr rfl) rfl (dS.cell aPB rfl rfl Rd.blk (dS.nil)) (⟨qN,gT,yK,rN,V8,WA,WB,CV.branch,CV.dO,PY,P0⟩,⟨aDV.b,aDV.at_,aDV.err⟩,⟨aTJ.bad⟩) rfl rfl (by (try dsimp only); exact cA.out) (by (try dsimp only); exact dJ.out))
theorem SS (lG:Nat) (cX:jV) (iB:Nat) (cO:Nat) (a_1_:aU) (bW:Nat) (cV:cH) {r:Unit} (hS:Sh.B7 cX.pl a_1_ cV.pl=some r) :
 Ct Tryz.prog 278 [ptr lG 0,ptr iB 0] (cX.work.ok.and (cX.index.ok.and (cX.gO.ok.and (cX.iE.ok.and (cX.gP.ok.and (cX.iF.ok.and ((xW cX.fK.l).and (cV.b.ok.and cV.err.ok)))))))) (Ow.star (Sv.own cX.refs 241) (Ow.star (Sv.own cX.fK 245) (Ow.star (bD lG (mK cX) 60) (Ow.star (bD bW [cV.b.val,i64 cV.at_,cV.err.val] 127) (Ow.star (bD cO [ptr bW 0,.bool a_1_.bad] 214) (bD iB [ptr cO 0] 212)))))) (X:=Unit) (fun _ => .tuple #[]) (fun _=>True) (fun _=>Mo.tt) (fun _=>Ow.star (bD lG (mK cX) 60) (Ow.star (Sv.own cX.refs 241) (Ow.star (Sv.own cX.fK 245) (Ow.star (bD bW [cV.b.val,i64 cV.at_,cV.err.val] 127) (Ow.star (bD cO [ptr bW 0,.bool a_1_.bad] 214) (bD iB [ptr cO 0] 212)))))):=by
 refine Zo Tryz.func278 Tryz.ntmps278 fun c => ?_
 unfold Sh.B7 at hS
 cases hS
theorem vR (bG:Nat) (cJ:aU) (aE:Nat) (aT:cH) (cB:Nat) (bF:jV) (cC:Nat) {r:bL×aU} (hS:Sh.y9 cJ aT.pl bF.pl=some r) :
 Ct Tryz.prog 203 [ptr bG 0,.func (.func 278) #[] #[ptr cB 0,ptr cC 0]] (aT.b.ok.and (aT.err.ok.and (bF.work.ok.and (bF.index.ok.and (bF.gO.ok.and (bF.iE.ok.and (bF.gP.ok.and (bF.iF.ok.and (xW bF.fK.l))))))))) (Ow.star (bD aE [aT.b.val,i64 aT.at_,aT.err.val] 127) (Ow.star (bD bG [ptr aE 0,.bool cJ.bad] 214) (Ow.star (Sv.own bF.refs 241) (Ow.star (Sv.own bF.fK 245) (Ow.star (bD cB (mK bF) 60) (bD cC [ptr bG 0] 212)))))) (X:=cH×aU) (fun x => .tuple #[]) (fun x=>r=(x.1.pl,x.2)) (fun x=>(x.1.b.ok.and x.1.err.ok)) (fun x=>Ow.star (bD aE [x.1.b.val,i64 x.1.at_,x.1.err.val] 127) (Ow.star (bD bG [ptr aE 0,.bool x.2.bad] 214) (Ow.star (bD cB (mK bF) 60) (Ow.star (Sv.own bF.refs 241) (Ow.star (Sv.own bF.fK 245) (bD cC [ptr bG 0] 212)))))):=by
 refine Zo Tryz.func203 Tryz.ntmps203 fun c => ?_
 unfold Sh.y9 at hS
 refine Zq (Zr ?_)
 refine Zm ?_
 refine Zu (aD rfl) ?_
 refine Zu (aB cQ rfl) ?_
 refine Zu (aJ c5 rfl rfl) ?_
 obtain ⟨c9,nF,hS⟩:=aK hS
 refine VL.bS (dG aE aT nF) rfl (by decide) ?_
 rintro ⟨fU,eM⟩ rfl
 try dsimp only
 refine Zy ?_
 refine VC.gK (S:=Bool) (fun (eX:Bool)=>eX) (fun (eX:Bool)=>[(0,ptr bG 0),(1,.func (.func 278) #[] #[ptr cB 0,ptr cC 0]),(4,i64 fU)]) (fun (eX:Bool)=>Mo.tt) (fun (eX:Bool)=>Ow.star (bD aE [eM.b.val,i64 eM.at_,eM.err.val] 127) (Ow.star (bD bG [ptr aE 0,.bool eX] 214) (Ow.star (bD cB (mK bF) 60) (Ow.star (bD cC [ptr bG 0] 212) (Ow.star (Sv.own bF.refs 241) (Ow.star (Sv.own bF.fK 245) (Ow.emp))))))) hS ?_ ?_
 ·
  clear hS
  intro k3 hS
  refine Zr ?_
  refine Zy ?_
  refine Zu (aD rfl) ?_
  refine Zu (aB jX rfl) ?_
  refine Zu (aJ o9 rfl rfl) ?_
  refine Zm ?_
  refine vV 16 hS (fun h16 hS => ?_) (fun h16 hS => ?_)
  ·
   refine VL.runs 3 [(19,some true)] (by kernel_rfl) ?_
   refine Zu (aD rfl) ?_
   refine Zu (aB jX rfl) ?_
   refine Zv (cs':=[ptr aE 0,.bool true]) rfl rJ ?_
   refine VL.mt true [0,1,4] (fun _ _ h=>h) hS rfl
  refine Zg ?_
  refine Zh (c4 rfl rfl) ?_
  refine Zf ?_
  refine Zu (aD rfl) ?_
  refine Zu (aB jX rfl) ?_
  refine Zv (cs':=[ptr aE 0,.bool (decide (fU < 0))]) rfl rJ ?_
  refine VL.mt (decide (fU < 0)) [0,1,4] (fun _ _ h=>h) hS rfl
 clear hS
 rintro eX hS
 refine Zq (Zr ?_)
 refine Zy ?_
 refine Zb ?_
 refine VC.iter (S:=Int) (fun (jR:Int)=>jR) (fun (jR:Int)=>[(0,ptr bG 0),(1,.func (.func 278) #[] #[ptr cB 0,ptr cC 0]),(4,i64 fU),(5,i64 jR)]) (fun (jR:Int)=>Mo.tt) (fun (jR:Int)=>Ow.star (bD aE [eM.b.val,i64 eM.at_,eM.err.val] 127) (Ow.star (bD bG [ptr aE 0,.bool eX] 214) (Ow.star (bD cB (mK bF) 60) (Ow.star (bD cC [ptr bG 0] 212) (Ow.star (Sv.own bF.refs 241) (Ow.star (Sv.own bF.fK 245) (Ow.emp))))))) 0 [0,1,4,5] hS rfl ?_
 clear hS
 rintro jR m1 y1 hS hK1
 refine Zq (Zq (Zr ?_))
 refine Zy ?_
 refine Zu (c4 rfl rfl) ?_
 refine Zm ?_
 refine pL 25 hS (fun h25 hS => ?_) (fun h25 hS => ?_)
 ·
  refine Zg ?_
  refine Zh (aD rfl) ?_
  refine Zh (aB cQ rfl) ?_
  refine Zh (aJ c5 rfl rfl) ?_
  refine VL.guard rfl rfl ?_
  obtain ⟨aZR,a04,hS⟩:=aK hS
  refine VL.bS (jF aE eM a04) rfl (by decide) ?_
  rintro aYN rfl
  try dsimp only
  refine Zh (FU Tryz.underlying26 rfl) ?_
  refine Zy ?_
  refine VC.keep (ρ':=[(0,ptr bG 0),(1,.func (.func 278) #[] #[ptr cB 0,ptr cC 0]),(4,i64 fU),(5,i64 jR),(32,.bool (decide (aYN.pl.isNil=true)))]) [0,1,4,5,32] rfl ?_
  refine Zc hS (fun h32 hS => ?_) (fun h32 hS => ?_)
  ·
   refine Zk ?_
   refine Zq (Zb (Zr ?_))
   refine Zm ?_
   obtain ⟨a6L,a0e,hS⟩:=aK hS
   refine VL.MR (vs:=[]) (caps:=[ptr cB 0,ptr cC 0]) (SS cB bF cC bG (⟨eX⟩:aU) aE eM a0e) rfl rfl (by decide) ?_
   rintro _ _
   try dsimp only
   refine Zl ?_
   refine Zr ?_
   refine Zm ?_
   obtain ⟨b34,hS⟩:=bU hS
   refine Zu (cR rfl rfl b34) ?_
   refine Za ?_
   refine VL.iP (jR+1) [0,1,4,5] (fun _ _ h=>h) (go2 hS hK1) rfl
  replace hS:=gA hS hK1
  cases hS
  exact VC.exit (q8 (.inl rfl) rfl (⟨eM.b,eM.at_,eM.err⟩,⟨eX⟩) rfl rfl (by (try dsimp only); exact cA.out) (by (try dsimp only); exact dJ.out))
 refine VL.runs 7 [(32,some false)] (by kernel_rfl) ?_
 refine Zl ?_
 refine VC.BB rfl ?_
 replace hS:=gA hS hK1
 cases hS
 exact VC.exit (q8 (.inl rfl) rfl (⟨eM.b,eM.at_,eM.err⟩,⟨eX⟩) rfl rfl (by (try dsimp only); exact cA.out) (by (try dsimp only); exact dJ.out))
theorem oD (aA:Sv eV) {r:List eV} (hS:Sh.pX aA.l=some r) :
 Ct Tryz.prog 279 [aA.val] aA.ok (Ow.emp) (X:=Sv eV) (fun x=>x.val) (fun x=>r=x.l) (fun x=>x.ok) (fun x=>Ow.emp):=by
 refine Zo Tryz.func279 Tryz.ntmps279 fun c => ?_
 unfold Sh.pX at hS
 refine Zq (Zr ?_)
 refine Zy ?_
 refine Zq (Zr ?_)
 refine Zy ?_
 refine Zu (dX (s:=aA) Tryz.underlying51 rfl) ?_
 refine Zm ?_
 refine Zu (dX (s:=aA) Tryz.underlying51 rfl) ?_
 obtain ⟨b8,hS⟩:=bU hS
 refine VL.WX Tryz.underlying51 pP rfl rfl rfl b8.1 (b8.2) (by decide) fun CX vL => ?_
 replace hS:=bV vL hS
 refine Zy ?_
 cases hS
 exact VC.ret (eB (.inr rfl) rfl rfl CX rfl rfl (by (try dsimp only); exact cA.out) (fun _ _=>trivial))
theorem mO (aA:Sv dZ) {r:List pK} (hS:Sh.nT (aA.l.map dZ.pl)=some r) :
 Ct Tryz.prog 280 [aA.val] aA.ok (Ow.emp) (X:=Sv dZ) (fun x=>x.val) (fun x=>r=(x.l.map dZ.pl)) (fun x=>x.ok) (fun x=>Ow.emp):=by
 refine Zo Tryz.func280 Tryz.ntmps280 fun c => ?_
 unfold Sh.nT at hS
 refine Zq (Zr ?_)
 refine Zy ?_
 refine Zq (Zr ?_)
 refine Zy ?_
 refine Zu (oN dZ.pl (s:=aA) Tryz.underlying58 rfl) ?_
 refine Zm ?_
 refine Zu (oN dZ.pl (s:=aA) Tryz.underlying58 rfl) ?_
 obtain ⟨b8,hS⟩:=bU hS
 refine VL.WX Tryz.underlying58 aJb rfl rfl rfl b8.1 (aNw b8.2) (by decide) fun CX vL => ?_
 replace hS:=bV ((congrArg (List.map dZ.pl) vL).trans List.map_take) hS
 refine Zy ?_
 cases hS
 exact VC.ret (eB (.inr rfl) rfl rfl CX rfl rfl (by (try dsimp only); exact cA.out) (fun _ _=>trivial))
theorem WV (bG:Nat) (cJ:aU) (aE:Nat) (aT:cH) {r:mF×bL×aU} (hS:Sh.FZ cJ aT.pl=some r) :
 Ct Tryz.prog 202 [ptr bG 0] (aT.b.ok.and aT.err.ok) (Ow.star (bD aE [aT.b.val,i64 aT.at_,aT.err.val] 127) (bD bG [ptr aE 0,.bool cJ.bad] 214)) (X:=jV×cH×aU) (fun x => .agg (bM.enc x.1).toArray) (fun x=>r=(x.1.pl,x.2.1.pl,x.2.2)) (fun x=>(x.1.m.and (x.2.1.b.ok.and x.2.1.err.ok))) (fun x=>Ow.star (bD aE [x.2.1.b.val,i64 x.2.1.at_,x.2.1.err.val] 127) (bD bG [ptr aE 0,.bool x.2.2.bad] 214)):=by
 refine Zo Tryz.func202 Tryz.ntmps202 fun c => ?_
 unfold Sh.FZ at hS
 refine Zq (Zr ?_)
 refine VL.box (cs:=[ptr bG 0]) rfl rfl (by decide) fun fE => ?_
 refine VL.alloc (cs:=[.slice none 0 0,.slice none 0 0,.slice none 0 0,str [],i64 0,str [],i64 0,str [],.slice none 0 0,.slice none 0 0,i64 0,str [],str [],i64 0,.slice none 0 0,.slice none 0 0,.slice none 0 0]) (by kernel_rfl) (by decide) fun EF => ?_
 refine Zl ?_
 refine Zq ?_
 refine VC.aFJ (n:=5) (listed := #[true,false,true,false,false,false,false]) [(0,true),(2,true)] mixed (by kernel_rfl) (by kernel_rfl) (by kernel_rfl) (by kernel_rfl) ?_
 refine VD.q rfl (aJ c7 rfl rfl) (by decide) ?_
 refine VD.q rfl (aJ c7 rfl rfl) (by decide) ?_
 obtain ⟨tY,UR,hS⟩:=aK hS
 obtain ⟨xV,aAI,hS⟩:=aK hS
 refine VD.toG fun hcl => ?_
 refine VG.fork (l:=[1,5]) (n:=4) (by kernel_rfl) rfl fun i hi => ?_
 obtain rfl | rfl:i=1∨i=5:=by simpa using hi
 ·
  refine QL.of rfl ?_
  refine VL.bS (vI bG cJ aE aT UR) rfl (by decide) ?_
  rintro ⟨lI,R4,R5⟩ rfl
  try dsimp only
  refine VL.B0 (D':=[(2,ptr bG 0)]) (listed' := #[true,true,true,false,false,false,false]) (aF.cons rfl (aJ c7 rfl rfl) (aF.nil)) (by kernel_rfl) (by kernel_rfl) ?_
  refine VG.fork (l:=[3,5]) (n:=3) (by kernel_rfl) rfl fun i hi => ?_
  obtain rfl | rfl:i=3∨i=5:=by simpa using hi
  ·
   refine QL.of rfl ?_
   refine VL.bS (rC bG R5 aE R4 aAI) rfl (by decide) ?_
   rintro ⟨kM,L2,L3⟩ rfl
   try dsimp only
   refine VL.B0 (D':=[]) (listed' := #[true,true,true,true,false,false,false]) (aF.nil) (by kernel_rfl) (by kernel_rfl) ?_
   refine VG.ord [(4,true),(5,false),(6,false)] (by kernel_rfl) (qZ (by kernel_rfl)) (by kernel_rfl) ?_
   refine Zw rfl (eN (vs:=[(0,lI.val),(1,kM.val)]) (cs := #[lI.val,kM.val,.slice none 0 0,str [],i64 0,str [],i64 0,str [],.slice none 0 0,.slice none 0 0,i64 0,str [],str [],i64 0,.slice none 0 0,.slice none 0 0,.slice none 0 0]) rfl (by kernel_rfl)) ?_
   refine VD.one rfl ?_
   refine VL.alloc (cs:=[.slice none 0 0,.slice none 0 0,.slice none 0 0,str [],i64 0,str [],i64 0,str [],.slice none 0 0,.slice none 0 0,i64 0,str [],str [],i64 0,.slice none 0 0,.slice none 0 0,.slice none 0 0]) (by kernel_rfl) (by decide) fun kX => ?_
   refine VL.back (D':=[(4,.agg #[lI.val,kM.val,.slice none 0 0,str [],i64 0,str [],i64 0,str [],.slice none 0 0,.slice none 0 0,i64 0,str [],str [],i64 0,.slice none 0 0,.slice none 0 0,.slice none 0 0])]) (by kernel_rfl) (aF.cons rfl (eN (vs:=[(0,lI.val),(1,kM.val)]) (cs := #[lI.val,kM.val,.slice none 0 0,str [],i64 0,str [],i64 0,str [],.slice none 0 0,.slice none 0 0,i64 0,str [],str [],i64 0,.slice none 0 0,.slice none 0 0,.slice none 0 0]) rfl (by kernel_rfl)) (aF.nil)) ?_
   refine VD.one rfl ?_
   refine Zv (cs':=[lI.val,kM.val,.slice none 0 0,str [],i64 0,str [],i64 0,str [],.slice none 0 0,.slice none 0 0,i64 0,str [],str [],i64 0,.slice none 0 0,.slice none 0 0,.slice none 0 0]) rfl aCz ?_
   refine VL.back (D':=[]) (by kernel_rfl) (aF.nil) ?_
   refine VD.to (fun _ _ h=>h) ?_
   refine Zq (Zr ?_)
   refine Zu (aJ c7 rfl rfl) ?_
   refine Zu (sE rfl) ?_
   refine VL.kH (⟨none,0,[]⟩:Sv eV) 241 ⟨rfl,rfl⟩ ?_
   refine VL.kH (⟨none,0,[]⟩:Sv dZ) 245 ⟨rfl,rfl⟩ ?_
   refine VL.RZ (s:=(⟨none,0,[]⟩:Sv dZ)) rfl ?_
   refine VL.SD kX (cs':=[lI.val,kM.val,(⟨none,0,[]⟩:Sv eV).val,str [],i64 0,str [],i64 0,str [],(⟨none,0,[]⟩:Sv cZ).val,(⟨none,0,[]⟩:Sv cZ).val,i64 0,str [],str [],i64 0,(⟨none,0,[]⟩:Sv aI).val,(⟨none,0,[]⟩:Sv aC).val,(⟨none,0,[]⟩:Sv dZ).val]) rfl ?_
   obtain ⟨GC,aBB,hS⟩:=aK hS
   refine VL.bS (vQ bG L3 aE L2 kX (⟨lI,kM,(⟨none,0,[]⟩:Sv eV),[],0,[],0,[],(⟨none,0,[]⟩:Sv cZ),(⟨none,0,[]⟩:Sv cZ),0,[],[],0,(⟨none,0,[]⟩:Sv aI),(⟨none,0,[]⟩:Sv aC),(⟨none,0,[]⟩:Sv dZ)⟩:jV) fE aBB) rfl (by decide) ?_
   rintro ⟨V1,IA,bY⟩ rfl
   try dsimp only
   refine Zl ?_
   refine VC.keep (ρ':=[(1,ptr fE 0),(2,ptr EF 0),(3,ptr kX 0)]) [1,2,3] rfl ?_
   refine Zq ?_
   refine VC.draw [(0,true),(2,true),(1,false),(4,true),(3,false),(5,false),(6,true),(7,false)] mixed (by kernel_rfl) (by kernel_rfl) (by kernel_rfl) ?_
   refine Zw rfl (aJ c7 rfl rfl) ?_
   refine Zw rfl (aJ c7 rfl rfl) ?_
   refine VD.one rfl ?_
   obtain ⟨XS,aBE,hS⟩:=aK hS
   refine VL.bS (uF bG IA aE V1 aBE) rfl (by decide) ?_
   rintro ⟨fI,V3⟩ rfl
   try dsimp only
   refine VL.back (D':=[(2,ptr bG 0)]) (by kernel_rfl) (aF.cons rfl (aJ c7 rfl rfl) (aF.nil)) ?_
   refine Zw rfl (aB pO rfl) ?_
   refine VD.one rfl ?_
   obtain ⟨oG,RE,hS⟩:=aK hS
   refine VL.bS (AU bG IA aE V3 RE) rfl (by decide) ?_
   rintro ⟨aP,LV,LW⟩ rfl
   try dsimp only
   refine VL.back (D':=[(4,ptr kX 3)]) (by kernel_rfl) (aF.cons rfl (aB pO rfl) (aF.nil)) ?_
   refine VD.one rfl ?_
   refine Zv (cs':=[bY.work.val,bY.index.val,bY.refs.val,str fI.branch,i64 fI.dO,str bY.l9,i64 bY.j9,str bY.mB,bY.gO.val,bY.iE.val,i64 bY.mA,str bY.jC,str bY.fG,i64 bY.fH,bY.gP.val,bY.iF.val,bY.fK.val]) rfl aAM ?_
   refine VL.back (D':=[]) (by kernel_rfl) (aF.nil) ?_
   refine Zw rfl (aB tJ rfl) ?_
   refine VD.one rfl ?_
   refine Zv (cs':=[bY.work.val,bY.index.val,bY.refs.val,str fI.branch,i64 fI.dO,str aP.kind,i64 aP.other,str aP.text,aP.oK.val,aP.todo.val,i64 aP.made,str aP.branch,str aP.dA,i64 aP.dB,aP.index.val,aP.work.val,bY.fK.val]) rfl aAN ?_
   refine VL.back (D':=[]) (by kernel_rfl) (aF.nil) ?_
   refine VD.to (fun _ _ h=>h) ?_
   refine Zq (Zr ?_)
   refine Zu (aJ c7 rfl rfl) ?_
   refine Zu (sE rfl) ?_
   obtain ⟨rQ,JM,hS⟩:=aK hS
   refine VL.bS (vR bG LW aE LV kX (⟨bY.work,bY.index,bY.refs,fI.branch,fI.dO,aP.kind,aP.other,aP.text,aP.oK,aP.todo,aP.made,aP.branch,aP.dA,aP.dB,aP.index,aP.work,bY.fK⟩:jV) fE JM) rfl (by decide) ?_
   rintro ⟨wW,V7⟩ rfl
   try dsimp only
   refine Zl ?_
   refine VC.keep (ρ':=[(2,ptr EF 0),(3,ptr kX 0)]) [2,3] rfl ?_
   refine Zq ?_
   refine VC.draw [(0,true),(1,true),(3,true),(4,true),(2,false),(6,true),(5,false),(7,false),(8,true),(9,false)] mixed (by kernel_rfl) (by kernel_rfl) (by kernel_rfl) ?_
   refine Zw rfl (aB kZ rfl) ?_
   refine Zw rfl (aJ u6 rfl rfl) ?_
   refine Zw rfl (aB AB rfl) ?_
   refine Zw rfl (aJ MY rfl rfl) ?_
   refine VD.one rfl ?_
   refine VL.shut bY.refs 241 (fun _ _ _ _=>trivial) ?_
   obtain ⟨DZ,JN,hS⟩:=aK hS
   refine VL.cU (oD bY.refs JN) rfl (by decide) ?_
   rintro nN rfl
   try dsimp only
   refine VL.back (D':=[(4,bY.fK.val),(3,ptr kX 16)]) (by kernel_rfl) (aF.cons rfl (aJ MY rfl rfl) (aF.cons rfl (aB AB rfl) (aF.nil))) ?_
   refine Zw rfl (aB kZ rfl) ?_
   refine VD.one rfl ?_
   refine VL.shut bY.fK 245 (fun h m=>cA.out (X:=xW bY.fK.l) h m) ?_
   obtain ⟨NW,K1,hS⟩:=aK hS
   refine VL.cU (mO bY.fK K1) rfl (by decide) ?_
   rintro sB rfl
   try dsimp only
   refine VL.back (D':=[(6,ptr kX 2)]) (by kernel_rfl) (aF.cons rfl (aB kZ rfl) (aF.nil)) ?_
   refine VD.one rfl ?_
   refine Zv (cs':=[bY.work.val,bY.index.val,nN.val,str fI.branch,i64 fI.dO,str aP.kind,i64 aP.other,str aP.text,aP.oK.val,aP.todo.val,i64 aP.made,str aP.branch,str aP.dA,i64 aP.dB,aP.index.val,aP.work.val,bY.fK.val]) rfl aCy ?_
   refine VL.back (D':=[]) (by kernel_rfl) (aF.nil) ?_
   refine Zw rfl (aB AB rfl) ?_
   refine VD.one rfl ?_
   refine Zv (cs':=[bY.work.val,bY.index.val,nN.val,str fI.branch,i64 fI.dO,str aP.kind,i64 aP.other,str aP.text,aP.oK.val,aP.todo.val,i64 aP.made,str aP.branch,str aP.dA,i64 aP.dB,aP.index.val,aP.work.val,sB.val]) rfl aNp ?_
   refine VL.back (D':=[]) (by kernel_rfl) (aF.nil) ?_
   refine VD.to (fun _ _ h=>h) ?_
   refine Zq (Zr ?_)
   refine Zu (cD JP rfl rfl) ?_
   refine Zv (cs':=[bY.work.val,bY.index.val,nN.val,str fI.branch,i64 fI.dO,str aP.kind,i64 aP.other,str aP.text,aP.oK.val,aP.todo.val,i64 aP.made,str aP.branch,str aP.dA,i64 aP.dB,aP.index.val,aP.work.val,sB.val]) rfl aCz ?_
   refine Zl ?_
   refine VC.keep (ρ':=[(2,ptr EF 0)]) [2] rfl ?_
   cases hS
   exact VC.ret (hG (vs:=[.agg #[bY.work.val,bY.index.val,nN.val,str fI.branch,i64 fI.dO,str aP.kind,i64 aP.other,str aP.text,aP.oK.val,aP.todo.val,i64 aP.made,str aP.branch,str aP.dA,i64 aP.dB,aP.index.val,aP.work.val,sB.val]]) (.inr rfl) rfl (dS.cell JP rfl rfl Rd.blk (dS.nil)) (⟨bY.work,bY.index,nN,fI.branch,fI.dO,aP.kind,aP.other,aP.text,aP.oK,aP.todo,aP.made,aP.branch,aP.dA,aP.dB,aP.index,aP.work,sB⟩,⟨wW.b,wW.at_,wW.err⟩,⟨V7.bad⟩) rfl rfl (by (try dsimp only); exact cA.out) (by (try dsimp only); exact dJ.out))
  refine QL.of rfl ?_
  refine VL.alloc (cs:=[.slice none 0 0,.slice none 0 0,.slice none 0 0,str [],i64 0,str [],i64 0,str [],.slice none 0 0,.slice none 0 0,i64 0,str [],str [],i64 0,.slice none 0 0,.slice none 0 0,.slice none 0 0]) (by kernel_rfl) (by decide) fun kX => ?_
  refine VL.B0 (D':=[(2,ptr bG 0)]) (listed' := #[true,true,true,false,false,true,false]) (aF.cons rfl (aJ c7 rfl rfl) (aF.nil)) (by kernel_rfl) (by kernel_rfl) ?_
  refine VG.ord [(3,false),(4,true),(6,false)] (by kernel_rfl) (qZ (by kernel_rfl)) (by kernel_rfl) ?_
  refine VD.one rfl ?_
  refine VL.bS (rC bG R5 aE R4 aAI) rfl (by decide) ?_
  rintro ⟨kM,L2,L3⟩ rfl
  try dsimp only
  refine VL.back (D':=[]) (by kernel_rfl) (aF.nil) ?_
  refine Zw rfl (eN (vs:=[(0,lI.val),(1,kM.val)]) (cs := #[lI.val,kM.val,.slice none 0 0,str [],i64 0,str [],i64 0,str [],.slice none 0 0,.slice none 0 0,i64 0,str [],str [],i64 0,.slice none 0 0,.slice none 0 0,.slice none 0 0]) rfl (by kernel_rfl)) ?_
  refine VD.one rfl ?_
  refine Zv (cs':=[lI.val,kM.val,.slice none 0 0,str [],i64 0,str [],i64 0,str [],.slice none 0 0,.slice none 0 0,i64 0,str [],str [],i64 0,.slice none 0 0,.slice none 0 0,.slice none 0 0]) rfl aCz ?_
  refine VL.back (D':=[]) (by kernel_rfl) (aF.nil) ?_
  refine VD.to (fun _ _ h=>h) ?_
  refine Zq (Zr ?_)
  refine Zu (aJ c7 rfl rfl) ?_
  refine Zu (sE rfl) ?_
  refine VL.kH (⟨none,0,[]⟩:Sv eV) 241 ⟨rfl,rfl⟩ ?_
  refine VL.kH (⟨none,0,[]⟩:Sv dZ) 245 ⟨rfl,rfl⟩ ?_
  refine VL.RZ (s:=(⟨none,0,[]⟩:Sv dZ)) rfl ?_
  refine VL.SD kX (cs':=[lI.val,kM.val,(⟨none,0,[]⟩:Sv eV).val,str [],i64 0,str [],i64 0,str [],(⟨none,0,[]⟩:Sv cZ).val,(⟨none,0,[]⟩:Sv cZ).val,i64 0,str [],str [],i64 0,(⟨none,0,[]⟩:Sv aI).val,(⟨none,0,[]⟩:Sv aC).val,(⟨none,0,[]⟩:Sv dZ).val]) rfl ?_
  obtain ⟨GC,aBB,hS⟩:=aK hS
  refine VL.bS (vQ bG L3 aE L2 kX (⟨lI,kM,(⟨none,0,[]⟩:Sv eV),[],0,[],0,[],(⟨none,0,[]⟩:Sv cZ),(⟨none,0,[]⟩:Sv cZ),0,[],[],0,(⟨none,0,[]⟩:Sv aI),(⟨none,0,[]⟩:Sv aC),(⟨none,0,[]⟩:Sv dZ)⟩:jV) fE aBB) rfl (by decide) ?_
  rintro ⟨V1,IA,bY⟩ rfl
  try dsimp only
  refine Zl ?_
  refine VC.keep (ρ':=[(1,ptr fE 0),(2,ptr EF 0),(3,ptr kX 0)]) [1,2,3] rfl ?_
  refine Zq ?_
  refine VC.draw [(0,true),(2,true),(1,false),(4,true),(3,false),(5,false),(6,true),(7,false)] mixed (by kernel_rfl) (by kernel_rfl) (by kernel_rfl) ?_
  refine Zw rfl (aJ c7 rfl rfl) ?_
  refine Zw rfl (aJ c7 rfl rfl) ?_
  refine VD.one rfl ?_
  obtain ⟨XS,aBE,hS⟩:=aK hS
  refine VL.bS (uF bG IA aE V1 aBE) rfl (by decide) ?_
  rintro ⟨fI,V3⟩ rfl
  try dsimp only
  refine VL.back (D':=[(2,ptr bG 0)]) (by kernel_rfl) (aF.cons rfl (aJ c7 rfl rfl) (aF.nil)) ?_
  refine Zw rfl (aB pO rfl) ?_
  refine VD.one rfl ?_
  obtain ⟨oG,RE,hS⟩:=aK hS
  refine VL.bS (AU bG IA aE V3 RE) rfl (by decide) ?_
  rintro ⟨aP,LV,LW⟩ rfl
  try dsimp only
  refine VL.back (D':=[(4,ptr kX 3)]) (by kernel_rfl) (aF.cons rfl (aB pO rfl) (aF.nil)) ?_
  refine VD.one rfl ?_
  refine Zv (cs':=[bY.work.val,bY.index.val,bY.refs.val,str fI.branch,i64 fI.dO,str bY.l9,i64 bY.j9,str bY.mB,bY.gO.val,bY.iE.val,i64 bY.mA,str bY.jC,str bY.fG,i64 bY.fH,bY.gP.val,bY.iF.val,bY.fK.val]) rfl aAM ?_
  refine VL.back (D':=[]) (by kernel_rfl) (aF.nil) ?_
  refine Zw rfl (aB tJ rfl) ?_
  refine VD.one rfl ?_
  refine Zv (cs':=[bY.work.val,bY.index.val,bY.refs.val,str fI.branch,i64 fI.dO,str aP.kind,i64 aP.other,str aP.text,aP.oK.val,aP.todo.val,i64 aP.made,str aP.branch,str aP.dA,i64 aP.dB,aP.index.val,aP.work.val,bY.fK.val]) rfl aAN ?_
  refine VL.back (D':=[]) (by kernel_rfl) (aF.nil) ?_
  refine VD.to (fun _ _ h=>h) ?_
  refine Zq (Zr ?_)
  refine Zu (aJ c7 rfl rfl) ?_
  refine Zu (sE rfl) ?_
  obtain ⟨rQ,JM,hS⟩:=aK hS
  refine VL.bS (vR bG LW aE LV kX (⟨bY.work,bY.index,bY.refs,fI.branch,fI.dO,aP.kind,aP.other,aP.text,aP.oK,aP.todo,aP.made,aP.branch,aP.dA,aP.dB,aP.index,aP.work,bY.fK⟩:jV) fE JM) rfl (by decide) ?_
  rintro ⟨wW,V7⟩ rfl
  try dsimp only
  refine Zl ?_
  refine VC.keep (ρ':=[(2,ptr EF 0),(3,ptr kX 0)]) [2,3] rfl ?_
  refine Zq ?_
  refine VC.draw [(0,true),(1,true),(3,true),(4,true),(2,false),(6,true),(5,false),(7,false),(8,true),(9,false)] mixed (by kernel_rfl) (by kernel_rfl) (by kernel_rfl) ?_
  refine Zw rfl (aB kZ rfl) ?_
  refine Zw rfl (aJ u6 rfl rfl) ?_
  refine Zw rfl (aB AB rfl) ?_
  refine Zw rfl (aJ MY rfl rfl) ?_
  refine VD.one rfl ?_
  refine VL.shut bY.refs 241 (fun _ _ _ _=>trivial) ?_
  obtain ⟨DZ,JN,hS⟩:=aK hS
  refine VL.cU (oD bY.refs JN) rfl (by decide) ?_
  rintro nN rfl
  try dsimp only
  refine VL.back (D':=[(4,bY.fK.val),(3,ptr kX 16)]) (by kernel_rfl) (aF.cons rfl (aJ MY rfl rfl) (aF.cons rfl (aB AB rfl) (aF.nil))) ?_
  refine Zw rfl (aB kZ rfl) ?_
  refine VD.one rfl ?_
  refine VL.shut bY.fK 245 (fun h m=>cA.out (X:=xW bY.fK.l) h m) ?_
  obtain ⟨NW,K1,hS⟩:=aK hS
  refine VL.cU (mO bY.fK K1) rfl (by decide) ?_
  rintro sB rfl
  try dsimp only
  refine VL.back (D':=[(6,ptr kX 2)]) (by kernel_rfl) (aF.cons rfl (aB kZ rfl) (aF.nil)) ?_
  refine VD.one rfl ?_
  refine Zv (cs':=[bY.work.val,bY.index.val,nN.val,str fI.branch,i64 fI.dO,str aP.kind,i64 aP.other,str aP.text,aP.oK.val,aP.todo.val,i64 aP.made,str aP.branch,str aP.dA,i64 aP.dB,aP.index.val,aP.work.val,bY.fK.val]) rfl aCy ?_
  refine VL.back (D':=[]) (by kernel_rfl) (aF.nil) ?_
  refine Zw rfl (aB AB rfl) ?_
  refine VD.one rfl ?_
  refine Zv (cs':=[bY.work.val,bY.index.val,nN.val,str fI.branch,i64 fI.dO,str aP.kind,i64 aP.other,str aP.text,aP.oK.val,aP.todo.val,i64 aP.made,str aP.branch,str aP.dA,i64 aP.dB,aP.index.val,aP.work.val,sB.val]) rfl aNp ?_
  refine VL.back (D':=[]) (by kernel_rfl) (aF.nil) ?_
  refine VD.to (fun _ _ h=>h) ?_
  refine Zq (Zr ?_)
  refine Zu (cD JP rfl rfl) ?_
  refine Zv (cs':=[bY.work.val,bY.index.val,nN.val,str fI.branch,i64 fI.dO,str aP.kind,i64 aP.other,str aP.text,aP.oK.val,aP.todo.val,i64 aP.made,str aP.branch,str aP.dA,i64 aP.dB,aP.index.val,aP.work.val,sB.val]) rfl aCz ?_
  refine Zl ?_
  refine VC.keep (ρ':=[(2,ptr EF 0)]) [2] rfl ?_
  cases hS
  exact VC.ret (hG (vs:=[.agg #[bY.work.val,bY.index.val,nN.val,str fI.branch,i64 fI.dO,str aP.kind,i64 aP.other,str aP.text,aP.oK.val,aP.todo.val,i64 aP.made,str aP.branch,str aP.dA,i64 aP.dB,aP.index.val,aP.work.val,sB.val]]) (.inr rfl) rfl (dS.cell JP rfl rfl Rd.blk (dS.nil)) (⟨bY.work,bY.index,nN,fI.branch,fI.dO,aP.kind,aP.other,aP.text,aP.oK,aP.todo,aP.made,aP.branch,aP.dA,aP.dB,aP.index,aP.work,sB⟩,⟨wW.b,wW.at_,wW.err⟩,⟨V7.bad⟩) rfl rfl (by (try dsimp only); exact cA.out) (by (try dsimp only); exact dJ.out))
 refine QL.of rfl ?_
 refine VL.alloc (cs:=[.slice none 0 0,.slice none 0 0,.slice none 0 0,str [],i64 0,str [],i64 0,str [],.slice none 0 0,.slice none 0 0,i64 0,str [],str [],i64 0,.slice none 0 0,.slice none 0 0,.slice none 0 0]) (by kernel_rfl) (by decide) fun kX => ?_
 refine VL.B0 (D':=[(2,ptr bG 0),(0,ptr bG 0)]) (listed' := #[true,false,true,false,false,true,false]) (aF.cons rfl (aJ c7 rfl rfl) (aF.cons rfl (aJ c7 rfl rfl) (aF.nil))) (by kernel_rfl) (by kernel_rfl) ?_
 refine VG.ord [(1,false),(3,false),(4,true),(6,false)] (by kernel_rfl) (qZ (by kernel_rfl)) (by kernel_rfl) ?_
 refine VD.one rfl ?_
 refine VL.bS (vI bG cJ aE aT UR) rfl (by decide) ?_
 rintro ⟨lI,R4,R5⟩ rfl
 try dsimp only
 refine VL.back (D':=[(2,ptr bG 0)]) (by kernel_rfl) (aF.cons rfl (aJ c7 rfl rfl) (aF.nil)) ?_
 refine VD.one rfl ?_
 refine VL.bS (rC bG R5 aE R4 aAI) rfl (by decide) ?_
 rintro ⟨kM,L2,L3⟩ rfl
 try dsimp only
 refine VL.back (D':=[]) (by kernel_rfl) (aF.nil) ?_
 refine Zw rfl (eN (vs:=[(0,lI.val),(1,kM.val)]) (cs := #[lI.val,kM.val,.slice none 0 0,str [],i64 0,str [],i64 0,str [],.slice none 0 0,.slice none 0 0,i64 0,str [],str [],i64 0,.slice none 0 0,.slice none 0 0,.slice none 0 0]) rfl (by kernel_rfl)) ?_
 refine VD.one rfl ?_
 refine Zv (cs':=[lI.val,kM.val,.slice none 0 0,str [],i64 0,str [],i64 0,str [],.slice none 0 0,.slice none 0 0,i64 0,str [],str [],i64 0,.slice none 0 0,.slice none 0 0,.slice none 0 0]) rfl aCz ?_
 refine VL.back (D':=[]) (by kernel_rfl) (aF.nil) ?_
 refine VD.to (fun _ _ h=>h) ?_
 refine Zq (Zr ?_)
 refine Zu (aJ c7 rfl rfl) ?_
 refine Zu (sE rfl) ?_
 refine VL.kH (⟨none,0,[]⟩:Sv eV) 241 ⟨rfl,rfl⟩ ?_
 refine VL.kH (⟨none,0,[]⟩:Sv dZ) 245 ⟨rfl,rfl⟩ ?_
 refine VL.RZ (s:=(⟨none,0,[]⟩:Sv dZ)) rfl ?_
 refine VL.SD kX (cs':=[lI.val,kM.val,(⟨none,0,[]⟩:Sv eV).val,str [],i64 0,str [],i64 0,str [],(⟨none,0,[]⟩:Sv cZ).val,(⟨none,0,[]⟩:Sv cZ).val,i64 0,str [],str [],i64 0,(⟨none,0,[]⟩:Sv aI).val,(⟨none,0,[]⟩:Sv aC).val,(⟨none,0,[]⟩:Sv dZ).val]) rfl ?_
 obtain ⟨GC,aBB,hS⟩:=aK hS
 refine VL.bS (vQ bG L3 aE L2 kX (⟨lI,kM,(⟨none,0,[]⟩:Sv eV),[],0,[],0,[],(⟨none,0,[]⟩:Sv cZ),(⟨none,0,[]⟩:Sv cZ),0,[],[],0,(⟨none,0,[]⟩:Sv aI),(⟨none,0,[]⟩:Sv aC),(⟨none,0,[]⟩:Sv dZ)⟩:jV) fE aBB) rfl (by decide) ?_
 rintro ⟨V1,IA,bY⟩ rfl
 try dsimp only
 refine Zl ?_
 refine VC.keep (ρ':=[(1,ptr fE 0),(2,ptr EF 0),(3,ptr kX 0)]) [1,2,3] rfl ?_
 refine Zq ?_
 refine VC.draw [(0,true),(2,true),(1,false),(4,true),(3,false),(5,false),(6,true),(7,false)] mixed (by kernel_rfl) (by kernel_rfl) (by kernel_rfl) ?_
 refine Zw rfl (aJ c7 rfl rfl) ?_
 refine Zw rfl (aJ c7 rfl rfl) ?_
 refine VD.one rfl ?_
 obtain ⟨XS,aBE,hS⟩:=aK hS
 refine VL.bS (uF bG IA aE V1 aBE) rfl (by decide) ?_
 rintro ⟨fI,V3⟩ rfl
 try dsimp only
 refine VL.back (D':=[(2,ptr bG 0)]) (by kernel_rfl) (aF.cons rfl (aJ c7 rfl rfl) (aF.nil)) ?_
 refine Zw rfl (aB pO rfl) ?_
 refine VD.one rfl ?_
 obtain ⟨oG,RE,hS⟩:=aK hS
 refine VL.bS (AU bG IA aE V3 RE) rfl (by decide) ?_
 rintro ⟨aP,LV,LW⟩ rfl
 try dsimp only
 refine VL.back (D':=[(4,ptr kX 3)]) (by kernel_rfl) (aF.cons rfl (aB pO rfl) (aF.nil)) ?_
 refine VD.one rfl ?_
 refine Zv (cs':=[bY.work.val,bY.index.val,bY.refs.val,str fI.branch,i64 fI.dO,str bY.l9,i64 bY.j9,str bY.mB,bY.gO.val,bY.iE.val,i64 bY.mA,str bY.jC,str bY.fG,i64 bY.fH,bY.gP.val,bY.iF.val,bY.fK.val]) rfl aAM ?_
 refine VL.back (D':=[]) (by kernel_rfl) (aF.nil) ?_
 refine Zw rfl (aB tJ rfl) ?_
 refine VD.one rfl ?_
 refine Zv (cs':=[bY.work.val,bY.index.val,bY.refs.val,str fI.branch,i64 fI.dO,str aP.kind,i64 aP.other,str aP.text,aP.oK.val,aP.todo.val,i64 aP.made,str aP.branch,str aP.dA,i64 aP.dB,aP.index.val,aP.work.val,bY.fK.val]) rfl aAN ?_
 refine VL.back (D':=[]) (by kernel_rfl) (aF.nil) ?_
 refine VD.to (fun _ _ h=>h) ?_
 refine Zq (Zr ?_)
 refine Zu (aJ c7 rfl rfl) ?_
 refine Zu (sE rfl) ?_
 obtain ⟨rQ,JM,hS⟩:=aK hS
 refine VL.bS (vR bG LW aE LV kX (⟨bY.work,bY.index,bY.refs,fI.branch,fI.dO,aP.kind,aP.other,aP.text,aP.oK,aP.todo,aP.made,aP.branch,aP.dA,aP.dB,aP.index,aP.work,bY.fK⟩:jV) fE JM) rfl (by decide) ?_
 rintro ⟨wW,V7⟩ rfl
 try dsimp only
 refine Zl ?_
 refine VC.keep (ρ':=[(2,ptr EF 0),(3,ptr kX 0)]) [2,3] rfl ?_
 refine Zq ?_
 refine VC.draw [(0,true),(1,true),(3,true),(4,true),(2,false),(6,true),(5,false),(7,false),(8,true),(9,false)] mixed (by kernel_rfl) (by kernel_rfl) (by kernel_rfl) ?_
 refine Zw rfl (aB kZ rfl) ?_
 refine Zw rfl (aJ u6 rfl rfl) ?_
 refine Zw rfl (aB AB rfl) ?_
 refine Zw rfl (aJ MY rfl rfl) ?_
 refine VD.one rfl ?_
 refine VL.shut bY.refs 241 (fun _ _ _ _=>trivial) ?_
 obtain ⟨DZ,JN,hS⟩:=aK hS
 refine VL.cU (oD bY.refs JN) rfl (by decide) ?_
 rintro nN rfl
 try dsimp only
 refine VL.back (D':=[(4,bY.fK.val),(3,ptr kX 16)]) (by kernel_rfl) (aF.cons rfl (aJ MY rfl rfl) (aF.cons rfl (aB AB rfl) (aF.nil))) ?_
 refine Zw rfl (aB kZ rfl) ?_
 refine VD.one rfl ?_
 refine VL.shut bY.fK 245 (fun h m=>cA.out (X:=xW bY.fK.l) h m) ?_
 obtain ⟨NW,K1,hS⟩:=aK hS
 refine VL.cU (mO bY.fK K1) rfl (by decide) ?_
 rintro sB rfl
 try dsimp only
 refine VL.back (D':=[(6,ptr kX 2)]) (by kernel_rfl) (aF.cons rfl (aB kZ rfl) (aF.nil)) ?_
 refine VD.one rfl ?_
 refine Zv (cs':=[bY.work.val,bY.index.val,nN.val,str fI.branch,i64 fI.dO,str aP.kind,i64 aP.other,str aP.text,aP.oK.val,aP.todo.val,i64 aP.made,str aP.branch,str aP.dA,i64 aP.dB,aP.index.val,aP.work.val,bY.fK.val]) rfl aCy ?_
 refine VL.back (D':=[]) (by kernel_rfl) (aF.nil) ?_
 refine Zw rfl (aB AB rfl) ?_
 refine VD.one rfl ?_
 refine Zv (cs':=[bY.work.val,bY.index.val,nN.val,str fI.branch,i64 fI.dO,str aP.kind,i64 aP.other,str aP.text,aP.oK.val,aP.todo.val,i64 aP.made,str aP.branch,str aP.dA,i64 aP.dB,aP.index.val,aP.work.val,sB.val]) rfl aNp ?_
 refine VL.back (D':=[]) (by kernel_rfl) (aF.nil) ?_
 refine VD.to (fun _ _ h=>h) ?_
 refine Zq (Zr ?_)
 refine Zu (cD JP rfl rfl) ?_
 refine Zv (cs':=[bY.work.val,bY.index.val,nN.val,str fI.branch,i64 fI.dO,str aP.kind,i64 aP.other,str aP.text,aP.oK.val,aP.todo.val,i64 aP.made,str aP.branch,str aP.dA,i64 aP.dB,aP.index.val,aP.work.val,sB.val]) rfl aCz ?_
 refine Zl ?_
 refine VC.keep (ρ':=[(2,ptr EF 0)]) [2] rfl ?_
 cases hS
 exact VC.ret (hG (vs:=[.agg #[bY.work.val,bY.index.val,nN.val,str fI.branch,i64 fI.dO,str aP.kind,i64 aP.other,str aP.text,aP.oK.val,aP.todo.val,i64 aP.made,str aP.branch,str aP.dA,i64 aP.dB,aP.index.val,aP.work.val,sB.val]]) (.inr rfl) rfl (dS.cell JP rfl rfl Rd.blk (dS.nil)) (⟨bY.work,bY.index,nN,fI.branch,fI.dO,aP.kind,aP.other,aP.text,aP.oK,aP.todo,aP.made,aP.branch,aP.dA,aP.dB,aP.index,aP.work,sB⟩,⟨wW.b,wW.at_,wW.err⟩,⟨V7.bad⟩) rfl rfl (by (try dsimp only); exact cA.out) (by (try dsimp only); exact dJ.out))
theorem MC (lG:Nat) (cX:Sv Int) (iB:Nat) (cO:Nat) (a_1_:aU) (bW:Nat) (cV:cH) {r:List Int×bL} (hS:Sh.xI cX.l a_1_ cV.pl=some r) :
 Ct Tryz.prog 282 [ptr lG 0,ptr iB 0] (cV.b.ok.and cV.err.ok) (Ow.star (Sv.own cX 3) (Ow.star (bD lG [cX.val] 32) (Ow.star (bD bW [cV.b.val,i64 cV.at_,cV.err.val] 127) (Ow.star (bD cO [ptr bW 0,.bool a_1_.bad] 214) (bD iB [ptr cO 0] 212))))) (X:=Sv Int×cH) (fun x => .tuple #[]) (fun x=>r=(x.1.l,x.2.pl)) (fun x=>(x.2.b.ok.and x.2.err.ok)) (fun x=>Ow.star (bD lG [x.1.val] 32) (Ow.star (Sv.own x.1 3) (Ow.star (bD bW [x.2.b.val,i64 x.2.at_,x.2.err.val] 127) (Ow.star (bD cO [ptr bW 0,.bool a_1_.bad] 214) (bD iB [ptr cO 0] 212))))):=by
 refine Zo Tryz.func282 Tryz.ntmps282 fun c => ?_
 unfold Sh.xI at hS
 refine VC.draw [(0,true),(1,true),(2,true),(3,true),(4,true),(5,false),(6,false),(7,false),(8,false)] mixed (by kernel_rfl) (by kernel_rfl) (by kernel_rfl) ?_
 refine Zw rfl (aJ x5 rfl rfl) ?_
 refine Zw rfl (aJ c7 rfl rfl) ?_
 refine Zw rfl (aD rfl) ?_
 refine Zw rfl (aB cQ rfl) ?_
 refine Zw rfl (aJ c5 rfl rfl) ?_
 refine VD.one rfl ?_
 obtain ⟨iD,kL,hS⟩:=aK hS
 refine VL.bS (dG bW cV kL) rfl (by decide) ?_
 rintro ⟨lZ,BP⟩ rfl
 try dsimp only
 refine VL.back (D':=[(0,cX.val)]) (by kernel_rfl) (aF.cons rfl (aJ x5 rfl rfl) (aF.nil)) ?_
 refine VD.one rfl ?_
 refine VL.lit (α:=Int) (xs:=[.tmp 7]) (vs:=[i64 lZ]) [lZ] Tryz.underlying32 kI (by decide) rfl rfl rfl rfl (by decide) (fun _ _ _ _=>trivial) (by decide) (fun aYf aNs => ?_) (by decide)
 replace hS:=bV aNs hS
 refine VL.back (D':=[(0,cX.val)]) (by kernel_rfl) (aF.cons rfl (aJ x5 rfl rfl) (aF.nil)) ?_
 refine VD.one rfl ?_
 obtain ⟨b9,hS⟩:=bU hS
 refine VL.app (s:=cX) (r:=aYf) Tryz.underlying32 IV (by decide) rfl Fo.out (sU b9) (sV b9 (by decide)) (by decide) (fun aMz aNt => ?_)
 replace hS:=bV aNt hS
 refine VL.back (D':=[]) (by kernel_rfl) (aF.nil) ?_
 refine VD.one rfl ?_
 refine Zv (cs':=[aMz.val]) rfl aCx ?_
 refine VL.back (D':=[]) (by kernel_rfl) (aF.nil) ?_
 cases hS
 exact VD.nil (q8 (.inl rfl) rfl (aMz,⟨BP.b,BP.at_,BP.err⟩) rfl rfl (by (try dsimp only); exact cA.out) (by (try dsimp only); exact dJ.out))
theorem OK (bG:Nat) (cJ:aU) (aE:Nat) (aT:cH) (cB:Nat) (bF:Sv Int) (cC:Nat) {r:bL×aU×List Int} (hS:Sh.zB cJ aT.pl bF.l=some r) :
 Ct Tryz.prog 203 [ptr bG 0,.func (.func 282) #[] #[ptr cB 0,ptr cC 0]] (aT.b.ok.and aT.err.ok) (Ow.star (bD aE [aT.b.val,i64 aT.at_,aT.err.val] 127) (Ow.star (bD bG [ptr aE 0,.bool cJ.bad] 214) (Ow.star (Sv.own bF 3) (Ow.star (bD cB [bF.val] 32) (bD cC [ptr bG 0] 212))))) (X:=cH×aU×Sv Int) (fun x => .tuple #[]) (fun x=>r=(x.1.pl,x.2.1,x.2.2.l)) (fun x=>(x.1.b.ok.and x.1.err.ok)) (fun x=>Ow.star (bD aE [x.1.b.val,i64 x.1.at_,x.1.err.val] 127) (Ow.star (bD bG [ptr aE 0,.bool x.2.1.bad] 214) (Ow.star (bD cB [x.2.2.val] 32) (Ow.star (Sv.own x.2.2 3) (bD cC [ptr bG 0] 212))))):=by
 refine Zo Tryz.func203 Tryz.ntmps203 fun c => ?_
 unfold Sh.zB at hS
 refine Zq (Zr ?_)
 refine Zm ?_
 refine Zu (aD rfl) ?_
 refine Zu (aB cQ rfl) ?_
 refine Zu (aJ c5 rfl rfl) ?_
 obtain ⟨c9,nF,hS⟩:=aK hS
 refine VL.bS (dG aE aT nF) rfl (by decide) ?_
 rintro ⟨fU,eM⟩ rfl
 try dsimp only
 refine Zy ?_
 refine VC.gK (S:=Bool) (fun (eX:Bool)=>eX) (fun (eX:Bool)=>[(0,ptr bG 0),(1,.func (.func 282) #[] #[ptr cB 0,ptr cC 0]),(4,i64 fU)]) (fun (eX:Bool)=>Mo.tt) (fun (eX:Bool)=>Ow.star (bD aE [eM.b.val,i64 eM.at_,eM.err.val] 127) (Ow.star (bD bG [ptr aE 0,.bool eX] 214) (Ow.star (bD cB [bF.val] 32) (Ow.star (bD cC [ptr bG 0] 212) (Ow.star (Sv.own bF 3) (Ow.emp)))))) hS ?_ ?_
 ·
  clear hS
  intro k3 hS
  refine Zr ?_
  refine Zy ?_
  refine Zu (aD rfl) ?_
  refine Zu (aB jX rfl) ?_
  refine Zu (aJ o9 rfl rfl) ?_
  refine Zm ?_
  refine vV 16 hS (fun h16 hS => ?_) (fun h16 hS => ?_)
  ·
   refine VL.runs 3 [(19,some true)] (by kernel_rfl) ?_
   refine Zu (aD rfl) ?_
   refine Zu (aB jX rfl) ?_
   refine Zv (cs':=[ptr aE 0,.bool true]) rfl rJ ?_
   refine VL.mt true [0,1,4] (fun _ _ h=>h) hS rfl
  refine Zg ?_
  refine Zh (c4 rfl rfl) ?_
  refine Zf ?_
  refine Zu (aD rfl) ?_
  refine Zu (aB jX rfl) ?_
  refine Zv (cs':=[ptr aE 0,.bool (decide (fU < 0))]) rfl rJ ?_
  refine VL.mt (decide (fU < 0)) [0,1,4] (fun _ _ h=>h) hS rfl
 clear hS
 rintro eX hS
 refine Zq (Zr ?_)
 refine Zy ?_
 refine Zb ?_
 refine VC.iter (S:=Int×Sv UInt8×Int×Er×Sv Int) (fun sg=>(sg.1,sg.2.1.l,sg.2.2.1,sg.2.2.2.1.pl,sg.2.2.2.2.l)) (fun sg=>[(0,ptr bG 0),(1,.func (.func 282) #[] #[ptr cB 0,ptr cC 0]),(4,i64 fU),(5,i64 sg.1)]) (fun sg=>(sg.2.1.ok.and sg.2.2.2.1.ok)) (fun sg=>Ow.star (bD aE [sg.2.1.val,i64 sg.2.2.1,sg.2.2.2.1.val] 127) (Ow.star (bD bG [ptr aE 0,.bool eX] 214) (Ow.star (bD cB [sg.2.2.2.2.val] 32) (Ow.star (bD cC [ptr bG 0] 212) (Ow.star (Sv.own sg.2.2.2.2 3) (Ow.emp)))))) (0,eM.b,eM.at_,eM.err,bF) [0,1,4,5] hS rfl ?_
 clear hS
 rintro ⟨jR,fA,gQ,gR,dM⟩ m1 y1 hS hK1
 refine Zq (Zq (Zr ?_))
 refine Zy ?_
 refine Zu (c4 rfl rfl) ?_
 refine Zm ?_
 refine pL 25 hS (fun h25 hS => ?_) (fun h25 hS => ?_)
 ·
  refine Zg ?_
  refine Zh (aD rfl) ?_
  refine Zh (aB cQ rfl) ?_
  refine Zh (aJ c5 rfl rfl) ?_
  refine VL.guard rfl rfl ?_
  obtain ⟨s5,xY,hS⟩:=aK hS
  refine VL.bS (jF aE (⟨fA,gQ,gR⟩:cH) xY) rfl (by decide) ?_
  rintro nO rfl
  try dsimp only
  refine Zh (FU Tryz.underlying26 rfl) ?_
  refine Zy ?_
  refine VC.keep (ρ':=[(0,ptr bG 0),(1,.func (.func 282) #[] #[ptr cB 0,ptr cC 0]),(4,i64 fU),(5,i64 jR),(32,.bool (decide (nO.pl.isNil=true)))]) [0,1,4,5,32] rfl ?_
  refine Zc hS (fun h32 hS => ?_) (fun h32 hS => ?_)
  ·
   refine Zk ?_
   refine Zq (Zb (Zr ?_))
   refine Zm ?_
   obtain ⟨mN,EZ,hS⟩:=aK hS
   refine VL.MR (vs:=[]) (caps:=[ptr cB 0,ptr cC 0]) (MC cB dM cC bG (⟨eX⟩:aU) aE (⟨fA,gQ,gR⟩:cH) EZ) rfl rfl (by decide) ?_
   rintro ⟨BO,nJ⟩ rfl
   try dsimp only
   refine Zl ?_
   refine Zr ?_
   refine Zm ?_
   obtain ⟨b34,hS⟩:=bU hS
   refine Zu (cR rfl rfl b34) ?_
   refine Za ?_
   refine VL.iP ((jR+1),nJ.b,nJ.at_,nJ.err,BO) [0,1,4,5] (fun _ _ h=>h) (go2 hS hK1) rfl
  replace hS:=gA hS hK1
  cases hS
  exact VC.exit (q8 (.inl rfl) rfl (⟨fA,gQ,gR⟩,⟨eX⟩,dM) rfl rfl (by (try dsimp only); exact cA.out) (by (try dsimp only); exact dJ.out))
 refine VL.runs 7 [(32,some false)] (by kernel_rfl) ?_
 refine Zl ?_
 refine VC.BB rfl ?_
 replace hS:=gA hS hK1
 cases hS
 exact VC.exit (q8 (.inl rfl) rfl (⟨fA,gQ,gR⟩,⟨eX⟩,dM) rfl rfl (by (try dsimp only); exact cA.out) (by (try dsimp only); exact dJ.out))
theorem o4 (aA:Sv Int) {r:List Int} (hS:Sh.j5 aA.l=some r) :
 Ct Tryz.prog 50 [aA.val] aA.ok (Ow.emp) (X:=Sv Int) (fun x=>x.val) (fun x=>r=x.l) (fun x=>x.ok) (fun x=>Ow.emp):=by
 refine Zo Tryz.func50 Tryz.ntmps50 fun c => ?_
 unfold Sh.j5 at hS
 refine Zq (Zr ?_)
 refine Zy ?_
 refine Zq (Zr ?_)
 refine Zy ?_
 refine Zu (dX (s:=aA) Tryz.underlying32 rfl) ?_
 refine Zm ?_
 refine Zu (dX (s:=aA) Tryz.underlying32 rfl) ?_
 obtain ⟨b8,hS⟩:=bU hS
 refine VL.WX Tryz.underlying32 u9 rfl rfl rfl b8.1 (b8.2) (by decide) fun CX vL => ?_
 replace hS:=bV vL hS
 refine Zy ?_
 cases hS
 exact VC.ret (eB (.inr rfl) rfl rfl CX rfl rfl (by (try dsimp only); exact cA.out) (fun _ _=>trivial))
theorem OM (bG:Nat) (cJ:aU) (aE:Nat) (aT:cH) {r:List Int×bL×aU} (hS:Sh.zD cJ aT.pl=some r) :
 Ct Tryz.prog 206 [ptr bG 0] (aT.b.ok.and aT.err.ok) (Ow.star (bD aE [aT.b.val,i64 aT.at_,aT.err.val] 127) (bD bG [ptr aE 0,.bool cJ.bad] 214)) (X:=Sv Int×cH×aU) (fun x=>x.1.val) (fun x=>r=(x.1.l,x.2.1.pl,x.2.2)) (fun x=>(x.1.ok.and (x.2.1.b.ok.and x.2.1.err.ok))) (fun x=>Ow.star (bD aE [x.2.1.b.val,i64 x.2.1.at_,x.2.1.err.val] 127) (bD bG [ptr aE 0,.bool x.2.2.bad] 214)):=by
 refine Zo Tryz.func206 Tryz.ntmps206 fun c => ?_
 unfold Sh.zD at hS
 refine Zq (Zr ?_)
 refine VL.box (cs:=[ptr bG 0]) rfl rfl (by decide) fun fE => ?_
 refine Zy ?_
 refine Zq (Zr ?_)
 refine VL.alloc (cs:=[.slice none 0 0]) (by kernel_rfl) (by decide) fun jQ => ?_
 refine Zl ?_
 refine Zq (Zr ?_)
 refine Zu (aJ c7 rfl rfl) ?_
 refine Zu (sE rfl) ?_
 refine VL.kH (⟨none,0,[]⟩:Sv Int) 3 ⟨rfl,rfl⟩ ?_
 refine VL.SD jQ (cs':=[(⟨none,0,[]⟩:Sv Int).val]) rfl ?_
 obtain ⟨mT,K3,hS⟩:=aK hS
 refine VL.bS (OK bG cJ aE aT jQ (⟨none,0,[]⟩:Sv Int) fE K3) rfl (by decide) ?_
 rintro ⟨sX,JX,zS⟩ rfl
 try dsimp only
 refine Zl ?_
 refine Zq (Zr ?_)
 refine Zu (aJ x5 rfl rfl) ?_
 refine VL.shut zS 3 (fun _ _ _ _=>trivial) ?_
 obtain ⟨GV,K4,hS⟩:=aK hS
 refine VL.cU (o4 zS K4) rfl (by decide) ?_
 rintro zT rfl
 try dsimp only
 refine Zy ?_
 cases hS
 exact VC.ret (eB (.inr rfl) rfl rfl (zT,⟨sX.b,sX.at_,sX.err⟩,⟨JX.bad⟩) rfl rfl (by (try dsimp only); exact cA.out) (by (try dsimp only); exact dJ.out))
theorem ON (lG:Nat) (cX:cF) (iB:Nat) (cO:Nat) (a_1_:aU) (bW:Nat) (cV:cH) {r:bR×bL×aU} (hS:Sh.zE cX.pl a_1_ cV.pl=some r) :
 Ct Tryz.prog 204 [ptr lG 0,ptr iB 0] (cX.bH.ok.and (cX.aX.ok.and (cX.bQ.ok.and (cX.aN.ok.and (cX.aR.ok.and (cX.aO.ok.and (cX.aS.ok.and (cX.bC.ok.and ((xW cX.bE.l).and (cX.bT.ok.and (cX.bJ.ok.and (cV.b.ok.and cV.err.ok)))))))))))) (Ow.star (Sv.own cX.bE 73) (Ow.star (bD lG (aH cX) 66) (Ow.star (bD bW [cV.b.val,i64 cV.at_,cV.err.val] 127) (Ow.star (bD cO [ptr bW 0,.bool a_1_.bad] 214) (bD iB [ptr cO 0] 212))))) (X:=cF×cH×aU) (fun x => .tuple #[]) (fun x=>r=(x.1.pl,x.2.1.pl,x.2.2)) (fun x=>(x.1.bH.ok.and (x.1.aX.ok.and (x.1.bQ.ok.and (x.1.aN.ok.and (x.1.aR.ok.and (x.1.aO.ok.and (x.1.aS.ok.and (x.1.bC.ok.and ((xW x.1.bE.l).and (x.1.bT.ok.and (x.1.bJ.ok.and (x.2.1.b.ok.and x.2.1.err.ok))))))))))))) (fun x=>Ow.star (bD lG (aH x.1) 66) (Ow.star (Sv.own x.1.bE 73) (Ow.star (bD bW [x.2.1.b.val,i64 x.2.1.at_,x.2.1.err.val] 127) (Ow.star (bD cO [ptr bW 0,.bool x.2.2.bad] 214) (bD iB [ptr cO 0] 212))))):=by
 refine Zo Tryz.func204 Tryz.ntmps204 fun c => ?_
 unfold Sh.zE at hS
 refine VC.draw [(0,true),(1,true),(2,true),(4,true),(6,true),(7,true),(8,true),(9,true),(11,true),(12,true),(13,true),(14,true),(3,false),(5,false),(10,false),(15,false),(16,true),(17,false),(18,false),(19,true),(20,false)] mixed (by kernel_rfl) (by kernel_rfl) (by kernel_rfl) ?_
 refine Zw rfl (aB nA rfl) ?_
 refine Zw rfl (aJ sW rfl rfl) ?_
 refine Zw rfl (aJ c7 rfl rfl) ?_
 refine Zw rfl (aJ c7 rfl rfl) ?_
 refine Zw rfl (aJ c7 rfl rfl) ?_
 refine Zw rfl (aD rfl) ?_
 refine Zw rfl (aB cQ rfl) ?_
 refine Zw rfl (aJ c5 rfl rfl) ?_
 refine Zw rfl (aJ c7 rfl rfl) ?_
 refine Zw rfl (aD rfl) ?_
 refine Zw rfl (aB cQ rfl) ?_
 refine Zw rfl (aJ c5 rfl rfl) ?_
 refine VD.one rfl ?_
 obtain ⟨GU,aF0,hS⟩:=aK hS
 refine VL.bS (vI cO a_1_ bW cV aF0) rfl (by decide) ?_
 rintro ⟨FQ,JW,R3⟩ rfl
 try dsimp only
 refine VL.back (D':=[(14,ptr bW 0),(13,ptr cO 0),(12,ptr cO 0),(11,ptr cO 0),(9,ptr bW 0),(8,ptr cO 0),(7,ptr cO 0),(6,ptr cO 0),(4,ptr cO 0),(1,cX.bE.val),(0,ptr lG 17)]) (by kernel_rfl) (aF.cons rfl (aJ c5 rfl rfl) (aF.cons rfl (aB cQ rfl) (aF.cons rfl (aD rfl) (aF.cons rfl (aJ c7 rfl rfl) (aF.cons rfl (aJ c5 rfl rfl) (aF.cons rfl (aB cQ rfl) (aF.cons rfl (aD rfl) (aF.cons rfl (aJ c7 rfl rfl) (aF.cons rfl (aJ c7 rfl rfl) (aF.cons rfl (aJ sW rfl rfl) (aF.cons rfl (aB nA rfl) (aF.nil)))))))))))) ?_
 refine VD.one rfl ?_
 obtain ⟨xO,DG,hS⟩:=aK hS
 refine VL.bS (OM cO R3 bW JW DG) rfl (by decide) ?_
 rintro ⟨qN,aCE,a2J⟩ rfl
 try dsimp only
 refine VL.back (D':=[(14,ptr bW 0),(13,ptr cO 0),(12,ptr cO 0),(11,ptr cO 0),(9,ptr bW 0),(8,ptr cO 0),(7,ptr cO 0),(6,ptr cO 0),(1,cX.bE.val),(0,ptr lG 17)]) (by kernel_rfl) (aF.cons rfl (aJ c5 rfl rfl) (aF.cons rfl (aB cQ rfl) (aF.cons rfl (aD rfl) (aF.cons rfl (aJ c7 rfl rfl) (aF.cons rfl (aJ c5 rfl rfl) (aF.cons rfl (aB cQ rfl) (aF.cons rfl (aD rfl) (aF.cons rfl (aJ c7 rfl rfl) (aF.cons rfl (aJ sW rfl rfl) (aF.cons rfl (aB nA rfl) (aF.nil))))))))))) ?_
 refine VD.one rfl ?_
 obtain ⟨lY,uZ,hS⟩:=aK hS
 refine VL.bS (dG bW aCE uZ) rfl (by decide) ?_
 rintro ⟨gT,LQ⟩ rfl
 try dsimp only
 refine VL.back (D':=[(14,ptr bW 0),(13,ptr cO 0),(12,ptr cO 0),(11,ptr cO 0),(1,cX.bE.val),(0,ptr lG 17)]) (by kernel_rfl) (aF.cons rfl (aJ c5 rfl rfl) (aF.cons rfl (aB cQ rfl) (aF.cons rfl (aD rfl) (aF.cons rfl (aJ c7 rfl rfl) (aF.cons rfl (aJ sW rfl rfl) (aF.cons rfl (aB nA rfl) (aF.nil))))))) ?_
 refine VD.one rfl ?_
 obtain ⟨DY,RH,hS⟩:=aK hS
 refine VL.bS (fQ bW LQ RH) rfl (by decide) ?_
 rintro ⟨yK,V5⟩ rfl
 try dsimp only
 refine VL.back (D':=[(1,cX.bE.val),(0,ptr lG 17)]) (by kernel_rfl) (aF.cons rfl (aJ sW rfl rfl) (aF.cons rfl (aB nA rfl) (aF.nil))) ?_
 refine Zw rfl (eN (vs:=[(0,FQ.val),(1,qN.val),(2,i64 gT),(3,str yK)]) (cs := #[FQ.val,qN.val,i64 gT,str yK]) rfl (by kernel_rfl)) ?_
 refine VD.one rfl ?_
 refine VL.lit (α:=cI) (xs:=[.tmp 18]) (vs:=[.agg #[FQ.val,qN.val,i64 gT,str yK]]) [⟨FQ,qN,gT,yK⟩] Tryz.underlying61 aJ9 (by decide) rfl rfl rfl rfl (by decide) (fun h m=>List.forall_mem_cons.2 ⟨cA.out (X:=(FQ.ok.and qN.ok)) h m,fun _ h=>by cases h⟩) (by decide) (fun w9 JS => ?_) (by decide)
 replace hS:=bV (congrArg (List.map cI.pl) JS) hS
 refine VL.back (D':=[(1,cX.bE.val),(0,ptr lG 17)]) (by kernel_rfl) (aF.cons rfl (aJ sW rfl rfl) (aF.cons rfl (aB nA rfl) (aF.nil))) ?_
 refine VD.one rfl ?_
 obtain ⟨b20,hS⟩:=bU hS
 refine VL.app (s:=cX.bE) (r:=w9) Tryz.underlying61 aEU (by decide) rfl Fo.out (sU (apm b20)) (sV (apm b20) (by decide)) (by decide) (fun aY9 aPJ => ?_)
 replace hS:=bV ((congrArg (List.map cI.pl) aPJ).trans List.map_append) hS
 refine VL.aDD aPJ ?_
 refine VL.back (D':=[]) (by kernel_rfl) (aF.nil) ?_
 refine Zw rfl (aB nA rfl) ?_
 refine VD.one rfl ?_
 refine Zv (cs':=[cX.bH.val,cX.aX.val,cX.bQ.val,str cX.aQ,i64 cX.aG,str cX.bK,i64 cX.bI,str cX.bP,cX.aN.val,cX.aR.val,i64 cX.bO,str cX.aZ,str cX.aL,i64 cX.aM,cX.aO.val,cX.aS.val,cX.bC.val,aY9.val,cX.bT.val,cX.bJ.val,i64 cX.time]) rfl aJc ?_
 refine VL.back (D':=[]) (by kernel_rfl) (aF.nil) ?_
 cases hS
 exact VD.nil (q8 (.inl rfl) rfl (⟨cX.bH,cX.aX,cX.bQ,cX.aQ,cX.aG,cX.bK,cX.bI,cX.bP,cX.aN,cX.aR,cX.bO,cX.aZ,cX.aL,cX.aM,cX.aO,cX.aS,cX.bC,aY9,cX.bT,cX.bJ,cX.time⟩,⟨V5.b,V5.at_,V5.err⟩,⟨a2J.bad⟩) rfl rfl (by (try dsimp only); exact cA.out) (by (try dsimp only); exact dJ.out))
theorem OJ (bG:Nat) (cJ:aU) (aE:Nat) (aT:cH) (cB:Nat) (bF:cF) (cC:Nat) {r:bL×aU×bR} (hS:Sh.zA cJ aT.pl bF.pl=some r) :
 Ct Tryz.prog 203 [ptr bG 0,.func (.func 204) #[] #[ptr cB 0,ptr cC 0]] (aT.b.ok.and (aT.err.ok.and (bF.bH.ok.and (bF.aX.ok.and (bF.bQ.ok.and (bF.aN.ok.and (bF.aR.ok.and (bF.aO.ok.and (bF.aS.ok.and (bF.bC.ok.and ((xW bF.bE.l).and (bF.bT.ok.and bF.bJ.ok)))))))))))) (Ow.star (bD aE [aT.b.val,i64 aT.at_,aT.err.val] 127) (Ow.star (bD bG [ptr aE 0,.bool cJ.bad] 214) (Ow.star (Sv.own bF.bE 73) (Ow.star (bD cB (aH bF) 66) (bD cC [ptr bG 0] 212))))) (X:=cH×aU×cF) (fun x => .tuple #[]) (fun x=>r=(x.1.pl,x.2.1,x.2.2.pl)) (fun x=>(x.1.b.ok.and (x.1.err.ok.and (x.2.2.bH.ok.and (x.2.2.aX.ok.and (x.2.2.bQ.ok.and (x.2.2.aN.ok.and (x.2.2.aR.ok.and (x.2.2.aO.ok.and (x.2.2.aS.ok.and (x.2.2.bC.ok.and ((xW x.2.2.bE.l).and (x.2.2.bT.ok.and x.2.2.bJ.ok))))))))))))) (fun x=>Ow.star (bD aE [x.1.b.val,i64 x.1.at_,x.1.err.val] 127) (Ow.star (bD bG [ptr aE 0,.bool x.2.1.bad] 214) (Ow.star (bD cB (aH x.2.2) 66) (Ow.star (Sv.own x.2.2.bE 73) (bD cC [ptr bG 0] 212))))):=by
 refine Zo Tryz.func203 Tryz.ntmps203 fun c => ?_
 unfold Sh.zA at hS
 refine Zq (Zr ?_)
 refine Zm ?_
 refine Zu (aD rfl) ?_
 refine Zu (aB cQ rfl) ?_
 refine Zu (aJ c5 rfl rfl) ?_
 obtain ⟨c9,nF,hS⟩:=aK hS
 refine VL.bS (dG aE aT nF) rfl (by decide) ?_
 rintro ⟨fU,eM⟩ rfl
 try dsimp only
 refine Zy ?_
 refine VC.gK (S:=Bool) (fun (eX:Bool)=>eX) (fun (eX:Bool)=>[(0,ptr bG 0),(1,.func (.func 204) #[] #[ptr cB 0,ptr cC 0]),(4,i64 fU)]) (fun (eX:Bool)=>Mo.tt) (fun (eX:Bool)=>Ow.star (bD aE [eM.b.val,i64 eM.at_,eM.err.val] 127) (Ow.star (bD bG [ptr aE 0,.bool eX] 214) (Ow.star (bD cB (aH bF) 66) (Ow.star (bD cC [ptr bG 0] 212) (Ow.star (Sv.own bF.bE 73) (Ow.emp)))))) hS ?_ ?_
 ·
  clear hS
  intro k3 hS
  refine Zr ?_
  refine Zy ?_
  refine Zu (aD rfl) ?_
  refine Zu (aB jX rfl) ?_
  refine Zu (aJ o9 rfl rfl) ?_
  refine Zm ?_
  refine vV 16 hS (fun h16 hS => ?_) (fun h16 hS => ?_)
  ·
   refine VL.runs 3 [(19,some true)] (by kernel_rfl) ?_
   refine Zu (aD rfl) ?_
   refine Zu (aB jX rfl) ?_
   refine Zv (cs':=[ptr aE 0,.bool true]) rfl rJ ?_
   refine VL.mt true [0,1,4] (fun _ _ h=>h) hS rfl
  refine Zg ?_
  refine Zh (c4 rfl rfl) ?_
  refine Zf ?_
  refine Zu (aD rfl) ?_
  refine Zu (aB jX rfl) ?_
  refine Zv (cs':=[ptr aE 0,.bool (decide (fU < 0))]) rfl rJ ?_
  refine VL.mt (decide (fU < 0)) [0,1,4] (fun _ _ h=>h) hS rfl
 clear hS
 rintro eX hS
 refine Zq (Zr ?_)
 refine Zy ?_
 refine Zb ?_
 refine VC.iter (S:=Int×Sv UInt8×Int×Er×Bool×Sv aC×Sv aI×Sv eV×bB×Int×bB×Int×bB×Sv cZ×Sv cZ×Int×bB×bB×Int×Sv aI×Sv aC×Sv dZ×Sv cI×Sv bB×Sv bB×Int) (fun sg=>(sg.1,sg.2.1.l,sg.2.2.1,sg.2.2.2.1.pl,sg.2.2.2.2.1,sg.2.2.2.2.2.1.l,sg.2.2.2.2.2.2.1.l,sg.2.2.2.2.2.2.2.1.l,sg.2.2.2.2.2.2.2.2.1,sg.2.2.2.2.2.2.2.2.2.1,sg.2.2.2.2.2.2.2.2.2.2.1,sg.2.2.2.2.2.2.2.2.2.2.2.1,sg.2.2.2.2.2.2.2.2.2.2.2.2.1,sg.2.2.2.2.2.2.2.2.2.2.2.2.2.1.l,sg.2.2.2.2.2.2.2.2.2.2.2.2.2.2.1.l,sg.2.2.2.2.2.2.2.2.2.2.2.2.2.2.2.1,sg.2.2.2.2.2.2.2.2.2.2.2.2.2.2.2.2.1,sg.2.2.2.2.2.2.2.2.2.2.2.2.2.2.2.2.2.1,sg.2.2.2.2.2.2.2.2.2.2.2.2.2.2.2.2.2.2.1,sg.2.2.2.2.2.2.2.2.2.2.2.2.2.2.2.2.2.2.2.1.l,sg.2.2.2.2.2.2.2.2.2.2.2.2.2.2.2.2.2.2.2.2.1.l,(sg.2.2.2.2.2.2.2.2.2.2.2.2.2.2.2.2.2.2.2.2.2.1.l.map dZ.pl),(sg.2.2.2.2.2.2.2.2.2.2.2.2.2.2.2.2.2.2.2.2.2.2.1.l.map cI.pl),sg.2.2.2.2.2.2.2.2.2.2.2.2.2.2.2.2.2.2.2.2.2.2.2.1.l,sg.2.2.2.2.2.2.2.2.2.2.2.2.2.2.2.2.2.2.2.2.2.2.2.2.1.l,sg.2.2.2.2.2.2.2.2.2.2.2.2.2.2.2.2.2.2.2.2.2.2.2.2.2)) (fun sg=>[(0,ptr bG 0),(1,.func (.func 204) #[] #[ptr cB 0,ptr cC 0]),(4,i64 fU),(5,i64 sg.1)]) (fun sg=>(sg.2.1.ok.and (sg.2.2.2.1.ok.and (sg.2.2.2.2.2.1.ok.and (sg.2.2.2.2.2.2.1.ok.and (sg.2.2.2.2.2.2.2.1.ok.and (sg.2.2.2.2.2.2.2.2.2.2.2.2.2.1.ok.and (sg.2.2.2.2.2.2.2.2.2.2.2.2.2.2.1.ok.and (sg.2.2.2.2.2.2.2.2.2.2.2.2.2.2.2.2.2.2.2.1.ok.and (sg.2.2.2.2.2.2.2.2.2.2.2.2.2.2.2.2.2.2.2.2.1.ok.and (sg.2.2.2.2.2.2.2.2.2.2.2.2.2.2.2.2.2.2.2.2.2.1.ok.and ((xW sg.2.2.2.2.2.2.2.2.2.2.2.2.2.2.2.2.2.2.2.2.2.2.1.l).and (sg.2.2.2.2.2.2.2.2.2.2.2.2.2.2.2.2.2.2.2.2.2.2.2.1.ok.and sg.2.2.2.2.2.2.2.2.2.2.2.2.2.2.2.2.2.2.2.2.2.2.2.2.1.ok))))))))))))) (fun sg=>Ow.star (bD aE [sg.2.1.val,i64 sg.2.2.1,sg.2.2.2.1.val] 127) (Ow.star (bD bG [ptr aE 0,.bool sg.2.2.2.2.1] 214) (Ow.star (bD cB [sg.2.2.2.2.2.1.val,sg.2.2.2.2.2.2.1.val,sg.2.2.2.2.2.2.2.1.val,str sg.2.2.2.2.2.2.2.2.1,i64 sg.2.2.2.2.2.2.2.2.2.1,str sg.2.2.2.2.2.2.2.2.2.2.1,i64 sg.2.2.2.2.2.2.2.2.2.2.2.1,str sg.2.2.2.2.2.2.2.2.2.2.2.2.1,sg.2.2.2.2.2.2.2.2.2.2.2.2.2.1.val,sg.2.2.2.2.2.2.2.2.2.2.2.2.2.2.1.val,i64 sg.2.2.2.2.2.2.2.2.2.2.2.2.2.2.2.1,str sg.2.2.2.2.2.2.2.2.2.2.2.2.2.2.2.2.1,str sg.2.2.2.2.2.2.2.2.2.2.2.2.2.2.2.2.2.1,i64 sg.2.2.2.2.2.2.2.2.2.2.2.2.2.2.2.2.2.2.1,sg.2.2.2.2.2.2.2.2.2.2.2.2.2.2.2.2.2.2.2.1.val,sg.2.2.2.2.2.2.2.2.2.2.2.2.2.2.2.2.2.2.2.2.1.val,sg.2.2.2.2.2.2.2.2.2.2.2.2.2.2.2.2.2.2.2.2.2.1.val,sg.2.2.2.2.2.2.2.2.2.2.2.2.2.2.2.2.2.2.2.2.2.2.1.val,sg.2.2.2.2.2.2.2.2.2.2.2.2.2.2.2.2.2.2.2.2.2.2.2.1.val,sg.2.2.2.2.2.2.2.2.2.2.2.2.2.2.2.2.2.2.2.2.2.2.2.2.1.val,i64 sg.2.2.2.2.2.2.2.2.2.2.2.2.2.2.2.2.2.2.2.2.2.2.2.2.2] 66) (Ow.star (bD cC [ptr bG 0] 212) (Ow.star (Sv.own sg.2.2.2.2.2.2.2.2.2.2.2.2.2.2.2.2.2.2.2.2.2.2.1 73) (Ow.emp)))))) (0,eM.b,eM.at_,eM.err,eX,bF.bH,bF.aX,bF.bQ,bF.aQ,bF.aG,bF.bK,bF.bI,bF.bP,bF.aN,bF.aR,bF.bO,bF.aZ,bF.aL,bF.aM,bF.aO,bF.aS,bF.bC,bF.bE,bF.bT,bF.bJ,bF.time) [0,1,4,5] hS rfl ?_
 clear hS
 rintro ⟨jR,fA,gQ,gR,aFB,O2,GW,ZV,ZX,ZZ,Z1,Z3,Z5,Z7,Z9,QS,QU,QW,QY,Q0,Q3,Q5,Q6,Q7,Q8,Q9⟩ m1 y1 hS hK1
 refine Zq (Zq (Zr ?_))
 refine Zy ?_
 refine Zu (c4 rfl rfl) ?_
 refine Zm ?_
 refine pL 25 hS (fun h25 hS => ?_) (fun h25 hS => ?_)
 ·
  refine Zg ?_
  refine Zh (aD rfl) ?_
  refine Zh (aB cQ rfl) ?_
  refine Zh (aJ c5 rfl rfl) ?_
  refine VL.guard rfl rfl ?_
  obtain ⟨aRE,aU4,hS⟩:=aK hS
  refine VL.bS (jF aE (⟨fA,gQ,gR⟩:cH) aU4) rfl (by decide) ?_
  rintro aTB rfl
  try dsimp only
  refine Zh (FU Tryz.underlying26 rfl) ?_
  refine Zy ?_
  refine VC.keep (ρ':=[(0,ptr bG 0),(1,.func (.func 204) #[] #[ptr cB 0,ptr cC 0]),(4,i64 fU),(5,i64 jR),(32,.bool (decide (aTB.pl.isNil=true)))]) [0,1,4,5,32] rfl ?_
  refine Zc hS (fun h32 hS => ?_) (fun h32 hS => ?_)
  ·
   refine Zk ?_
   refine Zq (Zb (Zr ?_))
   refine Zm ?_
   obtain ⟨nY,aUf,hS⟩:=aK hS
   refine VL.MR (vs:=[]) (caps:=[ptr cB 0,ptr cC 0]) (ON cB (⟨O2,GW,ZV,ZX,ZZ,Z1,Z3,Z5,Z7,Z9,QS,QU,QW,QY,Q0,Q3,Q5,Q6,Q7,Q8,Q9⟩:cF) cC bG (⟨aFB⟩:aU) aE (⟨fA,gQ,gR⟩:cH) aUf) rfl rfl (by decide) ?_
   rintro ⟨l8,aDU,aTI⟩ rfl
   try dsimp only
   refine Zl ?_
   refine Zr ?_
   refine Zm ?_
   obtain ⟨b34,hS⟩:=bU hS
   refine Zu (cR rfl rfl b34) ?_
   refine Za ?_
   refine VL.iP ((jR+1),aDU.b,aDU.at_,aDU.err,aTI.bad,l8.bH,l8.aX,l8.bQ,l8.aQ,l8.aG,l8.bK,l8.bI,l8.bP,l8.aN,l8.aR,l8.bO,l8.aZ,l8.aL,l8.aM,l8.aO,l8.aS,l8.bC,l8.bE,l8.bT,l8.bJ,l8.time) [0,1,4,5] (fun _ _ h=>h) (go2 hS hK1) rfl
  replace hS:=gA hS hK1
  cases hS
  exact VC.exit (q8 (.inl rfl) rfl (⟨fA,gQ,gR⟩,⟨aFB⟩,⟨O2,GW,ZV,ZX,ZZ,Z1,Z3,Z5,Z7,Z9,QS,QU,QW,QY,Q0,Q3,Q5,Q6,Q7,Q8,Q9⟩) rfl rfl (by (try dsimp only); exact cA.out) (by (try dsimp only); exact dJ.out))
 refine VL.runs 7 [(32,some false)] (by kernel_rfl) ?_
 refine Zl ?_
 refine VC.BB rfl ?_
 replace hS:=gA hS hK1
 cases hS
 exact VC.exit (q8 (.inl rfl) rfl (⟨fA,gQ,gR⟩,⟨aFB⟩,⟨O2,GW,ZV,ZX,ZZ,Z1,Z3,Z5,Z7,Z9,QS,QU,QW,QY,Q0,Q3,Q5,Q6,Q7,Q8,Q9⟩) rfl rfl (by (try dsimp only); exact cA.out) (by (try dsimp only); exact dJ.out))
theorem yO (aA:Sv cI) {r:List l5} (hS:Sh.nC (aA.l.map cI.pl)=some r) :
 Ct Tryz.prog 207 [aA.val] aA.ok (Ow.emp) (X:=Sv cI) (fun x=>x.val) (fun x=>r=(x.l.map cI.pl)) (fun x=>x.ok) (fun x=>Ow.emp):=by
 refine Zo Tryz.func207 Tryz.ntmps207 fun c => ?_
 unfold Sh.nC at hS
 refine Zq (Zr ?_)
 refine Zy ?_
 refine Zq (Zr ?_)
 refine Zy ?_
 refine Zu (oN cI.pl (s:=aA) Tryz.underlying61 rfl) ?_
 refine Zm ?_
 refine Zu (oN cI.pl (s:=aA) Tryz.underlying61 rfl) ?_
 obtain ⟨b8,hS⟩:=bU hS
 refine VL.WX Tryz.underlying61 aAO rfl rfl rfl b8.1 (aNw b8.2) (by decide) fun CX vL => ?_
 replace hS:=bV ((congrArg (List.map cI.pl) vL).trans List.map_take) hS
 refine Zy ?_
 cases hS
 exact VC.ret (eB (.inr rfl) rfl rfl CX rfl rfl (by (try dsimp only); exact cA.out) (fun _ _=>trivial))
theorem OP (lG:Nat) (cX:Sv bB) (iB:Nat) (cO:Nat) (a_1_:aU) (bW:Nat) (cV:cH) {r:List bB×bL} (hS:Sh.zG cX.l a_1_ cV.pl=some r) :
 Ct Tryz.prog 283 [ptr lG 0,ptr iB 0] (cV.b.ok.and cV.err.ok) (Ow.star (Sv.own cX 9) (Ow.star (bD lG [cX.val] 62) (Ow.star (bD bW [cV.b.val,i64 cV.at_,cV.err.val] 127) (Ow.star (bD cO [ptr bW 0,.bool a_1_.bad] 214) (bD iB [ptr cO 0] 212))))) (X:=Sv bB×cH) (fun x => .tuple #[]) (fun x=>r=(x.1.l,x.2.pl)) (fun x=>(x.2.b.ok.and x.2.err.ok)) (fun x=>Ow.star (bD lG [x.1.val] 62) (Ow.star (Sv.own x.1 9) (Ow.star (bD bW [x.2.b.val,i64 x.2.at_,x.2.err.val] 127) (Ow.star (bD cO [ptr bW 0,.bool a_1_.bad] 214) (bD iB [ptr cO 0] 212))))):=by
 refine Zo Tryz.func283 Tryz.ntmps283 fun c => ?_
 unfold Sh.zG at hS
 refine VC.draw [(0,true),(1,true),(2,true),(3,true),(4,true),(5,false),(6,false),(7,false),(8,false)] mixed (by kernel_rfl) (by kernel_rfl) (by kernel_rfl) ?_
 refine Zw rfl (aJ x6 rfl rfl) ?_
 refine Zw rfl (aJ c7 rfl rfl) ?_
 refine Zw rfl (aD rfl) ?_
 refine Zw rfl (aB cQ rfl) ?_
 refine Zw rfl (aJ c5 rfl rfl) ?_
 refine VD.one rfl ?_
 obtain ⟨iD,kL,hS⟩:=aK hS
 refine VL.bS (fQ bW cV kL) rfl (by decide) ?_
 rintro ⟨lZ,BP⟩ rfl
 try dsimp only
 refine VL.back (D':=[(0,cX.val)]) (by kernel_rfl) (aF.cons rfl (aJ x6 rfl rfl) (aF.nil)) ?_
 refine VD.one rfl ?_
 refine VL.lit (α:=bB) (xs:=[.tmp 7]) (vs:=[str lZ]) [lZ] Tryz.underlying62 x4 (by decide) rfl rfl rfl rfl (by decide) (fun _ _ _ _=>trivial) (by decide) (fun aYf aNs => ?_) (by decide)
 replace hS:=bV aNs hS
 refine VL.back (D':=[(0,cX.val)]) (by kernel_rfl) (aF.cons rfl (aJ x6 rfl rfl) (aF.nil)) ?_
 refine VD.one rfl ?_
 obtain ⟨b9,hS⟩:=bU hS
 refine VL.app (s:=cX) (r:=aYf) Tryz.underlying62 aF8 (by decide) rfl Fo.out (sU b9) (sV b9 (by decide)) (by decide) (fun aMz aNt => ?_)
 replace hS:=bV aNt hS
 refine VL.back (D':=[]) (by kernel_rfl) (aF.nil) ?_
 refine VD.one rfl ?_
 refine Zv (cs':=[aMz.val]) rfl a5H ?_
 refine VL.back (D':=[]) (by kernel_rfl) (aF.nil) ?_
 cases hS
 exact VD.nil (q8 (.inl rfl) rfl (aMz,⟨BP.b,BP.at_,BP.err⟩) rfl rfl (by (try dsimp only); exact cA.out) (by (try dsimp only); exact dJ.out))
theorem OL (bG:Nat) (cJ:aU) (aE:Nat) (aT:cH) (cB:Nat) (bF:Sv bB) (cC:Nat) {r:bL×aU×List bB} (hS:Sh.zC cJ aT.pl bF.l=some r) :
 Ct Tryz.prog 203 [ptr bG 0,.func (.func 283) #[] #[ptr cB 0,ptr cC 0]] (aT.b.ok.and aT.err.ok) (Ow.star (bD aE [aT.b.val,i64 aT.at_,aT.err.val] 127) (Ow.star (bD bG [ptr aE 0,.bool cJ.bad] 214) (Ow.star (Sv.own bF 9) (Ow.star (bD cB [bF.val] 62) (bD cC [ptr bG 0] 212))))) (X:=cH×aU×Sv bB) (fun x => .tuple #[]) (fun x=>r=(x.1.pl,x.2.1,x.2.2.l)) (fun x=>(x.1.b.ok.and x.1.err.ok)) (fun x=>Ow.star (bD aE [x.1.b.val,i64 x.1.at_,x.1.err.val] 127) (Ow.star (bD bG [ptr aE 0,.bool x.2.1.bad] 214) (Ow.star (bD cB [x.2.2.val] 62) (Ow.star (Sv.own x.2.2 9) (bD cC [ptr bG 0] 212))))):=by
 refine Zo Tryz.func203 Tryz.ntmps203 fun c => ?_
 unfold Sh.zC at hS
 refine Zq (Zr ?_)
 refine Zm ?_
 refine Zu (aD rfl) ?_
 refine Zu (aB cQ rfl) ?_
 refine Zu (aJ c5 rfl rfl) ?_
 obtain ⟨c9,nF,hS⟩:=aK hS
 refine VL.bS (dG aE aT nF) rfl (by decide) ?_
 rintro ⟨fU,eM⟩ rfl
 try dsimp only
 refine Zy ?_
 refine VC.gK (S:=Bool) (fun (eX:Bool)=>eX) (fun (eX:Bool)=>[(0,ptr bG 0),(1,.func (.func 283) #[] #[ptr cB 0,ptr cC 0]),(4,i64 fU)]) (fun (eX:Bool)=>Mo.tt) (fun (eX:Bool)=>Ow.star (bD aE [eM.b.val,i64 eM.at_,eM.err.val] 127) (Ow.star (bD bG [ptr aE 0,.bool eX] 214) (Ow.star (bD cB [bF.val] 62) (Ow.star (bD cC [ptr bG 0] 212) (Ow.star (Sv.own bF 9) (Ow.emp)))))) hS ?_ ?_
 ·
  clear hS
  intro k3 hS
  refine Zr ?_
  refine Zy ?_
  refine Zu (aD rfl) ?_
  refine Zu (aB jX rfl) ?_
  refine Zu (aJ o9 rfl rfl) ?_
  refine Zm ?_
  refine vV 16 hS (fun h16 hS => ?_) (fun h16 hS => ?_)
  ·
   refine VL.runs 3 [(19,some true)] (by kernel_rfl) ?_
   refine Zu (aD rfl) ?_
   refine Zu (aB jX rfl) ?_
   refine Zv (cs':=[ptr aE 0,.bool true]) rfl rJ ?_
   refine VL.mt true [0,1,4] (fun _ _ h=>h) hS rfl
  refine Zg ?_
  refine Zh (c4 rfl rfl) ?_
  refine Zf ?_
  refine Zu (aD rfl) ?_
  refine Zu (aB jX rfl) ?_
  refine Zv (cs':=[ptr aE 0,.bool (decide (fU < 0))]) rfl rJ ?_
  refine VL.mt (decide (fU < 0)) [0,1,4] (fun _ _ h=>h) hS rfl
 clear hS
 rintro eX hS
 refine Zq (Zr ?_)
 refine Zy ?_
 refine Zb ?_
 refine VC.iter (S:=Int×Sv UInt8×Int×Er×Sv bB) (fun sg=>(sg.1,sg.2.1.l,sg.2.2.1,sg.2.2.2.1.pl,sg.2.2.2.2.l)) (fun sg=>[(0,ptr bG 0),(1,.func (.func 283) #[] #[ptr cB 0,ptr cC 0]),(4,i64 fU),(5,i64 sg.1)]) (fun sg=>(sg.2.1.ok.and sg.2.2.2.1.ok)) (fun sg=>Ow.star (bD aE [sg.2.1.val,i64 sg.2.2.1,sg.2.2.2.1.val] 127) (Ow.star (bD bG [ptr aE 0,.bool eX] 214) (Ow.star (bD cB [sg.2.2.2.2.val] 62) (Ow.star (bD cC [ptr bG 0] 212) (Ow.star (Sv.own sg.2.2.2.2 9) (Ow.emp)))))) (0,eM.b,eM.at_,eM.err,bF) [0,1,4,5] hS rfl ?_
 clear hS
 rintro ⟨jR,fA,gQ,gR,dM⟩ m1 y1 hS hK1
 refine Zq (Zq (Zr ?_))
 refine Zy ?_
 refine Zu (c4 rfl rfl) ?_
 refine Zm ?_
 refine pL 25 hS (fun h25 hS => ?_) (fun h25 hS => ?_)
 ·
  refine Zg ?_
  refine Zh (aD rfl) ?_
  refine Zh (aB cQ rfl) ?_
  refine Zh (aJ c5 rfl rfl) ?_
  refine VL.guard rfl rfl ?_
  obtain ⟨s5,xY,hS⟩:=aK hS
  refine VL.bS (jF aE (⟨fA,gQ,gR⟩:cH) xY) rfl (by decide) ?_
  rintro nO rfl
  try dsimp only
  refine Zh (FU Tryz.underlying26 rfl) ?_
  refine Zy ?_
  refine VC.keep (ρ':=[(0,ptr bG 0),(1,.func (.func 283) #[] #[ptr cB 0,ptr cC 0]),(4,i64 fU),(5,i64 jR),(32,.bool (decide (nO.pl.isNil=true)))]) [0,1,4,5,32] rfl ?_
  refine Zc hS (fun h32 hS => ?_) (fun h32 hS => ?_)
  ·
   refine Zk ?_
   refine Zq (Zb (Zr ?_))
   refine Zm ?_
   obtain ⟨mN,EZ,hS⟩:=aK hS
   refine VL.MR (vs:=[]) (caps:=[ptr cB 0,ptr cC 0]) (OP cB dM cC bG (⟨eX⟩:aU) aE (⟨fA,gQ,gR⟩:cH) EZ) rfl rfl (by decide) ?_
   rintro ⟨BO,nJ⟩ rfl
   try dsimp only
   refine Zl ?_
   refine Zr ?_
   refine Zm ?_
   obtain ⟨b34,hS⟩:=bU hS
   refine Zu (cR rfl rfl b34) ?_
   refine Za ?_
   refine VL.iP ((jR+1),nJ.b,nJ.at_,nJ.err,BO) [0,1,4,5] (fun _ _ h=>h) (go2 hS hK1) rfl
  replace hS:=gA hS hK1
  cases hS
  exact VC.exit (q8 (.inl rfl) rfl (⟨fA,gQ,gR⟩,⟨eX⟩,dM) rfl rfl (by (try dsimp only); exact cA.out) (by (try dsimp only); exact dJ.out))
 refine VL.runs 7 [(32,some false)] (by kernel_rfl) ?_
 refine Zl ?_
 refine VC.BB rfl ?_
 replace hS:=gA hS hK1
 cases hS
 exact VC.exit (q8 (.inl rfl) rfl (⟨fA,gQ,gR⟩,⟨eX⟩,dM) rfl rfl (by (try dsimp only); exact cA.out) (by (try dsimp only); exact dJ.out))
theorem jO (aA:Sv bB) {r:List bB} (hS:Sh.iI aA.l=some r) :
 Ct Tryz.prog 173 [aA.val] aA.ok (Ow.emp) (X:=Sv bB) (fun x=>x.val) (fun x=>r=x.l) (fun x=>x.ok) (fun x=>Ow.emp):=by
 refine Zo Tryz.func173 Tryz.ntmps173 fun c => ?_
 unfold Sh.iI at hS
 refine Zq (Zr ?_)
 refine Zy ?_
 refine Zq (Zr ?_)
 refine Zy ?_
 refine Zu (dX (s:=aA) Tryz.underlying62 rfl) ?_
 refine Zm ?_
 refine Zu (dX (s:=aA) Tryz.underlying62 rfl) ?_
 obtain ⟨b8,hS⟩:=bU hS
 refine VL.WX Tryz.underlying62 vA rfl rfl rfl b8.1 (b8.2) (by decide) fun CX vL => ?_
 replace hS:=bV vL hS
 refine Zy ?_
 cases hS
 exact VC.ret (eB (.inr rfl) rfl rfl CX rfl rfl (by (try dsimp only); exact cA.out) (fun _ _=>trivial))
theorem F2 (bG:Nat) (cJ:aU) (aE:Nat) (aT:cH) {r:List bB×bL×aU} (hS:Sh.wA cJ aT.pl=some r) :
 Ct Tryz.prog 208 [ptr bG 0] (aT.b.ok.and aT.err.ok) (Ow.star (bD aE [aT.b.val,i64 aT.at_,aT.err.val] 127) (bD bG [ptr aE 0,.bool cJ.bad] 214)) (X:=Sv bB×cH×aU) (fun x=>x.1.val) (fun x=>r=(x.1.l,x.2.1.pl,x.2.2)) (fun x=>(x.1.ok.and (x.2.1.b.ok.and x.2.1.err.ok))) (fun x=>Ow.star (bD aE [x.2.1.b.val,i64 x.2.1.at_,x.2.1.err.val] 127) (bD bG [ptr aE 0,.bool x.2.2.bad] 214)):=by
 refine Zo Tryz.func208 Tryz.ntmps208 fun c => ?_
 unfold Sh.wA at hS
 refine Zq (Zr ?_)
 refine VL.box (cs:=[ptr bG 0]) rfl rfl (by decide) fun fE => ?_
 refine Zy ?_
 refine Zq (Zr ?_)
 refine VL.alloc (cs:=[.slice none 0 0]) (by kernel_rfl) (by decide) fun jQ => ?_
 refine Zl ?_
 refine Zq (Zr ?_)
 refine Zu (aJ c7 rfl rfl) ?_
 refine Zu (sE rfl) ?_
 refine VL.kH (⟨none,0,[]⟩:Sv bB) 9 ⟨rfl,rfl⟩ ?_
 refine VL.SD jQ (cs':=[(⟨none,0,[]⟩:Sv bB).val]) rfl ?_
 obtain ⟨mT,K3,hS⟩:=aK hS
 refine VL.bS (OL bG cJ aE aT jQ (⟨none,0,[]⟩:Sv bB) fE K3) rfl (by decide) ?_
 rintro ⟨sX,JX,zS⟩ rfl
 try dsimp only
 refine Zl ?_
 refine Zq (Zr ?_)
 refine Zu (aJ x6 rfl rfl) ?_
 refine VL.shut zS 9 (fun _ _ _ _=>trivial) ?_
 obtain ⟨GV,K4,hS⟩:=aK hS
 refine VL.cU (jO zS K4) rfl (by decide) ?_
 rintro zT rfl
 try dsimp only
 refine Zy ?_
 cases hS
 exact VC.ret (eB (.inr rfl) rfl rfl (zT,⟨sX.b,sX.at_,sX.err⟩,⟨JX.bad⟩) rfl rfl (by (try dsimp only); exact cA.out) (by (try dsimp only); exact dJ.out))
theorem SV (bG:Nat) (cJ:aU) (aE:Nat) (aT:cH) {r:bR×bL×aU} (hS:Sh.B9 cJ aT.pl=some r) :
 Ct Tryz.prog 140 [ptr bG 0] (aT.b.ok.and aT.err.ok) (Ow.star (bD aE [aT.b.val,i64 aT.at_,aT.err.val] 127) (bD bG [ptr aE 0,.bool cJ.bad] 214)) (X:=cF×cH×aU) (fun x => .agg (bM.enc x.1).toArray) (fun x=>r=(x.1.pl,x.2.1.pl,x.2.2)) (fun x=>(x.1.m.and (x.2.1.b.ok.and x.2.1.err.ok))) (fun x=>Ow.star (bD aE [x.2.1.b.val,i64 x.2.1.at_,x.2.1.err.val] 127) (bD bG [ptr aE 0,.bool x.2.2.bad] 214)):=by
 refine Zo Tryz.func140 Tryz.ntmps140 fun c => ?_
 unfold Sh.B9 at hS
 refine Zq (Zr ?_)
 refine VL.box (cs:=[ptr bG 0]) rfl rfl (by decide) fun fE => ?_
 refine VL.alloc (cs:=[.slice none 0 0,.slice none 0 0,.slice none 0 0,str [],i64 0,str [],i64 0,str [],.slice none 0 0,.slice none 0 0,i64 0,str [],str [],i64 0,.slice none 0 0,.slice none 0 0,.slice none 0 0,.slice none 0 0,.slice none 0 0,.slice none 0 0,i64 0]) (by kernel_rfl) (by decide) fun EF => ?_
 refine Zl ?_
 refine Zq (Zr ?_)
 refine Zu (aJ c7 rfl rfl) ?_
 obtain ⟨tY,UR,hS⟩:=aK hS
 refine VL.bS (WV bG cJ aE aT UR) rfl (by decide) ?_
 rintro ⟨eT,a2H,a2I⟩ rfl
 try dsimp only
 refine Zu (eN (vs:=[(0,.agg (mK eT).toArray)]) (cs := #[eT.work.val,eT.index.val,eT.refs.val,str eT.dA,i64 eT.dB,str eT.l9,i64 eT.j9,str eT.mB,eT.gO.val,eT.iE.val,i64 eT.mA,str eT.jC,str eT.fG,i64 eT.fH,eT.gP.val,eT.iF.val,eT.fK.val,.slice none 0 0,.slice none 0 0,.slice none 0 0,i64 0]) rfl (by kernel_rfl)) ?_
 refine VL.alloc (cs:=[.slice none 0 0,.slice none 0 0,.slice none 0 0,str [],i64 0,str [],i64 0,str [],.slice none 0 0,.slice none 0 0,i64 0,str [],str [],i64 0,.slice none 0 0,.slice none 0 0,.slice none 0 0,.slice none 0 0,.slice none 0 0,.slice none 0 0,i64 0]) (by kernel_rfl) (by decide) fun aOn => ?_
 refine Zv (cs':=[eT.work.val,eT.index.val,eT.refs.val,str eT.dA,i64 eT.dB,str eT.l9,i64 eT.j9,str eT.mB,eT.gO.val,eT.iE.val,i64 eT.mA,str eT.jC,str eT.fG,i64 eT.fH,eT.gP.val,eT.iF.val,eT.fK.val,.slice none 0 0,.slice none 0 0,.slice none 0 0,i64 0]) rfl gG ?_
 refine Zl ?_
 refine Zq (Zr ?_)
 refine Zu (aJ c7 rfl rfl) ?_
 refine Zu (sE rfl) ?_
 refine VL.kH (⟨none,0,[]⟩:Sv cI) 73 ⟨rfl,rfl⟩ ?_
 refine VL.RZ (s:=(⟨none,0,[]⟩:Sv cI)) rfl ?_
 refine VL.SD aOn (cs':=[eT.work.val,eT.index.val,eT.refs.val,str eT.dA,i64 eT.dB,str eT.l9,i64 eT.j9,str eT.mB,eT.gO.val,eT.iE.val,i64 eT.mA,str eT.jC,str eT.fG,i64 eT.fH,eT.gP.val,eT.iF.val,eT.fK.val,(⟨none,0,[]⟩:Sv cI).val,(⟨none,0,[]⟩:Sv bB).val,(⟨none,0,[]⟩:Sv bB).val,i64 0]) rfl ?_
 obtain ⟨yQ,a4x,hS⟩:=aK hS
 refine VL.bS (OJ bG a2I aE a2H aOn (⟨eT.work,eT.index,eT.refs,eT.dA,eT.dB,eT.l9,eT.j9,eT.mB,eT.gO,eT.iE,eT.mA,eT.jC,eT.fG,eT.fH,eT.gP,eT.iF,eT.fK,(⟨none,0,[]⟩:Sv cI),(⟨none,0,[]⟩:Sv bB),(⟨none,0,[]⟩:Sv bB),0⟩:cF) fE a4x) rfl (by decide) ?_
 rintro ⟨a2M,a2N,cW⟩ rfl
 try dsimp only
 refine Zl ?_
 refine Zq (Zr ?_)
 refine Zu (aB nA rfl) ?_
 refine Zu (aJ sW rfl rfl) ?_
 refine VL.shut cW.bE 73 (fun h m=>cA.out (X:=xW cW.bE.l) h m) ?_
 obtain ⟨aZB,aZv,hS⟩:=aK hS
 refine VL.cU (yO cW.bE aZv) rfl (by decide) ?_
 rintro PV rfl
 try dsimp only
 refine Zu (aB nA rfl) ?_
 refine Zv (cs':=[cW.bH.val,cW.aX.val,cW.bQ.val,str cW.aQ,i64 cW.aG,str cW.bK,i64 cW.bI,str cW.bP,cW.aN.val,cW.aR.val,i64 cW.bO,str cW.aZ,str cW.aL,i64 cW.aM,cW.aO.val,cW.aS.val,cW.bC.val,PV.val,cW.bT.val,cW.bJ.val,i64 cW.time]) rfl aJc ?_
 refine Zl ?_
 refine VC.keep (ρ':=[(1,ptr fE 0),(2,ptr EF 0),(3,ptr aOn 0)]) [1,2,3] rfl ?_
 refine Zq ?_
 refine VC.draw [(0,true),(2,true),(1,false),(3,false),(4,true),(5,true),(6,false)] mixed (by kernel_rfl) (by kernel_rfl) (by kernel_rfl) ?_
 refine Zw rfl (aJ c7 rfl rfl) ?_
 refine Zw rfl (aJ c7 rfl rfl) ?_
 refine VD.one rfl ?_
 obtain ⟨oG,RE,hS⟩:=aK hS
 refine VL.bS (F2 bG a2N aE a2M RE) rfl (by decide) ?_
 rintro ⟨aP,LV,LW⟩ rfl
 try dsimp only
 refine VL.back (D':=[(2,ptr bG 0)]) (by kernel_rfl) (aF.cons rfl (aJ c7 rfl rfl) (aF.nil)) ?_
 refine VD.one rfl ?_
 obtain ⟨aAg,aJM,hS⟩:=aK hS
 refine VL.bS (F2 bG LW aE LV aJM) rfl (by decide) ?_
 rintro ⟨CR,aYB,aYC⟩ rfl
 try dsimp only
 refine VL.back (D':=[]) (by kernel_rfl) (aF.nil) ?_
 refine Zw rfl (eN (vs:=[(0,aP.val),(1,CR.val)]) (cs := #[aP.val,CR.val]) rfl (by kernel_rfl)) ?_
 refine Zw rfl (aB UZ rfl) ?_
 refine VD.one rfl ?_
 refine Zv (cs':=[cW.bH.val,cW.aX.val,cW.bQ.val,str cW.aQ,i64 cW.aG,str cW.bK,i64 cW.bI,str cW.bP,cW.aN.val,cW.aR.val,i64 cW.bO,str cW.aZ,str cW.aL,i64 cW.aM,cW.aO.val,cW.aS.val,cW.bC.val,PV.val,aP.val,CR.val,i64 cW.time]) rfl aNq ?_
 refine VL.back (D':=[]) (by kernel_rfl) (aF.nil) ?_
 refine VD.to (fun _ _ h=>h) ?_
 refine Zq (Zr ?_)
 refine Zu (aJ c7 rfl rfl) ?_
 refine Zu (aD rfl) ?_
 refine Zu (aB cQ rfl) ?_
 refine Zu (aJ c5 rfl rfl) ?_
 obtain ⟨rR,aBL,hS⟩:=aK hS
 refine VL.bS (dG aE aYB aBL) rfl (by decide) ?_
 rintro ⟨PX,aG6⟩ rfl
 try dsimp only
 refine Zu (aB aBV rfl) ?_
 refine Zv (cs':=[cW.bH.val,cW.aX.val,cW.bQ.val,str cW.aQ,i64 cW.aG,str cW.bK,i64 cW.bI,str cW.bP,cW.aN.val,cW.aR.val,i64 cW.bO,str cW.aZ,str cW.aL,i64 cW.aM,cW.aO.val,cW.aS.val,cW.bC.val,PV.val,aP.val,CR.val,i64 PX]) rfl u9 ?_
 refine Zl ?_
 refine VC.keep (ρ':=[(2,ptr EF 0),(3,ptr aOn 0)]) [2,3] rfl ?_
 refine Zq (Zr ?_)
 refine Zu (cD cL rfl rfl) ?_
 refine Zv (cs':=[cW.bH.val,cW.aX.val,cW.bQ.val,str cW.aQ,i64 cW.aG,str cW.bK,i64 cW.bI,str cW.bP,cW.aN.val,cW.aR.val,i64 cW.bO,str cW.aZ,str cW.aL,i64 cW.aM,cW.aO.val,cW.aS.val,cW.bC.val,PV.val,aP.val,CR.val,i64 PX]) rfl gG ?_
 refine Zl ?_
 cases hS
 exact VC.ret (hG (vs:=[.agg #[cW.bH.val,cW.aX.val,cW.bQ.val,str cW.aQ,i64 cW.aG,str cW.bK,i64 cW.bI,str cW.bP,cW.aN.val,cW.aR.val,i64 cW.bO,str cW.aZ,str cW.aL,i64 cW.aM,cW.aO.val,cW.aS.val,cW.bC.val,PV.val,aP.val,CR.val,i64 PX]]) (.inr rfl) rfl (dS.cell cL rfl rfl Rd.blk (dS.nil)) (⟨cW.bH,cW.aX,cW.bQ,cW.aQ,cW.aG,cW.bK,cW.bI,cW.bP,cW.aN,cW.aR,cW.bO,cW.aZ,cW.aL,cW.aM,cW.aO,cW.aS,cW.bC,PV,aP,CR,PX⟩,⟨aG6.b,aG6.at_,aG6.err⟩,⟨aYC.bad⟩) rfl rfl (by (try dsimp only); exact cA.out) (by (try dsimp only); exact dJ.out))
end Go.Proofs.YtcenmlklkpgmnabGreatDoor
end
