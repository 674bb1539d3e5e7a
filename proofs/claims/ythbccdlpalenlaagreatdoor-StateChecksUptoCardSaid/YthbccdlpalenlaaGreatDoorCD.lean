/- Part of the proofs of: the law StateChecks (second form: where what is read is of bulk at most 1048576) -/
import Derived.Test.YthbccdlpalenlaaGreatDoorCC
set_option linter.unusedVariables false
set_option linter.unusedSimpArgs false
set_option linter.unusedSectionVars false
section
set_option linter.unusedVariables false
namespace Go.Proofs.YthbccdlpalenlaaGreatDoor
set_option maxHeartbeats 4000000
set_option maxRecDepth 100000
set_option synthInstance.maxSize 2000
set_option synthInstance.maxHeartbeats 1000000
open Go.RowKit Go.V
open Go.S hiding bN
theorem MU (mU:Nat) (bM:eK) (j7:Nat) (dF:Nat) (a_1_:bH) (cK:Nat) (dS:dO) {r:dN×cE×bH} (hS:Sh.rG bM.pl a_1_ dS.pl=some r) :
 Ct Tryz.prog 146 [ptr mU 0,ptr j7 0] (bM.work.ok.and (bM.index.ok.and (bM.aN.ok.and (bM.aT.ok.and (bM.aO.ok.and (bM.aU.ok.and ((wL bM.bJ.l).and (dS.b.ok.and dS.err.ok)))))))) (Ow.star (Sv.own bM.refs 216) (Ow.star (Sv.own bM.bJ 155) (Ow.star (bT mU [bM.work.val,bM.index.val,bM.refs.val,str bM.aG,i64 bM.aH,str bM.aW,i64 bM.aS,str bM.aV,bM.aN.val,bM.aT.val,i64 bM.aY,str bM.aM,str bM.aC,i64 bM.aE,bM.aO.val,bM.aU.val,bM.bJ.val] 61) (Ow.star (bT cK [dS.b.val,i64 dS.at_,dS.err.val] 233) (Ow.star (bT dF [ptr cK 0,.bool a_1_.bad] 161) (bT j7 [ptr dF 0] 159)))))) (X:=eK×dO×bH) (fun x => .tuple #[]) (fun x=>r=(x.1.pl,x.2.1.pl,x.2.2)) (fun x=>(x.1.work.ok.and (x.1.index.ok.and (x.1.aN.ok.and (x.1.aT.ok.and (x.1.aO.ok.and (x.1.aU.ok.and ((wL x.1.bJ.l).and (x.2.1.b.ok.and x.2.1.err.ok))))))))) (fun x=>Ow.star (bT mU [x.1.work.val,x.1.index.val,x.1.refs.val,str x.1.aG,i64 x.1.aH,str x.1.aW,i64 x.1.aS,str x.1.aV,x.1.aN.val,x.1.aT.val,i64 x.1.aY,str x.1.aM,str x.1.aC,i64 x.1.aE,x.1.aO.val,x.1.aU.val,x.1.bJ.val] 61) (Ow.star (Sv.own x.1.refs 216) (Ow.star (Sv.own x.1.bJ 155) (Ow.star (bT cK [x.2.1.b.val,i64 x.2.1.at_,x.2.1.err.val] 233) (Ow.star (bT dF [ptr cK 0,.bool x.2.2.bad] 161) (bT j7 [ptr dF 0] 159)))))):=by
 refine Zo Tryz.func146 Tryz.ntmps146 fun c => ?_
 unfold Sh.rG at hS
 refine VC.draw [(0,true),(1,true),(2,true),(3,true),(4,true),(5,true),(7,true),(9,true),(11,true),(12,true),(13,true),(14,true),(6,false),(8,false),(10,false),(15,false),(16,true),(17,false),(18,false),(19,true),(20,false)] mixed (by kernel_rfl) (by kernel_rfl) (by kernel_rfl) ?_
 refine Zw rfl (aB j8 rfl) ?_
 refine Zw rfl (aI nD rfl rfl) ?_
 refine Zw rfl (aI dY rfl rfl) ?_
 refine Zw rfl (aJ rfl) ?_
 refine Zw rfl (aB dD rfl) ?_
 refine Zw rfl (aI dR rfl rfl) ?_
 refine Zw rfl (aI dY rfl rfl) ?_
 refine Zw rfl (aI dY rfl rfl) ?_
 refine Zw rfl (aI dY rfl rfl) ?_
 refine Zw rfl (aJ rfl) ?_
 refine Zw rfl (aB dD rfl) ?_
 refine Zw rfl (aI dR rfl rfl) ?_
 refine VD.one rfl ?_
 obtain ⟨FN,L9,hS⟩:=bF hS
 refine VL.cT (fM cK dS L9) rfl (by decide) ?_
 rintro ⟨D4,aFa⟩ rfl
 try dsimp only
 refine VL.back (D':=[(14,ptr cK 0),(13,ptr dF 0),(12,ptr dF 0),(11,ptr dF 0),(9,ptr dF 0),(7,ptr dF 0),(1,bM.bJ.val),(0,ptr mU 16)]) (by kernel_rfl) (aF.cons rfl (aI dR rfl rfl) (aF.cons rfl (aB dD rfl) (aF.cons rfl (aJ rfl) (aF.cons rfl (aI dY rfl rfl) (aF.cons rfl (aI dY rfl rfl) (aF.cons rfl (aI dY rfl rfl) (aF.cons rfl (aI nD rfl rfl) (aF.cons rfl (aB j8 rfl) (aF.nil))))))))) ?_
 refine VD.one rfl ?_
 obtain ⟨zJ,TQ,hS⟩:=bF hS
 refine VL.cT (qN dF a_1_ cK aFa TQ) rfl (by decide) ?_
 rintro ⟨OS,aTT,aTU⟩ rfl
 try dsimp only
 refine VL.back (D':=[(14,ptr cK 0),(13,ptr dF 0),(12,ptr dF 0),(11,ptr dF 0),(9,ptr dF 0),(1,bM.bJ.val),(0,ptr mU 16)]) (by kernel_rfl) (aF.cons rfl (aI dR rfl rfl) (aF.cons rfl (aB dD rfl) (aF.cons rfl (aJ rfl) (aF.cons rfl (aI dY rfl rfl) (aF.cons rfl (aI dY rfl rfl) (aF.cons rfl (aI nD rfl rfl) (aF.cons rfl (aB j8 rfl) (aF.nil)))))))) ?_
 refine VD.one rfl ?_
 obtain ⟨sU,BE,hS⟩:=bF hS
 refine VL.cT (qN dF aTU cK aTT BE) rfl (by decide) ?_
 rintro ⟨lY,HG,aTX⟩ rfl
 try dsimp only
 refine VL.back (D':=[(14,ptr cK 0),(13,ptr dF 0),(12,ptr dF 0),(11,ptr dF 0),(1,bM.bJ.val),(0,ptr mU 16)]) (by kernel_rfl) (aF.cons rfl (aI dR rfl rfl) (aF.cons rfl (aB dD rfl) (aF.cons rfl (aJ rfl) (aF.cons rfl (aI dY rfl rfl) (aF.cons rfl (aI nD rfl rfl) (aF.cons rfl (aB j8 rfl) (aF.nil))))))) ?_
 refine VD.one rfl ?_
 obtain ⟨vH,L6,hS⟩:=bF hS
 refine VL.cT (iZ cK HG L6) rfl (by decide) ?_
 rintro ⟨gE,ES⟩ rfl
 try dsimp only
 refine VL.back (D':=[(1,bM.bJ.val),(0,ptr mU 16)]) (by kernel_rfl) (aF.cons rfl (aI nD rfl rfl) (aF.cons rfl (aB j8 rfl) (aF.nil))) ?_
 refine Zw rfl (eO (vs:=[(0,i64 D4),(1,OS.val),(2,lY.val),(3,str gE)]) (cs := #[i64 D4,OS.val,lY.val,str gE]) rfl (by kernel_rfl)) ?_
 refine VD.one rfl ?_
 refine VL.lit (α:=bR) (xs:=[.tmp 18]) (vs:=[.agg #[i64 D4,OS.val,lY.val,str gE]]) [⟨D4,OS,lY,gE⟩] Tryz.underlying59 aRy (by decide) rfl rfl rfl rfl (by decide) (fun h m=>List.forall_mem_cons.2 ⟨dQ.out (X:=(OS.ok.and lY.ok)) h m,fun _ h=>by cases h⟩) (by decide) (fun aKM aFJ => ?_) (by decide)
 replace hS:=dL (congrArg (List.map bR.pl) aFJ) hS
 refine VL.back (D':=[(1,bM.bJ.val),(0,ptr mU 16)]) (by kernel_rfl) (aF.cons rfl (aI nD rfl rfl) (aF.cons rfl (aB j8 rfl) (aF.nil))) ?_
 refine VD.one rfl ?_
 obtain ⟨b20,hS⟩:=bQ hS
 refine VL.app (s:=bM.bJ) (r:=aKM) Tryz.underlying59 aRf (by decide) rfl Fo.out (CW (TH b20)) (CX (TH b20) (by decide)) (by decide) (fun YE UI => ?_)
 replace hS:=dL ((congrArg (List.map bR.pl) UI).trans List.map_append) hS
 refine VL.SU UI ?_
 refine VL.back (D':=[]) (by kernel_rfl) (aF.nil) ?_
 refine Zw rfl (aB j8 rfl) ?_
 refine VD.one rfl ?_
 refine Zv (vc:=[YE.val]) (cs':=[bM.work.val,bM.index.val,bM.refs.val,str bM.aG,i64 bM.aH,str bM.aW,i64 bM.aS,str bM.aV,bM.aN.val,bM.aT.val,i64 bM.aY,str bM.aM,str bM.aC,i64 bM.aE,bM.aO.val,bM.aU.val,YE.val]) rfl aFD ?_
 refine VL.back (D':=[]) (by kernel_rfl) (aF.nil) ?_
 cases hS
 exact VD.nil (pK (.inl rfl) rfl (⟨bM.work,bM.index,bM.refs,bM.aG,bM.aH,bM.aW,bM.aS,bM.aV,bM.aN,bM.aT,bM.aY,bM.aM,bM.aC,bM.aE,bM.aO,bM.aU,YE⟩,⟨ES.b,ES.at_,ES.err⟩,⟨aTX.bad⟩) rfl rfl (by (try dsimp only); exact dQ.out) (by (try dsimp only); exact fL.out))
theorem uA (bY:Nat) (eL:bH) (aP:Nat) (bK:dO) (cW:Nat) (aX:eK) (cX:Nat) {r:cE×bH×dN} (hS:Sh.p5 eL bK.pl aX.pl=some r) :
 Ct Tryz.prog 142 [ptr bY 0,.func (.func 146) #[] #[ptr cW 0,ptr cX 0]] (bK.b.ok.and (bK.err.ok.and (aX.work.ok.and (aX.index.ok.and (aX.aN.ok.and (aX.aT.ok.and (aX.aO.ok.and (aX.aU.ok.and (wL aX.bJ.l))))))))) (Ow.star (bT aP [bK.b.val,i64 bK.at_,bK.err.val] 233) (Ow.star (bT bY [ptr aP 0,.bool eL.bad] 161) (Ow.star (Sv.own aX.refs 216) (Ow.star (Sv.own aX.bJ 155) (Ow.star (bT cW [aX.work.val,aX.index.val,aX.refs.val,str aX.aG,i64 aX.aH,str aX.aW,i64 aX.aS,str aX.aV,aX.aN.val,aX.aT.val,i64 aX.aY,str aX.aM,str aX.aC,i64 aX.aE,aX.aO.val,aX.aU.val,aX.bJ.val] 61) (bT cX [ptr bY 0] 159)))))) (X:=dO×bH×eK) (fun x => .tuple #[]) (fun x=>r=(x.1.pl,x.2.1,x.2.2.pl)) (fun x=>(x.1.b.ok.and (x.1.err.ok.and (x.2.2.work.ok.and (x.2.2.index.ok.and (x.2.2.aN.ok.and (x.2.2.aT.ok.and (x.2.2.aO.ok.and (x.2.2.aU.ok.and (wL x.2.2.bJ.l)))))))))) (fun x=>Ow.star (bT aP [x.1.b.val,i64 x.1.at_,x.1.err.val] 233) (Ow.star (bT bY [ptr aP 0,.bool x.2.1.bad] 161) (Ow.star (bT cW [x.2.2.work.val,x.2.2.index.val,x.2.2.refs.val,str x.2.2.aG,i64 x.2.2.aH,str x.2.2.aW,i64 x.2.2.aS,str x.2.2.aV,x.2.2.aN.val,x.2.2.aT.val,i64 x.2.2.aY,str x.2.2.aM,str x.2.2.aC,i64 x.2.2.aE,x.2.2.aO.val,x.2.2.aU.val,x.2.2.bJ.val] 61) (Ow.star (Sv.own x.2.2.refs 216) (Ow.star (Sv.own x.2.2.bJ 155) (bT cX [ptr bY 0] 159)))))):=by
 refine Zo Tryz.func142 Tryz.ntmps142 fun c => ?_
 unfold Sh.p5 at hS
 refine Zq (Zr ?_)
 refine Zm ?_
 refine Zu (aJ rfl) ?_
 refine Zu (aB dD rfl) ?_
 refine Zu (aI dR rfl rfl) ?_
 obtain ⟨gS,tC,hS⟩:=bF hS
 refine VL.cT (fM aP bK tC) rfl (by decide) ?_
 rintro ⟨eD,fG⟩ rfl
 try dsimp only
 refine Zy ?_
 refine VC.j0 (S:=Bool) (fun (fV:Bool)=>fV) (fun (fV:Bool)=>[(0,ptr bY 0),(1,.func (.func 146) #[] #[ptr cW 0,ptr cX 0]),(4,i64 eD)]) (fun (fV:Bool)=>Mo.tt) (fun (fV:Bool)=>Ow.star (bT aP [fG.b.val,i64 fG.at_,fG.err.val] 233) (Ow.star (bT bY [ptr aP 0,.bool fV] 161) (Ow.star (bT cW [aX.work.val,aX.index.val,aX.refs.val,str aX.aG,i64 aX.aH,str aX.aW,i64 aX.aS,str aX.aV,aX.aN.val,aX.aT.val,i64 aX.aY,str aX.aM,str aX.aC,i64 aX.aE,aX.aO.val,aX.aU.val,aX.bJ.val] 61) (Ow.star (bT cX [ptr bY 0] 159) (Ow.star (Sv.own aX.refs 216) (Ow.star (Sv.own aX.bJ 155) (Ow.emp))))))) hS ?_ ?_
 ·
  clear hS
  intro k3 hS
  refine Zr ?_
  refine Zy ?_
  refine Zu (aJ rfl) ?_
  refine Zu (aB lU rfl) ?_
  refine Zu (aI OD rfl rfl) ?_
  refine Zm ?_
  refine rC 16 hS (fun h16 hS => ?_) (fun h16 hS => ?_)
  ·
   refine VL.runs 3 [(19,some true)] (by kernel_rfl) ?_
   refine Zu (aJ rfl) ?_
   refine Zu (aB lU rfl) ?_
   refine Zv (vc:=[.bool true]) (cs':=[ptr aP 0,.bool true]) rfl IS ?_
   refine VL.mt true [0,1,4] (fun _ _ h=>h) hS rfl
  refine Zg ?_
  refine Zh (dA rfl rfl) ?_
  refine Zf ?_
  refine Zu (aJ rfl) ?_
  refine Zu (aB lU rfl) ?_
  refine Zv (vc:=[.bool (decide (eD < 0))]) (cs':=[ptr aP 0,.bool (decide (eD < 0))]) rfl IS ?_
  refine VL.mt (decide (eD < 0)) [0,1,4] (fun _ _ h=>h) hS rfl
 clear hS
 rintro fV hS
 refine Zq (Zr ?_)
 refine Zy ?_
 refine Zb ?_
 refine VC.iter (S:=Int×Sv UInt8×Int×Er×Bool×Sv aZ×Sv aQ×Sv dI×bN×Int×bN×Int×bN×Sv cA×Sv cA×Int×bN×bN×Int×Sv aQ×Sv aZ×Sv bR) (fun sg=>(sg.1,sg.2.1.l,sg.2.2.1,sg.2.2.2.1.pl,sg.2.2.2.2.1,sg.2.2.2.2.2.1.l,sg.2.2.2.2.2.2.1.l,sg.2.2.2.2.2.2.2.1.l,sg.2.2.2.2.2.2.2.2.1,sg.2.2.2.2.2.2.2.2.2.1,sg.2.2.2.2.2.2.2.2.2.2.1,sg.2.2.2.2.2.2.2.2.2.2.2.1,sg.2.2.2.2.2.2.2.2.2.2.2.2.1,sg.2.2.2.2.2.2.2.2.2.2.2.2.2.1.l,sg.2.2.2.2.2.2.2.2.2.2.2.2.2.2.1.l,sg.2.2.2.2.2.2.2.2.2.2.2.2.2.2.2.1,sg.2.2.2.2.2.2.2.2.2.2.2.2.2.2.2.2.1,sg.2.2.2.2.2.2.2.2.2.2.2.2.2.2.2.2.2.1,sg.2.2.2.2.2.2.2.2.2.2.2.2.2.2.2.2.2.2.1,sg.2.2.2.2.2.2.2.2.2.2.2.2.2.2.2.2.2.2.2.1.l,sg.2.2.2.2.2.2.2.2.2.2.2.2.2.2.2.2.2.2.2.2.1.l,(sg.2.2.2.2.2.2.2.2.2.2.2.2.2.2.2.2.2.2.2.2.2.l.map bR.pl))) (fun sg=>[(0,ptr bY 0),(1,.func (.func 146) #[] #[ptr cW 0,ptr cX 0]),(4,i64 eD),(5,i64 sg.1)]) (fun sg=>(sg.2.1.ok.and (sg.2.2.2.1.ok.and (sg.2.2.2.2.2.1.ok.and (sg.2.2.2.2.2.2.1.ok.and (sg.2.2.2.2.2.2.2.2.2.2.2.2.2.1.ok.and (sg.2.2.2.2.2.2.2.2.2.2.2.2.2.2.1.ok.and (sg.2.2.2.2.2.2.2.2.2.2.2.2.2.2.2.2.2.2.2.1.ok.and (sg.2.2.2.2.2.2.2.2.2.2.2.2.2.2.2.2.2.2.2.2.1.ok.and (wL sg.2.2.2.2.2.2.2.2.2.2.2.2.2.2.2.2.2.2.2.2.2.l)))))))))) (fun sg=>Ow.star (bT aP [sg.2.1.val,i64 sg.2.2.1,sg.2.2.2.1.val] 233) (Ow.star (bT bY [ptr aP 0,.bool sg.2.2.2.2.1] 161) (Ow.star (bT cW [sg.2.2.2.2.2.1.val,sg.2.2.2.2.2.2.1.val,sg.2.2.2.2.2.2.2.1.val,str sg.2.2.2.2.2.2.2.2.1,i64 sg.2.2.2.2.2.2.2.2.2.1,str sg.2.2.2.2.2.2.2.2.2.2.1,i64 sg.2.2.2.2.2.2.2.2.2.2.2.1,str sg.2.2.2.2.2.2.2.2.2.2.2.2.1,sg.2.2.2.2.2.2.2.2.2.2.2.2.2.1.val,sg.2.2.2.2.2.2.2.2.2.2.2.2.2.2.1.val,i64 sg.2.2.2.2.2.2.2.2.2.2.2.2.2.2.2.1,str sg.2.2.2.2.2.2.2.2.2.2.2.2.2.2.2.2.1,str sg.2.2.2.2.2.2.2.2.2.2.2.2.2.2.2.2.2.1,i64 sg.2.2.2.2.2.2.2.2.2.2.2.2.2.2.2.2.2.2.1,sg.2.2.2.2.2.2.2.2.2.2.2.2.2.2.2.2.2.2.2.1.val,sg.2.2.2.2.2.2.2.2.2.2.2.2.2.2.2.2.2.2.2.2.1.val,sg.2.2.2.2.2.2.2.2.2.2.2.2.2.2.2.2.2.2.2.2.2.val] 61) (Ow.star (bT cX [ptr bY 0] 159) (Ow.star (Sv.own sg.2.2.2.2.2.2.2.1 216) (Ow.star (Sv.own sg.2.2.2.2.2.2.2.2.2.2.2.2.2.2.2.2.2.2.2.2.2 155) (Ow.emp))))))) (0,fG.b,fG.at_,fG.err,fV,aX.work,aX.index,aX.refs,aX.aG,aX.aH,aX.aW,aX.aS,aX.aV,aX.aN,aX.aT,aX.aY,aX.aM,aX.aC,aX.aE,aX.aO,aX.aU,aX.bJ) [0,1,4,5] hS rfl ?_
 clear hS
 rintro ⟨jV,gX,kS,kT,aAS,aAR,R2,R4,R6,R8,SA,SC,SE,SG,SI,LL,LN,LP,LR,LU,LW,LY⟩ m1 y1 hS hK1
 refine Zq (Zq (Zr ?_))
 refine Zy ?_
 refine Zu (dA rfl rfl) ?_
 refine Zm ?_
 refine jJ 25 hS (fun h25 hS => ?_) (fun h25 hS => ?_)
 ·
  refine Zg ?_
  refine Zh (aJ rfl) ?_
  refine Zh (aB dD rfl) ?_
  refine Zh (aI dR rfl rfl) ?_
  refine VL.guard rfl rfl ?_
  obtain ⟨aMy,aQ3,hS⟩:=bF hS
  refine VL.cT (mD aP (⟨gX,kS,kT⟩:dO) aQ3) rfl (by decide) ?_
  rintro aPI rfl
  try dsimp only
  refine Zh (vT Tryz.underlying26 rfl) ?_
  refine Zy ?_
  refine VC.keep (ρ':=[(0,ptr bY 0),(1,.func (.func 146) #[] #[ptr cW 0,ptr cX 0]),(4,i64 eD),(5,i64 jV),(32,.bool (decide (aPI.pl.isNil=true)))]) [0,1,4,5,32] rfl ?_
  refine Zc hS (fun h32 hS => ?_) (fun h32 hS => ?_)
  ·
   refine Zk ?_
   refine Zq (Zb (Zr ?_))
   refine Zm ?_
   obtain ⟨pU,aQb,hS⟩:=bF hS
   refine VL.uI (vs:=[]) (caps:=[ptr cW 0,ptr cX 0]) (MU cW (⟨aAR,R2,R4,R6,R8,SA,SC,SE,SG,SI,LL,LN,LP,LR,LU,LW,LY⟩:eK) cX bY (⟨aAS⟩:bH) aP (⟨gX,kS,kT⟩:dO) aQb) rfl rfl (by decide) ?_
   rintro ⟨oN,X3,aPO⟩ rfl
   try dsimp only
   refine Zl ?_
   refine Zr ?_
   refine Zm ?_
   obtain ⟨b34,hS⟩:=bQ hS
   refine Zu (dZ rfl rfl b34) ?_
   refine Za ?_
   refine VL.kE ((jV+1),X3.b,X3.at_,X3.err,aPO.bad,oN.work,oN.index,oN.refs,oN.aG,oN.aH,oN.aW,oN.aS,oN.aV,oN.aN,oN.aT,oN.aY,oN.aM,oN.aC,oN.aE,oN.aO,oN.aU,oN.bJ) [0,1,4,5] (fun _ _ h=>h) (go2 hS hK1) rfl
  replace hS:=fF hS hK1
  cases hS
  exact VC.exit (pK (.inl rfl) rfl (⟨gX,kS,kT⟩,⟨aAS⟩,⟨aAR,R2,R4,R6,R8,SA,SC,SE,SG,SI,LL,LN,LP,LR,LU,LW,LY⟩) rfl rfl (by (try dsimp only); exact dQ.out) (by (try dsimp only); exact fL.out))
 refine VL.runs 7 [(32,some false)] (by kernel_rfl) ?_
 refine Zl ?_
 refine VC.rL rfl ?_
 replace hS:=fF hS hK1
 cases hS
 exact VC.exit (pK (.inl rfl) rfl (⟨gX,kS,kT⟩,⟨aAS⟩,⟨aAR,R2,R4,R6,R8,SA,SC,SE,SG,SI,LL,LN,LP,LR,LU,LW,LY⟩) rfl rfl (by (try dsimp only); exact dQ.out) (by (try dsimp only); exact fL.out))
theorem nZ (aD:Sv dI) {r:List dI} (hS:Sh.kX aD.l=some r) :
 Ct Tryz.prog 147 [aD.val] aD.ok (Ow.emp) (X:=Sv dI) (fun x=>x.val) (fun x=>r=x.l) (fun x=>x.ok) (fun x=>Ow.emp):=by
 refine Zo Tryz.func147 Tryz.ntmps147 fun c => ?_
 unfold Sh.kX at hS
 refine Zq (Zr ?_)
 refine Zy ?_
 refine Zq (Zr ?_)
 refine Zy ?_
 refine Zu (fH (s:=aD) Tryz.underlying52 rfl) ?_
 refine Zm ?_
 refine Zu (fH (s:=aD) Tryz.underlying52 rfl) ?_
 obtain ⟨b8,hS⟩:=bQ hS
 refine VL.RW Tryz.underlying52 uL rfl rfl rfl b8.1 (b8.2) (by decide) fun BZ vQ => ?_
 replace hS:=dL vQ hS
 refine Zy ?_
 cases hS
 exact VC.ret (iU (.inr rfl) rfl rfl BZ rfl rfl (by (try dsimp only); exact dQ.out) (fun _ _=>trivial))
theorem mJ (aD:Sv bR) {r:List eY} (hS:Sh.jX (aD.l.map bR.pl)=some r) :
 Ct Tryz.prog 148 [aD.val] aD.ok (Ow.emp) (X:=Sv bR) (fun x=>x.val) (fun x=>r=(x.l.map bR.pl)) (fun x=>x.ok) (fun x=>Ow.emp):=by
 refine Zo Tryz.func148 Tryz.ntmps148 fun c => ?_
 unfold Sh.jX at hS
 refine Zq (Zr ?_)
 refine Zy ?_
 refine Zq (Zr ?_)
 refine Zy ?_
 refine Zu (iT bR.pl (s:=aD) Tryz.underlying59 rfl) ?_
 refine Zm ?_
 refine Zu (iT bR.pl (s:=aD) Tryz.underlying59 rfl) ?_
 obtain ⟨b8,hS⟩:=bQ hS
 refine VL.RW Tryz.underlying59 pR rfl rfl rfl b8.1 (aKB b8.2) (by decide) fun BZ vQ => ?_
 replace hS:=dL ((congrArg (List.map bR.pl) vQ).trans List.map_take) hS
 refine Zy ?_
 cases hS
 exact VC.ret (iU (.inr rfl) rfl rfl BZ rfl rfl (by (try dsimp only); exact dQ.out) (fun _ _=>trivial))
theorem EY (bY:Nat) (eL:bH) (aP:Nat) (bK:dO) {r:dN×cE×bH} (hS:Sh.o6 eL bK.pl=some r) :
 Ct Tryz.prog 67 [ptr bY 0] (bK.b.ok.and bK.err.ok) (Ow.star (bT aP [bK.b.val,i64 bK.at_,bK.err.val] 233) (bT bY [ptr aP 0,.bool eL.bad] 161)) (X:=eK×dO×bH) (fun x => .agg (cS.enc x.1).toArray) (fun x=>r=(x.1.pl,x.2.1.pl,x.2.2)) (fun x=>(x.1.m.and (x.2.1.b.ok.and x.2.1.err.ok))) (fun x=>Ow.star (bT aP [x.2.1.b.val,i64 x.2.1.at_,x.2.1.err.val] 233) (bT bY [ptr aP 0,.bool x.2.2.bad] 161)):=by
 refine Zo Tryz.func67 Tryz.ntmps67 fun c => ?_
 unfold Sh.o6 at hS
 refine Zq (Zr ?_)
 refine VL.box (cs:=[ptr bY 0]) rfl rfl (by decide) fun cM => ?_
 refine VL.alloc (cs:=[.slice none 0 0,.slice none 0 0,.slice none 0 0,str [],i64 0,str [],i64 0,str [],.slice none 0 0,.slice none 0 0,i64 0,str [],str [],i64 0,.slice none 0 0,.slice none 0 0,.slice none 0 0]) (by kernel_rfl) (by decide) fun iL => ?_
 refine Zl ?_
 refine Zq ?_
 refine VC.aQO (n:=5) (listed := #[true,false,true,false,false,false,false]) [(0,true),(2,true)] mixed (by kernel_rfl) (by kernel_rfl) (by kernel_rfl) (by kernel_rfl) ?_
 refine VD.q rfl (aI dY rfl rfl) (by decide) ?_
 refine VD.q rfl (aI dY rfl rfl) (by decide) ?_
 obtain ⟨mO,N5,hS⟩:=bF hS
 obtain ⟨JC,SN,hS⟩:=bF hS
 refine VD.toG fun hcl => ?_
 refine VG.fork (l:=[1,5]) (n:=4) (by kernel_rfl) rfl fun i hi => ?_
 obtain rfl | rfl:i=1∨i=5:=by simpa using hi
 ·
  refine VGo.of rfl ?_
  refine VL.cT (qN bY eL aP bK N5) rfl (by decide) ?_
  rintro ⟨kO,MN,MO⟩ rfl
  try dsimp only
  refine VL.XC (D':=[(2,ptr bY 0)]) (listed' := #[true,true,true,false,false,false,false]) (aF.cons rfl (aI dY rfl rfl) (aF.nil)) (by kernel_rfl) (by kernel_rfl) ?_
  refine VG.fork (l:=[3,5]) (n:=3) (by kernel_rfl) rfl fun i hi => ?_
  obtain rfl | rfl:i=3∨i=5:=by simpa using hi
  ·
   refine VGo.of rfl ?_
   refine VL.cT (qG bY MO aP MN SN) rfl (by decide) ?_
   rintro ⟨kD,HN,HO⟩ rfl
   try dsimp only
   refine VL.XC (D':=[]) (listed' := #[true,true,true,true,false,false,false]) (aF.nil) (by kernel_rfl) (by kernel_rfl) ?_
   refine VG.ord [(4,true),(5,false),(6,false)] (by kernel_rfl) (GY (by kernel_rfl)) (by kernel_rfl) ?_
   refine Zw rfl (eO (vs:=[(0,kO.val),(1,kD.val)]) (cs := #[kO.val,kD.val,.slice none 0 0,str [],i64 0,str [],i64 0,str [],.slice none 0 0,.slice none 0 0,i64 0,str [],str [],i64 0,.slice none 0 0,.slice none 0 0,.slice none 0 0]) rfl (by kernel_rfl)) ?_
   refine VD.one rfl ?_
   refine VL.alloc (cs:=[.slice none 0 0,.slice none 0 0,.slice none 0 0,str [],i64 0,str [],i64 0,str [],.slice none 0 0,.slice none 0 0,i64 0,str [],str [],i64 0,.slice none 0 0,.slice none 0 0,.slice none 0 0]) (by kernel_rfl) (by decide) fun lR => ?_
   refine VL.back (D':=[(4,.agg #[kO.val,kD.val,.slice none 0 0,str [],i64 0,str [],i64 0,str [],.slice none 0 0,.slice none 0 0,i64 0,str [],str [],i64 0,.slice none 0 0,.slice none 0 0,.slice none 0 0])]) (by kernel_rfl) (aF.cons rfl (eO (vs:=[(0,kO.val),(1,kD.val)]) (cs := #[kO.val,kD.val,.slice none 0 0,str [],i64 0,str [],i64 0,str [],.slice none 0 0,.slice none 0 0,i64 0,str [],str [],i64 0,.slice none 0 0,.slice none 0 0,.slice none 0 0]) rfl (by kernel_rfl)) (aF.nil)) ?_
   refine VD.one rfl ?_
   refine Zv (vc:=[kO.val,kD.val,.slice none 0 0,str [],i64 0,str [],i64 0,str [],.slice none 0 0,.slice none 0 0,i64 0,str [],str [],i64 0,.slice none 0 0,.slice none 0 0,.slice none 0 0]) (cs':=[kO.val,kD.val,.slice none 0 0,str [],i64 0,str [],i64 0,str [],.slice none 0 0,.slice none 0 0,i64 0,str [],str [],i64 0,.slice none 0 0,.slice none 0 0,.slice none 0 0]) rfl zB ?_
   refine VL.back (D':=[]) (by kernel_rfl) (aF.nil) ?_
   refine VD.to (fun _ _ h=>h) ?_
   refine Zq (Zr ?_)
   refine Zu (aI dY rfl rfl) ?_
   refine Zu (tK rfl) ?_
   refine VL.qU (⟨none,0,[]⟩:Sv dI) 216 ⟨rfl,rfl⟩ ?_
   refine VL.qU (⟨none,0,[]⟩:Sv bR) 155 ⟨rfl,rfl⟩ ?_
   refine VL.G9 (s:=(⟨none,0,[]⟩:Sv bR)) rfl ?_
   refine VL.RL lR (cs':=[kO.val,kD.val,(⟨none,0,[]⟩:Sv dI).val,str [],i64 0,str [],i64 0,str [],(⟨none,0,[]⟩:Sv cA).val,(⟨none,0,[]⟩:Sv cA).val,i64 0,str [],str [],i64 0,(⟨none,0,[]⟩:Sv aQ).val,(⟨none,0,[]⟩:Sv aZ).val,(⟨none,0,[]⟩:Sv bR).val]) rfl ?_
   obtain ⟨zK,FT,hS⟩:=bF hS
   refine VL.cT (tZ bY HO aP HN lR (⟨kO,kD,(⟨none,0,[]⟩:Sv dI),[],0,[],0,[],(⟨none,0,[]⟩:Sv cA),(⟨none,0,[]⟩:Sv cA),0,[],[],0,(⟨none,0,[]⟩:Sv aQ),(⟨none,0,[]⟩:Sv aZ),(⟨none,0,[]⟩:Sv bR)⟩:eK) cM FT) rfl (by decide) ?_
   rintro ⟨u7,EP,eI⟩ rfl
   try dsimp only
   refine Zl ?_
   refine VC.keep (ρ':=[(1,ptr cM 0),(2,ptr iL 0),(3,ptr lR 0)]) [1,2,3] rfl ?_
   refine Zq ?_
   refine VC.draw [(0,true),(2,true),(1,false),(4,true),(3,false),(5,false),(6,true),(7,false)] mixed (by kernel_rfl) (by kernel_rfl) (by kernel_rfl) ?_
   refine Zw rfl (aI dY rfl rfl) ?_
   refine Zw rfl (aI dY rfl rfl) ?_
   refine VD.one rfl ?_
   obtain ⟨DP,L2,hS⟩:=bF hS
   refine VL.cT (s3 bY EP aP u7 L2) rfl (by decide) ?_
   rintro ⟨cO,HH⟩ rfl
   try dsimp only
   refine VL.back (D':=[(2,ptr bY 0)]) (by kernel_rfl) (aF.cons rfl (aI dY rfl rfl) (aF.nil)) ?_
   refine Zw rfl (aB jU rfl) ?_
   refine VD.one rfl ?_
   obtain ⟨uB,L4,hS⟩:=bF hS
   refine VL.cT (yB bY EP aP HH L4) rfl (by decide) ?_
   rintro ⟨dW,HI,HJ⟩ rfl
   try dsimp only
   refine VL.back (D':=[(4,ptr lR 3)]) (by kernel_rfl) (aF.cons rfl (aB jU rfl) (aF.nil)) ?_
   refine VD.one rfl ?_
   refine Zv (vc:=[str cO.branch,i64 cO.cB]) (cs':=[eI.work.val,eI.index.val,eI.refs.val,str cO.branch,i64 cO.cB,str eI.aW,i64 eI.aS,str eI.aV,eI.aN.val,eI.aT.val,i64 eI.aY,str eI.aM,str eI.aC,i64 eI.aE,eI.aO.val,eI.aU.val,eI.bJ.val]) rfl aAr ?_
   refine VL.back (D':=[]) (by kernel_rfl) (aF.nil) ?_
   refine Zw rfl (aB sF rfl) ?_
   refine VD.one rfl ?_
   refine Zv (vc:=(vZ dW)) (cs':=[eI.work.val,eI.index.val,eI.refs.val,str cO.branch,i64 cO.cB,str dW.kind,i64 dW.other,str dW.text,dW.mV.val,dW.todo.val,i64 dW.made,str dW.branch,str dW.aG,i64 dW.aH,dW.index.val,dW.work.val,eI.bJ.val]) rfl XO ?_
   refine VL.back (D':=[]) (by kernel_rfl) (aF.nil) ?_
   refine VD.to (fun _ _ h=>h) ?_
   refine Zq (Zr ?_)
   refine Zu (aI dY rfl rfl) ?_
   refine Zu (tK rfl) ?_
   obtain ⟨pO,TZ,hS⟩:=bF hS
   refine VL.cT (uA bY HJ aP HI lR (⟨eI.work,eI.index,eI.refs,cO.branch,cO.cB,dW.kind,dW.other,dW.text,dW.mV,dW.todo,dW.made,dW.branch,dW.aG,dW.aH,dW.index,dW.work,eI.bJ⟩:eK) cM TZ) rfl (by decide) ?_
   rintro ⟨xX,OV,aL⟩ rfl
   try dsimp only
   refine Zl ?_
   refine VC.keep (ρ':=[(2,ptr iL 0),(3,ptr lR 0)]) [2,3] rfl ?_
   refine Zq ?_
   refine VC.draw [(0,true),(1,true),(3,true),(4,true),(2,false),(6,true),(5,false),(7,false),(8,true),(9,false)] mixed (by kernel_rfl) (by kernel_rfl) (by kernel_rfl) ?_
   refine Zw rfl (aB lK rfl) ?_
   refine Zw rfl (aI qS rfl rfl) ?_
   refine Zw rfl (aB j8 rfl) ?_
   refine Zw rfl (aI nD rfl rfl) ?_
   refine VD.one rfl ?_
   refine VL.shut aL.refs 216 (fun _ _ _ _=>trivial) ?_
   obtain ⟨M7,L7,hS⟩:=bF hS
   refine VL.gI (nZ aL.refs L7) rfl (by decide) ?_
   rintro lZ rfl
   try dsimp only
   refine VL.back (D':=[(4,aL.bJ.val),(3,ptr lR 16)]) (by kernel_rfl) (aF.cons rfl (aI nD rfl rfl) (aF.cons rfl (aB j8 rfl) (aF.nil))) ?_
   refine Zw rfl (aB lK rfl) ?_
   refine VD.one rfl ?_
   refine VL.shut aL.bJ 155 (fun h m=>dQ.out (X:=wL aL.bJ.l) h m) ?_
   obtain ⟨M8,N4,hS⟩:=bF hS
   refine VL.gI (mJ aL.bJ N4) rfl (by decide) ?_
   rintro mM rfl
   try dsimp only
   refine VL.back (D':=[(6,ptr lR 2)]) (by kernel_rfl) (aF.cons rfl (aB lK rfl) (aF.nil)) ?_
   refine VD.one rfl ?_
   refine Zv (vc:=[lZ.val]) (cs':=[aL.work.val,aL.index.val,lZ.val,str aL.aG,i64 aL.aH,str aL.aW,i64 aL.aS,str aL.aV,aL.aN.val,aL.aT.val,i64 aL.aY,str aL.aM,str aL.aC,i64 aL.aE,aL.aO.val,aL.aU.val,aL.bJ.val]) rfl aFC ?_
   refine VL.back (D':=[]) (by kernel_rfl) (aF.nil) ?_
   refine Zw rfl (aB j8 rfl) ?_
   refine VD.one rfl ?_
   refine Zv (vc:=[mM.val]) (cs':=[aL.work.val,aL.index.val,lZ.val,str aL.aG,i64 aL.aH,str aL.aW,i64 aL.aS,str aL.aV,aL.aN.val,aL.aT.val,i64 aL.aY,str aL.aM,str aL.aC,i64 aL.aE,aL.aO.val,aL.aU.val,mM.val]) rfl aFD ?_
   refine VL.back (D':=[]) (by kernel_rfl) (aF.nil) ?_
   refine VD.to (fun _ _ h=>h) ?_
   refine Zq (Zr ?_)
   refine Zu (gZ oB rfl rfl) ?_
   refine Zv (vc:=[aL.work.val,aL.index.val,lZ.val,str aL.aG,i64 aL.aH,str aL.aW,i64 aL.aS,str aL.aV,aL.aN.val,aL.aT.val,i64 aL.aY,str aL.aM,str aL.aC,i64 aL.aE,aL.aO.val,aL.aU.val,mM.val]) (cs':=[aL.work.val,aL.index.val,lZ.val,str aL.aG,i64 aL.aH,str aL.aW,i64 aL.aS,str aL.aV,aL.aN.val,aL.aT.val,i64 aL.aY,str aL.aM,str aL.aC,i64 aL.aE,aL.aO.val,aL.aU.val,mM.val]) rfl zB ?_
   refine Zl ?_
   refine VC.keep (ρ':=[(2,ptr iL 0)]) [2] rfl ?_
   cases hS
   exact VC.ret (oV (vs:=[.agg #[aL.work.val,aL.index.val,lZ.val,str aL.aG,i64 aL.aH,str aL.aW,i64 aL.aS,str aL.aV,aL.aN.val,aL.aT.val,i64 aL.aY,str aL.aM,str aL.aC,i64 aL.aE,aL.aO.val,aL.aU.val,mM.val]]) (.inr rfl) rfl (jY.cell oB rfl rfl Rd.blk (jY.nil)) (⟨aL.work,aL.index,lZ,aL.aG,aL.aH,aL.aW,aL.aS,aL.aV,aL.aN,aL.aT,aL.aY,aL.aM,aL.aC,aL.aE,aL.aO,aL.aU,mM⟩,⟨xX.b,xX.at_,xX.err⟩,⟨OV.bad⟩) rfl rfl (by (try dsimp only); exact dQ.out) (by (try dsimp only); exact fL.out))
  refine VGo.of rfl ?_
  refine VL.alloc (cs:=[.slice none 0 0,.slice none 0 0,.slice none 0 0,str [],i64 0,str [],i64 0,str [],.slice none 0 0,.slice none 0 0,i64 0,str [],str [],i64 0,.slice none 0 0,.slice none 0 0,.slice none 0 0]) (by kernel_rfl) (by decide) fun lR => ?_
  refine VL.XC (D':=[(2,ptr bY 0)]) (listed' := #[true,true,true,false,false,true,false]) (aF.cons rfl (aI dY rfl rfl) (aF.nil)) (by kernel_rfl) (by kernel_rfl) ?_
  refine VG.ord [(3,false),(4,true),(6,false)] (by kernel_rfl) (GY (by kernel_rfl)) (by kernel_rfl) ?_
  refine VD.one rfl ?_
  refine VL.cT (qG bY MO aP MN SN) rfl (by decide) ?_
  rintro ⟨kD,HN,HO⟩ rfl
  try dsimp only
  refine VL.back (D':=[]) (by kernel_rfl) (aF.nil) ?_
  refine Zw rfl (eO (vs:=[(0,kO.val),(1,kD.val)]) (cs := #[kO.val,kD.val,.slice none 0 0,str [],i64 0,str [],i64 0,str [],.slice none 0 0,.slice none 0 0,i64 0,str [],str [],i64 0,.slice none 0 0,.slice none 0 0,.slice none 0 0]) rfl (by kernel_rfl)) ?_
  refine VD.one rfl ?_
  refine Zv (vc:=[kO.val,kD.val,.slice none 0 0,str [],i64 0,str [],i64 0,str [],.slice none 0 0,.slice none 0 0,i64 0,str [],str [],i64 0,.slice none 0 0,.slice none 0 0,.slice none 0 0]) (cs':=[kO.val,kD.val,.slice none 0 0,str [],i64 0,str [],i64 0,str [],.slice none 0 0,.slice none 0 0,i64 0,str [],str [],i64 0,.slice none 0 0,.slice none 0 0,.slice none 0 0]) rfl zB ?_
  refine VL.back (D':=[]) (by kernel_rfl) (aF.nil) ?_
  refine VD.to (fun _ _ h=>h) ?_
  refine Zq (Zr ?_)
  refine Zu (aI dY rfl rfl) ?_
  refine Zu (tK rfl) ?_
  refine VL.qU (⟨none,0,[]⟩:Sv dI) 216 ⟨rfl,rfl⟩ ?_
  refine VL.qU (⟨none,0,[]⟩:Sv bR) 155 ⟨rfl,rfl⟩ ?_
  refine VL.G9 (s:=(⟨none,0,[]⟩:Sv bR)) rfl ?_
  refine VL.RL lR (cs':=[kO.val,kD.val,(⟨none,0,[]⟩:Sv dI).val,str [],i64 0,str [],i64 0,str [],(⟨none,0,[]⟩:Sv cA).val,(⟨none,0,[]⟩:Sv cA).val,i64 0,str [],str [],i64 0,(⟨none,0,[]⟩:Sv aQ).val,(⟨none,0,[]⟩:Sv aZ).val,(⟨none,0,[]⟩:Sv bR).val]) rfl ?_
  obtain ⟨zK,FT,hS⟩:=bF hS
  refine VL.cT (tZ bY HO aP HN lR (⟨kO,kD,(⟨none,0,[]⟩:Sv dI),[],0,[],0,[],(⟨none,0,[]⟩:Sv cA),(⟨none,0,[]⟩:Sv cA),0,[],[],0,(⟨none,0,[]⟩:Sv aQ),(⟨none,0,[]⟩:Sv aZ),(⟨none,0,[]⟩:Sv bR)⟩:eK) cM FT) rfl (by decide) ?_
  rintro ⟨u7,EP,eI⟩ rfl
  try dsimp only
  refine Zl ?_
  refine VC.keep (ρ':=[(1,ptr cM 0),(2,ptr iL 0),(3,ptr lR 0)]) [1,2,3] rfl ?_
  refine Zq ?_
  refine VC.draw [(0,true),(2,true),(1,false),(4,true),(3,false),(5,false),(6,true),(7,false)] mixed (by kernel_rfl) (by kernel_rfl) (by kernel_rfl) ?_
  refine Zw rfl (aI dY rfl rfl) ?_
  refine Zw rfl (aI dY rfl rfl) ?_
  refine VD.one rfl ?_
  obtain ⟨DP,L2,hS⟩:=bF hS
  refine VL.cT (s3 bY EP aP u7 L2) rfl (by decide) ?_
  rintro ⟨cO,HH⟩ rfl
  try dsimp only
  refine VL.back (D':=[(2,ptr bY 0)]) (by kernel_rfl) (aF.cons rfl (aI dY rfl rfl) (aF.nil)) ?_
  refine Zw rfl (aB jU rfl) ?_
  refine VD.one rfl ?_
  obtain ⟨uB,L4,hS⟩:=bF hS
  refine VL.cT (yB bY EP aP HH L4) rfl (by decide) ?_
  rintro ⟨dW,HI,HJ⟩ rfl
  try dsimp only
  refine VL.back (D':=[(4,ptr lR 3)]) (by kernel_rfl) (aF.cons rfl (aB jU rfl) (aF.nil)) ?_
  refine VD.one rfl ?_
  refine Zv (vc:=[str cO.branch,i64 cO.cB]) (cs':=[eI.work.val,eI.index.val,eI.refs.val,str cO.branch,i64 cO.cB,str eI.aW,i64 eI.aS,str eI.aV,eI.aN.val,eI.aT.val,i64 eI.aY,str eI.aM,str eI.aC,i64 eI.aE,eI.aO.val,eI.aU.val,eI.bJ.val]) rfl aAr ?_
  refine VL.back (D':=[]) (by kernel_rfl) (aF.nil) ?_
  refine Zw rfl (aB sF rfl) ?_
  refine VD.one rfl ?_
  refine Zv (vc:=(vZ dW)) (cs':=[eI.work.val,eI.index.val,eI.refs.val,str cO.branch,i64 cO.cB,str dW.kind,i64 dW.other,str dW.text,dW.mV.val,dW.todo.val,i64 dW.made,str dW.branch,str dW.aG,i64 dW.aH,dW.index.val,dW.work.val,eI.bJ.val]) rfl XO ?_
  refine VL.back (D':=[]) (by kernel_rfl) (aF.nil) ?_
  refine VD.to (fun _ _ h=>h) ?_
  refine Zq (Zr ?_)
  refine Zu (aI dY rfl rfl) ?_
  refine Zu (tK rfl) ?_
  obtain ⟨pO,TZ,hS⟩:=bF hS
  refine VL.cT (uA bY HJ aP HI lR (⟨eI.work,eI.index,eI.refs,cO.branch,cO.cB,dW.kind,dW.other,dW.text,dW.mV,dW.todo,dW.made,dW.branch,dW.aG,dW.aH,dW.index,dW.work,eI.bJ⟩:eK) cM TZ) rfl (by decide) ?_
  rintro ⟨xX,OV,aL⟩ rfl
  try dsimp only
  refine Zl ?_
  refine VC.keep (ρ':=[(2,ptr iL 0),(3,ptr lR 0)]) [2,3] rfl ?_
  refine Zq ?_
  refine VC.draw [(0,true),(1,true),(3,true),(4,true),(2,false),(6,true),(5,false),(7,false),(8,true),(9,false)] mixed (by kernel_rfl) (by kernel_rfl) (by kernel_rfl) ?_
  refine Zw rfl (aB lK rfl) ?_
  refine Zw rfl (aI qS rfl rfl) ?_
  refine Zw rfl (aB j8 rfl) ?_
  refine Zw rfl (aI nD rfl rfl) ?_
  refine VD.one rfl ?_
  refine VL.shut aL.refs 216 (fun _ _ _ _=>trivial) ?_
  obtain ⟨M7,L7,hS⟩:=bF hS
  refine VL.gI (nZ aL.refs L7) rfl (by decide) ?_
  rintro lZ rfl
  try dsimp only
  refine VL.back (D':=[(4,aL.bJ.val),(3,ptr lR 16)]) (by kernel_rfl) (aF.cons rfl (aI nD rfl rfl) (aF.cons rfl (aB j8 rfl) (aF.nil))) ?_
  refine Zw rfl (aB lK rfl) ?_
  refine VD.one rfl ?_
  refine VL.shut aL.bJ 155 (fun h m=>dQ.out (X:=wL aL.bJ.l) h m) ?_
  obtain ⟨M8,N4,hS⟩:=bF hS
  refine VL.gI (mJ aL.bJ N4) rfl (by decide) ?_
  rintro mM rfl
  try dsimp only
  refine VL.back (D':=[(6,ptr lR 2)]) (by kernel_rfl) (aF.cons rfl (aB lK rfl) (aF.nil)) ?_
  refine VD.one rfl ?_
  refine Zv (vc:=[lZ.val]) (cs':=[aL.work.val,aL.index.val,lZ.val,str aL.aG,i64 aL.aH,str aL.aW,i64 aL.aS,str aL.aV,aL.aN.val,aL.aT.val,i64 aL.aY,str aL.aM,str aL.aC,i64 aL.aE,aL.aO.val,aL.aU.val,aL.bJ.val]) rfl aFC ?_
  refine VL.back (D':=[]) (by kernel_rfl) (aF.nil) ?_
  refine Zw rfl (aB j8 rfl) ?_
  refine VD.one rfl ?_
  refine Zv (vc:=[mM.val]) (cs':=[aL.work.val,aL.index.val,lZ.val,str aL.aG,i64 aL.aH,str aL.aW,i64 aL.aS,str aL.aV,aL.aN.val,aL.aT.val,i64 aL.aY,str aL.aM,str aL.aC,i64 aL.aE,aL.aO.val,aL.aU.val,mM.val]) rfl aFD ?_
  refine VL.back (D':=[]) (by kernel_rfl) (aF.nil) ?_
  refine VD.to (fun _ _ h=>h) ?_
  refine Zq (Zr ?_)
  refine Zu (gZ oB rfl rfl) ?_
  refine Zv (vc:=[aL.work.val,aL.index.val,lZ.val,str aL.aG,i64 aL.aH,str aL.aW,i64 aL.aS,str aL.aV,aL.aN.val,aL.aT.val,i64 aL.aY,str aL.aM,str aL.aC,i64 aL.aE,aL.aO.val,aL.aU.val,mM.val]) (cs':=[aL.work.val,aL.index.val,lZ.val,str aL.aG,i64 aL.aH,str aL.aW,i64 aL.aS,str aL.aV,aL.aN.val,aL.aT.val,i64 aL.aY,str aL.aM,str aL.aC,i64 aL.aE,aL.aO.val,aL.aU.val,mM.val]) rfl zB ?_
  refine Zl ?_
  refine VC.keep (ρ':=[(2,ptr iL 0)]) [2] rfl ?_
  cases hS
  exact VC.ret (oV (vs:=[.agg #[aL.work.val,aL.index.val,lZ.val,str aL.aG,i64 aL.aH,str aL.aW,i64 aL.aS,str aL.aV,aL.aN.val,aL.aT.val,i64 aL.aY,str aL.aM,str aL.aC,i64 aL.aE,aL.aO.val,aL.aU.val,mM.val]]) (.inr rfl) rfl (jY.cell oB rfl rfl Rd.blk (jY.nil)) (⟨aL.work,aL.index,lZ,aL.aG,aL.aH,aL.aW,aL.aS,aL.aV,aL.aN,aL.aT,aL.aY,aL.aM,aL.aC,aL.aE,aL.aO,aL.aU,mM⟩,⟨xX.b,xX.at_,xX.err⟩,⟨OV.bad⟩) rfl rfl (by (try dsimp only); exact dQ.out) (by (try dsimp only); exact fL.out))
 refine VGo.of rfl ?_
 refine VL.alloc (cs:=[.slice none 0 0,.slice none 0 0,.slice none 0 0,str [],i64 0,str [],i64 0,str [],.slice none 0 0,.slice none 0 0,i64 0,str [],str [],i64 0,.slice none 0 0,.slice none 0 0,.slice none 0 0]) (by kernel_rfl) (by decide) fun lR => ?_
 refine VL.XC (D':=[(2,ptr bY 0),(0,ptr bY 0)]) (listed' := #[true,false,true,false,false,true,false]) (aF.cons rfl (aI dY rfl rfl) (aF.cons rfl (aI dY rfl rfl) (aF.nil))) (by kernel_rfl) (by kernel_rfl) ?_
 refine VG.ord [(1,false),(3,false),(4,true),(6,false)] (by kernel_rfl) (GY (by kernel_rfl)) (by kernel_rfl) ?_
 refine VD.one rfl ?_
 refine VL.cT (qN bY eL aP bK N5) rfl (by decide) ?_
 rintro ⟨kO,MN,MO⟩ rfl
 try dsimp only
 refine VL.back (D':=[(2,ptr bY 0)]) (by kernel_rfl) (aF.cons rfl (aI dY rfl rfl) (aF.nil)) ?_
 refine VD.one rfl ?_
 refine VL.cT (qG bY MO aP MN SN) rfl (by decide) ?_
 rintro ⟨kD,HN,HO⟩ rfl
 try dsimp only
 refine VL.back (D':=[]) (by kernel_rfl) (aF.nil) ?_
 refine Zw rfl (eO (vs:=[(0,kO.val),(1,kD.val)]) (cs := #[kO.val,kD.val,.slice none 0 0,str [],i64 0,str [],i64 0,str [],.slice none 0 0,.slice none 0 0,i64 0,str [],str [],i64 0,.slice none 0 0,.slice none 0 0,.slice none 0 0]) rfl (by kernel_rfl)) ?_
 refine VD.one rfl ?_
 refine Zv (vc:=[kO.val,kD.val,.slice none 0 0,str [],i64 0,str [],i64 0,str [],.slice none 0 0,.slice none 0 0,i64 0,str [],str [],i64 0,.slice none 0 0,.slice none 0 0,.slice none 0 0]) (cs':=[kO.val,kD.val,.slice none 0 0,str [],i64 0,str [],i64 0,str [],.slice none 0 0,.slice none 0 0,i64 0,str [],str [],i64 0,.slice none 0 0,.slice none 0 0,.slice none 0 0]) rfl zB ?_
 refine VL.back (D':=[]) (by kernel_rfl) (aF.nil) ?_
 refine VD.to (fun _ _ h=>h) ?_
 refine Zq (Zr ?_)
 refine Zu (aI dY rfl rfl) ?_
 refine Zu (tK rfl) ?_
 refine VL.qU (⟨none,0,[]⟩:Sv dI) 216 ⟨rfl,rfl⟩ ?_
 refine VL.qU (⟨none,0,[]⟩:Sv bR) 155 ⟨rfl,rfl⟩ ?_
 refine VL.G9 (s:=(⟨none,0,[]⟩:Sv bR)) rfl ?_
 refine VL.RL lR (cs':=[kO.val,kD.val,(⟨none,0,[]⟩:Sv dI).val,str [],i64 0,str [],i64 0,str [],(⟨none,0,[]⟩:Sv cA).val,(⟨none,0,[]⟩:Sv cA).val,i64 0,str [],str [],i64 0,(⟨none,0,[]⟩:Sv aQ).val,(⟨none,0,[]⟩:Sv aZ).val,(⟨none,0,[]⟩:Sv bR).val]) rfl ?_
 obtain ⟨zK,FT,hS⟩:=bF hS
 refine VL.cT (tZ bY HO aP HN lR (⟨kO,kD,(⟨none,0,[]⟩:Sv dI),[],0,[],0,[],(⟨none,0,[]⟩:Sv cA),(⟨none,0,[]⟩:Sv cA),0,[],[],0,(⟨none,0,[]⟩:Sv aQ),(⟨none,0,[]⟩:Sv aZ),(⟨none,0,[]⟩:Sv bR)⟩:eK) cM FT) rfl (by decide) ?_
 rintro ⟨u7,EP,eI⟩ rfl
 try dsimp only
 refine Zl ?_
 refine VC.keep (ρ':=[(1,ptr cM 0),(2,ptr iL 0),(3,ptr lR 0)]) [1,2,3] rfl ?_
 refine Zq ?_
 refine VC.draw [(0,true),(2,true),(1,false),(4,true),(3,false),(5,false),(6,true),(7,false)] mixed (by kernel_rfl) (by kernel_rfl) (by kernel_rfl) ?_
 refine Zw rfl (aI dY rfl rfl) ?_
 refine Zw rfl (aI dY rfl rfl) ?_
 refine VD.one rfl ?_
 obtain ⟨DP,L2,hS⟩:=bF hS
 refine VL.cT (s3 bY EP aP u7 L2) rfl (by decide) ?_
 rintro ⟨cO,HH⟩ rfl
 try dsimp only
 refine VL.back (D':=[(2,ptr bY 0)]) (by kernel_rfl) (aF.cons rfl (aI dY rfl rfl) (aF.nil)) ?_
 refine Zw rfl (aB jU rfl) ?_
 refine VD.one rfl ?_
 obtain ⟨uB,L4,hS⟩:=bF hS
 refine VL.cT (yB bY EP aP HH L4) rfl (by decide) ?_
 rintro ⟨dW,HI,HJ⟩ rfl
 try dsimp only
 refine VL.back (D':=[(4,ptr lR 3)]) (by kernel_rfl) (aF.cons rfl (aB jU rfl) (aF.nil)) ?_
 refine VD.one rfl ?_
 refine Zv (vc:=[str cO.branch,i64 cO.cB]) (cs':=[eI.work.val,eI.index.val,eI.refs.val,str cO.branch,i64 cO.cB,str eI.aW,i64 eI.aS,str eI.aV,eI.aN.val,eI.aT.val,i64 eI.aY,str eI.aM,str eI.aC,i64 eI.aE,eI.aO.val,eI.aU.val,eI.bJ.val]) rfl aAr ?_
 refine VL.back (D':=[]) (by kernel_rfl) (aF.nil) ?_
 refine Zw rfl (aB sF rfl) ?_
 refine VD.one rfl ?_
 refine Zv (vc:=(vZ dW)) (cs':=[eI.work.val,eI.index.val,eI.refs.val,str cO.branch,i64 cO.cB,str dW.kind,i64 dW.other,str dW.text,dW.mV.val,dW.todo.val,i64 dW.made,str dW.branch,str dW.aG,i64 dW.aH,dW.index.val,dW.work.val,eI.bJ.val]) rfl XO ?_
 refine VL.back (D':=[]) (by kernel_rfl) (aF.nil) ?_
 refine VD.to (fun _ _ h=>h) ?_
 refine Zq (Zr ?_)
 refine Zu (aI dY rfl rfl) ?_
 refine Zu (tK rfl) ?_
 obtain ⟨pO,TZ,hS⟩:=bF hS
 refine VL.cT (uA bY HJ aP HI lR (⟨eI.work,eI.index,eI.refs,cO.branch,cO.cB,dW.kind,dW.other,dW.text,dW.mV,dW.todo,dW.made,dW.branch,dW.aG,dW.aH,dW.index,dW.work,eI.bJ⟩:eK) cM TZ) rfl (by decide) ?_
 rintro ⟨xX,OV,aL⟩ rfl
 try dsimp only
 refine Zl ?_
 refine VC.keep (ρ':=[(2,ptr iL 0),(3,ptr lR 0)]) [2,3] rfl ?_
 refine Zq ?_
 refine VC.draw [(0,true),(1,true),(3,true),(4,true),(2,false),(6,true),(5,false),(7,false),(8,true),(9,false)] mixed (by kernel_rfl) (by kernel_rfl) (by kernel_rfl) ?_
 refine Zw rfl (aB lK rfl) ?_
 refine Zw rfl (aI qS rfl rfl) ?_
 refine Zw rfl (aB j8 rfl) ?_
 refine Zw rfl (aI nD rfl rfl) ?_
 refine VD.one rfl ?_
 refine VL.shut aL.refs 216 (fun _ _ _ _=>trivial) ?_
 obtain ⟨M7,L7,hS⟩:=bF hS
 refine VL.gI (nZ aL.refs L7) rfl (by decide) ?_
 rintro lZ rfl
 try dsimp only
 refine VL.back (D':=[(4,aL.bJ.val),(3,ptr lR 16)]) (by kernel_rfl) (aF.cons rfl (aI nD rfl rfl) (aF.cons rfl (aB j8 rfl) (aF.nil))) ?_
 refine Zw rfl (aB lK rfl) ?_
 refine VD.one rfl ?_
 refine VL.shut aL.bJ 155 (fun h m=>dQ.out (X:=wL aL.bJ.l) h m) ?_
 obtain ⟨M8,N4,hS⟩:=bF hS
 refine VL.gI (mJ aL.bJ N4) rfl (by decide) ?_
 rintro mM rfl
 try dsimp only
 refine VL.back (D':=[(6,ptr lR 2)]) (by kernel_rfl) (aF.cons rfl (aB lK rfl) (aF.nil)) ?_
 refine VD.one rfl ?_
 refine Zv (vc:=[lZ.val]) (cs':=[aL.work.val,aL.index.val,lZ.val,str aL.aG,i64 aL.aH,str aL.aW,i64 aL.aS,str aL.aV,aL.aN.val,aL.aT.val,i64 aL.aY,str aL.aM,str aL.aC,i64 aL.aE,aL.aO.val,aL.aU.val,aL.bJ.val]) rfl aFC ?_
 refine VL.back (D':=[]) (by kernel_rfl) (aF.nil) ?_
 refine Zw rfl (aB j8 rfl) ?_
 refine VD.one rfl ?_
 refine Zv (vc:=[mM.val]) (cs':=[aL.work.val,aL.index.val,lZ.val,str aL.aG,i64 aL.aH,str aL.aW,i64 aL.aS,str aL.aV,aL.aN.val,aL.aT.val,i64 aL.aY,str aL.aM,str aL.aC,i64 aL.aE,aL.aO.val,aL.aU.val,mM.val]) rfl aFD ?_
 refine VL.back (D':=[]) (by kernel_rfl) (aF.nil) ?_
 refine VD.to (fun _ _ h=>h) ?_
 refine Zq (Zr ?_)
 refine Zu (gZ oB rfl rfl) ?_
 refine Zv (vc:=[aL.work.val,aL.index.val,lZ.val,str aL.aG,i64 aL.aH,str aL.aW,i64 aL.aS,str aL.aV,aL.aN.val,aL.aT.val,i64 aL.aY,str aL.aM,str aL.aC,i64 aL.aE,aL.aO.val,aL.aU.val,mM.val]) (cs':=[aL.work.val,aL.index.val,lZ.val,str aL.aG,i64 aL.aH,str aL.aW,i64 aL.aS,str aL.aV,aL.aN.val,aL.aT.val,i64 aL.aY,str aL.aM,str aL.aC,i64 aL.aE,aL.aO.val,aL.aU.val,mM.val]) rfl zB ?_
 refine Zl ?_
 refine VC.keep (ρ':=[(2,ptr iL 0)]) [2] rfl ?_
 cases hS
 exact VC.ret (oV (vs:=[.agg #[aL.work.val,aL.index.val,lZ.val,str aL.aG,i64 aL.aH,str aL.aW,i64 aL.aS,str aL.aV,aL.aN.val,aL.aT.val,i64 aL.aY,str aL.aM,str aL.aC,i64 aL.aE,aL.aO.val,aL.aU.val,mM.val]]) (.inr rfl) rfl (jY.cell oB rfl rfl Rd.blk (jY.nil)) (⟨aL.work,aL.index,lZ,aL.aG,aL.aH,aL.aW,aL.aS,aL.aV,aL.aN,aL.aT,aL.aY,aL.aM,aL.aC,aL.aE,aL.aO,aL.aU,mM⟩,⟨xX.b,xX.at_,xX.err⟩,⟨OV.bad⟩) rfl rfl (by (try dsimp only); exact dQ.out) (by (try dsimp only); exact fL.out))
theorem SJ (lC:Nat) (gD:dO) {r:Int} (hS:Sh.wB gD.pl=some r) :
 Ct Tryz.prog 54 [ptr lC 0] (gD.b.ok.and (gD.err.ok.and (Cells lC 0 [gD.b.val,i64 gD.at_,gD.err.val]))) (Ow.emp) (X:=Unit) (fun _=>i64 r) (fun _=>True) (fun _=>Mo.tt) (fun _=>Ow.emp):=by
 refine Zo Tryz.func54 Tryz.ntmps54 fun c => ?_
 unfold Sh.wB at hS
 refine Zq (Zr ?_)
 refine Zy ?_
 refine Zq (Zq (Zr ?_))
 refine Zm ?_
 refine Zu (aJ rfl) ?_
 refine Zu (aB KH rfl) ?_
 refine Zu (FL IN rfl rfl) ?_
 refine Zu (z8 Tryz.underlying26 rfl) ?_
 refine Zl ?_
 refine uH hS (fun h7 hS => ?_) (fun h7 hS => ?_)
 ·
  refine Zq (Zr ?_)
  refine Zy ?_
  cases hS
  exact Ze
 refine Zk ?_
 refine Zq ?_
 refine VC.draw ((List.range 11).map fun k=>(k,true)) mixed (by kernel_rfl) (by kernel_rfl) (by kernel_rfl) ?_
 refine Zw rfl (bI rfl) ?_
 refine Zw rfl (aJ rfl) ?_
 refine Zw rfl (aB KG rfl) ?_
 refine Zw rfl (FL z6 rfl rfl) ?_
 refine Zw rfl (fH (s:=gD.b) Tryz.underlying22 rfl) ?_
 refine Zw rfl (bI rfl) ?_
 refine Zw rfl (aJ rfl) ?_
 refine Zw rfl (aB s9 rfl) ?_
 refine Zw rfl (FL cN rfl rfl) ?_
 obtain ⟨b17,hS⟩:=bQ hS
 refine Zw rfl (tW rfl rfl b17) ?_
 refine Zw rfl (iG rfl) ?_
 refine VD.to (fun _ _ h=>h) ?_
 refine VC.keep (ρ':=[(2,i64 ((gD.b.l.length:Int) - gD.at_))]) [2] rfl ?_
 cases hS
 exact Ze
theorem EX (bY:Nat) (eL:bH) (aP:Nat) (bK:dO) {r:jR} (hS:Sh.qZ eL bK.pl=some r) :
 Ct Tryz.prog 68 [ptr bY 0] (bK.b.ok.and bK.err.ok) (Ow.star (bT aP [bK.b.val,i64 bK.at_,bK.err.val] 233) (bT bY [ptr aP 0,.bool eL.bad] 161)) (X:=Er) (fun x=>x.val) (fun x=>r=x.pl) (fun x=>x.ok) (fun x=>Ow.star (bT aP [bK.b.val,i64 bK.at_,bK.err.val] 233) (bT bY [ptr aP 0,.bool eL.bad] 161)):=by
 refine Zo Tryz.func68 Tryz.ntmps68 fun c => ?_
 unfold Sh.qZ at hS
 refine Zq (Zr ?_)
 refine Zy ?_
 refine Zq (Zb (Zq (Zr ?_)))
 refine Zm ?_
 refine Zu (aJ rfl) ?_
 refine Zu (aB dD rfl) ?_
 refine Zu (aI dR rfl rfl) ?_
 obtain ⟨FN,L9,hS⟩:=bF hS
 refine VL.cT (mD aP bK L9) rfl (by decide) ?_
 rintro D4 rfl
 try dsimp only
 refine Zu (z8 Tryz.underlying26 rfl) ?_
 refine Zy ?_
 refine uH hS (fun h3 hS => ?_) (fun h3 hS => ?_)
 ·
  refine Zq (Zr ?_)
  refine Zm ?_
  refine Zu (aJ rfl) ?_
  refine Zu (aB dD rfl) ?_
  refine Zu (aI dR rfl rfl) ?_
  obtain ⟨aFy,aEe,hS⟩:=bF hS
  refine VL.cT (mD aP bK aEe) rfl (by decide) ?_
  rintro aJA rfl
  try dsimp only
  refine Zy ?_
  refine VC.keep (ρ':=[(2,aJA.val)]) [2] rfl ?_
  cases hS
  exact VC.ret (iU (.inr rfl) rfl rfl aJA rfl rfl (by (try dsimp only); exact dQ.out) (by (try dsimp only); exact fL.out))
 refine VC.j0 (S:=Bool) (fun (PN:Bool)=>PN) (fun (PN:Bool)=>[(15,.bool PN)]) (fun (PN:Bool)=>Mo.tt) (fun (PN:Bool)=>Ow.star (bT aP [bK.b.val,i64 bK.at_,bK.err.val] 233) (Ow.star (bT bY [ptr aP 0,.bool eL.bad] 161) (Ow.emp))) hS ?_ ?_
 ·
  clear hS
  intro k4 hS
  refine Zr ?_
  refine Zm ?_
  refine Zu (aJ rfl) ?_
  refine Zu (aB lU rfl) ?_
  refine Zu (aI OD rfl rfl) ?_
  refine Zm ?_
  refine rC 20 hS (fun h20 hS => ?_) (fun h20 hS => ?_)
  ·
   refine VL.runs 8 [(15,some true)] (by kernel_rfl) ?_
   refine VL.mt true [15] (fun _ _ h=>h) hS rfl
  refine Zg ?_
  refine Zh (aJ rfl) ?_
  refine Zh (aB dD rfl) ?_
  refine Zh (aI dR rfl rfl) ?_
  obtain ⟨aKj,aWA,hS⟩:=bF hS
  refine Zh (sK (SJ aP bK aWA) rfl (fun _ _=>rfl)) ?_
  refine Zh (gQ rfl rfl) ?_
  refine Zy ?_
  refine VL.mt (decide (0 < aKj)) [15] (fun _ _ h=>h) hS rfl
 clear hS
 rintro PN hS
 refine mT hS (fun h15 hS => ?_) (fun h15 hS => ?_)
 ·
  refine Zq (Zr ?_)
  refine Zu (o3 Tryz.underlying131 (fun _ h=>by cases h) rfl) ?_
  refine Zy ?_
  cases hS
  exact VC.ret (iU (.inr rfl) rfl rfl (Er.no 2) rfl rfl (by (try dsimp only); exact dQ.out) (by (try dsimp only); exact fL.out))
 refine Zk ?_
 refine Zq (Zr ?_)
 refine Zy ?_
 cases hS
 exact VC.ret (iU (.inr rfl) rfl rfl .nil rfl rfl (by (try dsimp only); exact dQ.out) (by (try dsimp only); exact fL.out))
theorem DK (aD:bN) {r:dN×jR} (hS:Sh.qF aD=some r) :
 Ct Tryz.prog 23 [str aD] Mo.tt (Ow.emp) (X:=eK×Er) (fun x => .tuple #[.agg (cS.enc x.1).toArray,x.2.val]) (fun x=>r=(x.1.pl,x.2.pl)) (fun x=>(x.1.m.and x.2.ok)) (fun x=>Ow.emp):=by
 refine Zo Tryz.func23 Tryz.ntmps23 fun c => ?_
 unfold Sh.qF at hS
 refine Zq (Zr ?_)
 refine VL.alloc (cs:=[.slice none 0 0,.slice none 0 0,.slice none 0 0,str [],i64 0,str [],i64 0,str [],.slice none 0 0,.slice none 0 0,i64 0,str [],str [],i64 0,.slice none 0 0,.slice none 0 0,.slice none 0 0]) (by kernel_rfl) (by decide) fun nA => ?_
 refine Zy ?_
 refine Zq (Zr ?_)
 refine Zm ?_
 obtain ⟨b8,hS⟩:=bQ hS
 refine VL.s2b Tryz.underlying9 Tryz.underlying22 Tryz.underlying5 rfl b8 (by decide) fun aUS aJw => ?_
 replace hS:=dL aJw hS
 obtain ⟨aZV,aZa,hS⟩:=bF hS
 refine VL.cT (TN aUS aZa) rfl (by decide) ?_
 rintro ⟨VY,aXh⟩ rfl
 try dsimp only
 refine Zu (eO (vs:=[(0,ptr VY 0)]) (cs := #[ptr VY 0,.bool false]) rfl (by kernel_rfl)) ?_
 refine VL.box (cs:=[ptr VY 0,.bool false]) rfl rfl (by decide) fun aJc => ?_
 refine Zy ?_
 refine Zq (Zr ?_)
 refine Zm ?_
 obtain ⟨DP,L2,hS⟩:=bF hS
 refine VL.cT (EY aJc (⟨false⟩:bH) VY aXh L2) rfl (by decide) ?_
 rintro ⟨cO,HH,aT0⟩ rfl
 try dsimp only
 refine VL.alloc (cs:=[.slice none 0 0,.slice none 0 0,.slice none 0 0,str [],i64 0,str [],i64 0,str [],.slice none 0 0,.slice none 0 0,i64 0,str [],str [],i64 0,.slice none 0 0,.slice none 0 0,.slice none 0 0]) (by kernel_rfl) (by decide) fun NL => ?_
 refine Zv (vc:=[cO.work.val,cO.index.val,cO.refs.val,str cO.aG,i64 cO.aH,str cO.aW,i64 cO.aS,str cO.aV,cO.aN.val,cO.aT.val,i64 cO.aY,str cO.aM,str cO.aC,i64 cO.aE,cO.aO.val,cO.aU.val,cO.bJ.val]) (cs':=[cO.work.val,cO.index.val,cO.refs.val,str cO.aG,i64 cO.aH,str cO.aW,i64 cO.aS,str cO.aV,cO.aN.val,cO.aT.val,i64 cO.aY,str cO.aM,str cO.aC,i64 cO.aE,cO.aO.val,cO.aU.val,cO.bJ.val]) rfl zB ?_
 refine Zl ?_
 refine VC.keep (ρ':=[(2,ptr nA 0),(4,ptr aJc 0),(5,ptr NL 0)]) [2,4,5] rfl ?_
 refine Zq (Zq (Zr ?_))
 refine Zm ?_
 obtain ⟨aKa,aVa,hS⟩:=bF hS
 refine VL.cT (EX aJc aT0 VY HH aVa) rfl (by decide) ?_
 rintro aB6 rfl
 try dsimp only
 refine Zy ?_
 refine Zq (Zr ?_)
 refine Zm ?_
 refine Zu (z8 Tryz.underlying26 rfl) ?_
 refine Zl ?_
 refine uH hS (fun h17 hS => ?_) (fun h17 hS => ?_)
 ·
  refine Zq (Zr ?_)
  refine Zu (eO (vs:=[]) (cs := #[.slice none 0 0,.slice none 0 0,.slice none 0 0,str [],i64 0,str [],i64 0,str [],.slice none 0 0,.slice none 0 0,i64 0,str [],str [],i64 0,.slice none 0 0,.slice none 0 0,.slice none 0 0]) rfl (by kernel_rfl)) ?_
  refine Zm ?_
  refine Zv (vc:=[.slice none 0 0,.slice none 0 0,.slice none 0 0,str [],i64 0,str [],i64 0,str [],.slice none 0 0,.slice none 0 0,i64 0,str [],str [],i64 0,.slice none 0 0,.slice none 0 0,.slice none 0 0]) (cs':=[.slice none 0 0,.slice none 0 0,.slice none 0 0,str [],i64 0,str [],i64 0,str [],.slice none 0 0,.slice none 0 0,i64 0,str [],str [],i64 0,.slice none 0 0,.slice none 0 0,.slice none 0 0]) rfl zB ?_
  refine Zy ?_
  refine VC.keep (ρ':=[(2,ptr nA 0),(3,aB6.val)]) [2,3] rfl ?_
  cases hS
  exact VC.ret (oV (vs:=[.agg #[.slice none 0 0,.slice none 0 0,.slice none 0 0,str [],i64 0,str [],i64 0,str [],.slice none 0 0,.slice none 0 0,i64 0,str [],str [],i64 0,.slice none 0 0,.slice none 0 0,.slice none 0 0],aB6.val]) (.inr rfl) rfl (jY.cell oB rfl rfl Rd.blk (jY.tmp rfl (jY.nil))) (⟨⟨none,0,[]⟩,⟨none,0,[]⟩,⟨none,0,[]⟩,[],0,[],0,[],⟨none,0,[]⟩,⟨none,0,[]⟩,0,[],[],0,⟨none,0,[]⟩,⟨none,0,[]⟩,⟨none,0,[]⟩⟩,aB6) rfl rfl (by (try dsimp only); exact dQ.out) (fun _ _=>trivial))
 refine Zk ?_
 refine Zq (Zr ?_)
 refine Zu (gZ oB rfl rfl) ?_
 refine Zv (vc:=[cO.work.val,cO.index.val,cO.refs.val,str cO.aG,i64 cO.aH,str cO.aW,i64 cO.aS,str cO.aV,cO.aN.val,cO.aT.val,i64 cO.aY,str cO.aM,str cO.aC,i64 cO.aE,cO.aO.val,cO.aU.val,cO.bJ.val]) (cs':=[cO.work.val,cO.index.val,cO.refs.val,str cO.aG,i64 cO.aH,str cO.aW,i64 cO.aS,str cO.aV,cO.aN.val,cO.aT.val,i64 cO.aY,str cO.aM,str cO.aC,i64 cO.aE,cO.aO.val,cO.aU.val,cO.bJ.val]) rfl zB ?_
 refine Zy ?_
 cases hS
 exact VC.ret (oV (vs:=[.agg #[cO.work.val,cO.index.val,cO.refs.val,str cO.aG,i64 cO.aH,str cO.aW,i64 cO.aS,str cO.aV,cO.aN.val,cO.aT.val,i64 cO.aY,str cO.aM,str cO.aC,i64 cO.aE,cO.aO.val,cO.aU.val,cO.bJ.val],.nilIface]) (.inr rfl) rfl (jY.cell oB rfl rfl Rd.blk (jY.tmp rfl (jY.nil))) (cO,.nil) rfl rfl (by (try dsimp only); exact dQ.out) (fun _ _=>trivial))
theorem CH (cR:Nat) (w_0:eX) (l_1:Sv bN) {r:dX} (hS:Sh.uO w_0.pl l_1.l=some r) :
 Ct Tryz.prog 165 [ptr cR 0,l_1.val] l_1.ok (Ow.star (Sv.own w_0.eR 5) (bT cR [w_0.eR.val] 157)) (X:=eX) (fun x => .tuple #[]) (fun x=>r=x.pl) (fun x=>Mo.tt) (fun x=>Ow.star (bT cR [x.eR.val] 157) (Sv.own x.eR 5)):=by
 refine Zo Tryz.func165 Tryz.ntmps165 fun c => ?_
 unfold Sh.uO at hS
 refine Zq (Zr ?_)
 refine Zm ?_
 refine Zu (aJ rfl) ?_
 refine Zu (aB eM rfl) ?_
 refine Zm ?_
 refine Zu (fH (s:=l_1) Tryz.underlying89 rfl) ?_
 refine VL.lit (α:=Int) (xs:=[.tmp 8]) (vs:=[i64 (l_1.l.length:Int)]) [(l_1.l.length:Int)] Tryz.underlying32 vO (by decide) rfl rfl rfl rfl (by decide) (fun _ _ _ _=>trivial) (by decide) (fun a1Y aZt => ?_) (by decide)
 replace hS:=dL aZt hS
 obtain ⟨aFx,aV1,hS⟩:=bF hS
 refine VL.cT (gG cR w_0 a1Y aV1) rfl (by decide) ?_
 rintro aTV rfl
 try dsimp only
 refine Zl ?_
 refine Zr ?_
 refine Zm ?_
 refine Zu (aJ rfl) ?_
 refine Zu (aB eM rfl) ?_
 refine Zm ?_
 obtain ⟨CL,L3,hS⟩:=bF hS
 refine VL.cT (jA cR aTV l_1 L3) rfl (by decide) ?_
 rintro aT2 rfl
 try dsimp only
 cases hS
 exact VL.nil (pK (.inl rfl) rfl ⟨aT2.eR⟩ rfl rfl (by (try dsimp only); exact dQ.out) (by (try dsimp only); exact fL.out))
theorem MX (cR:Nat) (w_0:eX) (s_1:fY) {r:dX} (hS:Sh.zG w_0.pl s_1.pl=some r) :
 Ct Tryz.prog 81 [ptr cR 0,.agg (cC s_1).toArray] (s_1.cJ.ok.and (s_1.bV.ok.and (s_1.bB.ok.and (s_1.bW.ok.and (s_1.cG.ok.and (s_1.bX.ok.and (s_1.cH.ok.and (s_1.bL.ok.and (s_1.aK.ok.and (s_1.gC.ok.and s_1.fA.ok)))))))))) (Ow.star (Sv.own w_0.eR 5) (bT cR [w_0.eR.val] 157)) (X:=eX) (fun x => .tuple #[]) (fun x=>r=x.pl) (fun x=>Mo.tt) (fun x=>Ow.star (bT cR [x.eR.val] 157) (Sv.own x.eR 5)):=by
 refine Zo Tryz.func81 Tryz.ntmps81 fun c => ?_
 unfold Sh.zG at hS
 refine Zq (Zr ?_)
 refine VL.box (cs:=(cC s_1)) rfl rfl (by decide) fun qQ => ?_
 refine Zl ?_
 refine Zq (Zr ?_)
 refine Zm ?_
 refine Zu (aB mF rfl) ?_
 refine Zu (sL (j:=0) (n:=17) oB rfl rfl rfl) ?_
 obtain ⟨ZH,aJp,hS⟩:=bF hS
 refine VL.cT (EZ cR w_0 (⟨s_1.cJ,s_1.bV,s_1.bB,s_1.aR,s_1.bA,s_1.cI,s_1.dB,s_1.dP,s_1.bW,s_1.cG,s_1.dK,s_1.cY,s_1.bU,s_1.bS,s_1.bX,s_1.cH,s_1.bL⟩:eK) aJp) rfl (by decide) ?_
 rintro D5 rfl
 try dsimp only
 refine Zl ?_
 refine Zq ?_
 refine VC.draw [(0,true),(1,true),(2,true),(3,true),(4,true),(5,true),(6,false),(7,false)] mixed (by kernel_rfl) (by kernel_rfl) (by kernel_rfl) ?_
 refine Zw rfl (bI rfl) ?_
 refine Zw rfl (aJ rfl) ?_
 refine Zw rfl (aB eM rfl) ?_
 refine Zw rfl (aB sG rfl) ?_
 refine Zw rfl (aI qT rfl rfl) ?_
 refine Zw rfl (iT cL.pl (s:=s_1.aK) Tryz.underlying68 rfl) ?_
 refine VD.one rfl ?_
 refine VL.lit (α:=Int) (xs:=[.tmp 15]) (vs:=[i64 ((s_1.aK.l.map cL.pl).length:Int)]) [((s_1.aK.l.map cL.pl).length:Int)] Tryz.underlying32 vO (by decide) rfl rfl rfl rfl (by decide) (fun _ _ _ _=>trivial) (by decide) (fun HT UG => ?_) (by decide)
 replace hS:=dL UG hS
 refine VL.back (D':=[(2,ptr cR 0),(1,ptr cR 0)]) (by kernel_rfl) (aF.cons rfl (aB eM rfl) (aF.cons rfl (aJ rfl) (aF.nil))) ?_
 refine VD.one rfl ?_
 obtain ⟨H8,TV,hS⟩:=bF hS
 refine VL.cT (gG cR D5 HT TV) rfl (by decide) ?_
 rintro aB8 rfl
 try dsimp only
 refine VL.back (D':=[]) (by kernel_rfl) (aF.nil) ?_
 refine VD.to (fun _ _ h=>h) ?_
 refine VC.keep (ρ':=[(0,ptr cR 0),(3,ptr qQ 0)]) [0,3] rfl ?_
 refine Zq (Zq (Zr ?_))
 refine Zu (aB sG rfl) ?_
 refine Zu (aI qT rfl rfl) ?_
 refine Zu (iT cL.pl (s:=s_1.aK) Tryz.underlying68 rfl) ?_
 refine Zy ?_
 refine Zb ?_
 refine VC.iter (S:=Unit) (fun (_:Unit)=>()) (fun (_:Unit)=>[(0,ptr cR 0),(3,ptr qQ 0),(19,s_1.aK.val),(20,i64 ((s_1.aK.l.map cL.pl).length:Int)),(21,i64 0)]) (fun (_:Unit)=>Mo.tt) (fun (_:Unit)=>Ow.star (bT cR [aB8.eR.val] 157) (Ow.star (bT qQ (cC s_1) 93) (Ow.star (Sv.own aB8.eR 5) (Ow.emp)))) () [0,3,19,20,21] hS rfl ?_
 clear hS
 rintro _ m1 y1 hS hK1
 refine Zq (Zr ?_)
 refine Zu (dA rfl rfl) ?_
 refine Zl ?_
 refine Zq ?_
 refine Zc hS (fun h22 hS => ?_) (fun h22 hS => ?_)
 ·
  refine Zk ?_
  refine Zq (Zb (Zq (Zr ?_)))
  obtain ⟨J3,aMM,aFT,hS⟩:=kQ hS
  refine VL.deep J3.m aFT (fun _ q=>q) ?_
  refine Zu (dH (s:=s_1.aK) Tryz.underlying68 pQ rfl rfl aMM (bC aMM aFT)) ?_
  refine Zu (jL (s:=s_1.aK) xF rfl rfl aFT) ?_
  refine VL.alloc (cs:=[.slice none 0 0,.slice none 0 0,i64 0,str []]) (by kernel_rfl) (by decide) fun NL => ?_
  refine Zv (vc:=[J3.tree.val,J3.parents.val,i64 J3.time,str J3.text]) (cs':=[J3.tree.val,J3.parents.val,i64 J3.time,str J3.text]) rfl pQ ?_
  refine Zl ?_
  refine Zq ?_
  cases hS
 replace hS:=fF hS hK1
 refine Zx ?_
 refine Zq (Zr ?_)
 refine Zm ?_
 refine Zu (aB nM rfl) ?_
 refine Zu (aB zR rfl) ?_
 refine Zu (aI oC rfl rfl) ?_
 obtain ⟨aUx,aW1,hS⟩:=bF hS
 refine VL.cT (CH cR aB8 s_1.gC aW1) rfl (by decide) ?_
 rintro aTj rfl
 try dsimp only
 refine Zl ?_
 refine VC.keep (ρ':=[(0,ptr cR 0),(3,ptr qQ 0)]) [0,3] rfl ?_
 refine Zq (Zr ?_)
 refine Zm ?_
 refine Zu (aB nM rfl) ?_
 refine Zu (aB xI rfl) ?_
 refine Zu (aI oC rfl rfl) ?_
 obtain ⟨aUz,aW3,hS⟩:=bF hS
 refine VL.cT (CH cR aTj s_1.fA aW3) rfl (by decide) ?_
 rintro aTk rfl
 try dsimp only
 refine Zl ?_
 refine VC.draw [(0,true),(1,true),(2,true),(3,true),(4,true),(5,false),(6,false)] mixed (by kernel_rfl) (by kernel_rfl) (by kernel_rfl) ?_
 refine Zw rfl (bI rfl) ?_
 refine Zw rfl (aJ rfl) ?_
 refine Zw rfl (aB eM rfl) ?_
 refine Zw rfl (aB zS rfl) ?_
 refine Zw rfl (aI cN rfl rfl) ?_
 refine VD.one rfl ?_
 refine VL.lit (α:=Int) (xs:=[.tmp 72]) (vs:=[i64 s_1.time]) [s_1.time] Tryz.underlying32 vO (by decide) rfl rfl rfl rfl (by decide) (fun _ _ _ _=>trivial) (by decide) (fun aYI aS9 => ?_) (by decide)
 replace hS:=dL aS9 hS
 refine VL.back (D':=[(2,ptr cR 0),(1,ptr cR 0)]) (by kernel_rfl) (aF.cons rfl (aB eM rfl) (aF.cons rfl (aJ rfl) (aF.nil))) ?_
 refine VD.one rfl ?_
 obtain ⟨W2,aAd,hS⟩:=bF hS
 refine VL.cT (gG cR aTk aYI aAd) rfl (by decide) ?_
 rintro aP0 rfl
 try dsimp only
 refine VL.back (D':=[]) (by kernel_rfl) (aF.nil) ?_
 cases hS
 exact VD.nil (pK (.inl rfl) rfl ⟨aP0.eR⟩ rfl rfl (by (try dsimp only); exact dQ.out) (by (try dsimp only); exact fL.out))
theorem YL (aD:fY) {r:List UInt8} (hS:Sh.JK aD.pl=some r) :
 Ct Tryz.prog 31 [.agg (cC aD).toArray] (aD.cJ.ok.and (aD.bV.ok.and (aD.bB.ok.and (aD.bW.ok.and (aD.cG.ok.and (aD.bX.ok.and (aD.cH.ok.and (aD.bL.ok.and (aD.aK.ok.and (aD.gC.ok.and aD.fA.ok)))))))))) (Ow.emp) (X:=Sv UInt8) (fun x=>x.val) (fun x=>r=x.l) (fun x=>x.ok) (fun x=>Ow.emp):=by
 refine Zo Tryz.func31 Tryz.ntmps31 fun c => ?_
 unfold Sh.JK at hS
 refine Zq (Zr ?_)
 refine VL.box (cs:=(cC aD)) rfl rfl (by decide) fun cM => ?_
 refine Zy ?_
 refine Zq (Zr ?_)
 refine VL.alloc (cs:=[.slice none 0 0]) (by kernel_rfl) (by decide) fun eZ => ?_
 refine Zl ?_
 refine Zq (Zr ?_)
 refine Zu (gZ jS rfl rfl) ?_
 refine VL.qU (⟨none,0,[]⟩:Sv UInt8) 5 ⟨rfl,rfl⟩ ?_
 refine VL.RL eZ (cs':=[(⟨none,0,[]⟩:Sv UInt8).val]) rfl ?_
 obtain ⟨mO,N5,hS⟩:=bF hS
 refine VL.cT (MX eZ (⟨(⟨none,0,[]⟩:Sv UInt8)⟩:eX) aD N5) rfl (by decide) ?_
 rintro bG rfl
 try dsimp only
 refine Zl ?_
 refine Zq (Zr ?_)
 refine Zu (aB eM rfl) ?_
 obtain ⟨JC,SN,hS⟩:=bF hS
 refine VL.cT (FH eZ bG SN) rfl (by decide) ?_
 rintro aF9 rfl
 try dsimp only
 refine Zy ?_
 cases hS
 exact VC.ret (iU (.inr rfl) rfl rfl aF9 rfl rfl (by (try dsimp only); exact dQ.out) (fun _ _=>trivial))
theorem JR (mU:Nat) (bM:fY) (j7:Nat) (dF:Nat) (a_1_:bH) (cK:Nat) (dS:dO) {r:Unit} (hS:Sh.wQ bM.pl a_1_ dS.pl=some r) :
 Ct Tryz.prog 161 [ptr mU 0,ptr j7 0] (bM.cJ.ok.and (bM.bV.ok.and (bM.bB.ok.and (bM.bW.ok.and (bM.cG.ok.and (bM.bX.ok.and (bM.cH.ok.and (bM.bL.ok.and ((wL bM.aK.l).and (bM.gC.ok.and (bM.fA.ok.and (dS.b.ok.and dS.err.ok)))))))))))) (Ow.star (Sv.own bM.aK 110) (Ow.star (bT mU (cC bM) 93) (Ow.star (bT cK [dS.b.val,i64 dS.at_,dS.err.val] 233) (Ow.star (bT dF [ptr cK 0,.bool a_1_.bad] 161) (bT j7 [ptr dF 0] 159))))) (X:=Unit) (fun _ => .tuple #[]) (fun _=>True) (fun _=>Mo.tt) (fun _=>Ow.star (bT mU (cC bM) 93) (Ow.star (Sv.own bM.aK 110) (Ow.star (bT cK [dS.b.val,i64 dS.at_,dS.err.val] 233) (Ow.star (bT dF [ptr cK 0,.bool a_1_.bad] 161) (bT j7 [ptr dF 0] 159))))):=by
 refine Zo Tryz.func161 Tryz.ntmps161 fun c => ?_
 unfold Sh.wQ at hS
 cases hS
theorem JP (bY:Nat) (eL:bH) (aP:Nat) (bK:dO) (cW:Nat) (aX:fY) (cX:Nat) {r:cE×bH} (hS:Sh.wO eL bK.pl aX.pl=some r) :
 Ct Tryz.prog 142 [ptr bY 0,.func (.func 161) #[] #[ptr cW 0,ptr cX 0]] (bK.b.ok.and (bK.err.ok.and (aX.cJ.ok.and (aX.bV.ok.and (aX.bB.ok.and (aX.bW.ok.and (aX.cG.ok.and (aX.bX.ok.and (aX.cH.ok.and (aX.bL.ok.and ((wL aX.aK.l).and (aX.gC.ok.and aX.fA.ok)))))))))))) (Ow.star (bT aP [bK.b.val,i64 bK.at_,bK.err.val] 233) (Ow.star (bT bY [ptr aP 0,.bool eL.bad] 161) (Ow.star (Sv.own aX.aK 110) (Ow.star (bT cW (cC aX) 93) (bT cX [ptr bY 0] 159))))) (X:=dO×bH) (fun x => .tuple #[]) (fun x=>r=(x.1.pl,x.2)) (fun x=>(x.1.b.ok.and x.1.err.ok)) (fun x=>Ow.star (bT aP [x.1.b.val,i64 x.1.at_,x.1.err.val] 233) (Ow.star (bT bY [ptr aP 0,.bool x.2.bad] 161) (Ow.star (bT cW (cC aX) 93) (Ow.star (Sv.own aX.aK 110) (bT cX [ptr bY 0] 159))))):=by
 refine Zo Tryz.func142 Tryz.ntmps142 fun c => ?_
 unfold Sh.wO at hS
 refine Zq (Zr ?_)
 refine Zm ?_
 refine Zu (aJ rfl) ?_
 refine Zu (aB dD rfl) ?_
 refine Zu (aI dR rfl rfl) ?_
 obtain ⟨gS,tC,hS⟩:=bF hS
 refine VL.cT (fM aP bK tC) rfl (by decide) ?_
 rintro ⟨eD,fG⟩ rfl
 try dsimp only
 refine Zy ?_
 refine VC.j0 (S:=Bool) (fun (fV:Bool)=>fV) (fun (fV:Bool)=>[(0,ptr bY 0),(1,.func (.func 161) #[] #[ptr cW 0,ptr cX 0]),(4,i64 eD)]) (fun (fV:Bool)=>Mo.tt) (fun (fV:Bool)=>Ow.star (bT aP [fG.b.val,i64 fG.at_,fG.err.val] 233) (Ow.star (bT bY [ptr aP 0,.bool fV] 161) (Ow.star (bT cW (cC aX) 93) (Ow.star (bT cX [ptr bY 0] 159) (Ow.star (Sv.own aX.aK 110) (Ow.emp)))))) hS ?_ ?_
 ·
  clear hS
  intro k3 hS
  refine Zr ?_
  refine Zy ?_
  refine Zu (aJ rfl) ?_
  refine Zu (aB lU rfl) ?_
  refine Zu (aI OD rfl rfl) ?_
  refine Zm ?_
  refine rC 16 hS (fun h16 hS => ?_) (fun h16 hS => ?_)
  ·
   refine VL.runs 3 [(19,some true)] (by kernel_rfl) ?_
   refine Zu (aJ rfl) ?_
   refine Zu (aB lU rfl) ?_
   refine Zv (vc:=[.bool true]) (cs':=[ptr aP 0,.bool true]) rfl IS ?_
   refine VL.mt true [0,1,4] (fun _ _ h=>h) hS rfl
  refine Zg ?_
  refine Zh (dA rfl rfl) ?_
  refine Zf ?_
  refine Zu (aJ rfl) ?_
  refine Zu (aB lU rfl) ?_
  refine Zv (vc:=[.bool (decide (eD < 0))]) (cs':=[ptr aP 0,.bool (decide (eD < 0))]) rfl IS ?_
  refine VL.mt (decide (eD < 0)) [0,1,4] (fun _ _ h=>h) hS rfl
 clear hS
 rintro fV hS
 refine Zq (Zr ?_)
 refine Zy ?_
 refine Zb ?_
 refine VC.iter (S:=Int) (fun (jV:Int)=>jV) (fun (jV:Int)=>[(0,ptr bY 0),(1,.func (.func 161) #[] #[ptr cW 0,ptr cX 0]),(4,i64 eD),(5,i64 jV)]) (fun (jV:Int)=>Mo.tt) (fun (jV:Int)=>Ow.star (bT aP [fG.b.val,i64 fG.at_,fG.err.val] 233) (Ow.star (bT bY [ptr aP 0,.bool fV] 161) (Ow.star (bT cW (cC aX) 93) (Ow.star (bT cX [ptr bY 0] 159) (Ow.star (Sv.own aX.aK 110) (Ow.emp)))))) 0 [0,1,4,5] hS rfl ?_
 clear hS
 rintro jV m1 y1 hS hK1
 refine Zq (Zq (Zr ?_))
 refine Zy ?_
 refine Zu (dA rfl rfl) ?_
 refine Zm ?_
 refine jJ 25 hS (fun h25 hS => ?_) (fun h25 hS => ?_)
 ·
  refine Zg ?_
  refine Zh (aJ rfl) ?_
  refine Zh (aB dD rfl) ?_
  refine Zh (aI dR rfl rfl) ?_
  refine VL.guard rfl rfl ?_
  obtain ⟨Y2,aEr,hS⟩:=bF hS
  refine VL.cT (mD aP fG aEr) rfl (by decide) ?_
  rintro aTg rfl
  try dsimp only
  refine Zh (vT Tryz.underlying26 rfl) ?_
  refine Zy ?_
  refine VC.keep (ρ':=[(0,ptr bY 0),(1,.func (.func 161) #[] #[ptr cW 0,ptr cX 0]),(4,i64 eD),(5,i64 jV),(32,.bool (decide (aTg.pl.isNil=true)))]) [0,1,4,5,32] rfl ?_
  refine Zc hS (fun h32 hS => ?_) (fun h32 hS => ?_)
  ·
   refine Zk ?_
   refine Zq (Zb (Zr ?_))
   refine Zm ?_
   obtain ⟨aGL,aEv,hS⟩:=bF hS
   refine VL.uI (vs:=[]) (caps:=[ptr cW 0,ptr cX 0]) (JR cW aX cX bY (⟨fV⟩:bH) aP fG aEv) rfl rfl (by decide) ?_
   rintro _ _
   try dsimp only
   refine Zl ?_
   refine Zr ?_
   refine Zm ?_
   obtain ⟨b34,hS⟩:=bQ hS
   refine Zu (dZ rfl rfl b34) ?_
   refine Za ?_
   refine VL.kE (jV+1) [0,1,4,5] (fun _ _ h=>h) (go2 hS hK1) rfl
  replace hS:=fF hS hK1
  cases hS
  exact VC.exit (pK (.inl rfl) rfl (⟨fG.b,fG.at_,fG.err⟩,⟨fV⟩) rfl rfl (by (try dsimp only); exact dQ.out) (by (try dsimp only); exact fL.out))
 refine VL.runs 7 [(32,some false)] (by kernel_rfl) ?_
 refine Zl ?_
 refine VC.rL rfl ?_
 replace hS:=fF hS hK1
 cases hS
 exact VC.exit (pK (.inl rfl) rfl (⟨fG.b,fG.at_,fG.err⟩,⟨fV⟩) rfl rfl (by (try dsimp only); exact dQ.out) (by (try dsimp only); exact fL.out))
theorem wH (aD:Sv cL) {r:List gF} (hS:Sh.mX (aD.l.map cL.pl)=some r) :
 Ct Tryz.prog 163 [aD.val] aD.ok (Ow.emp) (X:=Sv cL) (fun x=>x.val) (fun x=>r=(x.l.map cL.pl)) (fun x=>x.ok) (fun x=>Ow.emp):=by
 refine Zo Tryz.func163 Tryz.ntmps163 fun c => ?_
 unfold Sh.mX at hS
 refine Zq (Zr ?_)
 refine Zy ?_
 refine Zq (Zr ?_)
 refine Zy ?_
 refine Zu (iT cL.pl (s:=aD) Tryz.underlying68 rfl) ?_
 refine Zm ?_
 refine Zu (iT cL.pl (s:=aD) Tryz.underlying68 rfl) ?_
 obtain ⟨b8,hS⟩:=bQ hS
 refine VL.RW Tryz.underlying68 pQ rfl rfl rfl b8.1 (aKB b8.2) (by decide) fun BZ vQ => ?_
 replace hS:=dL ((congrArg (List.map cL.pl) vQ).trans List.map_take) hS
 refine Zy ?_
 cases hS
 exact VC.ret (iU (.inr rfl) rfl rfl BZ rfl rfl (by (try dsimp only); exact dQ.out) (fun _ _=>trivial))
theorem JT (mU:Nat) (bM:Sv bN) (j7:Nat) (dF:Nat) (a_1_:bH) (cK:Nat) (dS:dO) {r:List bN×cE} (hS:Sh.wR bM.l a_1_ dS.pl=some r) :
 Ct Tryz.prog 212 [ptr mU 0,ptr j7 0] (dS.b.ok.and dS.err.ok) (Ow.star (Sv.own bM 9) (Ow.star (bT mU [bM.val] 89) (Ow.star (bT cK [dS.b.val,i64 dS.at_,dS.err.val] 233) (Ow.star (bT dF [ptr cK 0,.bool a_1_.bad] 161) (bT j7 [ptr dF 0] 159))))) (X:=Sv bN×dO) (fun x => .tuple #[]) (fun x=>r=(x.1.l,x.2.pl)) (fun x=>(x.2.b.ok.and x.2.err.ok)) (fun x=>Ow.star (bT mU [x.1.val] 89) (Ow.star (Sv.own x.1 9) (Ow.star (bT cK [x.2.b.val,i64 x.2.at_,x.2.err.val] 233) (Ow.star (bT dF [ptr cK 0,.bool a_1_.bad] 161) (bT j7 [ptr dF 0] 159))))):=by
 refine Zo Tryz.func212 Tryz.ntmps212 fun c => ?_
 unfold Sh.wR at hS
 refine VC.draw [(0,true),(1,true),(2,true),(3,true),(4,true),(5,false),(6,false),(7,false),(8,false)] mixed (by kernel_rfl) (by kernel_rfl) (by kernel_rfl) ?_
 refine Zw rfl (aI oC rfl rfl) ?_
 refine Zw rfl (aI dY rfl rfl) ?_
 refine Zw rfl (aJ rfl) ?_
 refine Zw rfl (aB dD rfl) ?_
 refine Zw rfl (aI dR rfl rfl) ?_
 refine VD.one rfl ?_
 obtain ⟨lT,oH,hS⟩:=bF hS
 refine VL.cT (iZ cK dS oH) rfl (by decide) ?_
 rintro ⟨pT,F3⟩ rfl
 try dsimp only
 refine VL.back (D':=[(0,bM.val)]) (by kernel_rfl) (aF.cons rfl (aI oC rfl rfl) (aF.nil)) ?_
 refine VD.one rfl ?_
 refine VL.lit (α:=bN) (xs:=[.tmp 7]) (vs:=[str pT]) [pT] Tryz.underlying89 oZ (by decide) rfl rfl rfl rfl (by decide) (fun _ _ _ _=>trivial) (by decide) (fun aUS aJw => ?_) (by decide)
 replace hS:=dL aJw hS
 refine VL.back (D':=[(0,bM.val)]) (by kernel_rfl) (aF.cons rfl (aI oC rfl rfl) (aF.nil)) ?_
 refine VD.one rfl ?_
 obtain ⟨b9,hS⟩:=bQ hS
 refine VL.app (s:=bM) (r:=aUS) Tryz.underlying89 XH (by decide) rfl Fo.out (CW b9) (CX b9 (by decide)) (by decide) (fun aUU aZu => ?_)
 replace hS:=dL aZu hS
 refine VL.back (D':=[]) (by kernel_rfl) (aF.nil) ?_
 refine VD.one rfl ?_
 refine Zv (vc:=[aUU.val]) (cs':=[aUU.val]) rfl aAs ?_
 refine VL.back (D':=[]) (by kernel_rfl) (aF.nil) ?_
 cases hS
 exact VD.nil (pK (.inl rfl) rfl (aUU,⟨F3.b,F3.at_,F3.err⟩) rfl rfl (by (try dsimp only); exact dQ.out) (by (try dsimp only); exact fL.out))
theorem JQ (bY:Nat) (eL:bH) (aP:Nat) (bK:dO) (cW:Nat) (aX:Sv bN) (cX:Nat) {r:cE×bH×List bN} (hS:Sh.wP eL bK.pl aX.l=some r) :
 Ct Tryz.prog 142 [ptr bY 0,.func (.func 212) #[] #[ptr cW 0,ptr cX 0]] (bK.b.ok.and bK.err.ok) (Ow.star (bT aP [bK.b.val,i64 bK.at_,bK.err.val] 233) (Ow.star (bT bY [ptr aP 0,.bool eL.bad] 161) (Ow.star (Sv.own aX 9) (Ow.star (bT cW [aX.val] 89) (bT cX [ptr bY 0] 159))))) (X:=dO×bH×Sv bN) (fun x => .tuple #[]) (fun x=>r=(x.1.pl,x.2.1,x.2.2.l)) (fun x=>(x.1.b.ok.and x.1.err.ok)) (fun x=>Ow.star (bT aP [x.1.b.val,i64 x.1.at_,x.1.err.val] 233) (Ow.star (bT bY [ptr aP 0,.bool x.2.1.bad] 161) (Ow.star (bT cW [x.2.2.val] 89) (Ow.star (Sv.own x.2.2 9) (bT cX [ptr bY 0] 159))))):=by
 refine Zo Tryz.func142 Tryz.ntmps142 fun c => ?_
 unfold Sh.wP at hS
 refine Zq (Zr ?_)
 refine Zm ?_
 refine Zu (aJ rfl) ?_
 refine Zu (aB dD rfl) ?_
 refine Zu (aI dR rfl rfl) ?_
 obtain ⟨gS,tC,hS⟩:=bF hS
 refine VL.cT (fM aP bK tC) rfl (by decide) ?_
 rintro ⟨eD,fG⟩ rfl
 try dsimp only
 refine Zy ?_
 refine VC.j0 (S:=Bool) (fun (fV:Bool)=>fV) (fun (fV:Bool)=>[(0,ptr bY 0),(1,.func (.func 212) #[] #[ptr cW 0,ptr cX 0]),(4,i64 eD)]) (fun (fV:Bool)=>Mo.tt) (fun (fV:Bool)=>Ow.star (bT aP [fG.b.val,i64 fG.at_,fG.err.val] 233) (Ow.star (bT bY [ptr aP 0,.bool fV] 161) (Ow.star (bT cW [aX.val] 89) (Ow.star (bT cX [ptr bY 0] 159) (Ow.star (Sv.own aX 9) (Ow.emp)))))) hS ?_ ?_
 ·
  clear hS
  intro k3 hS
  refine Zr ?_
  refine Zy ?_
  refine Zu (aJ rfl) ?_
  refine Zu (aB lU rfl) ?_
  refine Zu (aI OD rfl rfl) ?_
  refine Zm ?_
  refine rC 16 hS (fun h16 hS => ?_) (fun h16 hS => ?_)
  ·
   refine VL.runs 3 [(19,some true)] (by kernel_rfl) ?_
   refine Zu (aJ rfl) ?_
   refine Zu (aB lU rfl) ?_
   refine Zv (vc:=[.bool true]) (cs':=[ptr aP 0,.bool true]) rfl IS ?_
   refine VL.mt true [0,1,4] (fun _ _ h=>h) hS rfl
  refine Zg ?_
  refine Zh (dA rfl rfl) ?_
  refine Zf ?_
  refine Zu (aJ rfl) ?_
  refine Zu (aB lU rfl) ?_
  refine Zv (vc:=[.bool (decide (eD < 0))]) (cs':=[ptr aP 0,.bool (decide (eD < 0))]) rfl IS ?_
  refine VL.mt (decide (eD < 0)) [0,1,4] (fun _ _ h=>h) hS rfl
 clear hS
 rintro fV hS
 refine Zq (Zr ?_)
 refine Zy ?_
 refine Zb ?_
 refine VC.iter (S:=Int×Sv UInt8×Int×Er×Sv bN) (fun sg=>(sg.1,sg.2.1.l,sg.2.2.1,sg.2.2.2.1.pl,sg.2.2.2.2.l)) (fun sg=>[(0,ptr bY 0),(1,.func (.func 212) #[] #[ptr cW 0,ptr cX 0]),(4,i64 eD),(5,i64 sg.1)]) (fun sg=>(sg.2.1.ok.and sg.2.2.2.1.ok)) (fun sg=>Ow.star (bT aP [sg.2.1.val,i64 sg.2.2.1,sg.2.2.2.1.val] 233) (Ow.star (bT bY [ptr aP 0,.bool fV] 161) (Ow.star (bT cW [sg.2.2.2.2.val] 89) (Ow.star (bT cX [ptr bY 0] 159) (Ow.star (Sv.own sg.2.2.2.2 9) (Ow.emp)))))) (0,fG.b,fG.at_,fG.err,aX) [0,1,4,5] hS rfl ?_
 clear hS
 rintro ⟨jV,gX,kS,kT,nJ⟩ m1 y1 hS hK1
 refine Zq (Zq (Zr ?_))
 refine Zy ?_
 refine Zu (dA rfl rfl) ?_
 refine Zm ?_
 refine jJ 25 hS (fun h25 hS => ?_) (fun h25 hS => ?_)
 ·
  refine Zg ?_
  refine Zh (aJ rfl) ?_
  refine Zh (aB dD rfl) ?_
  refine Zh (aI dR rfl rfl) ?_
  refine VL.guard rfl rfl ?_
  obtain ⟨IB,L8,hS⟩:=bF hS
  refine VL.cT (mD aP (⟨gX,kS,kT⟩:dO) L8) rfl (by decide) ?_
  rintro HM rfl
  try dsimp only
  refine Zh (vT Tryz.underlying26 rfl) ?_
  refine Zy ?_
  refine VC.keep (ρ':=[(0,ptr bY 0),(1,.func (.func 212) #[] #[ptr cW 0,ptr cX 0]),(4,i64 eD),(5,i64 jV),(32,.bool (decide (HM.pl.isNil=true)))]) [0,1,4,5,32] rfl ?_
  refine Zc hS (fun h32 hS => ?_) (fun h32 hS => ?_)
  ·
   refine Zk ?_
   refine Zq (Zb (Zr ?_))
   refine Zm ?_
   obtain ⟨o8,GZ,hS⟩:=bF hS
   refine VL.uI (vs:=[]) (caps:=[ptr cW 0,ptr cX 0]) (JT cW nJ cX bY (⟨fV⟩:bH) aP (⟨gX,kS,kT⟩:dO) GZ) rfl rfl (by decide) ?_
   rintro ⟨DF,p9⟩ rfl
   try dsimp only
   refine Zl ?_
   refine Zr ?_
   refine Zm ?_
   obtain ⟨b34,hS⟩:=bQ hS
   refine Zu (dZ rfl rfl b34) ?_
   refine Za ?_
   refine VL.kE ((jV+1),p9.b,p9.at_,p9.err,DF) [0,1,4,5] (fun _ _ h=>h) (go2 hS hK1) rfl
  replace hS:=fF hS hK1
  cases hS
  exact VC.exit (pK (.inl rfl) rfl (⟨gX,kS,kT⟩,⟨fV⟩,nJ) rfl rfl (by (try dsimp only); exact dQ.out) (by (try dsimp only); exact fL.out))
 refine VL.runs 7 [(32,some false)] (by kernel_rfl) ?_
 refine Zl ?_
 refine VC.rL rfl ?_
 replace hS:=fF hS hK1
 cases hS
 exact VC.exit (pK (.inl rfl) rfl (⟨gX,kS,kT⟩,⟨fV⟩,nJ) rfl rfl (by (try dsimp only); exact dQ.out) (by (try dsimp only); exact fL.out))
theorem EV (aD:Sv bN) {r:List bN} (hS:Sh.sO aD.l=some r) :
 Ct Tryz.prog 213 [aD.val] aD.ok (Ow.emp) (X:=Sv bN) (fun x=>x.val) (fun x=>r=x.l) (fun x=>x.ok) (fun x=>Ow.emp):=by
 refine Zo Tryz.func213 Tryz.ntmps213 fun c => ?_
 unfold Sh.sO at hS
 refine Zq (Zr ?_)
 refine Zy ?_
 refine Zq (Zr ?_)
 refine Zy ?_
 refine Zu (fH (s:=aD) Tryz.underlying89 rfl) ?_
 refine Zm ?_
 refine Zu (fH (s:=aD) Tryz.underlying89 rfl) ?_
 obtain ⟨b8,hS⟩:=bQ hS
 refine VL.RW Tryz.underlying89 uG rfl rfl rfl b8.1 (b8.2) (by decide) fun BZ vQ => ?_
 replace hS:=dL vQ hS
 refine Zy ?_
 cases hS
 exact VC.ret (iU (.inr rfl) rfl rfl BZ rfl rfl (by (try dsimp only); exact dQ.out) (fun _ _=>trivial))
theorem CE (bY:Nat) (eL:bH) (aP:Nat) (bK:dO) {r:List bN×cE×bH} (hS:Sh.uN eL bK.pl=some r) :
 Ct Tryz.prog 164 [ptr bY 0] (bK.b.ok.and bK.err.ok) (Ow.star (bT aP [bK.b.val,i64 bK.at_,bK.err.val] 233) (bT bY [ptr aP 0,.bool eL.bad] 161)) (X:=Sv bN×dO×bH) (fun x=>x.1.val) (fun x=>r=(x.1.l,x.2.1.pl,x.2.2)) (fun x=>(x.1.ok.and (x.2.1.b.ok.and x.2.1.err.ok))) (fun x=>Ow.star (bT aP [x.2.1.b.val,i64 x.2.1.at_,x.2.1.err.val] 233) (bT bY [ptr aP 0,.bool x.2.2.bad] 161)):=by
 refine Zo Tryz.func164 Tryz.ntmps164 fun c => ?_
 unfold Sh.uN at hS
 refine Zq (Zr ?_)
 refine VL.box (cs:=[ptr bY 0]) rfl rfl (by decide) fun cM => ?_
 refine Zy ?_
 refine Zq (Zr ?_)
 refine VL.alloc (cs:=[.slice none 0 0]) (by kernel_rfl) (by decide) fun eZ => ?_
 refine Zl ?_
 refine Zq (Zr ?_)
 refine Zu (aI dY rfl rfl) ?_
 refine Zu (tK rfl) ?_
 refine VL.qU (⟨none,0,[]⟩:Sv bN) 9 ⟨rfl,rfl⟩ ?_
 refine VL.RL eZ (cs':=[(⟨none,0,[]⟩:Sv bN).val]) rfl ?_
 obtain ⟨vI,SM,hS⟩:=bF hS
 refine VL.cT (JQ bY eL aP bK eZ (⟨none,0,[]⟩:Sv bN) cM SM) rfl (by decide) ?_
 rintro ⟨vR,MP,BW⟩ rfl
 try dsimp only
 refine Zl ?_
 refine Zq (Zr ?_)
 refine Zu (aI oC rfl rfl) ?_
 refine VL.shut BW 9 (fun _ _ _ _=>trivial) ?_
 obtain ⟨E6,G0,hS⟩:=bF hS
 refine VL.gI (EV BW G0) rfl (by decide) ?_
 rintro vS rfl
 try dsimp only
 refine Zy ?_
 cases hS
 exact VC.ret (iU (.inr rfl) rfl rfl (vS,⟨vR.b,vR.at_,vR.err⟩,⟨MP.bad⟩) rfl rfl (by (try dsimp only); exact dQ.out) (by (try dsimp only); exact fL.out))
theorem MW (bY:Nat) (eL:bH) (aP:Nat) (bK:dO) {r:eP×cE×bH} (hS:Sh.zF eL bK.pl=some r) :
 Ct Tryz.prog 80 [ptr bY 0] (bK.b.ok.and bK.err.ok) (Ow.star (bT aP [bK.b.val,i64 bK.at_,bK.err.val] 233) (bT bY [ptr aP 0,.bool eL.bad] 161)) (X:=fY×dO×bH) (fun x => .agg (cS.enc x.1).toArray) (fun x=>r=(x.1.pl,x.2.1.pl,x.2.2)) (fun x=>(x.1.m.and (x.2.1.b.ok.and x.2.1.err.ok))) (fun x=>Ow.star (bT aP [x.2.1.b.val,i64 x.2.1.at_,x.2.1.err.val] 233) (bT bY [ptr aP 0,.bool x.2.2.bad] 161)):=by
 refine Zo Tryz.func80 Tryz.ntmps80 fun c => ?_
 unfold Sh.zF at hS
 refine Zq (Zr ?_)
 refine VL.box (cs:=[ptr bY 0]) rfl rfl (by decide) fun cM => ?_
 refine VL.alloc (cs:=[.slice none 0 0,.slice none 0 0,.slice none 0 0,str [],i64 0,str [],i64 0,str [],.slice none 0 0,.slice none 0 0,i64 0,str [],str [],i64 0,.slice none 0 0,.slice none 0 0,.slice none 0 0,.slice none 0 0,.slice none 0 0,.slice none 0 0,i64 0]) (by kernel_rfl) (by decide) fun iL => ?_
 refine Zl ?_
 refine Zq (Zr ?_)
 refine Zu (aI dY rfl rfl) ?_
 obtain ⟨mO,N5,hS⟩:=bF hS
 refine VL.cT (EY bY eL aP bK N5) rfl (by decide) ?_
 rintro ⟨bG,aXe,aXf⟩ rfl
 try dsimp only
 refine Zu (eO (vs:=[(0,.agg #[bG.work.val,bG.index.val,bG.refs.val,str bG.aG,i64 bG.aH,str bG.aW,i64 bG.aS,str bG.aV,bG.aN.val,bG.aT.val,i64 bG.aY,str bG.aM,str bG.aC,i64 bG.aE,bG.aO.val,bG.aU.val,bG.bJ.val])]) (cs := #[bG.work.val,bG.index.val,bG.refs.val,str bG.aG,i64 bG.aH,str bG.aW,i64 bG.aS,str bG.aV,bG.aN.val,bG.aT.val,i64 bG.aY,str bG.aM,str bG.aC,i64 bG.aE,bG.aO.val,bG.aU.val,bG.bJ.val,.slice none 0 0,.slice none 0 0,.slice none 0 0,i64 0]) rfl (by kernel_rfl)) ?_
 refine VL.alloc (cs:=[.slice none 0 0,.slice none 0 0,.slice none 0 0,str [],i64 0,str [],i64 0,str [],.slice none 0 0,.slice none 0 0,i64 0,str [],str [],i64 0,.slice none 0 0,.slice none 0 0,.slice none 0 0,.slice none 0 0,.slice none 0 0,.slice none 0 0,i64 0]) (by kernel_rfl) (by decide) fun aLO => ?_
 refine Zv (vc:=[bG.work.val,bG.index.val,bG.refs.val,str bG.aG,i64 bG.aH,str bG.aW,i64 bG.aS,str bG.aV,bG.aN.val,bG.aT.val,i64 bG.aY,str bG.aM,str bG.aC,i64 bG.aE,bG.aO.val,bG.aU.val,bG.bJ.val,.slice none 0 0,.slice none 0 0,.slice none 0 0,i64 0]) (cs':=[bG.work.val,bG.index.val,bG.refs.val,str bG.aG,i64 bG.aH,str bG.aW,i64 bG.aS,str bG.aV,bG.aN.val,bG.aT.val,i64 bG.aY,str bG.aM,str bG.aC,i64 bG.aE,bG.aO.val,bG.aU.val,bG.bJ.val,.slice none 0 0,.slice none 0 0,.slice none 0 0,i64 0]) rfl G4 ?_
 refine Zl ?_
 refine Zq (Zr ?_)
 refine Zu (aI dY rfl rfl) ?_
 refine Zu (tK rfl) ?_
 refine VL.qU (⟨none,0,[]⟩:Sv cL) 110 ⟨rfl,rfl⟩ ?_
 refine VL.G9 (s:=(⟨none,0,[]⟩:Sv cL)) rfl ?_
 refine VL.RL aLO (cs':=[bG.work.val,bG.index.val,bG.refs.val,str bG.aG,i64 bG.aH,str bG.aW,i64 bG.aS,str bG.aV,bG.aN.val,bG.aT.val,i64 bG.aY,str bG.aM,str bG.aC,i64 bG.aE,bG.aO.val,bG.aU.val,bG.bJ.val,(⟨none,0,[]⟩:Sv cL).val,(⟨none,0,[]⟩:Sv bN).val,(⟨none,0,[]⟩:Sv bN).val,i64 0]) rfl ?_
 obtain ⟨aJ5,aZb,hS⟩:=bF hS
 refine VL.cT (JP bY aXf aP aXe aLO (⟨bG.work,bG.index,bG.refs,bG.aG,bG.aH,bG.aW,bG.aS,bG.aV,bG.aN,bG.aT,bG.aY,bG.aM,bG.aC,bG.aE,bG.aO,bG.aU,bG.bJ,(⟨none,0,[]⟩:Sv cL),(⟨none,0,[]⟩:Sv bN),(⟨none,0,[]⟩:Sv bN),0⟩:fY) cM aZb) rfl (by decide) ?_
 rintro ⟨aXi,aXj⟩ rfl
 try dsimp only
 refine Zl ?_
 refine Zq (Zr ?_)
 refine Zu (aB sG rfl) ?_
 refine Zu (aI qT rfl rfl) ?_
 refine VL.shut (⟨none,0,[]⟩:Sv cL) 110 (fun h m=>dQ.out (X:=wL (⟨none,0,[]⟩:Sv cL).l) h m) ?_
 obtain ⟨aUb,aV4,hS⟩:=bF hS
 refine VL.gI (wH (⟨none,0,[]⟩:Sv cL) aV4) rfl (by decide) ?_
 rintro ER rfl
 try dsimp only
 refine Zu (aB sG rfl) ?_
 refine Zv (vc:=[ER.val]) (cs':=[bG.work.val,bG.index.val,bG.refs.val,str bG.aG,i64 bG.aH,str bG.aW,i64 bG.aS,str bG.aV,bG.aN.val,bG.aT.val,i64 bG.aY,str bG.aM,str bG.aC,i64 bG.aE,bG.aO.val,bG.aU.val,bG.bJ.val,ER.val,(⟨none,0,[]⟩:Sv bN).val,(⟨none,0,[]⟩:Sv bN).val,i64 0]) rfl aZo ?_
 refine Zl ?_
 refine VC.keep (ρ':=[(1,ptr cM 0),(2,ptr iL 0),(3,ptr aLO 0)]) [1,2,3] rfl ?_
 refine Zq ?_
 refine VC.draw [(0,true),(2,true),(1,false),(3,false),(4,true),(5,true),(6,false)] mixed (by kernel_rfl) (by kernel_rfl) (by kernel_rfl) ?_
 refine Zw rfl (aI dY rfl rfl) ?_
 refine Zw rfl (aI dY rfl rfl) ?_
 refine VD.one rfl ?_
 obtain ⟨uB,L4,hS⟩:=bF hS
 refine VL.cT (CE bY aXj aP aXi L4) rfl (by decide) ?_
 rintro ⟨dW,HI,HJ⟩ rfl
 try dsimp only
 refine VL.back (D':=[(2,ptr bY 0)]) (by kernel_rfl) (aF.cons rfl (aI dY rfl rfl) (aF.nil)) ?_
 refine VD.one rfl ?_
 obtain ⟨aGA,aVe,hS⟩:=bF hS
 refine VL.cT (CE bY HJ aP HI aVe) rfl (by decide) ?_
 rintro ⟨BU,aT4,aT5⟩ rfl
 try dsimp only
 refine VL.back (D':=[]) (by kernel_rfl) (aF.nil) ?_
 refine Zw rfl (eO (vs:=[(0,dW.val),(1,BU.val)]) (cs := #[dW.val,BU.val]) rfl (by kernel_rfl)) ?_
 refine Zw rfl (aB nM rfl) ?_
 refine VD.one rfl ?_
 refine Zv (vc:=[dW.val,BU.val]) (cs':=[bG.work.val,bG.index.val,bG.refs.val,str bG.aG,i64 bG.aH,str bG.aW,i64 bG.aS,str bG.aV,bG.aN.val,bG.aT.val,i64 bG.aY,str bG.aM,str bG.aC,i64 bG.aE,bG.aO.val,bG.aU.val,bG.bJ.val,ER.val,dW.val,BU.val,i64 0]) rfl aZp ?_
 refine VL.back (D':=[]) (by kernel_rfl) (aF.nil) ?_
 refine VD.to (fun _ _ h=>h) ?_
 refine Zq (Zr ?_)
 refine Zu (aI dY rfl rfl) ?_
 refine Zu (aJ rfl) ?_
 refine Zu (aB dD rfl) ?_
 refine Zu (aI dR rfl rfl) ?_
 obtain ⟨IA,aVy,hS⟩:=bF hS
 refine VL.cT (fM aP aT4 aVy) rfl (by decide) ?_
 rintro ⟨KZ,aBb⟩ rfl
 try dsimp only
 refine Zu (aB zS rfl) ?_
 refine Zv (vc:=[i64 KZ]) (cs':=[bG.work.val,bG.index.val,bG.refs.val,str bG.aG,i64 bG.aH,str bG.aW,i64 bG.aS,str bG.aV,bG.aN.val,bG.aT.val,i64 bG.aY,str bG.aM,str bG.aC,i64 bG.aE,bG.aO.val,bG.aU.val,bG.bJ.val,ER.val,dW.val,BU.val,i64 KZ]) rfl FI ?_
 refine Zl ?_
 refine VC.keep (ρ':=[(2,ptr iL 0),(3,ptr aLO 0)]) [2,3] rfl ?_
 refine Zq (Zr ?_)
 refine Zu (gZ jS rfl rfl) ?_
 refine Zv (vc:=[bG.work.val,bG.index.val,bG.refs.val,str bG.aG,i64 bG.aH,str bG.aW,i64 bG.aS,str bG.aV,bG.aN.val,bG.aT.val,i64 bG.aY,str bG.aM,str bG.aC,i64 bG.aE,bG.aO.val,bG.aU.val,bG.bJ.val,ER.val,dW.val,BU.val,i64 KZ]) (cs':=[bG.work.val,bG.index.val,bG.refs.val,str bG.aG,i64 bG.aH,str bG.aW,i64 bG.aS,str bG.aV,bG.aN.val,bG.aT.val,i64 bG.aY,str bG.aM,str bG.aC,i64 bG.aE,bG.aO.val,bG.aU.val,bG.bJ.val,ER.val,dW.val,BU.val,i64 KZ]) rfl G4 ?_
 refine Zl ?_
 cases hS
 exact VC.ret (oV (vs:=[.agg #[bG.work.val,bG.index.val,bG.refs.val,str bG.aG,i64 bG.aH,str bG.aW,i64 bG.aS,str bG.aV,bG.aN.val,bG.aT.val,i64 bG.aY,str bG.aM,str bG.aC,i64 bG.aE,bG.aO.val,bG.aU.val,bG.bJ.val,ER.val,dW.val,BU.val,i64 KZ]]) (.inr rfl) rfl (jY.cell jS rfl rfl Rd.blk (jY.nil)) (⟨bG.work,bG.index,bG.refs,bG.aG,bG.aH,bG.aW,bG.aS,bG.aV,bG.aN,bG.aT,bG.aY,bG.aM,bG.aC,bG.aE,bG.aO,bG.aU,bG.bJ,ER,dW,BU,KZ⟩,⟨aBb.b,aBb.at_,aBb.err⟩,⟨aT5.bad⟩) rfl rfl (by (try dsimp only); exact dQ.out) (by (try dsimp only); exact fL.out))
theorem YK (XB:Sv UInt8) {r:eP×jR} (hS:Sh.JJ XB.l=some r) :
 Ct Tryz.prog 30 [XB.val] XB.ok (Ow.emp) (X:=fY×Er) (fun x => .tuple #[.agg (cS.enc x.1).toArray,x.2.val]) (fun x=>r=(x.1.pl,x.2.pl)) (fun x=>(x.1.m.and x.2.ok)) (fun x=>Ow.emp):=by
 refine Zo Tryz.func30 Tryz.ntmps30 fun c => ?_
 unfold Sh.JJ at hS
 refine Zq (Zr ?_)
 refine VL.alloc (cs:=[.slice none 0 0,.slice none 0 0,.slice none 0 0,str [],i64 0,str [],i64 0,str [],.slice none 0 0,.slice none 0 0,i64 0,str [],str [],i64 0,.slice none 0 0,.slice none 0 0,.slice none 0 0,.slice none 0 0,.slice none 0 0,.slice none 0 0,i64 0]) (by kernel_rfl) (by decide) fun nA => ?_
 refine Zy ?_
 refine Zq (Zr ?_)
 refine Zm ?_
 obtain ⟨oF,CZ,hS⟩:=bF hS
 refine VL.cT (TN XB CZ) rfl (by decide) ?_
 rintro ⟨sZ,aXg⟩ rfl
 try dsimp only
 refine Zu (eO (vs:=[(0,ptr sZ 0)]) (cs := #[ptr sZ 0,.bool false]) rfl (by kernel_rfl)) ?_
 refine VL.box (cs:=[ptr sZ 0,.bool false]) rfl rfl (by decide) fun aJb => ?_
 refine Zy ?_
 refine Zq (Zr ?_)
 refine Zm ?_
 obtain ⟨FD,TS,hS⟩:=bF hS
 refine VL.cT (MW aJb (⟨false⟩:bH) sZ aXg TS) rfl (by decide) ?_
 rintro ⟨qI,aTY,aTZ⟩ rfl
 try dsimp only
 refine VL.alloc (cs:=[.slice none 0 0,.slice none 0 0,.slice none 0 0,str [],i64 0,str [],i64 0,str [],.slice none 0 0,.slice none 0 0,i64 0,str [],str [],i64 0,.slice none 0 0,.slice none 0 0,.slice none 0 0,.slice none 0 0,.slice none 0 0,.slice none 0 0,i64 0]) (by kernel_rfl) (by decide) fun aPs => ?_
 refine Zv (vc:=(cC qI)) (cs':=(cC qI)) rfl G4 ?_
 refine Zl ?_
 refine VC.keep (ρ':=[(2,ptr nA 0),(4,ptr aJb 0),(5,ptr aPs 0)]) [2,4,5] rfl ?_
 refine Zq (Zq (Zr ?_))
 refine Zm ?_
 obtain ⟨YS,aEg,hS⟩:=bF hS
 refine VL.cT (EX aJb aTZ sZ aTY aEg) rfl (by decide) ?_
 rintro xQ rfl
 try dsimp only
 refine Zy ?_
 refine Zq (Zr ?_)
 refine Zm ?_
 refine Zu (z8 Tryz.underlying26 rfl) ?_
 refine Zl ?_
 refine uH hS (fun h16 hS => ?_) (fun h16 hS => ?_)
 ·
  refine Zq (Zr ?_)
  refine Zu (eO (vs:=[]) (cs := #[.slice none 0 0,.slice none 0 0,.slice none 0 0,str [],i64 0,str [],i64 0,str [],.slice none 0 0,.slice none 0 0,i64 0,str [],str [],i64 0,.slice none 0 0,.slice none 0 0,.slice none 0 0,.slice none 0 0,.slice none 0 0,.slice none 0 0,i64 0]) rfl (by kernel_rfl)) ?_
  refine Zm ?_
  refine Zv (vc:=[.slice none 0 0,.slice none 0 0,.slice none 0 0,str [],i64 0,str [],i64 0,str [],.slice none 0 0,.slice none 0 0,i64 0,str [],str [],i64 0,.slice none 0 0,.slice none 0 0,.slice none 0 0,.slice none 0 0,.slice none 0 0,.slice none 0 0,i64 0]) (cs':=[.slice none 0 0,.slice none 0 0,.slice none 0 0,str [],i64 0,str [],i64 0,str [],.slice none 0 0,.slice none 0 0,i64 0,str [],str [],i64 0,.slice none 0 0,.slice none 0 0,.slice none 0 0,.slice none 0 0,.slice none 0 0,.slice none 0 0,i64 0]) rfl G4 ?_
  refine Zy ?_
  refine VC.keep (ρ':=[(2,ptr nA 0),(3,xQ.val)]) [2,3] rfl ?_
  cases hS
  exact VC.ret (oV (vs:=[.agg #[.slice none 0 0,.slice none 0 0,.slice none 0 0,str [],i64 0,str [],i64 0,str [],.slice none 0 0,.slice none 0 0,i64 0,str [],str [],i64 0,.slice none 0 0,.slice none 0 0,.slice none 0 0,.slice none 0 0,.slice none 0 0,.slice none 0 0,i64 0],xQ.val]) (.inr rfl) rfl (jY.cell jS rfl rfl Rd.blk (jY.tmp rfl (jY.nil))) (⟨⟨none,0,[]⟩,⟨none,0,[]⟩,⟨none,0,[]⟩,[],0,[],0,[],⟨none,0,[]⟩,⟨none,0,[]⟩,0,[],[],0,⟨none,0,[]⟩,⟨none,0,[]⟩,⟨none,0,[]⟩,⟨none,0,[]⟩,⟨none,0,[]⟩,⟨none,0,[]⟩,0⟩,xQ) rfl rfl (by (try dsimp only); exact dQ.out) (fun _ _=>trivial))
 refine Zk ?_
 refine Zq (Zr ?_)
 refine Zu (gZ jS rfl rfl) ?_
 refine Zv (vc:=(cC qI)) (cs':=(cC qI)) rfl G4 ?_
 refine Zy ?_
 cases hS
 exact VC.ret (oV (vs:=[.agg (cC qI).toArray,.nilIface]) (.inr rfl) rfl (jY.cell jS rfl rfl Rd.blk (jY.tmp rfl (jY.nil))) (qI,.nil) rfl rfl (by (try dsimp only); exact dQ.out) (fun _ _=>trivial))
theorem FM (nT:Nat) (gV:lG) (r_1:Sv aZ) {r:Unit} (hS:Sh.y3 gV r_1.l=some r) :
 Ct Tryz.prog 84 [ptr nT 0,r_1.val] ((Cells nT 0 [i64 gV.n]).and r_1.ok) (Ow.emp) (X:=Unit) (fun _ => .tuple #[]) (fun _=>True) (fun _=>Mo.tt) (fun _=>Ow.emp):=by
 refine Zo Tryz.func84 Tryz.ntmps84 fun c => ?_
 unfold Sh.y3 at hS
 refine Zq (Zr ?_)
 refine Zm ?_
 refine Zu (fH (s:=r_1) Tryz.underlying50 rfl) ?_
 refine Zy ?_
 refine Zb ?_
 refine VC.iter (S:=Unit) (fun (_:Unit)=>()) (fun (_:Unit)=>[(0,ptr nT 0),(6,r_1.val),(7,i64 (r_1.l.length:Int)),(8,i64 0)]) (fun (_:Unit)=>Mo.tt) (fun (_:Unit)=>Ow.emp) () [0,6,7,8] hS rfl ?_
 clear hS
 rintro _ m1 y1 hS hK1
 refine Zq (Zr ?_)
 refine Zu (dA rfl rfl) ?_
 refine Zl ?_
 refine Zq ?_
 refine Zc hS (fun h9 hS => ?_) (fun h9 hS => ?_)
 ·
  refine Zk ?_
  refine Zq (Zb (Zq (Zr ?_)))
  obtain ⟨uD,UZ,UM,hS⟩:=eW hS
  refine Zu (dH (s:=r_1) Tryz.underlying50 rN rfl rfl UZ (bC UZ UM)) ?_
  refine Zu (jL (s:=r_1) G2 rfl rfl UM) ?_
  refine VL.alloc (cs:=[str [],i64 0,str []]) (by kernel_rfl) (by decide) fun rW => ?_
  refine Zv (vc:=[str uD.path,i64 uD.mode,str uD.data]) (cs':=[str uD.path,i64 uD.mode,str uD.data]) rfl rN ?_
  refine Zl ?_
  cases hS
 replace hS:=fF hS hK1
 cases hS
 exact VC.exit (pK (.inl rfl) rfl () rfl trivial (fun _ _=>trivial) (fun _ _=>trivial))
theorem A8 (nT:Nat) (gV:lG) (l_1:Sv aQ) {r:Unit} (hS:Sh.tP gV l_1.l=some r) :
 Ct Tryz.prog 166 [ptr nT 0,l_1.val] ((Cells nT 0 [i64 gV.n]).and l_1.ok) (Ow.emp) (X:=Unit) (fun _ => .tuple #[]) (fun _=>True) (fun _=>Mo.tt) (fun _=>Ow.emp):=by
 refine Zo Tryz.func166 Tryz.ntmps166 fun c => ?_
 unfold Sh.tP at hS
 refine Zq (Zr ?_)
 refine Zm ?_
 refine Zu (fH (s:=l_1) Tryz.underlying51 rfl) ?_
 refine Zy ?_
 refine Zb ?_
 refine VC.iter (S:=Unit) (fun (_:Unit)=>()) (fun (_:Unit)=>[(0,ptr nT 0),(6,l_1.val),(7,i64 (l_1.l.length:Int)),(8,i64 0)]) (fun (_:Unit)=>Mo.tt) (fun (_:Unit)=>Ow.emp) () [0,6,7,8] hS rfl ?_
 clear hS
 rintro _ m1 y1 hS hK1
 refine Zq (Zr ?_)
 refine Zu (dA rfl rfl) ?_
 refine Zl ?_
 refine Zq ?_
 refine Zc hS (fun h9 hS => ?_) (fun h9 hS => ?_)
 ·
  refine Zk ?_
  refine Zq (Zb (Zq (Zr ?_)))
  obtain ⟨uD,UZ,UM,hS⟩:=eW hS
  refine Zu (dH (s:=l_1) Tryz.underlying51 pS rfl rfl UZ (bC UZ UM)) ?_
  refine Zu (jL (s:=l_1) sD rfl rfl UM) ?_
  refine VL.alloc (cs:=[str [],i64 0,i64 0,str [],i64 0,i64 0]) (by kernel_rfl) (by decide) fun rW => ?_
  refine Zv (vc:=[str uD.path,i64 uD.dJ,i64 uD.mode,str uD.data,i64 uD.time,i64 uD.size]) (cs':=[str uD.path,i64 uD.dJ,i64 uD.mode,str uD.data,i64 uD.time,i64 uD.size]) rfl pS ?_
  refine Zl ?_
  cases hS
 replace hS:=fF hS hK1
 cases hS
 exact VC.exit (pK (.inl rfl) rfl () rfl trivial (fun _ _=>trivial) (fun _ _=>trivial))
theorem NU (nT:Nat) (gV:lG) (l_1:Sv bN) {r:lG} (hS:Sh.AG gV l_1.l=some r) :
 Ct Tryz.prog 167 [ptr nT 0,l_1.val] l_1.ok (bT nT [i64 gV.n] 176) (X:=lG) (fun x => .tuple #[]) (fun x=>r=x) (fun x=>Mo.tt) (fun x=>bT nT [i64 x.n] 176):=by
 refine Zo Tryz.func167 Tryz.ntmps167 fun c => ?_
 unfold Sh.AG at hS
 refine Zq (Zr ?_)
 refine Zm ?_
 refine Zu (fH (s:=l_1) Tryz.underlying89 rfl) ?_
 refine Zy ?_
 refine Zb ?_
 refine VC.iter (S:=Int×Int) (fun sg=>(sg.1,sg.2)) (fun sg=>[(0,ptr nT 0),(6,l_1.val),(7,i64 (l_1.l.length:Int)),(8,i64 sg.1)]) (fun sg=>Mo.tt) (fun sg=>Ow.star (bT nT [i64 sg.2] 176) (Ow.emp)) (0,gV.n) [0,6,7,8] hS rfl ?_
 clear hS
 rintro ⟨fJ,AL⟩ m1 y1 hS hK1
 refine Zq (Zr ?_)
 refine Zu (dA rfl rfl) ?_
 refine Zl ?_
 refine Zq ?_
 refine Zc hS (fun h9 hS => ?_) (fun h9 hS => ?_)
 ·
  refine Zk ?_
  refine Zq (Zb (Zq (Zr ?_)))
  obtain ⟨AK,VA,UN,hS⟩:=eW hS
  refine Zu (dH (s:=l_1) Tryz.underlying89 uG rfl rfl VA (bC VA UN)) ?_
  refine Zu (qW (s:=l_1) cD rfl UN rfl) ?_
  refine Zy ?_
  refine Zr ?_
  refine Zm ?_
  refine Zu (aJ rfl) ?_
  refine Zu (aB XI rfl) ?_
  refine Zu (aI cN rfl rfl) ?_
  refine Zm ?_
  refine Zu (iH Tryz.underlying9 rfl) ?_
  obtain ⟨b18,hS⟩:=bQ hS
  refine Zu (dZ rfl rfl b18) ?_
  refine Zu (aJ rfl) ?_
  refine Zu (aB XI rfl) ?_
  refine Zv (vc:=[i64 (AL+(AK.length:Int))]) (cs':=[i64 (AL+(AK.length:Int))]) rfl FI ?_
  refine Zl ?_
  refine VC.keep (ρ':=[(0,ptr nT 0),(6,l_1.val),(7,i64 (l_1.l.length:Int)),(8,i64 fJ)]) [0,6,7,8] rfl ?_
  refine Zr ?_
  obtain ⟨b21,hS⟩:=bQ hS
  refine Zu (dZ rfl rfl b21) ?_
  refine Zm ?_
  refine VL.kE ((fJ+1),(AL+(AK.length:Int))) [0,6,7,8] (fun _ _ h=>h) (go2 hS hK1) rfl
 replace hS:=fF hS hK1
 cases hS
 exact VC.exit (pK (.inl rfl) rfl ⟨AL⟩ rfl rfl (by (try dsimp only); exact dQ.out) (by (try dsimp only); exact fL.out))
theorem zX (n_1:Int) {r:List cA} (hS:Sh.o5 n_1=some r) :
 Ct Tryz.prog 214 [.slice none 0 0,i64 n_1] Mo.tt (Ow.emp) (X:=Sv cA) (fun x=>x.val) (fun x=>r=x.l) (fun x=>Mo.tt) (fun x=>Sv.own x 278):=by
 refine Zo Tryz.func214 Tryz.ntmps214 fun c => ?_
 unfold Sh.o5 at hS
 refine Zq (Zr ?_)
 refine Zy ?_
 refine Zq (Zq (Zr ?_))
 refine Zm ?_
 refine Zu (dA rfl rfl) ?_
 refine Zl ?_
 refine Zc hS (fun h6 hS => ?_) (fun h6 hS => ?_)
 ·
  refine Zr ?_
  refine Zu (o3 Tryz.underlying9 (fun _ h=>by cases h) rfl) ?_
  cases hS
 refine Zk ?_
 refine Zq (Zq (Zr ?_))
 refine Zy ?_
 refine Zu (ZY Tryz.underlying55 rfl) ?_
 refine Zm ?_
 refine Zu (aBf Tryz.underlying55 rfl) ?_
 obtain ⟨b13,hS⟩:=bQ hS
 refine Zu (tW rfl rfl b13) ?_
 obtain ⟨b14,hS⟩:=bQ hS
 refine Zu (tW rfl rfl b14) ?_
 refine Zy ?_
 refine VC.keep (ρ':=[(0,.slice none 0 0),(1,i64 (n_1 - (0 - 0)))]) [0,1] rfl ?_
 refine Zq (Zr ?_)
 refine Zm ?_
 refine Zu (gQ rfl rfl) ?_
 refine Zl ?_
 refine Zc hS (fun h16 hS => ?_) (fun h16 hS => ?_)
 ·
  refine Zr ?_
  refine Zy ?_
  refine Zu (ZY Tryz.underlying55 rfl) ?_
  refine Zu (aM9 cA Tryz.underlying55 z7 rfl rfl) ?_
  refine Zm ?_
  obtain ⟨b22,hS⟩:=bQ hS
  refine VL.aYu (α:=cA) (z:=⟨[],0,[]⟩) Tryz.underlying55 Tryz.underlying3 aWe (by decide) rfl b22.1 b22.2 (by decide) (by decide) fun aKN aFL => ?_
  replace hS:=dL aFL hS
  refine Zm ?_
  refine Zu (aBf Tryz.underlying55 rfl) ?_
  refine VL.aZF (s:=aKN) Tryz.underlying55 z7 rfl rfl Fo.out (by decide) fun aBn aFM => ?_
  replace hS:=dL aFM hS
  refine Zy ?_
  refine VC.keep (ρ':=[(0,aBn.val)]) [0] rfl ?_
  refine Zq (Zr ?_)
  refine Zy ?_
  cases hS
  exact VC.ret (iU (.inr rfl) rfl rfl aBn rfl rfl (by (try dsimp only); exact dQ.out) (by (try dsimp only); exact fL.out))
 refine Zk ?_
 refine Zq (Zr ?_)
 refine Zy ?_
 refine VC.qU (⟨none,0,[]⟩:Sv cA) 278 ⟨rfl,rfl⟩ ?_
 cases hS
 exact VC.ret (iU (.inr rfl) rfl rfl ⟨none,0,[]⟩ rfl rfl (by (try dsimp only); exact dQ.out) (by (try dsimp only); exact fL.out))
theorem yX (eS:Sv (Sv cA)) {r:List cA} (hS:Sh.oJ (eS.l.map Sv.l)=some r) :
 Ct Tryz.prog 168 [eS.val] eS.ok (Ow.emp) (X:=Sv cA) (fun x=>x.val) (fun x=>r=x.l) (fun x=>Mo.tt) (fun x=>Sv.own x 278):=by
 refine Zo Tryz.func168 Tryz.ntmps168 fun c => ?_
 unfold Sh.oJ at hS
 refine Zq (Zr ?_)
 refine Zy ?_
 refine Zq (Zr ?_)
 refine Zy ?_
 refine Zq (Zq (Zr ?_))
 refine Zm ?_
 refine Zu (iT Sv.l (s:=eS) Tryz.underlying324 rfl) ?_
 refine Zy ?_
 refine Zb ?_
 refine VC.iter (S:=Int×Int) (fun sg=>(sg.1,sg.2)) (fun sg=>[(0,eS.val),(3,i64 sg.1),(9,eS.val),(10,i64 ((eS.l.map Sv.l).length:Int)),(11,i64 sg.2)]) (fun sg=>Mo.tt) (fun sg=>Ow.emp) (0,0) [0,3,9,10,11] hS rfl ?_
 clear hS
 rintro ⟨qK,lA⟩ m1 y1 hS hK1
 refine Zq (Zr ?_)
 refine Zu (dA rfl rfl) ?_
 refine Zl ?_
 refine Zq ?_
 refine Zc hS (fun h12 hS => ?_) (fun h12 hS => ?_)
 ·
  refine Zk ?_
  refine Zq (Zb (Zq (Zr ?_)))
  obtain ⟨kL,wX,tG,hS⟩:=kQ hS
  refine VL.deep kL.ok tG (fun _ q=>q) ?_
  refine Zu (dH (s:=eS) Tryz.underlying324 aJs rfl rfl wX (bC wX tG)) ?_
  refine Zu (qW (s:=eS) mG rfl tG rfl) ?_
  refine Zy ?_
  refine Zq (Zr ?_)
  refine Zy ?_
  refine Zu (fH (s:=kL) Tryz.underlying55 rfl) ?_
  obtain ⟨b18,hS⟩:=bQ hS
  refine Zu (dZ rfl rfl b18) ?_
  refine Zy ?_
  refine VC.keep (ρ':=[(0,eS.val),(3,i64 (qK+(kL.l.length:Int))),(9,eS.val),(10,i64 ((eS.l.map Sv.l).length:Int)),(11,i64 lA)]) [0,3,9,10,11] rfl ?_
  refine Zq (Zr ?_)
  refine Zm ?_
  refine Zu (dA rfl rfl) ?_
  refine Zl ?_
  refine Zc hS (fun h20 hS => ?_) (fun h20 hS => ?_)
  ·
   refine Zr ?_
   refine Zu (o3 Tryz.underlying9 (fun _ h=>by cases h) rfl) ?_
   cases hS
  refine Zk ?_
  refine Zr ?_
  obtain ⟨b22,hS⟩:=bQ hS
  refine Zu (dZ rfl rfl b22) ?_
  refine Zm ?_
  refine VL.kE ((qK+(kL.l.length:Int)),(lA+1)) [0,3,9,10,11] (fun _ _ h=>h) (go2 hS hK1) rfl
 replace hS:=fF hS hK1
 refine Zx ?_
 refine Zq (Zr ?_)
 refine Zm ?_
 obtain ⟨aCz,aEm,hS⟩:=bF hS
 refine VL.cT (zX qK aEm) rfl (by decide) ?_
 rintro OW rfl
 try dsimp only
 refine Zy ?_
 refine Zq (Zq (Zr ?_))
 refine Zm ?_
 refine Zu (iT Sv.l (s:=eS) Tryz.underlying324 rfl) ?_
 refine Zy ?_
 refine VC.keep (ρ':=[(6,OW.val),(25,eS.val),(26,i64 ((eS.l.map Sv.l).length:Int)),(27,i64 0)]) [6,25,26,27] rfl ?_
 refine Zb ?_
 refine VC.iter (S:=Sv cA×Int) (fun sg=>(sg.1.l,sg.2)) (fun sg=>[(6,sg.1.val),(25,eS.val),(26,i64 ((eS.l.map Sv.l).length:Int)),(27,i64 sg.2)]) (fun sg=>Mo.tt) (fun sg=>Ow.star (Sv.own sg.1 278) (Ow.emp)) (OW,0) [6,25,26,27] hS rfl ?_
 clear hS
 rintro ⟨nE,AI⟩ m1 y1 hS hK1
 refine Zq (Zr ?_)
 refine Zu (dA rfl rfl) ?_
 refine Zl ?_
 refine Zq ?_
 refine Zc hS (fun h28 hS => ?_) (fun h28 hS => ?_)
 ·
  refine Zk ?_
  refine Zq (Zb (Zq (Zr ?_)))
  obtain ⟨IC,VJ,MF,hS⟩:=kQ hS
  refine VL.deep IC.ok MF (fun _ q=>q) ?_
  refine Zu (dH (s:=eS) Tryz.underlying324 aJs rfl rfl VJ (bC VJ MF)) ?_
  refine Zu (qW (s:=eS) mG rfl MF rfl) ?_
  refine Zy ?_
  refine Zr ?_
  refine Zy ?_
  obtain ⟨b33,hS⟩:=bQ hS
  refine VL.app (s:=nE) (r:=IC) Tryz.underlying55 aH6 (by decide) rfl Fo.out (CW b33) (CX b33 (by decide)) (by decide) (fun aBo aFO => ?_)
  replace hS:=dL aFO hS
  refine Zy ?_
  refine VC.keep (ρ':=[(6,aBo.val),(25,eS.val),(26,i64 ((eS.l.map Sv.l).length:Int)),(27,i64 AI)]) [6,25,26,27] rfl ?_
  refine Zr ?_
  obtain ⟨b34,hS⟩:=bQ hS
  refine Zu (dZ rfl rfl b34) ?_
  refine Zm ?_
  refine VL.kE (aBo,(AI+1)) [6,25,26,27] (fun _ _ h=>h) (go2 hS hK1) rfl
 replace hS:=fF hS hK1
 refine Zx ?_
 refine Zq (Zr ?_)
 refine Zy ?_
 cases hS
 exact VC.ret (iU (.inr rfl) rfl rfl nE rfl rfl (by (try dsimp only); exact dQ.out) (by (try dsimp only); exact fL.out))
theorem RN (nT:Nat) (gV:lG) (n_1:eK) {r:lG} (hS:Sh.DM gV n_1.pl=some r) :
 Ct Tryz.prog 82 [ptr nT 0,.agg #[n_1.work.val,n_1.index.val,n_1.refs.val,str n_1.aG,i64 n_1.aH,str n_1.aW,i64 n_1.aS,str n_1.aV,n_1.aN.val,n_1.aT.val,i64 n_1.aY,str n_1.aM,str n_1.aC,i64 n_1.aE,n_1.aO.val,n_1.aU.val,n_1.bJ.val]] (n_1.work.ok.and (n_1.index.ok.and (n_1.refs.ok.and (n_1.aN.ok.and (n_1.aT.ok.and (n_1.aO.ok.and (n_1.aU.ok.and n_1.bJ.ok))))))) (bT nT [i64 gV.n] 176) (X:=lG) (fun x => .tuple #[]) (fun x=>r=x) (fun x=>Mo.tt) (fun x=>bT nT [i64 x.n] 176):=by
 refine Zo Tryz.func82 Tryz.ntmps82 fun c => ?_
 unfold Sh.DM at hS
 refine Zq (Zr ?_)
 refine VL.box (cs:=[n_1.work.val,n_1.index.val,n_1.refs.val,str n_1.aG,i64 n_1.aH,str n_1.aW,i64 n_1.aS,str n_1.aV,n_1.aN.val,n_1.aT.val,i64 n_1.aY,str n_1.aM,str n_1.aC,i64 n_1.aE,n_1.aO.val,n_1.aU.val,n_1.bJ.val]) rfl rfl (by decide) fun qQ => ?_
 refine Zl ?_
 refine Zq (Zr ?_)
 refine Zm ?_
 refine Zu (aB EJ rfl) ?_
 refine Zu (aI iQ rfl rfl) ?_
 obtain ⟨aFy,aEe,hS⟩:=bF hS
 refine Zu (sK (FM nT gV n_1.work aEe) rfl (fun _ _=>rfl)) ?_
 refine Zl ?_
 refine Zq (Zr ?_)
 refine Zm ?_
 refine Zu (aB zQ rfl) ?_
 refine Zu (aI lW rfl rfl) ?_
 obtain ⟨a0s,aVf,hS⟩:=bF hS
 refine Zu (sK (A8 nT gV n_1.index aVf) rfl (fun _ _=>rfl)) ?_
 refine Zl ?_
 refine VC.keep (ρ':=[(0,ptr nT 0),(3,ptr qQ 0)]) [0,3] rfl ?_
 refine Zq (Zq (Zr ?_))
 refine Zu (aB lK rfl) ?_
 refine Zu (aI qS rfl rfl) ?_
 refine Zu (fH (s:=n_1.refs) Tryz.underlying52 rfl) ?_
 refine Zy ?_
 refine Zb ?_
 refine VC.iter (S:=Unit) (fun (_:Unit)=>()) (fun (_:Unit)=>[(0,ptr nT 0),(3,ptr qQ 0),(20,n_1.refs.val),(21,i64 (n_1.refs.l.length:Int)),(22,i64 0)]) (fun (_:Unit)=>Mo.tt) (fun (_:Unit)=>Ow.star (bT qQ [n_1.work.val,n_1.index.val,n_1.refs.val,str n_1.aG,i64 n_1.aH,str n_1.aW,i64 n_1.aS,str n_1.aV,n_1.aN.val,n_1.aT.val,i64 n_1.aY,str n_1.aM,str n_1.aC,i64 n_1.aE,n_1.aO.val,n_1.aU.val,n_1.bJ.val] 61) (Ow.star (bT nT [i64 gV.n] 176) (Ow.emp))) () [0,3,20,21,22] hS rfl ?_
 clear hS
 rintro _ m1 y1 hS hK1
 refine Zq (Zr ?_)
 refine Zu (dA rfl rfl) ?_
 refine Zl ?_
 refine Zq ?_
 refine Zc hS (fun h23 hS => ?_) (fun h23 hS => ?_)
 ·
  refine Zk ?_
  refine Zq (Zb (Zq (Zr ?_)))
  obtain ⟨kG,BS,yQ,hS⟩:=eW hS
  refine Zu (dH (s:=n_1.refs) Tryz.underlying52 uL rfl rfl BS (bC BS yQ)) ?_
  refine Zu (jL (s:=n_1.refs) G3 rfl rfl yQ) ?_
  refine VL.alloc (cs:=[str [],i64 0]) (by kernel_rfl) (by decide) fun aPs => ?_
  refine Zv (vc:=[str kG.name,i64 kG.cB]) (cs':=[str kG.name,i64 kG.cB]) rfl uL ?_
  refine Zl ?_
  cases hS
 replace hS:=fF hS hK1
 refine Zx ?_
 refine Zq (Zr ?_)
 refine Zu (aB sF rfl) ?_
 refine Zu (sL (j:=5) (n:=11) QJ rfl rfl rfl) ?_
 refine VL.alloc (cs:=[str [],i64 0,str [],.slice none 0 0,.slice none 0 0,i64 0,str [],str [],i64 0,.slice none 0 0,.slice none 0 0]) (by kernel_rfl) (by decide) fun aHJ => ?_
 refine Zv (vc:=[str n_1.aW,i64 n_1.aS,str n_1.aV,n_1.aN.val,n_1.aT.val,i64 n_1.aY,str n_1.aM,str n_1.aC,i64 n_1.aE,n_1.aO.val,n_1.aU.val]) (cs':=[str n_1.aW,i64 n_1.aS,str n_1.aV,n_1.aN.val,n_1.aT.val,i64 n_1.aY,str n_1.aM,str n_1.aC,i64 n_1.aE,n_1.aO.val,n_1.aU.val]) rfl XO ?_
 refine Zl ?_
 refine Zq (Zr ?_)
 refine Zm ?_
 refine Zu (aB jU rfl) ?_
 refine Zu (aB lD rfl) ?_
 refine Zu (aI cD rfl rfl) ?_
 refine Zu (aB sE rfl) ?_
 refine Zu (aI cD rfl rfl) ?_
 refine Zu (aB tD rfl) ?_
 refine Zu (aI cD rfl rfl) ?_
 refine Zu (aB uX rfl) ?_
 refine Zu (aI cD rfl rfl) ?_
 refine Zu (aB nL rfl) ?_
 refine Zu (aB lD rfl) ?_
 refine Zu (aI cD rfl rfl) ?_
 refine VL.lit (α:=bN) (xs:=[.tmp 37,.tmp 39,.tmp 41,.tmp 43,.tmp 46]) (vs:=[str n_1.aG,str n_1.aW,str n_1.aV,str n_1.aM,str n_1.aC]) [n_1.aG,n_1.aW,n_1.aV,n_1.aM,n_1.aC] Tryz.underlying89 oZ (by decide) rfl rfl rfl rfl (by decide) (fun _ _ _ _=>trivial) (by decide) (fun a0i aXJ => ?_) (by decide)
 replace hS:=dL aXJ hS
 obtain ⟨NC,aW0,hS⟩:=bF hS
 refine VL.cT (NU nT gV a0i aW0) rfl (by decide) ?_
 rintro _ rfl
 try dsimp only
 refine Zl ?_
 refine VC.keep (ρ':=[(0,ptr nT 0),(3,ptr qQ 0),(6,ptr aHJ 0)]) [0,3,6] rfl ?_
 refine Zq (Zq (Zr ?_))
 refine Zu (aB zP rfl) ?_
 refine Zu (aI mG rfl rfl) ?_
 refine Zu (aB xH rfl) ?_
 refine Zu (aI mG rfl rfl) ?_
 refine VL.lit (α:=Sv cA) (xs:=[.tmp 50,.tmp 52]) (vs:=[n_1.aN.val,n_1.aT.val]) [n_1.aN,n_1.aT] Tryz.underlying324 aWb (by decide) rfl rfl rfl rfl (by decide) (fun h m=>List.forall_mem_cons.2 ⟨dQ.out (X:=n_1.aN.ok) h m,List.forall_mem_cons.2 ⟨dQ.out (X:=n_1.aT.ok) h m,fun _ h=>by cases h⟩⟩) (by decide) (fun aYE aS2 => ?_) (by decide)
 replace hS:=dL (congrArg (List.map Sv.l) aS2) hS
 obtain ⟨aGU,aQv,hS⟩:=bF hS
 refine VL.cT (yX aYE aQv) rfl (by decide) ?_
 rintro GQ rfl
 try dsimp only
 refine Zu (fH (s:=GQ) Tryz.underlying55 rfl) ?_
 refine Zy ?_
 refine Zb ?_
 refine VC.iter (S:=Unit) (fun (_:Unit)=>()) (fun (_:Unit)=>[(0,ptr nT 0),(3,ptr qQ 0),(6,ptr aHJ 0),(54,GQ.val),(55,i64 (GQ.l.length:Int)),(56,i64 0)]) (fun (_:Unit)=>Mo.tt) (fun (_:Unit)=>Ow.star (bT nT [i64 NC.n] 176) (Ow.star (bT aHJ [str n_1.aW,i64 n_1.aS,str n_1.aV,n_1.aN.val,n_1.aT.val,i64 n_1.aY,str n_1.aM,str n_1.aC,i64 n_1.aE,n_1.aO.val,n_1.aU.val] 57) (Ow.star (bT qQ [n_1.work.val,n_1.index.val,n_1.refs.val,str n_1.aG,i64 n_1.aH,str n_1.aW,i64 n_1.aS,str n_1.aV,n_1.aN.val,n_1.aT.val,i64 n_1.aY,str n_1.aM,str n_1.aC,i64 n_1.aE,n_1.aO.val,n_1.aU.val,n_1.bJ.val] 61) (Ow.star (Sv.own GQ 278) (Ow.emp))))) () [0,3,6,54,55,56] hS rfl ?_
 clear hS
 rintro _ m1 y1 hS hK1
 refine Zq (Zr ?_)
 refine Zu (dA rfl rfl) ?_
 refine Zl ?_
 refine Zq ?_
 refine Zc hS (fun h57 hS => ?_) (fun h57 hS => ?_)
 ·
  refine Zk ?_
  refine Zq (Zb (Zq (Zr ?_)))
  obtain ⟨NJ,aId,aHw,hS⟩:=eW hS
  refine Zu (DG (s:=GQ) Tryz.underlying55 z7 rfl rfl aId (bC aId aHw)) ?_
  refine Zu (aXk (s:=GQ) UB rfl rfl aHw) ?_
  refine VL.alloc (cs:=[str [],i64 0,str []]) (by kernel_rfl) (by decide) fun a1e => ?_
  refine Zv (vc:=[str NJ.verb,i64 NJ.cB,str NJ.text]) (cs':=[str NJ.verb,i64 NJ.cB,str NJ.text]) rfl z7 ?_
  refine Zl ?_
  cases hS
 replace hS:=fF hS hK1
 refine Zx ?_
 refine Zq (Zr ?_)
 refine Zm ?_
 refine Zu (aB wF rfl) ?_
 refine Zu (aI lW rfl rfl) ?_
 obtain ⟨aYe,aRP,hS⟩:=bF hS
 refine Zu (sK (A8 nT NC n_1.aO aRP) rfl (fun _ _=>rfl)) ?_
 refine Zl ?_
 refine VC.keep (ρ':=[(0,ptr nT 0),(3,ptr qQ 0),(6,ptr aHJ 0)]) [0,3,6] rfl ?_
 refine Zq (Zr ?_)
 refine Zm ?_
 refine Zu (aB uY rfl) ?_
 refine Zu (aI iQ rfl rfl) ?_
 obtain ⟨Z8,aAe,hS⟩:=bF hS
 refine Zu (sK (FM nT NC n_1.aU aAe) rfl (fun _ _=>rfl)) ?_
 refine Zl ?_
 refine Zq (Zr ?_)
 refine Zu (aB j8 rfl) ?_
 refine Zu (aI nD rfl rfl) ?_
 refine Zu (iT bR.pl (s:=n_1.bJ) Tryz.underlying59 rfl) ?_
 refine Zy ?_
 refine VC.keep (ρ':=[(0,ptr nT 0),(77,n_1.bJ.val),(78,i64 ((n_1.bJ.l.map bR.pl).length:Int)),(79,i64 0)]) [0,77,78,79] rfl ?_
 refine Zb ?_
 refine VC.iter (S:=Unit) (fun (_:Unit)=>()) (fun (_:Unit)=>[(0,ptr nT 0),(77,n_1.bJ.val),(78,i64 ((n_1.bJ.l.map bR.pl).length:Int)),(79,i64 0)]) (fun (_:Unit)=>Mo.tt) (fun (_:Unit)=>Ow.star (bT nT [i64 NC.n] 176) (Ow.star (bT aHJ [str n_1.aW,i64 n_1.aS,str n_1.aV,n_1.aN.val,n_1.aT.val,i64 n_1.aY,str n_1.aM,str n_1.aC,i64 n_1.aE,n_1.aO.val,n_1.aU.val] 57) (Ow.star (bT qQ [n_1.work.val,n_1.index.val,n_1.refs.val,str n_1.aG,i64 n_1.aH,str n_1.aW,i64 n_1.aS,str n_1.aV,n_1.aN.val,n_1.aT.val,i64 n_1.aY,str n_1.aM,str n_1.aC,i64 n_1.aE,n_1.aO.val,n_1.aU.val,n_1.bJ.val] 61) (Ow.emp)))) () [0,77,78,79] hS rfl ?_
 clear hS
 rintro _ m1 y1 hS hK1
 refine Zq (Zr ?_)
 refine Zu (dA rfl rfl) ?_
 refine Zl ?_
 refine Zq ?_
 refine Zc hS (fun h80 hS => ?_) (fun h80 hS => ?_)
 ·
  refine Zk ?_
  refine Zq (Zb (Zq (Zr ?_)))
  obtain ⟨EC,aIr,aBN,hS⟩:=kQ hS
  refine VL.deep EC.m aBN (fun _ q=>q) ?_
  refine Zu (dH (s:=n_1.bJ) Tryz.underlying59 pR rfl rfl aIr (bC aIr aBN)) ?_
  refine Zu (jL (s:=n_1.bJ) G1 rfl rfl aBN) ?_
  refine VL.alloc (cs:=[i64 0,.slice none 0 0,.slice none 0 0,str []]) (by kernel_rfl) (by decide) fun a1b => ?_
  refine Zv (vc:=[i64 EC.base,EC.index.val,EC.work.val,str EC.text]) (cs':=[i64 EC.base,EC.index.val,EC.work.val,str EC.text]) rfl pR ?_
  refine Zl ?_
  refine Zq ?_
  cases hS
 replace hS:=fF hS hK1
 cases hS
 exact VC.exit (pK (.inl rfl) rfl ⟨NC.n⟩ rfl rfl (by (try dsimp only); exact dQ.out) (by (try dsimp only); exact fL.out))
theorem EW (n_1:Int) {r:List bN} (hS:Sh.sQ n_1=some r) :
 Ct Tryz.prog 169 [.slice none 0 0,i64 n_1] Mo.tt (Ow.emp) (X:=Sv bN) (fun x=>x.val) (fun x=>r=x.l) (fun x=>Mo.tt) (fun x=>Sv.own x 9):=by
 refine Zo Tryz.func169 Tryz.ntmps169 fun c => ?_
 unfold Sh.sQ at hS
 refine Zq (Zr ?_)
 refine Zy ?_
 refine Zq (Zq (Zr ?_))
 refine Zm ?_
 refine Zu (dA rfl rfl) ?_
 refine Zl ?_
 refine Zc hS (fun h6 hS => ?_) (fun h6 hS => ?_)
 ·
  refine Zr ?_
  refine Zu (o3 Tryz.underlying9 (fun _ h=>by cases h) rfl) ?_
  cases hS
 refine Zk ?_
 refine Zq (Zq (Zr ?_))
 refine Zy ?_
 refine Zu (ZY Tryz.underlying89 rfl) ?_
 refine Zm ?_
 refine Zu (aBf Tryz.underlying89 rfl) ?_
 obtain ⟨b13,hS⟩:=bQ hS
 refine Zu (tW rfl rfl b13) ?_
 obtain ⟨b14,hS⟩:=bQ hS
 refine Zu (tW rfl rfl b14) ?_
 refine Zy ?_
 refine VC.keep (ρ':=[(0,.slice none 0 0),(1,i64 (n_1 - (0 - 0)))]) [0,1] rfl ?_
 refine Zq (Zr ?_)
 refine Zm ?_
 refine Zu (gQ rfl rfl) ?_
 refine Zl ?_
 refine Zc hS (fun h16 hS => ?_) (fun h16 hS => ?_)
 ·
  refine Zr ?_
  refine Zy ?_
  refine Zu (ZY Tryz.underlying89 rfl) ?_
  refine Zu (aM9 bN Tryz.underlying89 uG rfl rfl) ?_
  refine Zm ?_
  obtain ⟨b22,hS⟩:=bQ hS
  refine VL.aYu (α:=bN) (z:=[]) Tryz.underlying89 Tryz.underlying3 aSI (by decide) rfl b22.1 b22.2 (by decide) (by decide) fun aKN aFL => ?_
  replace hS:=dL aFL hS
  refine Zm ?_
  refine Zu (aBf Tryz.underlying89 rfl) ?_
  refine VL.aZF (s:=aKN) Tryz.underlying89 uG rfl rfl Fo.out (by decide) fun aBn aFM => ?_
  replace hS:=dL aFM hS
  refine Zy ?_
  refine VC.keep (ρ':=[(0,aBn.val)]) [0] rfl ?_
  refine Zq (Zr ?_)
  refine Zy ?_
  cases hS
  exact VC.ret (iU (.inr rfl) rfl rfl aBn rfl rfl (by (try dsimp only); exact dQ.out) (by (try dsimp only); exact fL.out))
 refine Zk ?_
 refine Zq (Zr ?_)
 refine Zy ?_
 refine VC.qU (⟨none,0,[]⟩:Sv bN) 9 ⟨rfl,rfl⟩ ?_
 cases hS
 exact VC.ret (iU (.inr rfl) rfl rfl ⟨none,0,[]⟩ rfl rfl (by (try dsimp only); exact dQ.out) (by (try dsimp only); exact fL.out))
theorem CQ (eS:Sv (Sv bN)) {r:List bN} (hS:Sh.rA (eS.l.map Sv.l)=some r) :
 Ct Tryz.prog 85 [eS.val] eS.ok (Ow.emp) (X:=Sv bN) (fun x=>x.val) (fun x=>r=x.l) (fun x=>Mo.tt) (fun x=>Sv.own x 9):=by
 refine Zo Tryz.func85 Tryz.ntmps85 fun c => ?_
 unfold Sh.rA at hS
 refine Zq (Zr ?_)
 refine Zy ?_
 refine Zq (Zr ?_)
 refine Zy ?_
 refine Zq (Zq (Zr ?_))
 refine Zm ?_
 refine Zu (iT Sv.l (s:=eS) Tryz.underlying279 rfl) ?_
 refine Zy ?_
 refine Zb ?_
 refine VC.iter (S:=Int×Int) (fun sg=>(sg.1,sg.2)) (fun sg=>[(0,eS.val),(3,i64 sg.1),(9,eS.val),(10,i64 ((eS.l.map Sv.l).length:Int)),(11,i64 sg.2)]) (fun sg=>Mo.tt) (fun sg=>Ow.emp) (0,0) [0,3,9,10,11] hS rfl ?_
 clear hS
 rintro ⟨qK,lA⟩ m1 y1 hS hK1
 refine Zq (Zr ?_)
 refine Zu (dA rfl rfl) ?_
 refine Zl ?_
 refine Zq ?_
 refine Zc hS (fun h12 hS => ?_) (fun h12 hS => ?_)
 ·
  refine Zk ?_
  refine Zq (Zb (Zq (Zr ?_)))
  obtain ⟨kL,wX,tG,hS⟩:=kQ hS
  refine VL.deep kL.ok tG (fun _ q=>q) ?_
  refine Zu (dH (s:=eS) Tryz.underlying279 aAs rfl rfl wX (bC wX tG)) ?_
  refine Zu (qW (s:=eS) oC rfl tG rfl) ?_
  refine Zy ?_
  refine Zq (Zr ?_)
  refine Zy ?_
  refine Zu (fH (s:=kL) Tryz.underlying89 rfl) ?_
  obtain ⟨b18,hS⟩:=bQ hS
  refine Zu (dZ rfl rfl b18) ?_
  refine Zy ?_
  refine VC.keep (ρ':=[(0,eS.val),(3,i64 (qK+(kL.l.length:Int))),(9,eS.val),(10,i64 ((eS.l.map Sv.l).length:Int)),(11,i64 lA)]) [0,3,9,10,11] rfl ?_
  refine Zq (Zr ?_)
  refine Zm ?_
  refine Zu (dA rfl rfl) ?_
  refine Zl ?_
  refine Zc hS (fun h20 hS => ?_) (fun h20 hS => ?_)
  ·
   refine Zr ?_
   refine Zu (o3 Tryz.underlying9 (fun _ h=>by cases h) rfl) ?_
   cases hS
  refine Zk ?_
  refine Zr ?_
  obtain ⟨b22,hS⟩:=bQ hS
  refine Zu (dZ rfl rfl b22) ?_
  refine Zm ?_
  refine VL.kE ((qK+(kL.l.length:Int)),(lA+1)) [0,3,9,10,11] (fun _ _ h=>h) (go2 hS hK1) rfl
 replace hS:=fF hS hK1
 refine Zx ?_
 refine Zq (Zr ?_)
 refine Zm ?_
 obtain ⟨aCz,aEm,hS⟩:=bF hS
 refine VL.cT (EW qK aEm) rfl (by decide) ?_
 rintro OW rfl
 try dsimp only
 refine Zy ?_
 refine Zq (Zq (Zr ?_))
 refine Zm ?_
 refine Zu (iT Sv.l (s:=eS) Tryz.underlying279 rfl) ?_
 refine Zy ?_
 refine VC.keep (ρ':=[(6,OW.val),(25,eS.val),(26,i64 ((eS.l.map Sv.l).length:Int)),(27,i64 0)]) [6,25,26,27] rfl ?_
 refine Zb ?_
 refine VC.iter (S:=Sv bN×Int) (fun sg=>(sg.1.l,sg.2)) (fun sg=>[(6,sg.1.val),(25,eS.val),(26,i64 ((eS.l.map Sv.l).length:Int)),(27,i64 sg.2)]) (fun sg=>Mo.tt) (fun sg=>Ow.star (Sv.own sg.1 9) (Ow.emp)) (OW,0) [6,25,26,27] hS rfl ?_
 clear hS
 rintro ⟨nE,AI⟩ m1 y1 hS hK1
 refine Zq (Zr ?_)
 refine Zu (dA rfl rfl) ?_
 refine Zl ?_
 refine Zq ?_
 refine Zc hS (fun h28 hS => ?_) (fun h28 hS => ?_)
 ·
  refine Zk ?_
  refine Zq (Zb (Zq (Zr ?_)))
  obtain ⟨IC,VJ,MF,hS⟩:=kQ hS
  refine VL.deep IC.ok MF (fun _ q=>q) ?_
  refine Zu (dH (s:=eS) Tryz.underlying279 aAs rfl rfl VJ (bC VJ MF)) ?_
  refine Zu (qW (s:=eS) oC rfl MF rfl) ?_
  refine Zy ?_
  refine Zr ?_
  refine Zy ?_
  obtain ⟨b33,hS⟩:=bQ hS
  refine VL.app (s:=nE) (r:=IC) Tryz.underlying89 XH (by decide) rfl Fo.out (CW b33) (CX b33 (by decide)) (by decide) (fun aBo aFO => ?_)
  replace hS:=dL aFO hS
  refine Zy ?_
  refine VC.keep (ρ':=[(6,aBo.val),(25,eS.val),(26,i64 ((eS.l.map Sv.l).length:Int)),(27,i64 AI)]) [6,25,26,27] rfl ?_
  refine Zr ?_
  obtain ⟨b34,hS⟩:=bQ hS
  refine Zu (dZ rfl rfl b34) ?_
  refine Zm ?_
  refine VL.kE (aBo,(AI+1)) [6,25,26,27] (fun _ _ h=>h) (go2 hS hK1) rfl
 replace hS:=fF hS hK1
 refine Zx ?_
 refine Zq (Zr ?_)
 refine Zy ?_
 cases hS
 exact VC.ret (iU (.inr rfl) rfl rfl nE rfl rfl (by (try dsimp only); exact dQ.out) (by (try dsimp only); exact fL.out))
theorem YM (aD:fY) {r:Int×jR} (hS:Sh.JL aD.pl=some r) :
 Ct Tryz.prog 33 [.agg (cC aD).toArray] (aD.cJ.ok.and (aD.bV.ok.and (aD.bB.ok.and (aD.bW.ok.and (aD.cG.ok.and (aD.bX.ok.and (aD.cH.ok.and (aD.bL.ok.and (aD.aK.ok.and (aD.gC.ok.and aD.fA.ok)))))))))) (Ow.emp) (X:=Int×Er) (fun x => .tuple #[i64 x.1,x.2.val]) (fun x=>r=(x.1,x.2.pl)) (fun x=>x.2.ok) (fun x=>Ow.emp):=by
 refine Zo Tryz.func33 Tryz.ntmps33 fun c => ?_
 unfold Sh.JL at hS
 refine Zq (Zr ?_)
 refine VL.box (cs:=(cC aD)) rfl rfl (by decide) fun cM => ?_
 refine Zy ?_
 refine Zq (Zr ?_)
 refine VL.alloc (cs:=[i64 0]) (by kernel_rfl) (by decide) fun aAN => ?_
 refine Zl ?_
 refine Zq (Zr ?_)
 refine Zu (aB mF rfl) ?_
 refine Zu (sL (j:=0) (n:=17) oB rfl rfl rfl) ?_
 obtain ⟨jQ,IL,hS⟩:=bF hS
 refine VL.cT (RN aAN (⟨0⟩:lG) (⟨aD.cJ,aD.bV,aD.bB,aD.aR,aD.bA,aD.cI,aD.dB,aD.dP,aD.bW,aD.cG,aD.dK,aD.cY,aD.bU,aD.bS,aD.bX,aD.cH,aD.bL⟩:eK) IL) rfl (by decide) ?_
 rintro _ rfl
 try dsimp only
 refine Zl ?_
 refine Zq (Zq (Zr ?_))
 refine Zu (aB sG rfl) ?_
 refine Zu (aI qT rfl rfl) ?_
 refine Zu (iT cL.pl (s:=aD.aK) Tryz.underlying68 rfl) ?_
 refine Zy ?_
 refine VC.keep (ρ':=[(1,ptr cM 0),(4,ptr aAN 0),(15,aD.aK.val),(16,i64 ((aD.aK.l.map cL.pl).length:Int)),(17,i64 0)]) [1,4,15,16,17] rfl ?_
 refine Zb ?_
 refine VC.iter (S:=Unit) (fun (_:Unit)=>()) (fun (_:Unit)=>[(1,ptr cM 0),(4,ptr aAN 0),(15,aD.aK.val),(16,i64 ((aD.aK.l.map cL.pl).length:Int)),(17,i64 0)]) (fun (_:Unit)=>Mo.tt) (fun (_:Unit)=>Ow.star (bT aAN [i64 jQ.n] 176) (Ow.star (bT cM (cC aD) 93) (Ow.emp))) () [1,4,15,16,17] hS rfl ?_
 clear hS
 rintro _ m1 y1 hS hK1
 refine Zq (Zr ?_)
 refine Zu (dA rfl rfl) ?_
 refine Zl ?_
 refine Zq ?_
 refine Zc hS (fun h18 hS => ?_) (fun h18 hS => ?_)
 ·
  refine Zk ?_
  refine Zq (Zb (Zq (Zr ?_)))
  obtain ⟨lQ,uM,sY,hS⟩:=kQ hS
  refine VL.deep lQ.m sY (fun _ q=>q) ?_
  refine Zu (dH (s:=aD.aK) Tryz.underlying68 pQ rfl rfl uM (bC uM sY)) ?_
  refine Zu (jL (s:=aD.aK) xF rfl rfl sY) ?_
  refine VL.alloc (cs:=[.slice none 0 0,.slice none 0 0,i64 0,str []]) (by kernel_rfl) (by decide) fun aYw => ?_
  refine Zv (vc:=[lQ.tree.val,lQ.parents.val,i64 lQ.time,str lQ.text]) (cs':=[lQ.tree.val,lQ.parents.val,i64 lQ.time,str lQ.text]) rfl pQ ?_
  refine Zl ?_
  refine Zq ?_
  cases hS
 replace hS:=fF hS hK1
 refine Zx ?_
 refine Zq (Zq (Zr ?_))
 refine Zu (aB nM rfl) ?_
 refine Zu (aB zR rfl) ?_
 refine Zu (aI oC rfl rfl) ?_
 refine Zu (aB nM rfl) ?_
 refine Zu (aB xI rfl) ?_
 refine Zu (aI oC rfl rfl) ?_
 refine VL.lit (α:=Sv bN) (xs:=[.tmp 31,.tmp 34]) (vs:=[aD.gC.val,aD.fA.val]) [aD.gC,aD.fA] Tryz.underlying279 aWd (by decide) rfl rfl rfl rfl (by decide) (fun h m=>List.forall_mem_cons.2 ⟨dQ.out (X:=aD.gC.ok) h m,List.forall_mem_cons.2 ⟨dQ.out (X:=aD.fA.ok) h m,fun _ h=>by cases h⟩⟩) (by decide) (fun a0h aXH => ?_) (by decide)
 replace hS:=dL (congrArg (List.map Sv.l) aXH) hS
 obtain ⟨aKq,aWR,hS⟩:=bF hS
 refine VL.cT (CQ a0h aWR) rfl (by decide) ?_
 rintro EU rfl
 try dsimp only
 refine Zu (fH (s:=EU) Tryz.underlying89 rfl) ?_
 refine Zy ?_
 refine VC.keep (ρ':=[(4,ptr aAN 0),(36,EU.val),(37,i64 (EU.l.length:Int)),(38,i64 0)]) [4,36,37,38] rfl ?_
 refine Zb ?_
 refine VC.iter (S:=Unit) (fun (_:Unit)=>()) (fun (_:Unit)=>[(4,ptr aAN 0),(36,EU.val),(37,i64 (EU.l.length:Int)),(38,i64 0)]) (fun (_:Unit)=>Mo.tt) (fun (_:Unit)=>Ow.star (bT aAN [i64 jQ.n] 176) (Ow.star (bT cM (cC aD) 93) (Ow.star (Sv.own EU 9) (Ow.emp)))) () [4,36,37,38] hS rfl ?_
 clear hS
 rintro _ m1 y1 hS hK1
 refine Zq (Zr ?_)
 refine Zu (dA rfl rfl) ?_
 refine Zl ?_
 refine Zq ?_
 refine Zc hS (fun h39 hS => ?_) (fun h39 hS => ?_)
 ·
  refine Zk ?_
  refine Zq (Zb (Zq (Zr ?_)))
  obtain ⟨a1A,aMX,aLt,hS⟩:=eW hS
  refine Zu (DG (s:=EU) Tryz.underlying89 uG rfl rfl aMX (bC aMX aLt)) ?_
  refine Zu (SW (s:=EU) 9 cD rfl aLt rfl) ?_
  refine Zy ?_
  refine Zq ?_
  cases hS
 replace hS:=fF hS hK1
 refine Zx ?_
 refine Zq (Zr ?_)
 refine Zu (aB XI rfl) ?_
 refine Zu (aI cN rfl rfl) ?_
 refine Zy ?_
 cases hS
 exact VC.ret (KB (.inr rfl) rfl rfl rfl (jQ.n,.nil) rfl rfl (by (try dsimp only); exact dQ.out) (fun _ _=>trivial))
theorem yY (eN:Sv aZ) (gH:Sv aZ) {r:Bool} (hS:Sh.kF eN.l gH.l=some r) :
 Ct Tryz.prog 205 [eN.val,gH.val] (eN.ok.and gH.ok) (Ow.emp) (X:=Unit) (fun _ => .bool r) (fun _=>True) (fun _=>Mo.tt) (fun _=>Ow.emp):=by
 refine Zo Tryz.func205 Tryz.ntmps205 fun c => ?_
 unfold Sh.kF at hS
 refine Zq (Zr ?_)
 refine Zy ?_
 refine Zq (Zq (Zr ?_))
 refine Zm ?_
 refine Zu (fH (s:=eN) Tryz.underlying50 rfl) ?_
 refine Zm ?_
 refine Zu (fH (s:=gH) Tryz.underlying50 rfl) ?_
 refine Zu (mC rfl rfl) ?_
 refine Zl ?_
 refine uH hS (fun h10 hS => ?_) (fun h10 hS => ?_)
 ·
  refine Zq (Zr ?_)
  refine Zy ?_
  cases hS
  exact Ze
 refine Zk ?_
 refine Zq (Zq (Zr ?_))
 refine Zm ?_
 refine Zu (fH (s:=eN) Tryz.underlying50 rfl) ?_
 refine Zy ?_
 refine VC.keep (ρ':=[(0,eN.val),(1,gH.val),(12,i64 (eN.l.length:Int)),(13,i64 0)]) [0,1,12,13] rfl ?_
 refine Zb ?_
 refine VC.iter (S:=Int) (fun (lB:Int)=>lB) (fun (lB:Int)=>[(0,eN.val),(1,gH.val),(12,i64 (eN.l.length:Int)),(13,i64 lB)]) (fun (lB:Int)=>Mo.tt) (fun (lB:Int)=>Ow.emp) 0 [0,1,12,13] hS rfl ?_
 clear hS
 rintro lB m1 y1 hS hK1
 refine Zq (Zr ?_)
 refine Zu (dA rfl rfl) ?_
 refine Zl ?_
 refine Zq ?_
 refine Zc hS (fun h14 hS => ?_) (fun h14 hS => ?_)
 ·
  refine Zk ?_
  refine Zq (Zb (Zq (Zr ?_)))
  refine Zy ?_
  refine Zq ?_
  refine VC.draw ((List.range 9).map fun k=>(k,true)) mixed (by kernel_rfl) (by kernel_rfl) (by kernel_rfl) ?_
  refine Zw rfl (bI rfl) ?_
  refine Zw rfl (bI rfl) ?_
  obtain ⟨nI,D2,DY,hS⟩:=eW hS
  refine Zw rfl (dH (s:=eN) Tryz.underlying50 rN rfl rfl D2 (bC D2 DY)) ?_
  refine Zw rfl (jL (s:=eN) G2 rfl rfl DY) ?_
  refine Zw rfl (bI rfl) ?_
  refine Zw rfl (bI rfl) ?_
  obtain ⟨o9,I0,IU,hS⟩:=eW hS
  refine Zw rfl (dH (s:=gH) Tryz.underlying50 rN rfl rfl I0 (bC I0 IU)) ?_
  refine Zw rfl (jL (s:=gH) G2 rfl rfl IU) ?_
  refine Zw rfl (aBg aRp (aRs nI.path nI.mode nI.data o9.path o9.mode o9.data) rfl rfl) ?_
  refine VD.to (fun _ _ h=>h) ?_
  refine VC.keep (ρ':=[(0,eN.val),(1,gH.val),(12,i64 (eN.l.length:Int)),(13,i64 lB),(24,.bool (!decide (nI.path=o9.path∧nI.mode=o9.mode∧nI.data=o9.data)))]) [0,1,12,13,24] rfl ?_
  refine uH hS (fun h24 hS => ?_) (fun h24 hS => ?_)
  ·
   refine Zq (Zr ?_)
   refine Zy ?_
   replace hS:=fF hS hK1
   cases hS
   exact Ze
  refine Zk ?_
  refine Zr ?_
  obtain ⟨b25,hS⟩:=bQ hS
  refine Zu (dZ rfl rfl b25) ?_
  refine Zm ?_
  refine VL.kE (lB+1) [0,1,12,13] (fun _ _ h=>h) (go2 hS hK1) rfl
 replace hS:=fF hS hK1
 refine Zx ?_
 refine Zq (Zr ?_)
 refine Zy ?_
 cases hS
 exact Ze
theorem vN (eL:Sv aZ) (q_1:Sv aZ) {r:Bool} (hS:Sh.pJ eL.l q_1.l=some r) :
 Ct Tryz.prog 156 [eL.val,q_1.val] (eL.ok.and q_1.ok) (Ow.emp) (X:=Unit) (fun _ => .bool r) (fun _=>True) (fun _=>Mo.tt) (fun _=>Ow.emp):=by
 refine Zo Tryz.func156 Tryz.ntmps156 fun c => ?_
 unfold Sh.pJ at hS
 refine Zq (Zr ?_)
 refine Zy ?_
 refine Zq (Zr ?_)
 refine Zy ?_
 obtain ⟨lT,oH,hS⟩:=bF hS
 refine Zu (cZ (yY eL q_1 oH) rfl (fun _ _=>rfl)) ?_
 refine Zy ?_
 cases hS
 exact Ze
theorem XT (gV:aQ) (pH:aQ) {r:Bool} (hS:Sh.zT gV pH=some r) :
 Ct Tryz.prog 207 [.agg #[str gV.path,i64 gV.dJ,i64 gV.mode,str gV.data,i64 gV.time,i64 gV.size],.agg #[str pH.path,i64 pH.dJ,i64 pH.mode,str pH.data,i64 pH.time,i64 pH.size]] Mo.tt (Ow.emp) (X:=Unit) (fun _ => .bool r) (fun _=>True) (fun _=>Mo.tt) (fun _=>Ow.emp):=by
 refine Zo Tryz.func207 Tryz.ntmps207 fun c => ?_
 unfold Sh.zT at hS
 refine Zq (Zr ?_)
 refine VL.box (cs:=[str gV.path,i64 gV.dJ,i64 gV.mode,str gV.data,i64 gV.time,i64 gV.size]) rfl rfl (by decide) fun nA => ?_
 refine VL.box (cs:=[str pH.path,i64 pH.dJ,i64 pH.mode,str pH.data,i64 pH.time,i64 pH.size]) rfl rfl (by decide) fun eZ => ?_
 refine Zy ?_
 refine Zq (Zr ?_)
 refine Zu (aB pE rfl) ?_
 refine Zu (aI cD rfl rfl) ?_
 refine Zu (aB pE rfl) ?_
 refine Zu (aI cD rfl rfl) ?_
 refine Zy ?_
 refine jJ 10 hS (fun h10 hS => ?_) (fun h10 hS => ?_)
 ·
  refine Zh (aB uW rfl) ?_
  refine Zh (aI cN rfl rfl) ?_
  refine Zh (aB uW rfl) ?_
  refine Zh (aI cN rfl rfl) ?_
  refine Zh (gJ rfl rfl) ?_
  refine Zy ?_
  refine jJ 17 hS (fun h17 hS => ?_) (fun h17 hS => ?_)
  ·
   refine Zh (aB AN rfl) ?_
   refine Zh (aI cN rfl rfl) ?_
   refine Zh (aB AN rfl) ?_
   refine Zh (aI cN rfl rfl) ?_
   refine Zh (gJ rfl rfl) ?_
   refine Zy ?_
   refine jJ 24 hS (fun h24 hS => ?_) (fun h24 hS => ?_)
   ·
    refine Zh (aB yO rfl) ?_
    refine Zh (aI cD rfl rfl) ?_
    refine Zh (aB yO rfl) ?_
    refine Zh (aI cD rfl rfl) ?_
    refine Zh (sM rfl rfl) ?_
    refine Zy ?_
    refine VC.keep (ρ':=[(4,.bool (decide (gV.data=pH.data)))]) [4] rfl ?_
    cases hS
    exact Ze
   refine VL.runs 7 [(4,some false)] (by kernel_rfl) ?_
   refine Zl ?_
   refine VC.keep (ρ':=[(4,.bool false)]) [4] rfl ?_
   cases hS
   exact Ze
  refine VL.runs 14 [(4,some false)] (by kernel_rfl) ?_
  refine Zl ?_
  refine VC.keep (ρ':=[(4,.bool false)]) [4] rfl ?_
  cases hS
  exact Ze
 refine VL.runs 21 [(4,some false)] (by kernel_rfl) ?_
 refine Zl ?_
 refine VC.keep (ρ':=[(4,.bool false)]) [4] rfl ?_
 cases hS
 exact Ze
theorem n5 (eN:Sv aQ) (gH:Sv aQ) {r:Bool} (hS:Sh.eT eN.l gH.l=some r) :
 Ct Tryz.prog 206 [eN.val,gH.val,.func (.func 207) #[] #[]] (eN.ok.and gH.ok) (Ow.emp) (X:=Unit) (fun _ => .bool r) (fun _=>True) (fun _=>Mo.tt) (fun _=>Ow.emp):=by
 refine Zo Tryz.func206 Tryz.ntmps206 fun c => ?_
 unfold Sh.eT at hS
 refine Zq (Zr ?_)
 refine Zy ?_
 refine Zq (Zq (Zr ?_))
 refine Zm ?_
 refine Zu (fH (s:=eN) Tryz.underlying51 rfl) ?_
 refine Zm ?_
 refine Zu (fH (s:=gH) Tryz.underlying51 rfl) ?_
 refine Zu (mC rfl rfl) ?_
 refine Zl ?_
 refine uH hS (fun h14 hS => ?_) (fun h14 hS => ?_)
 ·
  refine Zq (Zr ?_)
  refine Zy ?_
  cases hS
  exact Ze
 refine Zk ?_
 refine Zq (Zq (Zr ?_))
 refine Zm ?_
 refine Zu (fH (s:=eN) Tryz.underlying51 rfl) ?_
 refine Zy ?_
 refine VC.keep (ρ':=[(1,gH.val),(2,.func (.func 207) #[] #[]),(15,eN.val),(16,i64 (eN.l.length:Int)),(17,i64 0)]) [1,2,15,16,17] rfl ?_
 refine Zb ?_
 refine VC.iter (S:=Int) (fun (hG:Int)=>hG) (fun (hG:Int)=>[(1,gH.val),(2,.func (.func 207) #[] #[]),(15,eN.val),(16,i64 (eN.l.length:Int)),(17,i64 hG)]) (fun (hG:Int)=>Mo.tt) (fun (hG:Int)=>Ow.emp) 0 [1,2,15,16,17] hS rfl ?_
 clear hS
 rintro hG m1 y1 hS hK1
 refine Zq (Zr ?_)
 refine Zu (dA rfl rfl) ?_
 refine Zl ?_
 refine Zq ?_
 refine Zc hS (fun h18 hS => ?_) (fun h18 hS => ?_)
 ·
  refine Zk ?_
  refine Zq (Zb (Zq (Zr ?_)))
  refine Zm ?_
  obtain ⟨kM,BR,yP,hS⟩:=eW hS
  refine Zu (dH (s:=eN) Tryz.underlying51 pS rfl rfl BR (bC BR yP)) ?_
  refine Zu (jL (s:=eN) sD rfl rfl yP) ?_
  refine VL.alloc (cs:=[str [],i64 0,i64 0,str [],i64 0,i64 0]) (by kernel_rfl) (by decide) fun aHK => ?_
  refine Za ?_
  refine Zv (vc:=[str kM.path,i64 kM.dJ,i64 kM.mode,str kM.data,i64 kM.time,i64 kM.size]) (cs':=[str kM.path,i64 kM.dJ,i64 kM.mode,str kM.data,i64 kM.time,i64 kM.size]) rfl pS ?_
  refine Zl ?_
  refine Zq (Zr ?_)
  refine Zy ?_
  obtain ⟨kG,BS,yQ,hS⟩:=eW hS
  refine Zu (dH (s:=gH) Tryz.underlying51 pS rfl rfl BS (bC BS yQ)) ?_
  refine Zu (jL (s:=gH) sD rfl rfl yQ) ?_
  refine VL.alloc (cs:=[str [],i64 0,i64 0,str [],i64 0,i64 0]) (by kernel_rfl) (by decide) fun aHL => ?_
  refine Zv (vc:=[str kG.path,i64 kG.dJ,i64 kG.mode,str kG.data,i64 kG.time,i64 kG.size]) (cs':=[str kG.path,i64 kG.dJ,i64 kG.mode,str kG.data,i64 kG.time,i64 kG.size]) rfl pS ?_
  refine Zl ?_
  refine VC.keep (ρ':=[(1,gH.val),(2,.func (.func 207) #[] #[]),(15,eN.val),(16,i64 (eN.l.length:Int)),(17,i64 hG),(8,ptr aHK 0),(9,ptr aHL 0)]) [1,2,15,16,17,8,9] rfl ?_
  refine Zq (Zr ?_)
  refine Zm ?_
  refine Zu (gZ sD rfl rfl) ?_
  refine Zu (gZ sD rfl rfl) ?_
  obtain ⟨J0,T7,hS⟩:=bF hS
  refine Zu (qJ (XT kM kG T7) rfl rfl (fun _ _=>rfl)) ?_
  refine Zu (oS rfl) ?_
  refine Zl ?_
  refine mT hS (fun h30 hS => ?_) (fun h30 hS => ?_)
  ·
   refine Zq (Zr ?_)
   refine Zy ?_
   refine VC.keep (ρ':=[(6,.bool false)]) [6] rfl ?_
   replace hS:=fF hS hK1
   cases hS
   exact Ze
  refine Zk ?_
  refine VC.keep (ρ':=[(1,gH.val),(2,.func (.func 207) #[] #[]),(15,eN.val),(16,i64 (eN.l.length:Int)),(17,i64 hG)]) [1,2,15,16,17] rfl ?_
  refine Zr ?_
  obtain ⟨b31,hS⟩:=bQ hS
  refine Zu (dZ rfl rfl b31) ?_
  refine Zm ?_
  refine VL.kE (hG+1) [1,2,15,16,17] (fun _ _ h=>h) (go2 hS hK1) rfl
 replace hS:=fF hS hK1
 refine Zx ?_
 refine Zq (Zr ?_)
 refine Zy ?_
 cases hS
 exact Ze
theorem OI (bM:Sv aQ) (b_1:Sv aQ) {r:Bool} (hS:Sh.AO bM.l b_1.l=some r) :
 Ct Tryz.prog 157 [bM.val,b_1.val] (bM.ok.and b_1.ok) (Ow.emp) (X:=Unit) (fun _ => .bool r) (fun _=>True) (fun _=>Mo.tt) (fun _=>Ow.emp):=by
 refine Zo Tryz.func157 Tryz.ntmps157 fun c => ?_
 unfold Sh.AO at hS
 refine Zq (Zr ?_)
 refine Zy ?_
 refine Zq (Zr ?_)
 refine Zy ?_
 obtain ⟨lT,oH,hS⟩:=bF hS
 refine Zu (cZ (n5 bM b_1 oH) rfl (fun _ _=>rfl)) ?_
 refine Zy ?_
 cases hS
 exact Ze
theorem zE (eN:Sv dI) (gH:Sv dI) {r:Bool} (hS:Sh.oT eN.l gH.l=some r) :
 Ct Tryz.prog 158 [eN.val,gH.val] (eN.ok.and gH.ok) (Ow.emp) (X:=Unit) (fun _ => .bool r) (fun _=>True) (fun _=>Mo.tt) (fun _=>Ow.emp):=by
 refine Zo Tryz.func158 Tryz.ntmps158 fun c => ?_
 unfold Sh.oT at hS
 refine Zq (Zr ?_)
 refine Zy ?_
 refine Zq (Zq (Zr ?_))
 refine Zm ?_
 refine Zu (fH (s:=eN) Tryz.underlying52 rfl) ?_
 refine Zm ?_
 refine Zu (fH (s:=gH) Tryz.underlying52 rfl) ?_
 refine Zu (mC rfl rfl) ?_
 refine Zl ?_
 refine uH hS (fun h10 hS => ?_) (fun h10 hS => ?_)
 ·
  refine Zq (Zr ?_)
  refine Zy ?_
  cases hS
  exact Ze
 refine Zk ?_
 refine Zq (Zq (Zr ?_))
 refine Zm ?_
 refine Zu (fH (s:=eN) Tryz.underlying52 rfl) ?_
 refine Zy ?_
 refine VC.keep (ρ':=[(0,eN.val),(1,gH.val),(12,i64 (eN.l.length:Int)),(13,i64 0)]) [0,1,12,13] rfl ?_
 refine Zb ?_
 refine VC.iter (S:=Int) (fun (lB:Int)=>lB) (fun (lB:Int)=>[(0,eN.val),(1,gH.val),(12,i64 (eN.l.length:Int)),(13,i64 lB)]) (fun (lB:Int)=>Mo.tt) (fun (lB:Int)=>Ow.emp) 0 [0,1,12,13] hS rfl ?_
 clear hS
 rintro lB m1 y1 hS hK1
 refine Zq (Zr ?_)
 refine Zu (dA rfl rfl) ?_
 refine Zl ?_
 refine Zq ?_
 refine Zc hS (fun h14 hS => ?_) (fun h14 hS => ?_)
 ·
  refine Zk ?_
  refine Zq (Zb (Zq (Zr ?_)))
  refine Zy ?_
  refine Zq ?_
  refine VC.draw ((List.range 9).map fun k=>(k,true)) mixed (by kernel_rfl) (by kernel_rfl) (by kernel_rfl) ?_
  refine Zw rfl (bI rfl) ?_
  refine Zw rfl (bI rfl) ?_
  obtain ⟨nI,D2,DY,hS⟩:=eW hS
  refine Zw rfl (dH (s:=eN) Tryz.underlying52 uL rfl rfl D2 (bC D2 DY)) ?_
  refine Zw rfl (jL (s:=eN) G3 rfl rfl DY) ?_
  refine Zw rfl (bI rfl) ?_
  refine Zw rfl (bI rfl) ?_
  obtain ⟨o9,I0,IU,hS⟩:=eW hS
  refine Zw rfl (dH (s:=gH) Tryz.underlying52 uL rfl rfl I0 (bC I0 IU)) ?_
  refine Zw rfl (jL (s:=gH) G3 rfl rfl IU) ?_
  refine Zw rfl (aBg aRq (aRt nI.name nI.cB o9.name o9.cB) rfl rfl) ?_
  refine VD.to (fun _ _ h=>h) ?_
  refine VC.keep (ρ':=[(0,eN.val),(1,gH.val),(12,i64 (eN.l.length:Int)),(13,i64 lB),(24,.bool (!decide (nI.name=o9.name∧nI.cB=o9.cB)))]) [0,1,12,13,24] rfl ?_
  refine uH hS (fun h24 hS => ?_) (fun h24 hS => ?_)
  ·
   refine Zq (Zr ?_)
   refine Zy ?_
   replace hS:=fF hS hK1
   cases hS
   exact Ze
  refine Zk ?_
  refine Zr ?_
  obtain ⟨b25,hS⟩:=bQ hS
  refine Zu (dZ rfl rfl b25) ?_
  refine Zm ?_
  refine VL.kE (lB+1) [0,1,12,13] (fun _ _ h=>h) (go2 hS hK1) rfl
 replace hS:=fF hS hK1
 refine Zx ?_
 refine Zq (Zr ?_)
 refine Zy ?_
 cases hS
 exact Ze
theorem rE (eN:Sv cA) (gH:Sv cA) {r:Bool} (hS:Sh.jF eN.l gH.l=some r) :
 Ct Tryz.prog 208 [eN.val,gH.val] (eN.ok.and gH.ok) (Ow.emp) (X:=Unit) (fun _ => .bool r) (fun _=>True) (fun _=>Mo.tt) (fun _=>Ow.emp):=by
 refine Zo Tryz.func208 Tryz.ntmps208 fun c => ?_
 unfold Sh.jF at hS
 refine Zq (Zr ?_)
 refine Zy ?_
 refine Zq (Zq (Zr ?_))
 refine Zm ?_
 refine Zu (fH (s:=eN) Tryz.underlying55 rfl) ?_
 refine Zm ?_
 refine Zu (fH (s:=gH) Tryz.underlying55 rfl) ?_
 refine Zu (mC rfl rfl) ?_
 refine Zl ?_
 refine uH hS (fun h10 hS => ?_) (fun h10 hS => ?_)
 ·
  refine Zq (Zr ?_)
  refine Zy ?_
  cases hS
  exact Ze
 refine Zk ?_
 refine Zq (Zq (Zr ?_))
 refine Zm ?_
 refine Zu (fH (s:=eN) Tryz.underlying55 rfl) ?_
 refine Zy ?_
 refine VC.keep (ρ':=[(0,eN.val),(1,gH.val),(12,i64 (eN.l.length:Int)),(13,i64 0)]) [0,1,12,13] rfl ?_
 refine Zb ?_
 refine VC.iter (S:=Int) (fun (lB:Int)=>lB) (fun (lB:Int)=>[(0,eN.val),(1,gH.val),(12,i64 (eN.l.length:Int)),(13,i64 lB)]) (fun (lB:Int)=>Mo.tt) (fun (lB:Int)=>Ow.emp) 0 [0,1,12,13] hS rfl ?_
 clear hS
 rintro lB m1 y1 hS hK1
 refine Zq (Zr ?_)
 refine Zu (dA rfl rfl) ?_
 refine Zl ?_
 refine Zq ?_
 refine Zc hS (fun h14 hS => ?_) (fun h14 hS => ?_)
 ·
  refine Zk ?_
  refine Zq (Zb (Zq (Zr ?_)))
  refine Zy ?_
  refine Zq ?_
  refine VC.draw ((List.range 9).map fun k=>(k,true)) mixed (by kernel_rfl) (by kernel_rfl) (by kernel_rfl) ?_
  refine Zw rfl (bI rfl) ?_
  refine Zw rfl (bI rfl) ?_
  obtain ⟨nI,D2,DY,hS⟩:=eW hS
  refine Zw rfl (dH (s:=eN) Tryz.underlying55 z7 rfl rfl D2 (bC D2 DY)) ?_
  refine Zw rfl (jL (s:=eN) UB rfl rfl DY) ?_
  refine Zw rfl (bI rfl) ?_
  refine Zw rfl (bI rfl) ?_
  obtain ⟨o9,I0,IU,hS⟩:=eW hS
  refine Zw rfl (dH (s:=gH) Tryz.underlying55 z7 rfl rfl I0 (bC I0 IU)) ?_
  refine Zw rfl (jL (s:=gH) UB rfl rfl IU) ?_
  refine Zw rfl (aBg aRr (aRu nI.verb nI.cB nI.text o9.verb o9.cB o9.text) rfl rfl) ?_
  refine VD.to (fun _ _ h=>h) ?_
  refine VC.keep (ρ':=[(0,eN.val),(1,gH.val),(12,i64 (eN.l.length:Int)),(13,i64 lB),(24,.bool (!decide (nI.verb=o9.verb∧nI.cB=o9.cB∧nI.text=o9.text)))]) [0,1,12,13,24] rfl ?_
  refine uH hS (fun h24 hS => ?_) (fun h24 hS => ?_)
  ·
   refine Zq (Zr ?_)
   refine Zy ?_
   replace hS:=fF hS hK1
   cases hS
   exact Ze
  refine Zk ?_
  refine Zr ?_
  obtain ⟨b25,hS⟩:=bQ hS
  refine Zu (dZ rfl rfl b25) ?_
  refine Zm ?_
  refine VL.kE (lB+1) [0,1,12,13] (fun _ _ h=>h) (go2 hS hK1) rfl
 replace hS:=fF hS hK1
 refine Zx ?_
 refine Zq (Zr ?_)
 refine Zy ?_
 cases hS
 exact Ze
theorem WG (bM:oK) (b_1:oK) {r:Bool} (hS:Sh.yC bM.pl b_1.pl=some r) :
 Ct Tryz.prog 159 [.agg (vZ bM).toArray,.agg (vZ b_1).toArray] (bM.mV.ok.and (bM.todo.ok.and (bM.index.ok.and (bM.work.ok.and (b_1.mV.ok.and (b_1.todo.ok.and (b_1.index.ok.and b_1.work.ok))))))) (Ow.emp) (X:=Unit) (fun _ => .bool r) (fun _=>True) (fun _=>Mo.tt) (fun _=>Ow.emp):=by
 refine Zo Tryz.func159 Tryz.ntmps159 fun c => ?_
 unfold Sh.yC at hS
 refine Zq (Zr ?_)
 refine VL.box (cs:=(vZ bM)) rfl rfl (by decide) fun nA => ?_
 refine VL.box (cs:=(vZ b_1)) rfl rfl (by decide) fun eZ => ?_
 refine Zy ?_
 refine Zq (Zr ?_)
 refine Zu (aB sE rfl) ?_
 refine Zu (aI cD rfl rfl) ?_
 refine Zu (aB sE rfl) ?_
 refine Zu (aI cD rfl rfl) ?_
 refine Zy ?_
 refine jJ 10 hS (fun h10 hS => ?_) (fun h10 hS => ?_)
 ·
  refine Zh (aB wD rfl) ?_
  refine Zh (aI cN rfl rfl) ?_
  refine Zh (aB wD rfl) ?_
  refine Zh (aI cN rfl rfl) ?_
  refine Zh (gJ rfl rfl) ?_
  refine Zy ?_
  refine jJ 17 hS (fun h17 hS => ?_) (fun h17 hS => ?_)
  ·
   refine Zh (aB tD rfl) ?_
   refine Zh (aI cD rfl rfl) ?_
   refine Zh (aB tD rfl) ?_
   refine Zh (aI cD rfl rfl) ?_
   refine Zh (sM rfl rfl) ?_
   refine Zy ?_
   refine jJ 24 hS (fun h24 hS => ?_) (fun h24 hS => ?_)
   ·
    refine Zh (aB zP rfl) ?_
    refine Zh (aI mG rfl rfl) ?_
    refine Zh (aB zP rfl) ?_
    refine Zh (aI mG rfl rfl) ?_
    obtain ⟨aUq,aWF,hS⟩:=bF hS
    refine Zh (cZ (rE bM.mV b_1.mV aWF) rfl (fun _ _=>rfl)) ?_
    refine Zy ?_
    refine rC 31 hS (fun h31 hS => ?_) (fun h31 hS => ?_)
    ·
     refine Zh (aB xH rfl) ?_
     refine Zh (aI mG rfl rfl) ?_
     refine Zh (aB xH rfl) ?_
     refine Zh (aI mG rfl rfl) ?_
     obtain ⟨aUt,aWP,hS⟩:=bF hS
     refine Zh (cZ (rE bM.todo b_1.todo aWP) rfl (fun _ _=>rfl)) ?_
     refine Zy ?_
     refine rC 38 hS (fun h38 hS => ?_) (fun h38 hS => ?_)
     ·
      refine Zh (aB wE rfl) ?_
      refine Zh (aI cN rfl rfl) ?_
      refine Zh (aB wE rfl) ?_
      refine Zh (aI cN rfl rfl) ?_
      refine Zh (gJ rfl rfl) ?_
      refine Zy ?_
      refine jJ 45 hS (fun h45 hS => ?_) (fun h45 hS => ?_)
      ·
       refine Zh (aB uX rfl) ?_
       refine Zh (aI cD rfl rfl) ?_
       refine Zh (aB uX rfl) ?_
       refine Zh (aI cD rfl rfl) ?_
       refine Zh (sM rfl rfl) ?_
       refine Zy ?_
       refine jJ 52 hS (fun h52 hS => ?_) (fun h52 hS => ?_)
       ·
        refine Zh (aB nL rfl) ?_
        refine Zh (sL (j:=7) (n:=2) IM rfl rfl rfl) ?_
        refine Zh (aB nL rfl) ?_
        refine Zh (sL (j:=7) (n:=2) IM rfl rfl rfl) ?_
        refine Zh (aJG aL2 (aL3 bM.aG bM.aH b_1.aG b_1.aH) rfl rfl) ?_
        refine Zy ?_
        refine jJ 59 hS (fun h59 hS => ?_) (fun h59 hS => ?_)
        ·
         refine Zh (aB wF rfl) ?_
         refine Zh (aI lW rfl rfl) ?_
         refine Zh (aB wF rfl) ?_
         refine Zh (aI lW rfl rfl) ?_
         obtain ⟨aUy,aW2,hS⟩:=bF hS
         refine Zh (cZ (OI bM.index b_1.index aW2) rfl (fun _ _=>rfl)) ?_
         refine Zy ?_
         refine rC 66 hS (fun h66 hS => ?_) (fun h66 hS => ?_)
         ·
          refine Zh (aB uY rfl) ?_
          refine Zh (aI iQ rfl rfl) ?_
          refine Zh (aB uY rfl) ?_
          refine Zh (aI iQ rfl rfl) ?_
          obtain ⟨aKu,aW4,hS⟩:=bF hS
          refine Zh (cZ (vN bM.work b_1.work aW4) rfl (fun _ _=>rfl)) ?_
          refine Zy ?_
          refine VC.keep (ρ':=[(4,.bool aKu)]) [4] rfl ?_
          cases hS
          exact Ze
         refine VL.runs 7 [(4,some false)] (by kernel_rfl) ?_
         refine Zl ?_
         refine VC.keep (ρ':=[(4,.bool false)]) [4] rfl ?_
         cases hS
         exact Ze
        refine VL.runs 14 [(4,some false)] (by kernel_rfl) ?_
        refine Zl ?_
        refine VC.keep (ρ':=[(4,.bool false)]) [4] rfl ?_
        cases hS
        exact Ze
       refine VL.runs 21 [(4,some false)] (by kernel_rfl) ?_
       refine Zl ?_
       refine VC.keep (ρ':=[(4,.bool false)]) [4] rfl ?_
       cases hS
       exact Ze
      refine VL.runs 28 [(4,some false)] (by kernel_rfl) ?_
      refine Zl ?_
      refine VC.keep (ρ':=[(4,.bool false)]) [4] rfl ?_
      cases hS
      exact Ze
     refine VL.runs 35 [(4,some false)] (by kernel_rfl) ?_
     refine Zl ?_
     refine VC.keep (ρ':=[(4,.bool false)]) [4] rfl ?_
     cases hS
     exact Ze
    refine VL.runs 42 [(4,some false)] (by kernel_rfl) ?_
    refine Zl ?_
    refine VC.keep (ρ':=[(4,.bool false)]) [4] rfl ?_
    cases hS
    exact Ze
   refine VL.runs 49 [(4,some false)] (by kernel_rfl) ?_
   refine Zl ?_
   refine VC.keep (ρ':=[(4,.bool false)]) [4] rfl ?_
   cases hS
   exact Ze
  refine VL.runs 56 [(4,some false)] (by kernel_rfl) ?_
  refine Zl ?_
  refine VC.keep (ρ':=[(4,.bool false)]) [4] rfl ?_
  cases hS
  exact Ze
 refine VL.runs 63 [(4,some false)] (by kernel_rfl) ?_
 refine Zl ?_
 refine VC.keep (ρ':=[(4,.bool false)]) [4] rfl ?_
 cases hS
 exact Ze
end Go.Proofs.YthbccdlpalenlaaGreatDoor
end
