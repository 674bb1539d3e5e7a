/- Part of the proofs of: the law StateChecks (second form: where what is read is of bulk at most 1048576) -/
import Derived.Test.YthbccdlpalenlaaGreatDoorCD
set_option linter.unusedVariables false
set_option linter.unusedSimpArgs false
set_option linter.unusedSectionVars false
section
set_option linter.unusedVariables false
namespace Go.Proofs.YthbccdlpalenlaaGreatDoor
set_option maxHeartbeats 4000000
set_option maxRecDepth 100000
set_option synthInstance.maxSize 2000
set_option synthInstance.maxHeartbeats 1000000
open Go.RowKit Go.V
open Go.S hiding bN
theorem MS (gV:bR) (pH:bR) {r:Bool} (hS:Sh.zC gV.pl pH.pl=some r) :
 Ct Tryz.prog 210 [.agg #[i64 gV.base,gV.index.val,gV.work.val,str gV.text],.agg #[i64 pH.base,pH.index.val,pH.work.val,str pH.text]] (gV.index.ok.and (gV.work.ok.and (pH.index.ok.and pH.work.ok))) (Ow.emp) (X:=Unit) (fun _ => .bool r) (fun _=>True) (fun _=>Mo.tt) (fun _=>Ow.emp):=by
 refine Zo Tryz.func210 Tryz.ntmps210 fun c => ?_
 unfold Sh.zC at hS
 refine Zq (Zr ?_)
 refine VL.box (cs:=[i64 gV.base,gV.index.val,gV.work.val,str gV.text]) rfl rfl (by decide) fun nA => ?_
 refine VL.box (cs:=[i64 pH.base,pH.index.val,pH.work.val,str pH.text]) rfl rfl (by decide) fun eZ => ?_
 refine Zy ?_
 refine Zq (Zr ?_)
 refine Zu (aB C3 rfl) ?_
 refine Zu (aI cN rfl rfl) ?_
 refine Zu (aB C3 rfl) ?_
 refine Zu (aI cN rfl rfl) ?_
 refine Zu (gJ rfl rfl) ?_
 refine Zm ?_
 refine jJ 10 hS (fun h10 hS => ?_) (fun h10 hS => ?_)
 ·
  refine Zh (aB GI rfl) ?_
  refine Zh (aI iQ rfl rfl) ?_
  refine Zh (aB GI rfl) ?_
  refine Zh (aI iQ rfl rfl) ?_
  obtain ⟨JX,TU,hS⟩:=bF hS
  refine Zh (cZ (vN gV.index pH.index TU) rfl (fun _ _=>rfl)) ?_
  refine Zy ?_
  refine rC 17 hS (fun h17 hS => ?_) (fun h17 hS => ?_)
  ·
   refine Zh (aB C4 rfl) ?_
   refine Zh (aI iQ rfl rfl) ?_
   refine Zh (aB C4 rfl) ?_
   refine Zh (aI iQ rfl rfl) ?_
   obtain ⟨YX,aEl,hS⟩:=bF hS
   refine Zh (cZ (vN gV.work pH.work aEl) rfl (fun _ _=>rfl)) ?_
   refine Zy ?_
   refine rC 24 hS (fun h24 hS => ?_) (fun h24 hS => ?_)
   ·
    refine Zh (aB GJ rfl) ?_
    refine Zh (aI cD rfl rfl) ?_
    refine Zh (aB GJ rfl) ?_
    refine Zh (aI cD rfl rfl) ?_
    refine Zh (sM rfl rfl) ?_
    refine Zy ?_
    refine VC.keep (ρ':=[(4,.bool (decide (gV.text=pH.text)))]) [4] rfl ?_
    cases hS
    exact Ze
   refine VL.runs 7 [(4,some false)] (by kernel_rfl) ?_
   refine Zl ?_
   refine VC.keep (ρ':=[(4,.bool false)]) [4] rfl ?_
   cases hS
   exact Ze
  refine VL.runs 14 [(4,some false)] (by kernel_rfl) ?_
  refine Zl ?_
  refine VC.keep (ρ':=[(4,.bool false)]) [4] rfl ?_
  cases hS
  exact Ze
 refine VL.runs 21 [(4,some false)] (by kernel_rfl) ?_
 refine Zl ?_
 refine VC.keep (ρ':=[(4,.bool false)]) [4] rfl ?_
 cases hS
 exact Ze
theorem n6 (eN:Sv bR) (gH:Sv bR) {r:Bool} (hS:Sh.iA (eN.l.map bR.pl) (gH.l.map bR.pl)=some r) :
 Ct Tryz.prog 209 [eN.val,gH.val,.func (.func 210) #[] #[]] (eN.ok.and gH.ok) (Ow.emp) (X:=Unit) (fun _ => .bool r) (fun _=>True) (fun _=>Mo.tt) (fun _=>Ow.emp):=by
 refine Zo Tryz.func209 Tryz.ntmps209 fun c => ?_
 unfold Sh.iA at hS
 refine Zq (Zr ?_)
 refine Zy ?_
 refine Zq (Zq (Zr ?_))
 refine Zm ?_
 refine Zu (iT bR.pl (s:=eN) Tryz.underlying59 rfl) ?_
 refine Zm ?_
 refine Zu (iT bR.pl (s:=gH) Tryz.underlying59 rfl) ?_
 refine Zu (mC rfl rfl) ?_
 refine Zl ?_
 refine uH hS (fun h14 hS => ?_) (fun h14 hS => ?_)
 ·
  refine Zq (Zr ?_)
  refine Zy ?_
  cases hS
  exact Ze
 refine Zk ?_
 refine Zq (Zq (Zr ?_))
 refine Zm ?_
 refine Zu (iT bR.pl (s:=eN) Tryz.underlying59 rfl) ?_
 refine Zy ?_
 refine VC.keep (ρ':=[(1,gH.val),(2,.func (.func 210) #[] #[]),(15,eN.val),(16,i64 ((eN.l.map bR.pl).length:Int)),(17,i64 0)]) [1,2,15,16,17] rfl ?_
 refine Zb ?_
 refine VC.iter (S:=Int) (fun (hG:Int)=>hG) (fun (hG:Int)=>[(1,gH.val),(2,.func (.func 210) #[] #[]),(15,eN.val),(16,i64 ((eN.l.map bR.pl).length:Int)),(17,i64 hG)]) (fun (hG:Int)=>Mo.tt) (fun (hG:Int)=>Ow.emp) 0 [1,2,15,16,17] hS rfl ?_
 clear hS
 rintro hG m1 y1 hS hK1
 refine Zq (Zr ?_)
 refine Zu (dA rfl rfl) ?_
 refine Zl ?_
 refine Zq ?_
 refine Zc hS (fun h18 hS => ?_) (fun h18 hS => ?_)
 ·
  refine Zk ?_
  refine Zq (Zb (Zq (Zr ?_)))
  refine Zm ?_
  obtain ⟨kM,BR,yP,hS⟩:=kQ hS
  refine VL.deep kM.m yP (fun _ q=>q) ?_
  refine Zu (dH (s:=eN) Tryz.underlying59 pR rfl rfl BR (bC BR yP)) ?_
  refine Zu (jL (s:=eN) G1 rfl rfl yP) ?_
  refine VL.alloc (cs:=[i64 0,.slice none 0 0,.slice none 0 0,str []]) (by kernel_rfl) (by decide) fun aHK => ?_
  refine Za ?_
  refine Zv (vc:=[i64 kM.base,kM.index.val,kM.work.val,str kM.text]) (cs':=[i64 kM.base,kM.index.val,kM.work.val,str kM.text]) rfl pR ?_
  refine Zl ?_
  refine Zq (Zr ?_)
  refine Zy ?_
  obtain ⟨kG,BS,yQ,hS⟩:=kQ hS
  refine VL.deep kG.m yQ (fun _ q=>q) ?_
  refine Zu (dH (s:=gH) Tryz.underlying59 pR rfl rfl BS (bC BS yQ)) ?_
  refine Zu (jL (s:=gH) G1 rfl rfl yQ) ?_
  refine VL.alloc (cs:=[i64 0,.slice none 0 0,.slice none 0 0,str []]) (by kernel_rfl) (by decide) fun aHL => ?_
  refine Zv (vc:=[i64 kG.base,kG.index.val,kG.work.val,str kG.text]) (cs':=[i64 kG.base,kG.index.val,kG.work.val,str kG.text]) rfl pR ?_
  refine Zl ?_
  refine VC.keep (ρ':=[(1,gH.val),(2,.func (.func 210) #[] #[]),(15,eN.val),(16,i64 ((eN.l.map bR.pl).length:Int)),(17,i64 hG),(8,ptr aHK 0),(9,ptr aHL 0)]) [1,2,15,16,17,8,9] rfl ?_
  refine Zq (Zr ?_)
  refine Zm ?_
  refine Zu (gZ G1 rfl rfl) ?_
  refine Zu (gZ G1 rfl rfl) ?_
  obtain ⟨J0,T7,hS⟩:=bF hS
  refine Zu (qJ (MS kM kG T7) rfl rfl (fun _ _=>rfl)) ?_
  refine Zu (oS rfl) ?_
  refine Zl ?_
  refine mT hS (fun h30 hS => ?_) (fun h30 hS => ?_)
  ·
   refine Zq (Zr ?_)
   refine Zy ?_
   refine VC.keep (ρ':=[(6,.bool false)]) [6] rfl ?_
   replace hS:=fF hS hK1
   cases hS
   exact Ze
  refine Zk ?_
  refine VC.keep (ρ':=[(1,gH.val),(2,.func (.func 210) #[] #[]),(15,eN.val),(16,i64 ((eN.l.map bR.pl).length:Int)),(17,i64 hG)]) [1,2,15,16,17] rfl ?_
  refine Zr ?_
  obtain ⟨b31,hS⟩:=bQ hS
  refine Zu (dZ rfl rfl b31) ?_
  refine Zm ?_
  refine VL.kE (hG+1) [1,2,15,16,17] (fun _ _ h=>h) (go2 hS hK1) rfl
 replace hS:=fF hS hK1
 refine Zx ?_
 refine Zq (Zr ?_)
 refine Zy ?_
 cases hS
 exact Ze
theorem O5 (aD:Sv bR) (t_1:Sv bR) {r:Bool} (hS:Sh.CA (aD.l.map bR.pl) (t_1.l.map bR.pl)=some r) :
 Ct Tryz.prog 160 [aD.val,t_1.val] (aD.ok.and t_1.ok) (Ow.emp) (X:=Unit) (fun _ => .bool r) (fun _=>True) (fun _=>Mo.tt) (fun _=>Ow.emp):=by
 refine Zo Tryz.func160 Tryz.ntmps160 fun c => ?_
 unfold Sh.CA at hS
 refine Zq (Zr ?_)
 refine Zy ?_
 refine Zq (Zr ?_)
 refine Zy ?_
 obtain ⟨lT,oH,hS⟩:=bF hS
 refine Zu (cZ (n6 aD t_1 oH) rfl (fun _ _=>rfl)) ?_
 refine Zy ?_
 cases hS
 exact Ze
theorem WE (bM:eK) (b_1:eK) {r:Bool} (hS:Sh.HV bM.pl b_1.pl=some r) :
 Ct Tryz.prog 73 [.agg #[bM.work.val,bM.index.val,bM.refs.val,str bM.aG,i64 bM.aH,str bM.aW,i64 bM.aS,str bM.aV,bM.aN.val,bM.aT.val,i64 bM.aY,str bM.aM,str bM.aC,i64 bM.aE,bM.aO.val,bM.aU.val,bM.bJ.val],.agg #[b_1.work.val,b_1.index.val,b_1.refs.val,str b_1.aG,i64 b_1.aH,str b_1.aW,i64 b_1.aS,str b_1.aV,b_1.aN.val,b_1.aT.val,i64 b_1.aY,str b_1.aM,str b_1.aC,i64 b_1.aE,b_1.aO.val,b_1.aU.val,b_1.bJ.val]] (bM.work.ok.and (bM.index.ok.and (bM.refs.ok.and (bM.aN.ok.and (bM.aT.ok.and (bM.aO.ok.and (bM.aU.ok.and (bM.bJ.ok.and (b_1.work.ok.and (b_1.index.ok.and (b_1.refs.ok.and (b_1.aN.ok.and (b_1.aT.ok.and (b_1.aO.ok.and (b_1.aU.ok.and b_1.bJ.ok))))))))))))))) (Ow.emp) (X:=Unit) (fun _ => .bool r) (fun _=>True) (fun _=>Mo.tt) (fun _=>Ow.emp):=by
 refine Zo Tryz.func73 Tryz.ntmps73 fun c => ?_
 unfold Sh.HV at hS
 refine Zq (Zr ?_)
 refine VL.box (cs:=[bM.work.val,bM.index.val,bM.refs.val,str bM.aG,i64 bM.aH,str bM.aW,i64 bM.aS,str bM.aV,bM.aN.val,bM.aT.val,i64 bM.aY,str bM.aM,str bM.aC,i64 bM.aE,bM.aO.val,bM.aU.val,bM.bJ.val]) rfl rfl (by decide) fun nA => ?_
 refine VL.box (cs:=[b_1.work.val,b_1.index.val,b_1.refs.val,str b_1.aG,i64 b_1.aH,str b_1.aW,i64 b_1.aS,str b_1.aV,b_1.aN.val,b_1.aT.val,i64 b_1.aY,str b_1.aM,str b_1.aC,i64 b_1.aE,b_1.aO.val,b_1.aU.val,b_1.bJ.val]) rfl rfl (by decide) fun eZ => ?_
 refine Zy ?_
 refine Zq (Zr ?_)
 refine Zu (aB EJ rfl) ?_
 refine Zu (aI iQ rfl rfl) ?_
 refine Zu (aB EJ rfl) ?_
 refine Zu (aI iQ rfl rfl) ?_
 obtain ⟨yI,MA,hS⟩:=bF hS
 refine Zu (cZ (vN bM.work b_1.work MA) rfl (fun _ _=>rfl)) ?_
 refine Zm ?_
 refine rC 10 hS (fun h10 hS => ?_) (fun h10 hS => ?_)
 ·
  refine Zh (aB zQ rfl) ?_
  refine Zh (aI lW rfl rfl) ?_
  refine Zh (aB zQ rfl) ?_
  refine Zh (aI lW rfl rfl) ?_
  obtain ⟨CL,L3,hS⟩:=bF hS
  refine Zh (cZ (OI bM.index b_1.index L3) rfl (fun _ _=>rfl)) ?_
  refine Zy ?_
  refine rC 17 hS (fun h17 hS => ?_) (fun h17 hS => ?_)
  ·
   refine Zh (aB lK rfl) ?_
   refine Zh (aI qS rfl rfl) ?_
   refine Zh (aB lK rfl) ?_
   refine Zh (aI qS rfl rfl) ?_
   obtain ⟨zL,T3,hS⟩:=bF hS
   refine Zh (cZ (zE bM.refs b_1.refs T3) rfl (fun _ _=>rfl)) ?_
   refine Zy ?_
   refine rC 24 hS (fun h24 hS => ?_) (fun h24 hS => ?_)
   ·
    refine Zh (aB jU rfl) ?_
    refine Zh (sL (j:=3) (n:=2) IM rfl rfl rfl) ?_
    refine Zh (aB jU rfl) ?_
    refine Zh (sL (j:=3) (n:=2) IM rfl rfl rfl) ?_
    refine Zh (aJG aL2 (aL3 bM.aG bM.aH b_1.aG b_1.aH) rfl rfl) ?_
    refine Zy ?_
    refine jJ 31 hS (fun h31 hS => ?_) (fun h31 hS => ?_)
    ·
     refine Zh (aB sF rfl) ?_
     refine Zh (sL (j:=5) (n:=11) QJ rfl rfl rfl) ?_
     refine Zh (aB sF rfl) ?_
     refine Zh (sL (j:=5) (n:=11) QJ rfl rfl rfl) ?_
     obtain ⟨aGL,aEv,hS⟩:=bF hS
     refine Zh (cZ (WG (⟨bM.aW,bM.aS,bM.aV,bM.aN,bM.aT,bM.aY,bM.aM,bM.aC,bM.aE,bM.aO,bM.aU⟩:oK) (⟨b_1.aW,b_1.aS,b_1.aV,b_1.aN,b_1.aT,b_1.aY,b_1.aM,b_1.aC,b_1.aE,b_1.aO,b_1.aU⟩:oK) aEv) rfl (fun _ _=>rfl)) ?_
     refine Zy ?_
     refine rC 38 hS (fun h38 hS => ?_) (fun h38 hS => ?_)
     ·
      refine Zh (aB j8 rfl) ?_
      refine Zh (aI nD rfl rfl) ?_
      refine Zh (aB j8 rfl) ?_
      refine Zh (aI nD rfl rfl) ?_
      obtain ⟨aKs,aWY,hS⟩:=bF hS
      refine Zh (cZ (O5 bM.bJ b_1.bJ aWY) rfl (fun _ _=>rfl)) ?_
      refine Zy ?_
      refine VC.keep (ρ':=[(4,.bool aKs)]) [4] rfl ?_
      cases hS
      exact Ze
     refine VL.runs 7 [(4,some false)] (by kernel_rfl) ?_
     refine Zl ?_
     refine VC.keep (ρ':=[(4,.bool false)]) [4] rfl ?_
     cases hS
     exact Ze
    refine VL.runs 14 [(4,some false)] (by kernel_rfl) ?_
    refine Zl ?_
    refine VC.keep (ρ':=[(4,.bool false)]) [4] rfl ?_
    cases hS
    exact Ze
   refine VL.runs 21 [(4,some false)] (by kernel_rfl) ?_
   refine Zl ?_
   refine VC.keep (ρ':=[(4,.bool false)]) [4] rfl ?_
   cases hS
   exact Ze
  refine VL.runs 28 [(4,some false)] (by kernel_rfl) ?_
  refine Zl ?_
  refine VC.keep (ρ':=[(4,.bool false)]) [4] rfl ?_
  cases hS
  exact Ze
 refine VL.runs 35 [(4,some false)] (by kernel_rfl) ?_
 refine Zl ?_
 refine VC.keep (ρ':=[(4,.bool false)]) [4] rfl ?_
 cases hS
 exact Ze
theorem PA (bM:cL) (b_1:cL) {r:Bool} (hS:Sh.CF bM.pl b_1.pl=some r) :
 Ct Tryz.prog 75 [.agg #[bM.tree.val,bM.parents.val,i64 bM.time,str bM.text],.agg #[b_1.tree.val,b_1.parents.val,i64 b_1.time,str b_1.text]] (bM.tree.ok.and (bM.parents.ok.and (b_1.tree.ok.and b_1.parents.ok))) (Ow.emp) (X:=Unit) (fun _ => .bool r) (fun _=>True) (fun _=>Mo.tt) (fun _=>Ow.emp):=by
 refine Zo Tryz.func75 Tryz.ntmps75 fun c => ?_
 unfold Sh.CF at hS
 refine Zq (Zr ?_)
 refine VL.box (cs:=[bM.tree.val,bM.parents.val,i64 bM.time,str bM.text]) rfl rfl (by decide) fun nA => ?_
 refine VL.box (cs:=[b_1.tree.val,b_1.parents.val,i64 b_1.time,str b_1.text]) rfl rfl (by decide) fun eZ => ?_
 refine Zy ?_
 refine Zq ?_
 cases hS
theorem nG (eN:Sv cL) (gH:Sv cL) {r:Bool} (hS:Sh.gR (eN.l.map cL.pl) (gH.l.map cL.pl)=some r) :
 Ct Tryz.prog 74 [eN.val,gH.val,.func (.func 75) #[] #[]] (eN.ok.and gH.ok) (Ow.emp) (X:=Unit) (fun _ => .bool r) (fun _=>True) (fun _=>Mo.tt) (fun _=>Ow.emp):=by
 refine Zo Tryz.func74 Tryz.ntmps74 fun c => ?_
 unfold Sh.gR at hS
 refine Zq (Zr ?_)
 refine Zy ?_
 refine Zq (Zq (Zr ?_))
 refine Zm ?_
 refine Zu (iT cL.pl (s:=eN) Tryz.underlying68 rfl) ?_
 refine Zm ?_
 refine Zu (iT cL.pl (s:=gH) Tryz.underlying68 rfl) ?_
 refine Zu (mC rfl rfl) ?_
 refine Zl ?_
 refine uH hS (fun h14 hS => ?_) (fun h14 hS => ?_)
 ·
  refine Zq (Zr ?_)
  refine Zy ?_
  cases hS
  exact Ze
 refine Zk ?_
 refine Zq (Zq (Zr ?_))
 refine Zm ?_
 refine Zu (iT cL.pl (s:=eN) Tryz.underlying68 rfl) ?_
 refine Zy ?_
 refine VC.keep (ρ':=[(1,gH.val),(2,.func (.func 75) #[] #[]),(15,eN.val),(16,i64 ((eN.l.map cL.pl).length:Int)),(17,i64 0)]) [1,2,15,16,17] rfl ?_
 refine Zb ?_
 refine VC.iter (S:=Int) (fun (hG:Int)=>hG) (fun (hG:Int)=>[(1,gH.val),(2,.func (.func 75) #[] #[]),(15,eN.val),(16,i64 ((eN.l.map cL.pl).length:Int)),(17,i64 hG)]) (fun (hG:Int)=>Mo.tt) (fun (hG:Int)=>Ow.emp) 0 [1,2,15,16,17] hS rfl ?_
 clear hS
 rintro hG m1 y1 hS hK1
 refine Zq (Zr ?_)
 refine Zu (dA rfl rfl) ?_
 refine Zl ?_
 refine Zq ?_
 refine Zc hS (fun h18 hS => ?_) (fun h18 hS => ?_)
 ·
  refine Zk ?_
  refine Zq (Zb (Zq (Zr ?_)))
  refine Zm ?_
  obtain ⟨kM,BR,yP,hS⟩:=kQ hS
  refine VL.deep kM.m yP (fun _ q=>q) ?_
  refine Zu (dH (s:=eN) Tryz.underlying68 pQ rfl rfl BR (bC BR yP)) ?_
  refine Zu (jL (s:=eN) xF rfl rfl yP) ?_
  refine VL.alloc (cs:=[.slice none 0 0,.slice none 0 0,i64 0,str []]) (by kernel_rfl) (by decide) fun aHK => ?_
  refine Za ?_
  refine Zv (vc:=[kM.tree.val,kM.parents.val,i64 kM.time,str kM.text]) (cs':=[kM.tree.val,kM.parents.val,i64 kM.time,str kM.text]) rfl pQ ?_
  refine Zl ?_
  refine Zq (Zr ?_)
  refine Zy ?_
  obtain ⟨kG,BS,yQ,hS⟩:=kQ hS
  refine VL.deep kG.m yQ (fun _ q=>q) ?_
  refine Zu (dH (s:=gH) Tryz.underlying68 pQ rfl rfl BS (bC BS yQ)) ?_
  refine Zu (jL (s:=gH) xF rfl rfl yQ) ?_
  refine VL.alloc (cs:=[.slice none 0 0,.slice none 0 0,i64 0,str []]) (by kernel_rfl) (by decide) fun aHL => ?_
  refine Zv (vc:=[kG.tree.val,kG.parents.val,i64 kG.time,str kG.text]) (cs':=[kG.tree.val,kG.parents.val,i64 kG.time,str kG.text]) rfl pQ ?_
  refine Zl ?_
  refine VC.keep (ρ':=[(1,gH.val),(2,.func (.func 75) #[] #[]),(15,eN.val),(16,i64 ((eN.l.map cL.pl).length:Int)),(17,i64 hG),(8,ptr aHK 0),(9,ptr aHL 0)]) [1,2,15,16,17,8,9] rfl ?_
  refine Zq (Zr ?_)
  refine Zm ?_
  refine Zu (gZ xF rfl rfl) ?_
  refine Zu (gZ xF rfl rfl) ?_
  obtain ⟨J0,T7,hS⟩:=bF hS
  refine Zu (qJ (PA kM kG T7) rfl rfl (fun _ _=>rfl)) ?_
  refine Zu (oS rfl) ?_
  refine Zl ?_
  refine mT hS (fun h30 hS => ?_) (fun h30 hS => ?_)
  ·
   refine Zq (Zr ?_)
   refine Zy ?_
   refine VC.keep (ρ':=[(6,.bool false)]) [6] rfl ?_
   replace hS:=fF hS hK1
   cases hS
   exact Ze
  refine Zk ?_
  refine VC.keep (ρ':=[(1,gH.val),(2,.func (.func 75) #[] #[]),(15,eN.val),(16,i64 ((eN.l.map cL.pl).length:Int)),(17,i64 hG)]) [1,2,15,16,17] rfl ?_
  refine Zr ?_
  obtain ⟨b31,hS⟩:=bQ hS
  refine Zu (dZ rfl rfl b31) ?_
  refine Zm ?_
  refine VL.kE (hG+1) [1,2,15,16,17] (fun _ _ h=>h) (go2 hS hK1) rfl
 replace hS:=fF hS hK1
 refine Zx ?_
 refine Zq (Zr ?_)
 refine Zy ?_
 cases hS
 exact Ze
theorem S4 (bM:bN) (b_1:bN) {r:Bool} (hS:Sh.FA bM b_1=some r) :
 Ct Tryz.prog 77 [str bM,str b_1] Mo.tt (Ow.emp) (X:=Unit) (fun _ => .bool r) (fun _=>True) (fun _=>Mo.tt) (fun _=>Ow.emp):=by
 refine Zo Tryz.func77 Tryz.ntmps77 fun c => ?_
 unfold Sh.FA at hS
 refine Zq (Zr ?_)
 refine Zy ?_
 refine Zq ?_
 cases hS
theorem nO (eN:Sv bN) (gH:Sv bN) {r:Bool} (hS:Sh.jI eN.l gH.l=some r) :
 Ct Tryz.prog 76 [eN.val,gH.val,.func (.func 77) #[] #[]] (eN.ok.and gH.ok) (Ow.emp) (X:=Unit) (fun _ => .bool r) (fun _=>True) (fun _=>Mo.tt) (fun _=>Ow.emp):=by
 refine Zo Tryz.func76 Tryz.ntmps76 fun c => ?_
 unfold Sh.jI at hS
 refine Zq (Zr ?_)
 refine Zy ?_
 refine Zq (Zq (Zr ?_))
 refine Zm ?_
 refine Zu (fH (s:=eN) Tryz.underlying89 rfl) ?_
 refine Zm ?_
 refine Zu (fH (s:=gH) Tryz.underlying89 rfl) ?_
 refine Zu (mC rfl rfl) ?_
 refine Zl ?_
 refine uH hS (fun h14 hS => ?_) (fun h14 hS => ?_)
 ·
  refine Zq (Zr ?_)
  refine Zy ?_
  cases hS
  exact Ze
 refine Zk ?_
 refine Zq (Zq (Zr ?_))
 refine Zm ?_
 refine Zu (fH (s:=eN) Tryz.underlying89 rfl) ?_
 refine Zy ?_
 refine VC.keep (ρ':=[(1,gH.val),(2,.func (.func 77) #[] #[]),(15,eN.val),(16,i64 (eN.l.length:Int)),(17,i64 0)]) [1,2,15,16,17] rfl ?_
 refine Zb ?_
 refine VC.iter (S:=Int) (fun (hG:Int)=>hG) (fun (hG:Int)=>[(1,gH.val),(2,.func (.func 77) #[] #[]),(15,eN.val),(16,i64 (eN.l.length:Int)),(17,i64 hG)]) (fun (hG:Int)=>Mo.tt) (fun (hG:Int)=>Ow.emp) 0 [1,2,15,16,17] hS rfl ?_
 clear hS
 rintro hG m1 y1 hS hK1
 refine Zq (Zr ?_)
 refine Zu (dA rfl rfl) ?_
 refine Zl ?_
 refine Zq ?_
 refine Zc hS (fun h18 hS => ?_) (fun h18 hS => ?_)
 ·
  refine Zk ?_
  refine Zq (Zb (Zq (Zr ?_)))
  refine Zm ?_
  obtain ⟨kM,BR,yP,hS⟩:=eW hS
  refine Zu (dH (s:=eN) Tryz.underlying89 uG rfl rfl BR (bC BR yP)) ?_
  refine Zu (qW (s:=eN) cD rfl yP rfl) ?_
  refine Zy ?_
  refine Zq (Zr ?_)
  refine Zy ?_
  obtain ⟨aGi,aMN,aLl,hS⟩:=eW hS
  refine Zu (dH (s:=gH) Tryz.underlying89 uG rfl rfl aMN (bC aMN aLl)) ?_
  refine Zu (qW (s:=gH) cD rfl aLl rfl) ?_
  refine Zy ?_
  refine VC.keep (ρ':=[(1,gH.val),(2,.func (.func 77) #[] #[]),(15,eN.val),(16,i64 (eN.l.length:Int)),(17,i64 hG),(8,str kM),(9,str aGi)]) [1,2,15,16,17,8,9] rfl ?_
  refine Zq (Zr ?_)
  refine Zy ?_
  obtain ⟨Y0,aEq,hS⟩:=bF hS
  refine Zu (qJ (S4 kM aGi aEq) rfl rfl (fun _ _=>rfl)) ?_
  refine Zu (oS rfl) ?_
  refine Zl ?_
  refine mT hS (fun h30 hS => ?_) (fun h30 hS => ?_)
  ·
   refine Zq (Zr ?_)
   refine Zy ?_
   refine VC.keep (ρ':=[(6,.bool false)]) [6] rfl ?_
   replace hS:=fF hS hK1
   cases hS
   exact Ze
  refine Zk ?_
  refine VC.keep (ρ':=[(1,gH.val),(2,.func (.func 77) #[] #[]),(15,eN.val),(16,i64 (eN.l.length:Int)),(17,i64 hG)]) [1,2,15,16,17] rfl ?_
  refine Zr ?_
  obtain ⟨b31,hS⟩:=bQ hS
  refine Zu (dZ rfl rfl b31) ?_
  refine Zm ?_
  refine VL.kE (hG+1) [1,2,15,16,17] (fun _ _ h=>h) (go2 hS hK1) rfl
 replace hS:=fF hS hK1
 refine Zx ?_
 refine Zq (Zr ?_)
 refine Zy ?_
 cases hS
 exact Ze
theorem aBs (bM:fY) (b_1:fY) {r:Bool} (hS:Sh.O8 bM.pl b_1.pl=some r) :
 Ct Tryz.prog 28 [.agg (cC bM).toArray,.agg (cC b_1).toArray] (bM.cJ.ok.and (bM.bV.ok.and (bM.bB.ok.and (bM.bW.ok.and (bM.cG.ok.and (bM.bX.ok.and (bM.cH.ok.and (bM.bL.ok.and (bM.aK.ok.and (bM.gC.ok.and (bM.fA.ok.and (b_1.cJ.ok.and (b_1.bV.ok.and (b_1.bB.ok.and (b_1.bW.ok.and (b_1.cG.ok.and (b_1.bX.ok.and (b_1.cH.ok.and (b_1.bL.ok.and (b_1.aK.ok.and (b_1.gC.ok.and b_1.fA.ok))))))))))))))))))))) (Ow.emp) (X:=Unit) (fun _ => .bool r) (fun _=>True) (fun _=>Mo.tt) (fun _=>Ow.emp):=by
 refine Zo Tryz.func28 Tryz.ntmps28 fun c => ?_
 unfold Sh.O8 at hS
 refine Zq (Zr ?_)
 refine VL.box (cs:=(cC bM)) rfl rfl (by decide) fun nA => ?_
 refine VL.box (cs:=(cC b_1)) rfl rfl (by decide) fun eZ => ?_
 refine Zy ?_
 refine Zq (Zr ?_)
 refine Zu (aB mF rfl) ?_
 refine Zu (sL (j:=0) (n:=17) oB rfl rfl rfl) ?_
 refine Zu (aB mF rfl) ?_
 refine Zu (sL (j:=0) (n:=17) oB rfl rfl rfl) ?_
 obtain ⟨yI,MA,hS⟩:=bF hS
 refine Zu (cZ (WE (⟨bM.cJ,bM.bV,bM.bB,bM.aR,bM.bA,bM.cI,bM.dB,bM.dP,bM.bW,bM.cG,bM.dK,bM.cY,bM.bU,bM.bS,bM.bX,bM.cH,bM.bL⟩:eK) (⟨b_1.cJ,b_1.bV,b_1.bB,b_1.aR,b_1.bA,b_1.cI,b_1.dB,b_1.dP,b_1.bW,b_1.cG,b_1.dK,b_1.cY,b_1.bU,b_1.bS,b_1.bX,b_1.cH,b_1.bL⟩:eK) MA) rfl (fun _ _=>rfl)) ?_
 refine Zm ?_
 refine rC 10 hS (fun h10 hS => ?_) (fun h10 hS => ?_)
 ·
  refine Zh (aB sG rfl) ?_
  refine Zh (aI qT rfl rfl) ?_
  refine Zh (aB sG rfl) ?_
  refine Zh (aI qT rfl rfl) ?_
  obtain ⟨CL,L3,hS⟩:=bF hS
  refine Zh (cZ (nG bM.aK b_1.aK L3) rfl (fun _ _=>rfl)) ?_
  refine Zy ?_
  refine rC 17 hS (fun h17 hS => ?_) (fun h17 hS => ?_)
  ·
   refine Zh (aB zS rfl) ?_
   refine Zh (aI cN rfl rfl) ?_
   refine Zh (aB zS rfl) ?_
   refine Zh (aI cN rfl rfl) ?_
   refine Zh (gJ rfl rfl) ?_
   refine Zy ?_
   refine jJ 24 hS (fun h24 hS => ?_) (fun h24 hS => ?_)
   ·
    refine Zh (aB nM rfl) ?_
    refine Zh (aB zR rfl) ?_
    refine Zh (aI oC rfl rfl) ?_
    refine Zh (aB nM rfl) ?_
    refine Zh (aB zR rfl) ?_
    refine Zh (aI oC rfl rfl) ?_
    obtain ⟨aUr,aWL,hS⟩:=bF hS
    refine Zh (cZ (nO bM.gC b_1.gC aWL) rfl (fun _ _=>rfl)) ?_
    refine Zy ?_
    refine rC 33 hS (fun h33 hS => ?_) (fun h33 hS => ?_)
    ·
     refine Zh (aB nM rfl) ?_
     refine Zh (aB xI rfl) ?_
     refine Zh (aI oC rfl rfl) ?_
     refine Zh (aB nM rfl) ?_
     refine Zh (aB xI rfl) ?_
     refine Zh (aI oC rfl rfl) ?_
     obtain ⟨aKr,aWW,hS⟩:=bF hS
     refine Zh (cZ (nO bM.fA b_1.fA aWW) rfl (fun _ _=>rfl)) ?_
     refine Zy ?_
     refine VC.keep (ρ':=[(4,.bool aKr)]) [4] rfl ?_
     cases hS
     exact Ze
    refine VL.runs 9 [(4,some false)] (by kernel_rfl) ?_
    refine Zl ?_
    refine VC.keep (ρ':=[(4,.bool false)]) [4] rfl ?_
    cases hS
    exact Ze
   refine VL.runs 18 [(4,some false)] (by kernel_rfl) ?_
   refine Zl ?_
   refine VC.keep (ρ':=[(4,.bool false)]) [4] rfl ?_
   cases hS
   exact Ze
  refine VL.runs 25 [(4,some false)] (by kernel_rfl) ?_
  refine Zl ?_
  refine VC.keep (ρ':=[(4,.bool false)]) [4] rfl ?_
  cases hS
  exact Ze
 refine VL.runs 32 [(4,some false)] (by kernel_rfl) ?_
 refine Zl ?_
 refine VC.keep (ρ':=[(4,.bool false)]) [4] rfl ?_
 cases hS
 exact Ze
theorem sS (aD:bN) {r:Int} (hS:Sh.mS aD=some r) :
 Ct Tryz.prog 299 [str aD] Mo.tt (Ow.emp) (X:=Unit) (fun _=>i64 r) (fun _=>True) (fun _=>Mo.tt) (fun _=>Ow.emp):=by
 refine Zo Tryz.func299 Tryz.ntmps299 fun c => ?_
 unfold Sh.mS at hS
 refine Zq (Zr ?_)
 refine Zy ?_
 refine Zq (Zq (Zr ?_))
 refine Zm ?_
 cases hS
theorem xB (aD:bN) {r:Int×Int} (hS:Sh.nS aD=some r) :
 Ct Tryz.prog 303 [str aD] Mo.tt (Ow.emp) (X:=Unit) (fun _ => .tuple #[.int .i32 r.1,i64 r.2]) (fun _=>True) (fun _=>Mo.tt) (fun _=>Ow.emp):=by
 refine Zo Tryz.func303 Tryz.ntmps303 fun c => ?_
 unfold Sh.nS at hS
 refine Zq (Zr ?_)
 refine Zy ?_
 refine Zq (Zr ?_)
 refine Zm ?_
 refine Zu (iH Tryz.underlying9 rfl) ?_
 refine Zy ?_
 refine Zq (Zq (Zr ?_))
 refine Zm ?_
 refine Zu (dA rfl rfl) ?_
 refine Zl ?_
 refine Zc hS (fun h16 hS => ?_) (fun h16 hS => ?_)
 ·
  refine Zq (Zr ?_)
  refine Zy ?_
  cases hS
  exact VC.ret (KB (.inr rfl) rfl rfl rfl () rfl trivial (fun _ _=>trivial) (fun _ _=>trivial))
 refine Zk ?_
 refine Zq (Zr ?_)
 refine Zm ?_
 obtain ⟨aVD,aXZ,aXN,hS⟩:=eW hS
 refine Zu (qX Tryz.underlying9 rfl rfl aXZ aXN) ?_
 refine Zy ?_
 refine VC.keep (ρ':=[(0,str aD),(4,i64 (aD.length:Int)),(5,.int .u8 (aVD.toNat:Int))]) [0,4,5] rfl ?_
 refine Zq (Zr ?_)
 refine Zm ?_
 cases hS
theorem zZ (aD:bN) {r:Int×Int} (hS:Sh.o7 aD=some r) :
 Ct Tryz.prog 300 [str aD] Mo.tt (Ow.emp) (X:=Unit) (fun _ => .tuple #[.int .i32 r.1,i64 r.2]) (fun _=>True) (fun _=>Mo.tt) (fun _=>Ow.emp):=by
 refine Zo Tryz.func300 Tryz.ntmps300 fun c => ?_
 unfold Sh.o7 at hS
 refine Zq (Zr ?_)
 refine Zy ?_
 refine Zq ?_
 refine VC.j0 (S:=Bool) (fun (PJ:Bool)=>PJ) (fun (PJ:Bool)=>[(0,str aD),(10,.bool PJ)]) (fun (PJ:Bool)=>Mo.tt) (fun (PJ:Bool)=>Ow.emp) hS ?_ ?_
 ·
  clear hS
  intro k2 hS
  refine Zr ?_
  refine Zm ?_
  refine Zu (BX rfl rfl) ?_
  refine Zm ?_
  refine II 6 hS (fun h6 hS => ?_) (fun h6 hS => ?_)
  ·
   refine Zg ?_
   obtain ⟨aVJ,a0C,aZv,hS⟩:=eW hS
   refine Zh (qX Tryz.underlying9 rfl rfl a0C aZv) ?_
   refine Zh (dA rfl rfl) ?_
   refine Zt ?_
   refine VL.mt (decide ((aVJ.toNat:Int) < 128)) [0,10] (fun _ _ h=>h) hS rfl
  refine VL.runs 4 [(10,some false)] (by kernel_rfl) ?_
  refine VL.mt false [0,10] (fun _ _ h=>h) hS rfl
 clear hS
 rintro PJ hS
 refine mT hS (fun h10 hS => ?_) (fun h10 hS => ?_)
 ·
  refine Zq (Zr ?_)
  refine Zm ?_
  obtain ⟨aKv,aXX,aXL,hS⟩:=eW hS
  refine Zu (qX Tryz.underlying9 rfl rfl aXX aXL) ?_
  refine Zu (VZ Tryz.underlying5 Tryz.underlying21 rfl (aYV aKv)) ?_
  refine Zy ?_
  cases hS
  exact VC.ret (KB (.inr rfl) rfl rfl rfl () rfl trivial (fun _ _=>trivial) (fun _ _=>trivial))
 refine Zr ?_
 refine Zm ?_
 obtain ⟨QA,aEh,hS⟩:=bF hS
 refine Zu (cZ (xB aD aEh) rfl (fun _ _=>rfl)) ?_
 refine Zm ?_
 refine Zu (gB rfl rfl) ?_
 refine Zu (gB rfl rfl) ?_
 refine Zy ?_
 cases hS
 exact VC.ret (KB (.inr rfl) rfl rfl rfl () rfl trivial (fun _ _=>trivial) (fun _ _=>trivial))
theorem RO (aD:bN) (n_1:Int) {r:List bN} (hS:Sh.DN aD n_1=some r) :
 Ct Tryz.prog 291 [str aD,i64 n_1] Mo.tt (Ow.emp) (X:=Sv bN) (fun x=>x.val) (fun x=>r=x.l) (fun x=>Mo.tt) (fun x=>Sv.own x 9):=by
 refine Zo Tryz.func291 Tryz.ntmps291 fun c => ?_
 unfold Sh.DN at hS
 refine Zq (Zr ?_)
 refine Zy ?_
 refine Zq (Zr ?_)
 refine Zm ?_
 obtain ⟨kK,L1,hS⟩:=bF hS
 refine Zu (cZ (sS aD L1) rfl (fun _ _=>rfl)) ?_
 refine Zy ?_
 refine VC.j0 (S:=Int) (fun (BP:Int)=>BP) (fun (BP:Int)=>[(0,str aD),(1,i64 BP)]) (fun (BP:Int)=>Mo.tt) (fun (BP:Int)=>Ow.emp) hS ?_ ?_
 ·
  clear hS
  intro k3 hS
  refine VC.j0 (S:=Bool) (fun (PR:Bool)=>PR) (fun (PR:Bool)=>[(0,str aD),(1,i64 n_1),(5,i64 kK),(18,.bool PR)]) (fun (PR:Bool)=>Mo.tt) (fun (PR:Bool)=>Ow.emp) hS ?_ ?_
  ·
   clear hS
   intro k5 hS
   refine Zr ?_
   refine Zm ?_
   refine Zu (dA rfl rfl) ?_
   refine Zm ?_
   refine jJ 14 hS (fun h14 hS => ?_) (fun h14 hS => ?_)
   ·
    refine VL.runs 4 [(18,some true)] (by kernel_rfl) ?_
    refine VL.mt true [0,1,5,18] (fun _ _ h=>h) hS rfl
   refine Zy ?_
   refine Zh (gQ rfl rfl) ?_
   refine Zf ?_
   refine VL.mt (decide (kK < n_1)) [0,1,5,18] (fun _ _ h=>h) hS rfl
  clear hS
  rintro PR hS
  refine mT hS (fun h18 hS => ?_) (fun h18 hS => ?_)
  ·
   refine Zr ?_
   refine Zy ?_
   refine VL.mt kK [0,1] (fun _ _ h=>h) hS rfl
  refine VC.qL n_1 [0,1] (fun _ _ h=>h) hS rfl
 clear hS
 rintro BP hS
 refine Zq (Zr ?_)
 refine Zm ?_
 obtain ⟨b21,hS⟩:=bQ hS
 refine VL.make (α:=bN) (z:=[]) Tryz.underlying89 aSI (by decide) rfl rfl b21.1 (Int.le_refl _) (by omega) (by omega) (by decide) (fun a06 aWr => ?_)
 replace hS:=dL aWr hS
 refine Zy ?_
 refine Zq (Zq (Zr ?_))
 refine Zy ?_
 refine Zb ?_
 refine VC.iter (S:=bN×Sv bN×Int) (fun sg=>(sg.1,sg.2.1.l,sg.2.2)) (fun sg=>[(0,str sg.1),(1,i64 BP),(6,sg.2.1.val),(7,i64 sg.2.2)]) (fun sg=>Mo.tt) (fun sg=>Ow.star (Sv.own sg.2.1 9) (Ow.emp)) (aD,a06,0) [0,1,6,7] hS rfl ?_
 clear hS
 rintro ⟨O3,J6,MI⟩ m1 y1 hS hK1
 refine Zq (Zq (Zr ?_))
 refine Zy ?_
 obtain ⟨b24,hS⟩:=bQ hS
 refine Zu (tW rfl rfl b24) ?_
 refine Zu (dA rfl rfl) ?_
 refine Zl ?_
 refine Zc hS (fun h25 hS => ?_) (fun h25 hS => ?_)
 ·
  refine Zk ?_
  refine Zq (Zb (Zq (Zr ?_)))
  refine Zm ?_
  obtain ⟨EA,aQ0,hS⟩:=bF hS
  refine Zu (cZ (zZ O3 aQ0) rfl (fun _ _=>rfl)) ?_
  refine Zm ?_
  refine Zu (gB rfl rfl) ?_
  refine Zu (gB rfl rfl) ?_
  refine Zy ?_
  refine VC.keep (ρ':=[(0,str O3),(1,i64 BP),(6,J6.val),(7,i64 MI),(9,i64 EA.2)]) [0,1,6,7,9] rfl ?_
  refine Zq (Zr ?_)
  refine Zy ?_
  obtain ⟨b37,hS⟩:=bQ hS
  obtain ⟨Z3,aQc,hS⟩:=gY hS
  refine Zu (ZZ Tryz.underlying9 rfl rfl b37.1 b37.2 aQc) ?_
  obtain ⟨aYo,aIW,aHl,hS⟩:=eW hS
  refine Zu (DG (s:=J6) Tryz.underlying89 uG rfl rfl aIW (bC aIW aHl)) ?_
  refine VL.WI (s:=J6) (T:=9) (j:=0) (vc:=[str Z3]) (Z3:bN) (by decide) rfl rfl aHl rfl uG rfl rfl (Nat.le_of_ble_eq_true rfl) rfl (fun w14 hw14 haw14 hcw14 hvw14 hbw14 how14 => ?_)
  rw [← hvw14]
  replace hS:=dL hw14 hS
  refine Zl ?_
  refine Zr ?_
  refine Zy ?_
  obtain ⟨b41,hS⟩:=bQ hS
  obtain ⟨NB,aA7,hS⟩:=gY hS
  refine Zu (YA Tryz.underlying9 rfl rfl b41.1 b41.2 aA7) ?_
  refine Zy ?_
  refine VC.keep (ρ':=[(0,str NB),(1,i64 BP),(6,w14.val),(7,i64 MI)]) [0,1,6,7] rfl ?_
  refine Zr ?_
  refine Zm ?_
  obtain ⟨b27,hS⟩:=bQ hS
  refine Zu (dZ rfl rfl b27) ?_
  refine Za ?_
  refine VL.kE (NB,w14,(MI+1)) [0,1,6,7] (fun _ _ h=>h) (go2 hS hK1) rfl
 replace hS:=fF hS hK1
 refine Zx ?_
 refine Zq (Zq (Zr ?_))
 refine Zm ?_
 refine Zu (gQ rfl rfl) ?_
 refine Zl ?_
 refine Zc hS (fun h43 hS => ?_) (fun h43 hS => ?_)
 ·
  refine Zr ?_
  refine Zy ?_
  obtain ⟨b46,hS⟩:=bQ hS
  refine Zu (tW rfl rfl b46) ?_
  refine Zm ?_
  obtain ⟨aYp,aI3,aHp,hS⟩:=eW hS
  refine Zu (DG (s:=J6) Tryz.underlying89 uG rfl rfl aI3 (bC aI3 aHp)) ?_
  refine VL.WI (s:=J6) (T:=9) (j:=0) (vc:=[str O3]) (O3:bN) (by decide) rfl rfl aHp rfl uG rfl rfl (Nat.le_of_ble_eq_true rfl) rfl (fun w18 hw18 haw18 hcw18 hvw18 hbw18 how18 => ?_)
  rw [← hvw18]
  replace hS:=dL hw18 hS
  refine Zl ?_
  refine VC.keep (ρ':=[(6,w18.val)]) [6] rfl ?_
  refine Zq (Zr ?_)
  refine Zy ?_
  cases hS
  exact VC.ret (iU (.inr rfl) rfl rfl w18 rfl rfl (by (try dsimp only); exact dQ.out) (by (try dsimp only); exact fL.out))
 refine Zk ?_
 refine Zq (Zr ?_)
 refine Zy ?_
 refine VC.keep (ρ':=[(4,J6.val)]) [4] rfl ?_
 cases hS
 exact VC.ret (iU (.inr rfl) rfl rfl J6 rfl rfl (by (try dsimp only); exact dQ.out) (by (try dsimp only); exact fL.out))
theorem AE (aD:bN) (c_1:Int) {r:Int} (hS:Sh.mR aD c_1=some r) :
 Ct Tryz.prog 304 [str aD,.int .u8 c_1] Mo.tt (Ow.emp) (X:=Unit) (fun _=>i64 r) (fun _=>True) (fun _=>Mo.tt) (fun _=>Ow.emp):=by
 refine Zo Tryz.func304 Tryz.ntmps304 fun c => ?_
 unfold Sh.mR at hS
 refine Zq (Zr ?_)
 refine Zy ?_
 refine Zq (Zr ?_)
 refine Zy ?_
 refine Zu (X9 Tryz.func308 rfl rfl (by kernel_rfl) (by kernel_rfl) rfl (fun w=>a0r aD c_1 w)) ?_
 refine Zy ?_
 cases hS
 exact Ze
theorem DA (aD:bN) (iB:bN) {r:Int} (hS:Sh.mH aD iB=some r) :
 Ct Tryz.prog 302 [str aD,str iB] Mo.tt (Ow.emp) (X:=Unit) (fun _=>i64 r) (fun _=>True) (fun _=>Mo.tt) (fun _=>Ow.emp):=by
 refine Zo Tryz.func302 Tryz.ntmps302 fun c => ?_
 unfold Sh.mH at hS
 refine Zq (Zr ?_)
 refine Zy ?_
 refine Zq (Zr ?_)
 refine Zm ?_
 refine Zu (iH Tryz.underlying9 rfl) ?_
 refine Zy ?_
 refine Zq (Zb ?_)
 refine VC.j0 (S:=Bool) (fun (PO:Bool)=>PO) (fun (PO:Bool)=>[(0,str aD),(1,str iB),(5,i64 (iB.length:Int)),(16,.bool PO)]) (fun (PO:Bool)=>Mo.tt) (fun (PO:Bool)=>Ow.emp) hS ?_ ?_
 ·
  clear hS
  intro k2 hS
  refine Zr ?_
  refine Zm ?_
  refine Zu (gJ rfl rfl) ?_
  refine Zm ?_
  refine jJ 19 hS (fun h19 hS => ?_) (fun h19 hS => ?_)
  ·
   refine VL.runs 5 [(16,some true)] (by kernel_rfl) ?_
   refine VL.mt true [0,1,5,16] (fun _ _ h=>h) hS rfl
  refine Zy ?_
  refine Zh (sM rfl rfl) ?_
  refine Zy ?_
  refine VL.mt (decide (iB=aD)) [0,1,5,16] (fun _ _ h=>h) hS rfl
 clear hS
 rintro PO hS
 refine mT hS (fun h16 hS => ?_) (fun h16 hS => ?_)
 ·
  refine Zq (Zr ?_)
  refine Zy ?_
  cases hS
  exact Ze
 refine Zq (Zr ?_)
 refine Zm ?_
 refine Zu (gJ rfl rfl) ?_
 refine Zy ?_
 refine Zc hS (fun h24 hS => ?_) (fun h24 hS => ?_)
 ·
  refine Zq (Zr ?_)
  refine Zy ?_
  obtain ⟨aLE,aX1,aXP,hS⟩:=eW hS
  refine Zu (qX Tryz.underlying9 rfl rfl aX1 aXP) ?_
  obtain ⟨aKl,aWI,hS⟩:=bF hS
  refine Zu (cZ (AE aD (aLE.toNat:Int) aWI) rfl (fun _ _=>rfl)) ?_
  refine Zy ?_
  refine VC.keep (ρ':=[(4,i64 aKl)]) [4] rfl ?_
  cases hS
  exact Ze
 refine Zq (Zr ?_)
 refine Zy ?_
 refine Zu (iH Tryz.underlying9 rfl) ?_
 refine Zu (rQ rfl rfl) ?_
 refine Zy ?_
 refine VC.keep (ρ':=[(0,str aD),(1,str iB),(5,i64 (iB.length:Int)),(31,.bool (decide ((aD.length:Int)≤(iB.length:Int))))]) [0,1,5,31] rfl ?_
 refine Zc hS (fun h31 hS => ?_) (fun h31 hS => ?_)
 ·
  refine Zq (Zr ?_)
  refine Zy ?_
  cases hS
  exact Ze
 refine Zq (Zr ?_)
 refine Zm ?_
 cases hS
theorem I8 (aD:bN) (iB:bN) {r:Int} (hS:Sh.vD aD iB=some r) :
 Ct Tryz.prog 293 [str aD,str iB] Mo.tt (Ow.emp) (X:=Unit) (fun _=>i64 r) (fun _=>True) (fun _=>Mo.tt) (fun _=>Ow.emp):=by
 refine Zo Tryz.func293 Tryz.ntmps293 fun c => ?_
 unfold Sh.vD at hS
 refine Zq (Zr ?_)
 refine Zy ?_
 refine Zq (Zr ?_)
 refine Zy ?_
 obtain ⟨lT,oH,hS⟩:=bF hS
 refine Zu (cZ (DA aD iB oH) rfl (fun _ _=>rfl)) ?_
 refine Zy ?_
 cases hS
 exact Ze
theorem WJ (aD:bN) (iB:bN) {r:Int} (hS:Sh.yD aD iB=some r) :
 Ct Tryz.prog 292 [str aD,str iB] Mo.tt (Ow.emp) (X:=Unit) (fun _=>i64 r) (fun _=>True) (fun _=>Mo.tt) (fun _=>Ow.emp):=by
 refine Zo Tryz.func292 Tryz.ntmps292 fun c => ?_
 unfold Sh.yD at hS
 refine Zq (Zr ?_)
 refine Zy ?_
 refine Zq (Zq (Zr ?_))
 refine Zm ?_
 refine Zu (iH Tryz.underlying9 rfl) ?_
 refine Zu (gJ rfl rfl) ?_
 refine Zl ?_
 refine Zc hS (fun h9 hS => ?_) (fun h9 hS => ?_)
 ·
  refine Zq (Zr ?_)
  refine Zm ?_
  obtain ⟨kK,L1,hS⟩:=bF hS
  refine Zu (cZ (sS aD L1) rfl (fun _ _=>rfl)) ?_
  obtain ⟨b12,hS⟩:=bQ hS
  refine Zu (dZ rfl rfl b12) ?_
  refine Zy ?_
  cases hS
  exact Ze
 refine Zk ?_
 refine Zq (Zq (Zr ?_))
 refine Zm ?_
 refine Zu (iH Tryz.underlying9 rfl) ?_
 refine Zu (gJ rfl rfl) ?_
 refine Zl ?_
 refine Zc hS (fun h15 hS => ?_) (fun h15 hS => ?_)
 ·
  refine Zq (Zr ?_)
  refine Zy ?_
  obtain ⟨nI,D2,DY,hS⟩:=eW hS
  refine Zu (qX Tryz.underlying9 rfl rfl D2 DY) ?_
  refine Zu (X9 Tryz.func301 rfl rfl (by kernel_rfl) (by kernel_rfl) rfl (fun w=>aYY aD (nI.toNat:Int) w)) ?_
  refine Zy ?_
  refine VC.keep (ρ':=[(4,i64 (aLW aD (nI.toNat:Int)))]) [4] rfl ?_
  cases hS
  exact Ze
 refine Zk ?_
 refine Zq (Zr ?_)
 refine Zy ?_
 refine Zb ?_
 refine VC.iter (S:=bN×Int) (fun sg=>(sg.1,sg.2)) (fun sg=>[(0,str sg.1),(1,str iB),(5,i64 sg.2)]) (fun sg=>Mo.tt) (fun sg=>Ow.emp) (aD,0) [0,1,5] hS rfl ?_
 clear hS
 rintro ⟨aEK,aBV⟩ m1 y1 hS hK1
 refine Zb (Zq (Zr ?_))
 refine Zy ?_
 obtain ⟨zL,T3,hS⟩:=bF hS
 refine Zu (cZ (I8 aEK iB T3) rfl (fun _ _=>rfl)) ?_
 refine Zy ?_
 refine Zq (Zq (Zr ?_))
 refine Zm ?_
 refine Zu (gJ rfl rfl) ?_
 refine Zl ?_
 refine Zc hS (fun h24 hS => ?_) (fun h24 hS => ?_)
 ·
  refine Zq (Zr ?_)
  refine Zy ?_
  refine VC.keep (ρ':=[(4,i64 aBV)]) [4] rfl ?_
  replace hS:=fF hS hK1
  cases hS
  exact Ze
 refine Zk ?_
 refine Zq (Zr ?_)
 refine Zm ?_
 obtain ⟨b27,hS⟩:=bQ hS
 refine Zu (dZ rfl rfl b27) ?_
 refine Zy ?_
 refine VC.keep (ρ':=[(0,str aEK),(1,str iB),(5,i64 (aBV+1)),(6,i64 zL)]) [0,1,5,6] rfl ?_
 refine Zr ?_
 refine Zy ?_
 refine Zu (iH Tryz.underlying9 rfl) ?_
 obtain ⟨b32,hS⟩:=bQ hS
 refine Zu (dZ rfl rfl b32) ?_
 obtain ⟨b33,hS⟩:=bQ hS
 obtain ⟨aKn,aWM,hS⟩:=gY hS
 refine Zu (YA Tryz.underlying9 rfl rfl b33.1 b33.2 aWM) ?_
 refine Za ?_
 refine VL.kE (aKn,(aBV+1)) [0,1,5] (fun _ _ h=>h) (go2 hS hK1) rfl
theorem PC (aD:bN) (rR:bN) (sepSave_2:Int) (n_3:Int) {r:List bN} (hS:Sh.wY aD rR sepSave_2 n_3=some r) :
 Ct Tryz.prog 274 [str aD,str rR,i64 sepSave_2,i64 n_3] Mo.tt (Ow.emp) (X:=Sv bN) (fun x=>x.val) (fun x=>r=x.l) (fun x=>x.ok) (fun x=>Ow.emp):=by
 refine Zo Tryz.func274 Tryz.ntmps274 fun c => ?_
 unfold Sh.wY at hS
 refine Zq (Zr ?_)
 refine Zy ?_
 refine Zq (Zq (Zr ?_))
 refine Zm ?_
 refine Zu (gJ rfl rfl) ?_
 refine Zl ?_
 refine Zc hS (fun h13 hS => ?_) (fun h13 hS => ?_)
 ·
  refine Zq (Zr ?_)
  refine Zy ?_
  cases hS
  exact VC.ret (iU (.inr rfl) rfl rfl ⟨none,0,[]⟩ rfl rfl (by (try dsimp only); exact dQ.out) (fun _ _=>trivial))
 refine Zk ?_
 refine Zq (Zq (Zr ?_))
 refine Zy ?_
 refine Zc hS (fun h15 hS => ?_) (fun h15 hS => ?_)
 ·
  refine Zq (Zr ?_)
  refine Zy ?_
  obtain ⟨YV,aEj,hS⟩:=bF hS
  refine VL.cT (RO aD n_3 aEj) rfl (by decide) ?_
  rintro aB9 rfl
  try dsimp only
  refine Zy ?_
  refine VC.keep (ρ':=[(8,aB9.val)]) [8] rfl ?_
  refine VC.shut aB9 9 (fun _ _ _ _=>trivial) ?_
  cases hS
  exact VC.ret (iU (.inr rfl) rfl rfl aB9 rfl rfl (by (try dsimp only); exact dQ.out) (fun _ _=>trivial))
 refine Zk ?_
 refine VC.j0 (S:=Int) (fun (EN:Int)=>EN) (fun (EN:Int)=>[(0,str aD),(1,str rR),(2,i64 sepSave_2),(3,i64 EN)]) (fun (EN:Int)=>Mo.tt) (fun (EN:Int)=>Ow.emp) hS ?_ ?_
 ·
  clear hS
  intro k3 hS
  refine Zq (Zr ?_)
  refine Zm ?_
  refine Zu (dA rfl rfl) ?_
  refine Zl ?_
  refine Zc hS (fun h20 hS => ?_) (fun h20 hS => ?_)
  ·
   refine Zr ?_
   refine Zy ?_
   obtain ⟨aGC,aVw,hS⟩:=bF hS
   refine Zu (cZ (WJ aD rR aVw) rfl (fun _ _=>rfl)) ?_
   obtain ⟨b24,hS⟩:=bQ hS
   refine Zu (dZ rfl rfl b24) ?_
   refine Za ?_
   refine VL.mt (aGC+1) [0,1,2,3] (fun _ _ h=>h) hS rfl
  refine VC.qL n_3 [0,1,2,3] (fun _ _ h=>h) hS rfl
 clear hS
 rintro EN hS
 refine Zq (Zr ?_)
 refine Zy ?_
 refine Zu (iH Tryz.underlying9 rfl) ?_
 obtain ⟨b28,hS⟩:=bQ hS
 refine Zu (dZ rfl rfl b28) ?_
 refine Zu (a0S rfl) ?_
 refine Zy ?_
 refine Zq (Zr ?_)
 refine Zm ?_
 obtain ⟨b31,hS⟩:=bQ hS
 refine VL.make (α:=bN) (z:=[]) Tryz.underlying89 aSI (by decide) rfl rfl b31.1 (Int.le_refl _) (by omega) (by omega) (by decide) (fun aUO aXC => ?_)
 replace hS:=dL aXC hS
 refine Zy ?_
 refine VC.keep (ρ':=[(0,str aD),(1,str rR),(2,i64 sepSave_2),(3,i64 (min EN ((aD.length:Int)+1))),(9,aUO.val)]) [0,1,2,3,9] rfl ?_
 refine Zq (Zr ?_)
 refine Zm ?_
 obtain ⟨b33,hS⟩:=bQ hS
 refine Zu (tW rfl rfl b33) ?_
 refine Zy ?_
 refine Zq (Zr ?_)
 refine Zy ?_
 refine VC.j0 (S:=bN×Sv bN×Int) (fun sg=>(sg.1,sg.2.1.l,sg.2.2)) (fun sg=>[(0,str sg.1),(9,sg.2.1.val),(10,i64 sg.2.2)]) (fun sg=>Mo.tt) (fun sg=>Ow.star (Sv.own sg.2.1 9) (Ow.emp)) hS ?_ ?_
 ·
  clear hS
  intro k10 hS
  refine Zb ?_
  refine VC.iter (S:=bN×Sv bN×Int) (fun sg=>(sg.1,sg.2.1.l,sg.2.2)) (fun sg=>[(0,str sg.1),(1,str rR),(2,i64 sepSave_2),(3,i64 ((min EN ((aD.length:Int)+1)) - 1)),(9,sg.2.1.val),(10,i64 sg.2.2)]) (fun sg=>Mo.tt) (fun sg=>Ow.star (Sv.own sg.2.1 9) (Ow.emp)) (aD,aUO,0) [0,1,2,3,9,10] hS rfl ?_
  clear hS
  rintro ⟨DJ,JE,wU⟩ m1 y1 hS hK1
  refine Zq (Zq (Zr ?_))
  refine Zy ?_
  refine Zu (dA rfl rfl) ?_
  refine Zl ?_
  refine Zc hS (fun h36 hS => ?_) (fun h36 hS => ?_)
  ·
   refine Zk ?_
   refine Zb (Zq (Zr ?_))
   refine Zy ?_
   obtain ⟨y8,aQe,hS⟩:=bF hS
   refine Zu (cZ (I8 DJ rR aQe) rfl (fun _ _=>rfl)) ?_
   refine Zy ?_
   refine Zq (Zq (Zr ?_))
   refine Zm ?_
   refine Zu (dA rfl rfl) ?_
   refine Zl ?_
   refine VC.keep (ρ':=[(0,str DJ),(1,str rR),(2,i64 sepSave_2),(3,i64 ((min EN ((aD.length:Int)+1)) - 1)),(9,JE.val),(10,i64 wU),(11,i64 y8),(41,.bool (decide (y8 < 0)))]) [0,1,2,3,9,10,11,41] rfl ?_
   refine Zc hS (fun h41 hS => ?_) (fun h41 hS => ?_)
   ·
    replace hS:=fF hS hK1
    refine VC.zN (DJ,JE,wU) [0,9,10] (fun _ _ h=>h) hS rfl
   refine Zk ?_
   refine Zq (Zr ?_)
   refine Zy ?_
   obtain ⟨b47,hS⟩:=bQ hS
   refine Zu (dZ rfl rfl b47) ?_
   obtain ⟨b48,hS⟩:=bQ hS
   obtain ⟨GB,aA9,hS⟩:=gY hS
   refine Zu (ZZ Tryz.underlying9 rfl rfl b48.1 b48.2 aA9) ?_
   obtain ⟨aYq,aI5,aHr,hS⟩:=eW hS
   refine Zu (DG (s:=JE) Tryz.underlying89 uG rfl rfl aI5 (bC aI5 aHr)) ?_
   refine VL.WI (s:=JE) (T:=9) (j:=0) (vc:=[str GB]) (GB:bN) (by decide) rfl rfl aHr rfl uG rfl rfl (Nat.le_of_ble_eq_true rfl) rfl (fun w17 hw17 haw17 hcw17 hvw17 hbw17 how17 => ?_)
   rw [← hvw17]
   replace hS:=dL hw17 hS
   refine Zl ?_
   refine VC.keep (ρ':=[(0,str DJ),(1,str rR),(2,i64 sepSave_2),(3,i64 ((min EN ((aD.length:Int)+1)) - 1)),(9,w17.val),(10,i64 wU),(11,i64 y8)]) [0,1,2,3,9,10,11] rfl ?_
   refine Zq (Zr ?_)
   refine Zy ?_
   refine Zu (iH Tryz.underlying9 rfl) ?_
   obtain ⟨b54,hS⟩:=bQ hS
   refine Zu (dZ rfl rfl b54) ?_
   obtain ⟨b55,hS⟩:=bQ hS
   obtain ⟨Z7,aQz,hS⟩:=gY hS
   refine Zu (YA Tryz.underlying9 rfl rfl b55.1 b55.2 aQz) ?_
   refine Zy ?_
   refine VC.keep (ρ':=[(0,str Z7),(1,str rR),(2,i64 sepSave_2),(3,i64 ((min EN ((aD.length:Int)+1)) - 1)),(9,w17.val),(10,i64 wU)]) [0,1,2,3,9,10] rfl ?_
   refine Zr ?_
   refine Zm ?_
   obtain ⟨b57,hS⟩:=bQ hS
   refine Zu (dZ rfl rfl b57) ?_
   refine Za ?_
   refine VL.kE (Z7,w17,(wU+1)) [0,1,2,3,9,10] (fun _ _ h=>h) (go2 hS hK1) rfl
  replace hS:=fF hS hK1
  refine VC.zN (DJ,JE,wU) [0,9,10] (fun _ _ h=>h) hS rfl
 clear hS
 rintro ⟨aMd,aHA,SP⟩ hS
 refine Zq (Zr ?_)
 refine Zy ?_
 obtain ⟨aN0,aIg,aHz,hS⟩:=eW hS
 refine Zu (DG (s:=aHA) Tryz.underlying89 uG rfl rfl aIg (bC aIg aHz)) ?_
 refine VL.WI (s:=aHA) (T:=9) (j:=0) (vc:=[str aMd]) (aMd:bN) (by decide) rfl rfl aHz rfl uG rfl rfl (Nat.le_of_ble_eq_true rfl) rfl (fun w21 hw21 haw21 hcw21 hvw21 hbw21 how21 => ?_)
 rw [← hvw21]
 replace hS:=dL hw21 hS
 refine Zl ?_
 refine Zq (Zr ?_)
 refine Zy ?_
 obtain ⟨b64,hS⟩:=bQ hS
 refine Zu (dZ rfl rfl b64) ?_
 refine VL.shut w21 9 (fun _ _ _ _=>trivial) ?_
 obtain ⟨b65,hS⟩:=bQ hS
 refine VL.sto Tryz.underlying89 uG rfl rfl b65.1 (b65.2) (by decide) fun aMi aS5 => ?_
 replace hS:=dL aS5 hS
 refine Zy ?_
 refine VC.keep (ρ':=[(8,aMi.val)]) [8] rfl ?_
 cases hS
 exact VC.ret (iU (.inr rfl) rfl rfl aMi rfl rfl (by (try dsimp only); exact dQ.out) (fun _ _=>trivial))
theorem WK (aD:bN) (rR:bN) {r:List bN} (hS:Sh.yE aD rR=some r) :
 Ct Tryz.prog 247 [str aD,str rR] Mo.tt (Ow.emp) (X:=Sv bN) (fun x=>x.val) (fun x=>r=x.l) (fun x=>x.ok) (fun x=>Ow.emp):=by
 refine Zo Tryz.func247 Tryz.ntmps247 fun c => ?_
 unfold Sh.yE at hS
 refine Zq (Zr ?_)
 refine Zy ?_
 refine Zq (Zr ?_)
 refine Zy ?_
 obtain ⟨lT,oH,hS⟩:=bF hS
 refine VL.gI (PC aD rR 0 (-1) oH) rfl (by decide) ?_
 rintro pT rfl
 try dsimp only
 refine Zy ?_
 cases hS
 exact VC.ret (iU (.inr rfl) rfl rfl pT rfl rfl (by (try dsimp only); exact dQ.out) (fun _ _=>trivial))
theorem aDS (uP:Int) {r:Bool} (hS:Sh.HD uP=some r) :
 Ct Tryz.prog 275 [.int .u8 uP] Mo.tt (Ow.emp) (X:=Unit) (fun _ => .bool r) (fun _=>True) (fun _=>Mo.tt) (fun _=>Ow.emp):=by
 refine Zo Tryz.func275 Tryz.ntmps275 fun c => ?_
 unfold Sh.HD at hS
 refine Zq (Zr ?_)
 refine Zy ?_
 refine VC.j0 (S:=Unit) (fun (_:Unit)=>()) (fun (_:Unit)=>[(0,.int .u8 uP)]) (fun (_:Unit)=>Mo.tt) (fun (_:Unit)=>Ow.emp) hS ?_ ?_
 ·
  clear hS
  intro k1 hS
  refine Zq (Zr ?_)
  refine Zy ?_
  refine Zb ?_
  refine VC.j0 (S:=Unit) (fun (_:Unit)=>()) (fun (_:Unit)=>[]) (fun (_:Unit)=>Mo.tt) (fun (_:Unit)=>Ow.emp) hS ?_ ?_
  ·
   clear hS
   intro k2 hS
   refine Zb (Zb (Zb (Zq (Zq (Zq (Zr ?_))))))
   refine Zu (gJ rfl rfl) ?_
   refine Zy ?_
   refine Zc hS (fun h4 hS => ?_) (fun h4 hS => ?_)
   ·
    refine VC.zN () [] (fun _ _ h=>h) hS rfl
   refine Zk ?_
   refine Zq (Zq (Zr ?_))
   refine Zu (gJ rfl rfl) ?_
   refine Zy ?_
   refine Zc hS (fun h6 hS => ?_) (fun h6 hS => ?_)
   ·
    refine VC.zN () [] (fun _ _ h=>h) hS rfl
   refine Zk ?_
   refine Zq (Zr ?_)
   refine Zu (gJ rfl rfl) ?_
   refine Zy ?_
   refine Zc hS (fun h8 hS => ?_) (fun h8 hS => ?_)
   ·
    refine VC.zN () [] (fun _ _ h=>h) hS rfl
   refine Zk ?_
   refine VC.zN () [0] (fun _ _ h=>h) hS rfl
  clear hS
  rintro _ hS
  refine Zq (Zq (Zr ?_))
  refine Zy ?_
  cases hS
  exact Ze
 clear hS
 rintro _ hS
 refine Zq (Zr ?_)
 refine Zm ?_
 refine Zu (rQ rfl rfl) ?_
 refine Zm ?_
 refine jJ 12 hS (fun h12 hS => ?_) (fun h12 hS => ?_)
 ·
  refine Zg ?_
  refine Zh (OX rfl rfl) ?_
  refine Zy ?_
  refine jJ 16 hS (fun h16 hS => ?_) (fun h16 hS => ?_)
  ·
   refine VL.runs 8 [(2,some true)] (by kernel_rfl) ?_
   refine Zl ?_
   cases hS
   exact Ze
  refine Zg ?_
  refine Zh (rQ rfl rfl) ?_
  refine Zg ?_
  refine jJ 19 hS (fun h19 hS => ?_) (fun h19 hS => ?_)
  ·
   refine Zg ?_
   refine Zh (OX rfl rfl) ?_
   refine Zh (fB rfl rfl) ?_
   refine Zy ?_
   refine VC.keep (ρ':=[(2,.bool (decide (uP≤57)))]) [2] rfl ?_
   cases hS
   exact Ze
  refine Zy ?_
  refine Zh (fE rfl rfl) ?_
  refine Zy ?_
  refine VC.keep (ρ':=[(2,.bool false)]) [2] rfl ?_
  cases hS
  exact Ze
 refine VL.runs 4 [(16,some false)] (by kernel_rfl) ?_
 refine Zg ?_
 refine Zh (rQ rfl rfl) ?_
 refine Zg ?_
 refine jJ 19 hS (fun h19 hS => ?_) (fun h19 hS => ?_)
 ·
  refine Zg ?_
  refine Zh (OX rfl rfl) ?_
  refine Zh (fB rfl rfl) ?_
  refine Zy ?_
  refine VC.keep (ρ':=[(2,.bool (decide (uP≤57)))]) [2] rfl ?_
  cases hS
  exact Ze
 refine Zy ?_
 refine Zh (fE rfl rfl) ?_
 refine Zy ?_
 refine VC.keep (ρ':=[(2,.bool false)]) [2] rfl ?_
 cases hS
 exact Ze
theorem aDT (aD:bN) {r:Bool} (hS:Sh.HE aD=some r) :
 Ct Tryz.prog 248 [str aD] Mo.tt (Ow.emp) (X:=Unit) (fun _ => .bool r) (fun _=>True) (fun _=>Mo.tt) (fun _=>Ow.emp):=by
 refine Zo Tryz.func248 Tryz.ntmps248 fun c => ?_
 unfold Sh.HE at hS
 refine Zq (Zr ?_)
 refine Zy ?_
 refine Zq ?_
 refine VC.j0 (S:=Bool) (fun (PM:Bool)=>PM) (fun (PM:Bool)=>[(0,str aD),(14,.bool PM)]) (fun (PM:Bool)=>Mo.tt) (fun (PM:Bool)=>Ow.emp) hS ?_ ?_
 ·
  clear hS
  intro k2 hS
  refine Zr ?_
  refine Zy ?_
  refine jJ 7 hS (fun h7 hS => ?_) (fun h7 hS => ?_)
  ·
   refine VL.runs 7 [(14,some true)] (by kernel_rfl) ?_
   refine VL.mt true [0,14] (fun _ _ h=>h) hS rfl
  refine Zg ?_
  refine Zh (sM rfl rfl) ?_
  refine Zy ?_
  refine jJ 11 hS (fun h11 hS => ?_) (fun h11 hS => ?_)
  ·
   refine VL.runs 3 [(14,some true)] (by kernel_rfl) ?_
   refine VL.mt true [0,14] (fun _ _ h=>h) hS rfl
  refine Zg ?_
  refine Zh (sM rfl rfl) ?_
  refine Zf ?_
  refine VL.mt (decide (aD=[46,46])) [0,14] (fun _ _ h=>h) hS rfl
 clear hS
 rintro PM hS
 refine mT hS (fun h14 hS => ?_) (fun h14 hS => ?_)
 ·
  refine Zq (Zr ?_)
  refine Zy ?_
  cases hS
  exact Ze
 refine Zk ?_
 refine Zq (Zq (Zr ?_))
 refine Zm ?_
 obtain ⟨b16,hS⟩:=bQ hS
 refine VL.s2b Tryz.underlying9 Tryz.underlying22 Tryz.underlying5 rfl b16 (by decide) fun HT UG => ?_
 replace hS:=dL UG hS
 refine Zu (fH (s:=HT) Tryz.underlying22 rfl) ?_
 refine Zy ?_
 refine Zb ?_
 refine VC.iter (S:=Int) (fun (FC:Int)=>FC) (fun (FC:Int)=>[(16,HT.val),(17,i64 (HT.l.length:Int)),(18,i64 FC)]) (fun (FC:Int)=>Mo.tt) (fun (FC:Int)=>Ow.emp) 0 [16,17,18] hS rfl ?_
 clear hS
 rintro FC m1 y1 hS hK1
 refine Zq (Zr ?_)
 refine Zu (dA rfl rfl) ?_
 refine Zl ?_
 refine Zq ?_
 refine Zc hS (fun h19 hS => ?_) (fun h19 hS => ?_)
 ·
  refine Zk ?_
  refine Zq (Zb (Zq (Zr ?_)))
  obtain ⟨aLA,aMJ,aLi,hS⟩:=eW hS
  refine Zu (dH (s:=HT) Tryz.underlying22 aHf rfl rfl aMJ (bC aMJ aLi)) ?_
  refine Zu (qW (s:=HT) aJr rfl aLi rfl) ?_
  refine Zy ?_
  refine Zq (Zr ?_)
  refine Zm ?_
  obtain ⟨DQ,T5,hS⟩:=bF hS
  refine Zu (cZ (aDS (aLA.toNat:Int) T5) rfl (fun _ _=>rfl)) ?_
  refine Zu (oS rfl) ?_
  refine Zl ?_
  refine mT hS (fun h24 hS => ?_) (fun h24 hS => ?_)
  ·
   refine Zq (Zr ?_)
   refine Zy ?_
   refine VC.keep (ρ':=[(2,.bool false)]) [2] rfl ?_
   replace hS:=fF hS hK1
   cases hS
   exact Ze
  refine Zk ?_
  refine Zr ?_
  obtain ⟨b25,hS⟩:=bQ hS
  refine Zu (dZ rfl rfl b25) ?_
  refine Zm ?_
  refine VL.kE (FC+1) [16,17,18] (fun _ _ h=>h) (go2 hS hK1) rfl
 replace hS:=fF hS hK1
 refine Zx ?_
 refine Zq (Zr ?_)
 refine Zy ?_
 cases hS
 exact Ze
theorem OP (bO:bN) {r:Int} (hS:Sh.AQ bO=some r) :
 Ct Tryz.prog 217 [str bO] Mo.tt (Ow.emp) (X:=Unit) (fun _=>i64 r) (fun _=>True) (fun _=>Mo.tt) (fun _=>Ow.emp):=by
 refine Zo Tryz.func217 Tryz.ntmps217 fun c => ?_
 unfold Sh.AQ at hS
 refine Zq (Zr ?_)
 refine Zy ?_
 refine Zq (Zq (Zr ?_))
 refine Zm ?_
 refine Zu (iH Tryz.underlying9 rfl) ?_
 refine Zu (gQ rfl rfl) ?_
 refine Zl ?_
 refine Zc hS (fun h7 hS => ?_) (fun h7 hS => ?_)
 ·
  refine Zq (Zr ?_)
  refine Zy ?_
  cases hS
  exact Ze
 refine Zk ?_
 refine Zq (Zq (Zr ?_))
 refine Zm ?_
 obtain ⟨aVA,aZ9,hS⟩:=bF hS
 refine VL.gI (WK bO [47] aZ9) rfl (by decide) ?_
 rintro VX rfl
 try dsimp only
 refine Zu (fH (s:=VX) Tryz.underlying89 rfl) ?_
 refine Zy ?_
 refine Zb ?_
 refine VC.iter (S:=Int) (fun (lA:Int)=>lA) (fun (lA:Int)=>[(9,VX.val),(10,i64 (VX.l.length:Int)),(11,i64 lA)]) (fun (lA:Int)=>Mo.tt) (fun (lA:Int)=>Ow.emp) 0 [9,10,11] hS rfl ?_
 clear hS
 rintro lA m1 y1 hS hK1
 refine Zq (Zr ?_)
 refine Zu (dA rfl rfl) ?_
 refine Zl ?_
 refine Zq ?_
 refine Zc hS (fun h12 hS => ?_) (fun h12 hS => ?_)
 ·
  refine Zk ?_
  refine Zq (Zb (Zq (Zr ?_)))
  obtain ⟨kL,wX,tG,hS⟩:=eW hS
  refine Zu (dH (s:=VX) Tryz.underlying89 uG rfl rfl wX (bC wX tG)) ?_
  refine Zu (qW (s:=VX) cD rfl tG rfl) ?_
  refine Zy ?_
  refine Zq (Zr ?_)
  refine Zm ?_
  obtain ⟨S6,aVb,hS⟩:=bF hS
  refine Zu (cZ (aDT kL aVb) rfl (fun _ _=>rfl)) ?_
  refine Zu (oS rfl) ?_
  refine Zl ?_
  refine mT hS (fun h17 hS => ?_) (fun h17 hS => ?_)
  ·
   refine Zq (Zr ?_)
   refine Zy ?_
   refine VC.keep (ρ':=[(2,i64 5)]) [2] rfl ?_
   replace hS:=fF hS hK1
   cases hS
   exact Ze
  refine Zk ?_
  refine Zr ?_
  obtain ⟨b18,hS⟩:=bQ hS
  refine Zu (dZ rfl rfl b18) ?_
  refine Zm ?_
  refine VL.kE (lA+1) [9,10,11] (fun _ _ h=>h) (go2 hS hK1) rfl
 replace hS:=fF hS hK1
 refine Zx ?_
 refine Zq (Zr ?_)
 refine Zy ?_
 cases hS
 exact Ze
theorem EF (gV:bN) {r:Bool} (hS:Sh.cmp_isNaN_string gV=some r) :
 Ct Tryz.prog 227 [str gV] Mo.tt (Ow.emp) (X:=Unit) (fun _ => .bool r) (fun _=>True) (fun _=>Mo.tt) (fun _=>Ow.emp):=by
 refine Zo Tryz.func227 Tryz.ntmps227 fun c => ?_
 unfold Sh.cmp_isNaN_string at hS
 refine Zq (Zr ?_)
 refine Zy ?_
 refine Zq (Zr ?_)
 refine Zy ?_
 refine Zu (BX rfl rfl) ?_
 refine Zy ?_
 cases hS
 exact Ze
theorem BC (gV:bN) (pH:bN) {r:Int} (hS:Sh.lH gV pH=some r) :
 Ct Tryz.prog 182 [str gV,str pH] Mo.tt (Ow.emp) (X:=Unit) (fun _=>i64 r) (fun _=>True) (fun _=>Mo.tt) (fun _=>Ow.emp):=by
 refine Zo Tryz.func182 Tryz.ntmps182 fun c => ?_
 unfold Sh.lH at hS
 refine Zq (Zr ?_)
 refine Zy ?_
 refine Zq (Zr ?_)
 refine Zm ?_
 obtain ⟨FN,L9,hS⟩:=bF hS
 refine Zu (cZ (EF gV L9) rfl (fun _ _=>rfl)) ?_
 refine Zy ?_
 refine Zq (Zr ?_)
 refine Zm ?_
 obtain ⟨zJ,TQ,hS⟩:=bF hS
 refine Zu (cZ (EF pH TQ) rfl (fun _ _=>rfl)) ?_
 refine Zy ?_
 refine Zq (Zq (Zr ?_))
 refine Zy ?_
 refine mT hS (fun h11 hS => ?_) (fun h11 hS => ?_)
 ·
  refine Zq (Zq (Zr ?_))
  refine Zy ?_
  refine VC.keep (ρ':=[(12,.bool zJ)]) [12] rfl ?_
  refine mT hS (fun h12 hS => ?_) (fun h12 hS => ?_)
  ·
   refine Zq (Zr ?_)
   refine Zy ?_
   cases hS
   exact Ze
  refine Zk ?_
  refine Zq (Zr ?_)
  refine Zy ?_
  cases hS
  exact Ze
 refine Zk ?_
 refine Zq (Zq (Zr ?_))
 refine Zy ?_
 refine VC.keep (ρ':=[(0,str gV),(1,str pH),(13,.bool zJ)]) [0,1,13] rfl ?_
 refine mT hS (fun h13 hS => ?_) (fun h13 hS => ?_)
 ·
  refine Zq (Zr ?_)
  refine Zy ?_
  cases hS
  exact Ze
 refine Zk ?_
 refine Zq (Zq (Zr ?_))
 refine Zy ?_
 refine Zu (aXp rfl rfl) ?_
 refine Zl ?_
 refine mT hS (fun h16 hS => ?_) (fun h16 hS => ?_)
 ·
  refine Zq (Zr ?_)
  refine Zy ?_
  cases hS
  exact Ze
 refine Zk ?_
 refine Zq (Zq (Zr ?_))
 refine Zy ?_
 refine Zu (aMc rfl rfl) ?_
 refine Zl ?_
 refine mT hS (fun h19 hS => ?_) (fun h19 hS => ?_)
 ·
  refine Zq (Zr ?_)
  refine Zy ?_
  cases hS
  exact Ze
 refine Zk ?_
 refine Zq (Zr ?_)
 refine Zy ?_
 cases hS
 exact Ze
theorem KT (bM:bN) (b_1:bN) {r:Int} (hS:Sh.qE bM b_1=some r) :
 Ct Tryz.prog 218 [str bM,str b_1] Mo.tt (Ow.emp) (X:=Unit) (fun _=>i64 r) (fun _=>True) (fun _=>Mo.tt) (fun _=>Ow.emp):=by
 refine Zo Tryz.func218 Tryz.ntmps218 fun c => ?_
 unfold Sh.qE at hS
 refine Zq (Zr ?_)
 refine Zy ?_
 refine Zq (Zr ?_)
 refine Zy ?_
 obtain ⟨lT,oH,hS⟩:=bF hS
 refine Zu (cZ (BC bM b_1 oH) rfl (fun _ _=>rfl)) ?_
 refine Zy ?_
 cases hS
 exact Ze
theorem AD (aD:bN) (p8:bN) {r:Bool} (hS:Sh.mQ aD p8=some r) :
 Ct Tryz.prog 294 [str aD,str p8] Mo.tt (Ow.emp) (X:=Unit) (fun _ => .bool r) (fun _=>True) (fun _=>Mo.tt) (fun _=>Ow.emp):=by
 refine Zo Tryz.func294 Tryz.ntmps294 fun c => ?_
 unfold Sh.mQ at hS
 refine Zq (Zr ?_)
 refine Zy ?_
 refine Zq (Zr ?_)
 refine Zm ?_
 refine Zu (iH Tryz.underlying9 rfl) ?_
 refine Zm ?_
 refine Zu (iH Tryz.underlying9 rfl) ?_
 refine Zu (rQ rfl rfl) ?_
 refine Zm ?_
 refine jJ 10 hS (fun h10 hS => ?_) (fun h10 hS => ?_)
 ·
  refine Zy ?_
  refine Zh (iH Tryz.underlying9 rfl) ?_
  obtain ⟨b14,hS⟩:=bQ hS
  obtain ⟨M5,TT,hS⟩:=gY hS
  refine Zh (ZZ Tryz.underlying9 rfl rfl b14.1 b14.2 TT) ?_
  refine Zg ?_
  refine Zh (sM rfl rfl) ?_
  refine Zy ?_
  refine VC.keep (ρ':=[(4,.bool (decide (M5=p8)))]) [4] rfl ?_
  cases hS
  exact Ze
 refine VL.runs 8 [(4,some false)] (by kernel_rfl) ?_
 refine Zl ?_
 cases hS
 exact Ze
theorem NV (aD:bN) (p8:bN) {r:Bool} (hS:Sh.vV aD p8=some r) :
 Ct Tryz.prog 276 [str aD,str p8] Mo.tt (Ow.emp) (X:=Unit) (fun _ => .bool r) (fun _=>True) (fun _=>Mo.tt) (fun _=>Ow.emp):=by
 refine Zo Tryz.func276 Tryz.ntmps276 fun c => ?_
 unfold Sh.vV at hS
 refine Zq (Zr ?_)
 refine Zy ?_
 refine Zq (Zr ?_)
 refine Zy ?_
 obtain ⟨lT,oH,hS⟩:=bF hS
 refine Zu (cZ (AD aD p8 oH) rfl (fun _ _=>rfl)) ?_
 refine Zy ?_
 cases hS
 exact Ze
theorem OR (bO:bN) (uT:bN) {r:Bool} (hS:Sh.AS bO uT=some r) :
 Ct Tryz.prog 250 [str bO,str uT] Mo.tt (Ow.emp) (X:=Unit) (fun _ => .bool r) (fun _=>True) (fun _=>Mo.tt) (fun _=>Ow.emp):=by
 refine Zo Tryz.func250 Tryz.ntmps250 fun c => ?_
 unfold Sh.AS at hS
 refine Zq (Zr ?_)
 refine Zy ?_
 refine Zq (Zq (Zr ?_))
 refine Zy ?_
 refine Zc hS (fun h6 hS => ?_) (fun h6 hS => ?_)
 ·
  refine Zq (Zr ?_)
  refine Zm ?_
  refine Zu (BX rfl rfl) ?_
  refine Zy ?_
  cases hS
  exact Ze
 refine Zk ?_
 refine Zq (Zr ?_)
 refine Zm ?_
 refine Zu (iH Tryz.underlying9 rfl) ?_
 refine Zm ?_
 refine Zu (iH Tryz.underlying9 rfl) ?_
 obtain ⟨b13,hS⟩:=bQ hS
 refine Zu (dZ rfl rfl b13) ?_
 refine Zu (gQ rfl rfl) ?_
 refine Zm ?_
 refine jJ 15 hS (fun h15 hS => ?_) (fun h15 hS => ?_)
 ·
  refine Zy ?_
  obtain ⟨b18,hS⟩:=bQ hS
  obtain ⟨YV,aEj,hS⟩:=gY hS
  refine Zh (fC rfl rfl b18 aEj) ?_
  obtain ⟨aKe,aVk,hS⟩:=bF hS
  refine Zh (cZ (NV bO YV aVk) rfl (fun _ _=>rfl)) ?_
  refine Zy ?_
  refine VC.keep (ρ':=[(4,.bool aKe)]) [4] rfl ?_
  cases hS
  exact Ze
 refine VL.runs 6 [(4,some false)] (by kernel_rfl) ?_
 refine Zl ?_
 refine VC.keep (ρ':=[(4,.bool false)]) [4] rfl ?_
 cases hS
 exact Ze
theorem OQ (bM:bN) (b_1:bN) {r:Bool} (hS:Sh.AR bM b_1=some r) :
 Ct Tryz.prog 221 [str bM,str b_1] Mo.tt (Ow.emp) (X:=Unit) (fun _ => .bool r) (fun _=>True) (fun _=>Mo.tt) (fun _=>Ow.emp):=by
 refine Zo Tryz.func221 Tryz.ntmps221 fun c => ?_
 unfold Sh.AR at hS
 refine Zq (Zr ?_)
 refine Zy ?_
 refine Zq (Zr ?_)
 refine Zm ?_
 refine Zu (BX rfl rfl) ?_
 refine Zm ?_
 refine II 7 hS (fun h7 hS => ?_) (fun h7 hS => ?_)
 ·
  refine Zg ?_
  refine Zh (BX rfl rfl) ?_
  refine Zy ?_
  refine II 11 hS (fun h11 hS => ?_) (fun h11 hS => ?_)
  ·
   refine Zy ?_
   obtain ⟨M5,TT,hS⟩:=bF hS
   refine Zh (cZ (OR bM b_1 TT) rfl (fun _ _=>rfl)) ?_
   refine Zg ?_
   refine rC 15 hS (fun h15 hS => ?_) (fun h15 hS => ?_)
   ·
    refine VL.runs 3 [(18,none)] (by kernel_rfl) ?_
    refine Zh (fB rfl rfl) ?_
    refine Zy ?_
    refine VC.keep (ρ':=[(4,.bool true)]) [4] rfl ?_
    cases hS
    exact Ze
   refine Zy ?_
   obtain ⟨H9,TX,hS⟩:=bF hS
   refine Zh (cZ (OR b_1 bM TX) rfl (fun _ _=>rfl)) ?_
   refine Zh (fE rfl rfl) ?_
   refine Zy ?_
   refine VC.keep (ρ':=[(4,.bool H9)]) [4] rfl ?_
   cases hS
   exact Ze
  refine VL.runs 10 [(4,some false)] (by kernel_rfl) ?_
  refine Zl ?_
  cases hS
  exact Ze
 refine VL.runs 14 [(4,some false)] (by kernel_rfl) ?_
 refine Zl ?_
 cases hS
 exact Ze
theorem NQ (oL:aZ) (j7:Nat) (a_1:aZ) {r:Bool} (hS:Sh.sC oL a_1=some r) :
 Ct Tryz.prog 220 [.agg #[str oL.path,i64 oL.mode,str oL.data],ptr j7 0] (Cells j7 0 [str a_1.path,i64 a_1.mode,str a_1.data]) (Ow.emp) (X:=Unit) (fun _ => .bool r) (fun _=>True) (fun _=>Mo.tt) (fun _=>Ow.emp):=by
 refine Zo Tryz.func220 Tryz.ntmps220 fun c => ?_
 unfold Sh.sC at hS
 refine Zq (Zr ?_)
 refine VL.box (cs:=[str oL.path,i64 oL.mode,str oL.data]) rfl rfl (by decide) fun nA => ?_
 refine Zy ?_
 refine Zq (Zr ?_)
 refine Zu (aB uV rfl) ?_
 refine Zu (aI cD rfl rfl) ?_
 refine Zu (aB uV rfl) ?_
 refine Zu (FL cD rfl rfl) ?_
 obtain ⟨oF,CZ,hS⟩:=bF hS
 refine Zu (cZ (OQ oL.path a_1.path CZ) rfl (fun _ _=>rfl)) ?_
 refine Zy ?_
 cases hS
 exact Ze
theorem wJ (aD:Sv aZ) (fT:Nat) (fO:aZ) {r:Int} (hS:Sh.kZ aD.l fO=some r) :
 Ct Tryz.prog 249 [aD.val,.func (.func 220) #[] #[ptr fT 0]] (aD.ok.and (Cells fT 0 [str fO.path,i64 fO.mode,str fO.data])) (Ow.emp) (X:=Unit) (fun _=>i64 r) (fun _=>True) (fun _=>Mo.tt) (fun _=>Ow.emp):=by
 refine Zo Tryz.func249 Tryz.ntmps249 fun c => ?_
 unfold Sh.kZ at hS
 refine Zq (Zr ?_)
 refine Zy ?_
 refine Zq (Zq (Zr ?_))
 refine Zm ?_
 refine Zu (fH (s:=aD) Tryz.underlying50 rfl) ?_
 refine Zy ?_
 refine Zb ?_
 refine VC.iter (S:=Int) (fun (fJ:Int)=>fJ) (fun (fJ:Int)=>[(0,aD.val),(1,.func (.func 220) #[] #[ptr fT 0]),(7,i64 (aD.l.length:Int)),(8,i64 fJ)]) (fun (fJ:Int)=>Mo.tt) (fun (fJ:Int)=>Ow.emp) 0 [0,1,7,8] hS rfl ?_
 clear hS
 rintro fJ m1 y1 hS hK1
 refine Zq (Zr ?_)
 refine Zu (dA rfl rfl) ?_
 refine Zl ?_
 refine Zq ?_
 refine Zc hS (fun h9 hS => ?_) (fun h9 hS => ?_)
 ·
  refine Zk ?_
  refine Zq (Zb (Zq (Zr ?_)))
  refine Zy ?_
  refine Zq (Zr ?_)
  refine Zy ?_
  obtain ⟨lF,tH,sX,hS⟩:=eW hS
  refine Zu (dH (s:=aD) Tryz.underlying50 rN rfl rfl tH (bC tH sX)) ?_
  refine Zu (jL (s:=aD) G2 rfl rfl sX) ?_
  obtain ⟨uC,FU,hS⟩:=bF hS
  refine Zu (K4 (vs:=[.agg #[str lF.path,i64 lF.mode,str lF.data]]) (caps:=[ptr fT 0]) (NQ lF fT fO FU) rfl rfl (fun _ _=>rfl)) ?_
  refine Zl ?_
  refine VC.keep (ρ':=[(0,aD.val),(1,.func (.func 220) #[] #[ptr fT 0]),(7,i64 (aD.l.length:Int)),(8,i64 fJ),(5,i64 fJ),(16,.bool uC)]) [0,1,7,8,5,16] rfl ?_
  refine mT hS (fun h16 hS => ?_) (fun h16 hS => ?_)
  ·
   refine Zq (Zr ?_)
   refine Zy ?_
   replace hS:=fF hS hK1
   cases hS
   exact Ze
  refine Zk ?_
  refine Zr ?_
  obtain ⟨b18,hS⟩:=bQ hS
  refine Zu (dZ rfl rfl b18) ?_
  refine Zm ?_
  refine VL.kE (fJ+1) [0,1,7,8] (fun _ _ h=>h) (go2 hS hK1) rfl
 replace hS:=fF hS hK1
 refine Zx ?_
 refine Zq (Zr ?_)
 refine Zy ?_
 cases hS
 exact Ze
theorem vA (aD:Sv aZ) (fT:Nat) (fO:aZ) {r:Bool} (hS:Sh.iS aD.l fO=some r) :
 Ct Tryz.prog 219 [aD.val,.func (.func 220) #[] #[ptr fT 0]] (aD.ok.and (Cells fT 0 [str fO.path,i64 fO.mode,str fO.data])) (Ow.emp) (X:=Unit) (fun _ => .bool r) (fun _=>True) (fun _=>Mo.tt) (fun _=>Ow.emp):=by
 refine Zo Tryz.func219 Tryz.ntmps219 fun c => ?_
 unfold Sh.iS at hS
 refine Zq (Zr ?_)
 refine Zy ?_
 refine Zq (Zr ?_)
 refine Zy ?_
 obtain ⟨lT,oH,hS⟩:=bF hS
 refine Zu (sK (wJ aD fT fO oH) rfl (fun _ _=>rfl)) ?_
 refine Zu (rQ rfl rfl) ?_
 refine Zy ?_
 cases hS
 exact Ze
theorem RI (eL:Sv aZ) (i_1:Int) {r:Int} (hS:Sh.uU eL.l i_1=some r) :
 Ct Tryz.prog 179 [eL.val,i64 i_1] eL.ok (Ow.emp) (X:=Unit) (fun _=>i64 r) (fun _=>True) (fun _=>Mo.tt) (fun _=>Ow.emp):=by
 refine Zo Tryz.func179 Tryz.ntmps179 fun c => ?_
 unfold Sh.uU at hS
 refine Zq (Zr ?_)
 refine Zy ?_
 refine Zq (Zr ?_)
 refine Zy ?_
 obtain ⟨iX,aBX,aBP,hS⟩:=eW hS
 refine Zu (dH (s:=eL) Tryz.underlying50 rN rfl rfl aBX (bC aBX aBP)) ?_
 refine Zu (jL (s:=eL) G2 rfl rfl aBP) ?_
 refine VL.alloc (cs:=[str [],i64 0,str []]) (by kernel_rfl) (by decide) fun rW => ?_
 refine Zv (vc:=[str iX.path,i64 iX.mode,str iX.data]) (cs':=[str iX.path,i64 iX.mode,str iX.data]) rfl rN ?_
 refine Zl ?_
 refine Zq (Zq (Zr ?_))
 refine Zu (aB uV rfl) ?_
 refine Zu (aI cD rfl rfl) ?_
 obtain ⟨jQ,IL,hS⟩:=bF hS
 refine Zu (cZ (OP iX.path IL) rfl (fun _ _=>rfl)) ?_
 refine Zy ?_
 refine VC.keep (ρ':=[(0,eL.val),(1,i64 i_1),(5,ptr rW 0),(6,i64 jQ)]) [0,1,5,6] rfl ?_
 refine Zq (Zr ?_)
 refine Zm ?_
 refine Zu (mC rfl rfl) ?_
 refine Zl ?_
 refine uH hS (fun h15 hS => ?_) (fun h15 hS => ?_)
 ·
  refine Zq (Zr ?_)
  refine Zy ?_
  cases hS
  exact Ze
 refine Zk ?_
 refine Zq (Zb ?_)
 refine VC.j0 (S:=Bool) (fun (n7:Bool)=>n7) (fun (n7:Bool)=>[(0,eL.val),(1,i64 i_1),(5,ptr rW 0),(17,.bool n7)]) (fun (n7:Bool)=>Mo.tt) (fun (n7:Bool)=>Ow.star (bT rW [str iX.path,i64 iX.mode,str iX.data] 185) (Ow.emp)) hS ?_ ?_
 ·
  clear hS
  intro k5 hS
  refine Zr ?_
  refine Zu (aB KD rfl) ?_
  refine Zu (aI cN rfl rfl) ?_
  refine Zu (mC rfl rfl) ?_
  refine Zm ?_
  refine II 21 hS (fun h21 hS => ?_) (fun h21 hS => ?_)
  ·
   refine Zh (aB KD rfl) ?_
   refine Zh (aI cN rfl rfl) ?_
   refine Zh (mC rfl rfl) ?_
   refine Zy ?_
   refine VL.mt (!decide (iX.mode=2)) [0,1,5,17] (fun _ _ h=>h) hS rfl
  refine VL.runs 5 [(17,some false)] (by kernel_rfl) ?_
  refine VL.mt false [0,1,5,17] (fun _ _ h=>h) hS rfl
 clear hS
 rintro n7 hS
 refine mT hS (fun h17 hS => ?_) (fun h17 hS => ?_)
 ·
  refine Zq (Zr ?_)
  refine Zy ?_
  cases hS
  exact Ze
 refine Zq (Zr ?_)
 refine Zu (aB GL rfl) ?_
 refine Zu (aI cD rfl rfl) ?_
 refine Zu (iH Tryz.underlying9 rfl) ?_
 refine Zu (gQ rfl rfl) ?_
 refine Zy ?_
 refine Zc hS (fun h26 hS => ?_) (fun h26 hS => ?_)
 ·
  refine Zq (Zr ?_)
  refine Zy ?_
  cases hS
  exact Ze
 refine VC.j0 (S:=Bool) (fun (PW:Bool)=>PW) (fun (PW:Bool)=>[(0,eL.val),(1,i64 i_1),(5,ptr rW 0),(31,.bool PW)]) (fun (PW:Bool)=>Mo.tt) (fun (PW:Bool)=>Ow.star (bT rW [str iX.path,i64 iX.mode,str iX.data] 185) (Ow.emp)) hS ?_ ?_
 ·
  clear hS
  intro k7 hS
  refine VC.draw ((List.range 15).map fun k=>(k,true)) mixed (by kernel_rfl) (by kernel_rfl) (by kernel_rfl) ?_
  refine Zw rfl (bI rfl) ?_
  refine Zw rfl (gQ rfl rfl) ?_
  refine Zw rfl (bI rfl) ?_
  refine VD.mY 34 rfl (fun h34 => ?_) (fun h34 => ?_)
  ·
   replace hS:=wW h34 hS
   refine Zi rfl (bI rfl) ?_
   refine Zi rfl (bI rfl) ?_
   obtain ⟨b37,hS⟩:=bQ hS
   refine Zi rfl (tW rfl rfl b37) ?_
   obtain ⟨QD,VK,QU,hS⟩:=eW hS
   refine Zi rfl (dH (s:=eL) Tryz.underlying50 rN rfl rfl VK (bC VK QU)) ?_
   refine Zi rfl (aB uV rfl) ?_
   refine Zi rfl (jK (s:=eL) cD rfl QU rfl) ?_
   refine Zi rfl (aB uV rfl) ?_
   refine Zi rfl (aI cD rfl rfl) ?_
   obtain ⟨aKt,aWZ,hS⟩:=bF hS
   refine Zi rfl (cZ (KT QD.path iX.path aWZ) rfl (fun _ _=>rfl)) ?_
   refine Zi rfl (rQ rfl rfl) ?_
   refine Zw rfl (fB rfl rfl) ?_
   refine Zw rfl (iG rfl) ?_
   refine VD.mt (decide (0≤aKt)) [0,1,5,31] (fun _ _ h=>h) hS rfl
  replace hS:=BK h34 hS
  refine Zd ?_
  refine Zd ?_
  refine Zd ?_
  refine Zd ?_
  refine Zd ?_
  refine Zd ?_
  refine Zd ?_
  refine Zd ?_
  refine Zd ?_
  refine Zd ?_
  refine Zw rfl (fE rfl rfl) ?_
  refine Zw rfl (iG rfl) ?_
  refine VD.mt false [0,1,5,31] (fun _ _ h=>h) hS rfl
 clear hS
 rintro PW hS
 refine mT hS (fun h31 hS => ?_) (fun h31 hS => ?_)
 ·
  refine Zq (Zr ?_)
  refine Zy ?_
  cases hS
  exact Ze
 refine Zq (Zr ?_)
 refine Zy ?_
 obtain ⟨b49,hS⟩:=bQ hS
 refine VL.sto Tryz.underlying50 rN rfl rfl b49.1 (b49.2) (by decide) fun aYB aSY => ?_
 replace hS:=dL aSY hS
 refine Zu (tK rfl) ?_
 obtain ⟨aNH,aQq,hS⟩:=bF hS
 refine Zu (sK (vA aYB rW iX aQq) rfl (fun _ _=>rfl)) ?_
 refine Zy ?_
 refine mT hS (fun h46 hS => ?_) (fun h46 hS => ?_)
 ·
  refine Zq (Zr ?_)
  refine Zy ?_
  refine VC.keep (ρ':=[(4,i64 11)]) [4] rfl ?_
  cases hS
  exact Ze
 refine Zk ?_
 refine Zq (Zr ?_)
 refine Zy ?_
 refine VC.keep (ρ':=[(4,i64 0)]) [4] rfl ?_
 cases hS
 exact Ze
theorem uJ (eL:Sv aZ) {r:jR} (hS:Sh.jB eL.l=some r) :
 Ct Tryz.prog 97 [eL.val] eL.ok (Ow.emp) (X:=Er) (fun x=>x.val) (fun x=>r=x.pl) (fun x=>x.ok) (fun x=>Ow.emp):=by
 refine Zo Tryz.func97 Tryz.ntmps97 fun c => ?_
 unfold Sh.jB at hS
 refine Zq (Zr ?_)
 refine Zy ?_
 refine Zq (Zq (Zr ?_))
 refine Zm ?_
 refine Zu (fH (s:=eL) Tryz.underlying50 rfl) ?_
 refine Zu (gQ rfl rfl) ?_
 refine Zl ?_
 refine Zc hS (fun h7 hS => ?_) (fun h7 hS => ?_)
 ·
  refine Zq (Zr ?_)
  refine Zu (o3 Tryz.underlying131 (fun _ h=>by cases h) rfl) ?_
  refine Zu (eO (vs:=[(0,str [102,105,108,101]),(1,i64 64),(2,(Er.no 4).val)]) (cs := #[str [102,105,108,101],i64 64,(Er.no 4).val]) rfl (by kernel_rfl)) ?_
  refine VL.box (cs:=[str [102,105,108,101],i64 64,(Er.no 4).val]) rfl rfl (by decide) fun aAM => ?_
  refine VL.YF aAM ?_
  refine Zu (o3 Tryz.underlying190 (fun _ h=>by cases h) rfl) ?_
  refine Zy ?_
  cases hS
  exact VC.ret (iU (.inr rfl) rfl rfl (Er.fault aAM [102,105,108,101] 64 (Er.no 4)) rfl rfl (by (try dsimp only); exact dQ.out) (fun _ _=>trivial))
 refine Zk ?_
 refine Zq (Zq (Zr ?_))
 refine Zm ?_
 refine Zu (fH (s:=eL) Tryz.underlying50 rfl) ?_
 refine Zy ?_
 refine Zb ?_
 refine VC.iter (S:=Int) (fun (lO:Int)=>lO) (fun (lO:Int)=>[(0,eL.val),(13,i64 (eL.l.length:Int)),(14,i64 lO)]) (fun (lO:Int)=>Mo.tt) (fun (lO:Int)=>Ow.emp) 0 [0,13,14] hS rfl ?_
 clear hS
 rintro lO m1 y1 hS hK1
 refine Zq (Zr ?_)
 refine Zu (dA rfl rfl) ?_
 refine Zl ?_
 refine Zq ?_
 refine Zc hS (fun h15 hS => ?_) (fun h15 hS => ?_)
 ·
  refine Zk ?_
  refine Zq (Zb (Zq (Zr ?_)))
  refine Zy ?_
  refine Zq (Zr ?_)
  refine Zy ?_
  obtain ⟨s7,TY,hS⟩:=bF hS
  refine Zu (cZ (RI eL lO TY) rfl (fun _ _=>rfl)) ?_
  refine Zy ?_
  refine Zq (Zr ?_)
  refine Zm ?_
  refine Zu (mC rfl rfl) ?_
  refine Zl ?_
  refine uH hS (fun h21 hS => ?_) (fun h21 hS => ?_)
  ·
   refine Zq (Zr ?_)
   refine Zy ?_
   refine Zu (o3 Tryz.underlying131 (fun _ h=>by cases h) rfl) ?_
   refine Zu (eO (vs:=[(0,str [102,105,108,101]),(1,i64 lO),(2,(Er.no s7).val)]) (cs := #[str [102,105,108,101],i64 lO,(Er.no s7).val]) rfl (by kernel_rfl)) ?_
   refine VL.box (cs:=[str [102,105,108,101],i64 lO,(Er.no s7).val]) rfl rfl (by decide) fun R1 => ?_
   refine VL.YF R1 ?_
   refine Zu (o3 Tryz.underlying190 (fun _ h=>by cases h) rfl) ?_
   refine Zy ?_
   refine VC.keep (ρ':=[(2,(Er.fault R1 [102,105,108,101] lO (Er.no s7)).val)]) [2] rfl ?_
   replace hS:=fF hS hK1
   cases hS
   exact VC.ret (iU (.inr rfl) rfl rfl (Er.fault R1 [102,105,108,101] lO (Er.no s7)) rfl rfl (by (try dsimp only); exact dQ.out) (fun _ _=>trivial))
  refine Zk ?_
  refine VC.keep (ρ':=[(0,eL.val),(13,i64 (eL.l.length:Int)),(14,i64 lO)]) [0,13,14] rfl ?_
  refine Zr ?_
  obtain ⟨b28,hS⟩:=bQ hS
  refine Zu (dZ rfl rfl b28) ?_
  refine Zm ?_
  refine VL.kE (lO+1) [0,13,14] (fun _ _ h=>h) (go2 hS hK1) rfl
 replace hS:=fF hS hK1
 refine Zx ?_
 refine Zq (Zr ?_)
 refine Zy ?_
 cases hS
 exact VC.ret (iU (.inr rfl) rfl rfl .nil rfl rfl (by (try dsimp only); exact dQ.out) (fun _ _=>trivial))
theorem IK (gV:Int) {r:Bool} (hS:Sh.cmp_isNaN_int gV=some r) :
 Ct Tryz.prog 277 [i64 gV] Mo.tt (Ow.emp) (X:=Unit) (fun _ => .bool r) (fun _=>True) (fun _=>Mo.tt) (fun _=>Ow.emp):=by
 refine Zo Tryz.func277 Tryz.ntmps277 fun c => ?_
 unfold Sh.cmp_isNaN_int at hS
 refine Zq (Zr ?_)
 refine Zy ?_
 refine Zq (Zr ?_)
 refine Zy ?_
 refine Zu (mC rfl rfl) ?_
 refine Zy ?_
 cases hS
 exact Ze
theorem RH (gV:Int) (pH:Int) {r:Int} (hS:Sh.uQ gV pH=some r) :
 Ct Tryz.prog 252 [i64 gV,i64 pH] Mo.tt (Ow.emp) (X:=Unit) (fun _=>i64 r) (fun _=>True) (fun _=>Mo.tt) (fun _=>Ow.emp):=by
 refine Zo Tryz.func252 Tryz.ntmps252 fun c => ?_
 unfold Sh.uQ at hS
 refine Zq (Zr ?_)
 refine Zy ?_
 refine Zq (Zr ?_)
 refine Zm ?_
 obtain ⟨FN,L9,hS⟩:=bF hS
 refine Zu (cZ (IK gV L9) rfl (fun _ _=>rfl)) ?_
 refine Zy ?_
 refine Zq (Zr ?_)
 refine Zm ?_
 obtain ⟨zJ,TQ,hS⟩:=bF hS
 refine Zu (cZ (IK pH TQ) rfl (fun _ _=>rfl)) ?_
 refine Zy ?_
 refine Zq (Zq (Zr ?_))
 refine Zy ?_
 refine mT hS (fun h11 hS => ?_) (fun h11 hS => ?_)
 ·
  refine Zq (Zq (Zr ?_))
  refine Zy ?_
  refine VC.keep (ρ':=[(12,.bool zJ)]) [12] rfl ?_
  refine mT hS (fun h12 hS => ?_) (fun h12 hS => ?_)
  ·
   refine Zq (Zr ?_)
   refine Zy ?_
   cases hS
   exact Ze
  refine Zk ?_
  refine Zq (Zr ?_)
  refine Zy ?_
  cases hS
  exact Ze
 refine Zk ?_
 refine Zq (Zq (Zr ?_))
 refine Zy ?_
 refine VC.keep (ρ':=[(0,i64 gV),(1,i64 pH),(13,.bool zJ)]) [0,1,13] rfl ?_
 refine mT hS (fun h13 hS => ?_) (fun h13 hS => ?_)
 ·
  refine Zq (Zr ?_)
  refine Zy ?_
  cases hS
  exact Ze
 refine Zk ?_
 refine Zq (Zq (Zr ?_))
 refine Zy ?_
 refine Zu (dA rfl rfl) ?_
 refine Zl ?_
 refine Zc hS (fun h16 hS => ?_) (fun h16 hS => ?_)
 ·
  refine Zq (Zr ?_)
  refine Zy ?_
  cases hS
  exact Ze
 refine Zk ?_
 refine Zq (Zq (Zr ?_))
 refine Zy ?_
 refine Zu (gQ rfl rfl) ?_
 refine Zl ?_
 refine Zc hS (fun h19 hS => ?_) (fun h19 hS => ?_)
 ·
  refine Zq (Zr ?_)
  refine Zy ?_
  cases hS
  exact Ze
 refine Zk ?_
 refine Zq (Zr ?_)
 refine Zy ?_
 cases hS
 exact Ze
theorem aAV (y5:Sv Int) {r:Int} (hS:Sh.EE y5.l=some r) :
 Ct Tryz.prog 251 [y5.val] y5.ok (Ow.emp) (X:=Unit) (fun _=>i64 r) (fun _=>True) (fun _=>Mo.tt) (fun _=>Ow.emp):=by
 refine Zo Tryz.func251 Tryz.ntmps251 fun c => ?_
 unfold Sh.EE at hS
 refine Zq (Zr ?_)
 refine Zy ?_
 refine Zq (Zr ?_)
 refine Zy ?_
 refine Zq (Zq (Zr ?_))
 refine Zm ?_
 refine Zu (fH (s:=y5) Tryz.underlying32 rfl) ?_
 refine Zy ?_
 refine Zb ?_
 refine VC.iter (S:=Int) (fun (fJ:Int)=>fJ) (fun (fJ:Int)=>[(3,i64 0),(6,y5.val),(7,i64 (y5.l.length:Int)),(8,i64 fJ)]) (fun (fJ:Int)=>Mo.tt) (fun (fJ:Int)=>Ow.emp) 0 [3,6,7,8] hS rfl ?_
 clear hS
 rintro fJ m1 y1 hS hK1
 refine Zq (Zr ?_)
 refine Zu (dA rfl rfl) ?_
 refine Zl ?_
 refine Zq ?_
 refine Zc hS (fun h9 hS => ?_) (fun h9 hS => ?_)
 ·
  refine Zk ?_
  refine Zq (Zb (Zq (Zr ?_)))
  obtain ⟨aGh,aLy,aL9,hS⟩:=eW hS
  refine Zu (dH (s:=y5) Tryz.underlying32 FI rfl rfl aLy (bC aLy aL9)) ?_
  refine Zu (qW (s:=y5) cN rfl aL9 rfl) ?_
  refine Zy ?_
  refine Zq (Zr ?_)
  refine Zy ?_
  refine Zu (mC rfl rfl) ?_
  refine Zl ?_
  refine uH hS (fun h14 hS => ?_) (fun h14 hS => ?_)
  ·
   refine Zq (Zr ?_)
   refine Zy ?_
   refine VC.keep (ρ':=[(2,i64 aGh)]) [2] rfl ?_
   replace hS:=fF hS hK1
   cases hS
   exact Ze
  refine Zk ?_
  refine VC.keep (ρ':=[(3,i64 0),(6,y5.val),(7,i64 (y5.l.length:Int)),(8,i64 fJ)]) [3,6,7,8] rfl ?_
  refine Zr ?_
  obtain ⟨b16,hS⟩:=bQ hS
  refine Zu (dZ rfl rfl b16) ?_
  refine Zm ?_
  refine VL.kE (fJ+1) [3,6,7,8] (fun _ _ h=>h) (go2 hS hK1) rfl
 replace hS:=fF hS hK1
 refine Zx ?_
 refine Zq (Zr ?_)
 refine Zy ?_
 cases hS
 exact Ze
theorem UR (bM:aQ) (b_1:aQ) {r:Int} (hS:Sh.xL bM b_1=some r) :
 Ct Tryz.prog 222 [.agg #[str bM.path,i64 bM.dJ,i64 bM.mode,str bM.data,i64 bM.time,i64 bM.size],.agg #[str b_1.path,i64 b_1.dJ,i64 b_1.mode,str b_1.data,i64 b_1.time,i64 b_1.size]] Mo.tt (Ow.emp) (X:=Unit) (fun _=>i64 r) (fun _=>True) (fun _=>Mo.tt) (fun _=>Ow.emp):=by
 refine Zo Tryz.func222 Tryz.ntmps222 fun c => ?_
 unfold Sh.xL at hS
 refine Zq (Zr ?_)
 refine VL.box (cs:=[str bM.path,i64 bM.dJ,i64 bM.mode,str bM.data,i64 bM.time,i64 bM.size]) rfl rfl (by decide) fun nA => ?_
 refine VL.box (cs:=[str b_1.path,i64 b_1.dJ,i64 b_1.mode,str b_1.data,i64 b_1.time,i64 b_1.size]) rfl rfl (by decide) fun eZ => ?_
 refine Zy ?_
 refine Zq ?_
 refine VC.draw [(0,true),(1,true),(2,true),(3,true),(4,true),(5,true),(6,true),(7,true),(8,true),(9,true),(10,false),(11,true),(12,true)] mixed (by kernel_rfl) (by kernel_rfl) (by kernel_rfl) ?_
 refine Zw rfl (aB pE rfl) ?_
 refine Zw rfl (aI cD rfl rfl) ?_
 refine Zw rfl (aB pE rfl) ?_
 refine Zw rfl (aI cD rfl rfl) ?_
 obtain ⟨yI,MA,hS⟩:=bF hS
 refine Zw rfl (cZ (KT bM.path b_1.path MA) rfl (fun _ _=>rfl)) ?_
 refine Zw rfl (aB uW rfl) ?_
 refine Zw rfl (aI cN rfl rfl) ?_
 refine Zw rfl (aB uW rfl) ?_
 refine Zw rfl (aI cN rfl rfl) ?_
 obtain ⟨aFz,aV6,hS⟩:=bF hS
 refine Zw rfl (cZ (RH bM.dJ b_1.dJ aV6) rfl (fun _ _=>rfl)) ?_
 refine VD.one rfl ?_
 refine VL.lit (α:=Int) (xs:=[.tmp 9,.tmp 14]) (vs:=[i64 yI,i64 aFz]) [yI,aFz] Tryz.underlying32 vO (by decide) rfl rfl rfl rfl (by decide) (fun _ _ _ _=>trivial) (by decide) (fun a03 aWn => ?_) (by decide)
 replace hS:=dL aWn hS
 refine VL.back (D':=[]) (by kernel_rfl) (aF.nil) ?_
 obtain ⟨aKb,aVc,hS⟩:=bF hS
 refine Zw rfl (cZ (aAV a03 aVc) rfl (fun _ _=>rfl)) ?_
 refine Zw rfl (iG rfl) ?_
 refine VD.to (fun _ _ h=>h) ?_
 refine VC.keep (ρ':=[(4,i64 aKb)]) [4] rfl ?_
 cases hS
 exact Ze
theorem XU (bM:aQ) (b_1:aQ) {r:Bool} (hS:Sh.DZ bM b_1=some r) :
 Ct Tryz.prog 225 [.agg #[str bM.path,i64 bM.dJ,i64 bM.mode,str bM.data,i64 bM.time,i64 bM.size],.agg #[str b_1.path,i64 b_1.dJ,i64 b_1.mode,str b_1.data,i64 b_1.time,i64 b_1.size]] Mo.tt (Ow.emp) (X:=Unit) (fun _ => .bool r) (fun _=>True) (fun _=>Mo.tt) (fun _=>Ow.emp):=by
 refine Zo Tryz.func225 Tryz.ntmps225 fun c => ?_
 unfold Sh.DZ at hS
 refine Zq (Zr ?_)
 refine VL.box (cs:=[str bM.path,i64 bM.dJ,i64 bM.mode,str bM.data,i64 bM.time,i64 bM.size]) rfl rfl (by decide) fun nA => ?_
 refine VL.box (cs:=[str b_1.path,i64 b_1.dJ,i64 b_1.mode,str b_1.data,i64 b_1.time,i64 b_1.size]) rfl rfl (by decide) fun eZ => ?_
 refine Zy ?_
 refine Zq (Zr ?_)
 refine Zu (aB pE rfl) ?_
 refine Zu (aI cD rfl rfl) ?_
 refine Zu (aB pE rfl) ?_
 refine Zu (aI cD rfl rfl) ?_
 refine Zy ?_
 refine jJ 10 hS (fun h10 hS => ?_) (fun h10 hS => ?_)
 ·
  refine Zh (aB uW rfl) ?_
  refine Zh (aI cN rfl rfl) ?_
  refine Zh (gJ rfl rfl) ?_
  refine Zg ?_
  refine jJ 14 hS (fun h14 hS => ?_) (fun h14 hS => ?_)
  ·
   refine VL.runs 3 [(17,none)] (by kernel_rfl) ?_
   refine Zh (fB rfl rfl) ?_
   refine Zy ?_
   refine VC.keep (ρ':=[(4,.bool true)]) [4] rfl ?_
   cases hS
   exact Ze
  refine Zh (aB uW rfl) ?_
  refine Zh (aI cN rfl rfl) ?_
  refine Zh (gJ rfl rfl) ?_
  refine Zh (fE rfl rfl) ?_
  refine Zy ?_
  refine VC.keep (ρ':=[(4,.bool (decide (b_1.dJ=0)))]) [4] rfl ?_
  cases hS
  exact Ze
 refine VL.runs 10 [(4,some false)] (by kernel_rfl) ?_
 refine Zl ?_
 refine VC.keep (ρ':=[(4,.bool false)]) [4] rfl ?_
 cases hS
 exact Ze
theorem US (gV:aQ) (j7:Nat) (a_1:aQ) {r:Bool} (hS:Sh.uZ gV a_1=some r) :
 Ct Tryz.prog 224 [.agg #[str gV.path,i64 gV.dJ,i64 gV.mode,str gV.data,i64 gV.time,i64 gV.size],ptr j7 0] (Cells j7 0 [str a_1.path,i64 a_1.dJ,i64 a_1.mode,str a_1.data,i64 a_1.time,i64 a_1.size]) (Ow.emp) (X:=Unit) (fun _ => .bool r) (fun _=>True) (fun _=>Mo.tt) (fun _=>Ow.emp):=by
 refine Zo Tryz.func224 Tryz.ntmps224 fun c => ?_
 unfold Sh.uZ at hS
 refine Zq (Zr ?_)
 refine VL.box (cs:=[str gV.path,i64 gV.dJ,i64 gV.mode,str gV.data,i64 gV.time,i64 gV.size]) rfl rfl (by decide) fun nA => ?_
 refine Zy ?_
 refine Zq (Zr ?_)
 refine Zu (gZ sD rfl rfl) ?_
 refine Zu (a0R sD rfl rfl) ?_
 obtain ⟨LD,aAc,hS⟩:=bF hS
 refine Zu (cZ (XU gV a_1 aAc) rfl (fun _ _=>rfl)) ?_
 refine Zy ?_
 cases hS
 exact Ze
theorem vB (aD:Sv aQ) (fT:Nat) (fO:aQ) {r:Int} (hS:Sh.j6 aD.l fO=some r) :
 Ct Tryz.prog 253 [aD.val,.func (.func 224) #[] #[ptr fT 0]] (aD.ok.and (Cells fT 0 [str fO.path,i64 fO.dJ,i64 fO.mode,str fO.data,i64 fO.time,i64 fO.size])) (Ow.emp) (X:=Unit) (fun _=>i64 r) (fun _=>True) (fun _=>Mo.tt) (fun _=>Ow.emp):=by
 refine Zo Tryz.func253 Tryz.ntmps253 fun c => ?_
 unfold Sh.j6 at hS
 refine Zq (Zr ?_)
 refine Zy ?_
 refine Zq (Zq (Zr ?_))
 refine Zm ?_
 refine Zu (fH (s:=aD) Tryz.underlying51 rfl) ?_
 refine Zy ?_
 refine Zb ?_
 refine VC.iter (S:=Int) (fun (fJ:Int)=>fJ) (fun (fJ:Int)=>[(0,aD.val),(1,.func (.func 224) #[] #[ptr fT 0]),(7,i64 (aD.l.length:Int)),(8,i64 fJ)]) (fun (fJ:Int)=>Mo.tt) (fun (fJ:Int)=>Ow.emp) 0 [0,1,7,8] hS rfl ?_
 clear hS
 rintro fJ m1 y1 hS hK1
 refine Zq (Zr ?_)
 refine Zu (dA rfl rfl) ?_
 refine Zl ?_
 refine Zq ?_
 refine Zc hS (fun h9 hS => ?_) (fun h9 hS => ?_)
 ·
  refine Zk ?_
  refine Zq (Zb (Zq (Zr ?_)))
  refine Zy ?_
  refine Zq (Zr ?_)
  refine Zy ?_
  obtain ⟨lF,tH,sX,hS⟩:=eW hS
  refine Zu (dH (s:=aD) Tryz.underlying51 pS rfl rfl tH (bC tH sX)) ?_
  refine Zu (jL (s:=aD) sD rfl rfl sX) ?_
  obtain ⟨uC,FU,hS⟩:=bF hS
  refine Zu (K4 (vs:=[.agg #[str lF.path,i64 lF.dJ,i64 lF.mode,str lF.data,i64 lF.time,i64 lF.size]]) (caps:=[ptr fT 0]) (US lF fT fO FU) rfl rfl (fun _ _=>rfl)) ?_
  refine Zl ?_
  refine VC.keep (ρ':=[(0,aD.val),(1,.func (.func 224) #[] #[ptr fT 0]),(7,i64 (aD.l.length:Int)),(8,i64 fJ),(5,i64 fJ),(16,.bool uC)]) [0,1,7,8,5,16] rfl ?_
  refine mT hS (fun h16 hS => ?_) (fun h16 hS => ?_)
  ·
   refine Zq (Zr ?_)
   refine Zy ?_
   replace hS:=fF hS hK1
   cases hS
   exact Ze
  refine Zk ?_
  refine Zr ?_
  obtain ⟨b18,hS⟩:=bQ hS
  refine Zu (dZ rfl rfl b18) ?_
  refine Zm ?_
  refine VL.kE (fJ+1) [0,1,7,8] (fun _ _ h=>h) (go2 hS hK1) rfl
 replace hS:=fF hS hK1
 refine Zx ?_
 refine Zq (Zr ?_)
 refine Zy ?_
 cases hS
 exact Ze
theorem tL (aD:Sv aQ) (fT:Nat) (fO:aQ) {r:Bool} (hS:Sh.hU aD.l fO=some r) :
 Ct Tryz.prog 223 [aD.val,.func (.func 224) #[] #[ptr fT 0]] (aD.ok.and (Cells fT 0 [str fO.path,i64 fO.dJ,i64 fO.mode,str fO.data,i64 fO.time,i64 fO.size])) (Ow.emp) (X:=Unit) (fun _ => .bool r) (fun _=>True) (fun _=>Mo.tt) (fun _=>Ow.emp):=by
 refine Zo Tryz.func223 Tryz.ntmps223 fun c => ?_
 unfold Sh.hU at hS
 refine Zq (Zr ?_)
 refine Zy ?_
 refine Zq (Zr ?_)
 refine Zy ?_
 obtain ⟨lT,oH,hS⟩:=bF hS
 refine Zu (sK (vB aD fT fO oH) rfl (fun _ _=>rfl)) ?_
 refine Zu (rQ rfl rfl) ?_
 refine Zy ?_
 cases hS
 exact Ze
theorem UT (gV:aQ) (j7:Nat) (a_1:aQ) {r:Bool} (hS:Sh.xM gV a_1=some r) :
 Ct Tryz.prog 226 [.agg #[str gV.path,i64 gV.dJ,i64 gV.mode,str gV.data,i64 gV.time,i64 gV.size],ptr j7 0] (Cells j7 0 [str a_1.path,i64 a_1.dJ,i64 a_1.mode,str a_1.data,i64 a_1.time,i64 a_1.size]) (Ow.emp) (X:=Unit) (fun _ => .bool r) (fun _=>True) (fun _=>Mo.tt) (fun _=>Ow.emp):=by
 refine Zo Tryz.func226 Tryz.ntmps226 fun c => ?_
 unfold Sh.xM at hS
 refine Zq (Zr ?_)
 refine VL.box (cs:=[str gV.path,i64 gV.dJ,i64 gV.mode,str gV.data,i64 gV.time,i64 gV.size]) rfl rfl (by decide) fun nA => ?_
 refine Zy ?_
 refine Zq (Zr ?_)
 refine Zu (aB pE rfl) ?_
 refine Zu (aI cD rfl rfl) ?_
 refine Zu (aB pE rfl) ?_
 refine Zu (FL cD rfl rfl) ?_
 obtain ⟨oF,CZ,hS⟩:=bF hS
 refine Zu (cZ (OQ gV.path a_1.path CZ) rfl (fun _ _=>rfl)) ?_
 refine Zy ?_
 cases hS
 exact Ze
theorem tM (aD:Sv aQ) (fT:Nat) (fO:aQ) {r:Int} (hS:Sh.jM aD.l fO=some r) :
 Ct Tryz.prog 253 [aD.val,.func (.func 226) #[] #[ptr fT 0]] (aD.ok.and (Cells fT 0 [str fO.path,i64 fO.dJ,i64 fO.mode,str fO.data,i64 fO.time,i64 fO.size])) (Ow.emp) (X:=Unit) (fun _=>i64 r) (fun _=>True) (fun _=>Mo.tt) (fun _=>Ow.emp):=by
 refine Zo Tryz.func253 Tryz.ntmps253 fun c => ?_
 unfold Sh.jM at hS
 refine Zq (Zr ?_)
 refine Zy ?_
 refine Zq (Zq (Zr ?_))
 refine Zm ?_
 refine Zu (fH (s:=aD) Tryz.underlying51 rfl) ?_
 refine Zy ?_
 refine Zb ?_
 refine VC.iter (S:=Int) (fun (fJ:Int)=>fJ) (fun (fJ:Int)=>[(0,aD.val),(1,.func (.func 226) #[] #[ptr fT 0]),(7,i64 (aD.l.length:Int)),(8,i64 fJ)]) (fun (fJ:Int)=>Mo.tt) (fun (fJ:Int)=>Ow.emp) 0 [0,1,7,8] hS rfl ?_
 clear hS
 rintro fJ m1 y1 hS hK1
 refine Zq (Zr ?_)
 refine Zu (dA rfl rfl) ?_
 refine Zl ?_
 refine Zq ?_
 refine Zc hS (fun h9 hS => ?_) (fun h9 hS => ?_)
 ·
  refine Zk ?_
  refine Zq (Zb (Zq (Zr ?_)))
  refine Zy ?_
  refine Zq (Zr ?_)
  refine Zy ?_
  obtain ⟨lF,tH,sX,hS⟩:=eW hS
  refine Zu (dH (s:=aD) Tryz.underlying51 pS rfl rfl tH (bC tH sX)) ?_
  refine Zu (jL (s:=aD) sD rfl rfl sX) ?_
  obtain ⟨uC,FU,hS⟩:=bF hS
  refine Zu (K4 (vs:=[.agg #[str lF.path,i64 lF.dJ,i64 lF.mode,str lF.data,i64 lF.time,i64 lF.size]]) (caps:=[ptr fT 0]) (UT lF fT fO FU) rfl rfl (fun _ _=>rfl)) ?_
  refine Zl ?_
  refine VC.keep (ρ':=[(0,aD.val),(1,.func (.func 226) #[] #[ptr fT 0]),(7,i64 (aD.l.length:Int)),(8,i64 fJ),(5,i64 fJ),(16,.bool uC)]) [0,1,7,8,5,16] rfl ?_
  refine mT hS (fun h16 hS => ?_) (fun h16 hS => ?_)
  ·
   refine Zq (Zr ?_)
   refine Zy ?_
   replace hS:=fF hS hK1
   cases hS
   exact Ze
  refine Zk ?_
  refine Zr ?_
  obtain ⟨b18,hS⟩:=bQ hS
  refine Zu (dZ rfl rfl b18) ?_
  refine Zm ?_
  refine VL.kE (fJ+1) [0,1,7,8] (fun _ _ h=>h) (go2 hS hK1) rfl
 replace hS:=fF hS hK1
 refine Zx ?_
 refine Zq (Zr ?_)
 refine Zy ?_
 cases hS
 exact Ze
theorem sP (aD:Sv aQ) (fT:Nat) (fO:aQ) {r:Bool} (hS:Sh.gP aD.l fO=some r) :
 Ct Tryz.prog 223 [aD.val,.func (.func 226) #[] #[ptr fT 0]] (aD.ok.and (Cells fT 0 [str fO.path,i64 fO.dJ,i64 fO.mode,str fO.data,i64 fO.time,i64 fO.size])) (Ow.emp) (X:=Unit) (fun _ => .bool r) (fun _=>True) (fun _=>Mo.tt) (fun _=>Ow.emp):=by
 refine Zo Tryz.func223 Tryz.ntmps223 fun c => ?_
 unfold Sh.gP at hS
 refine Zq (Zr ?_)
 refine Zy ?_
 refine Zq (Zr ?_)
 refine Zy ?_
 obtain ⟨lT,oH,hS⟩:=bF hS
 refine Zu (sK (tM aD fT fO oH) rfl (fun _ _=>rfl)) ?_
 refine Zu (rQ rfl rfl) ?_
 refine Zy ?_
 cases hS
 exact Ze
theorem ZM (eV:Sv aQ) (i_1:Int) {r:Int} (hS:Sh.BJ eV.l i_1=some r) :
 Ct Tryz.prog 180 [eV.val,i64 i_1] eV.ok (Ow.emp) (X:=Unit) (fun _=>i64 r) (fun _=>True) (fun _=>Mo.tt) (fun _=>Ow.emp):=by
 refine Zo Tryz.func180 Tryz.ntmps180 fun c => ?_
 unfold Sh.BJ at hS
 refine Zq (Zr ?_)
 refine Zy ?_
 refine Zq (Zr ?_)
 refine Zy ?_
 obtain ⟨iX,aBX,aBP,hS⟩:=eW hS
 refine Zu (dH (s:=eV) Tryz.underlying51 pS rfl rfl aBX (bC aBX aBP)) ?_
 refine Zu (jL (s:=eV) sD rfl rfl aBP) ?_
 refine VL.alloc (cs:=[str [],i64 0,i64 0,str [],i64 0,i64 0]) (by kernel_rfl) (by decide) fun rW => ?_
 refine Zv (vc:=[str iX.path,i64 iX.dJ,i64 iX.mode,str iX.data,i64 iX.time,i64 iX.size]) (cs':=[str iX.path,i64 iX.dJ,i64 iX.mode,str iX.data,i64 iX.time,i64 iX.size]) rfl pS ?_
 refine Zl ?_
 refine Zq (Zq (Zr ?_))
 refine Zu (aB pE rfl) ?_
 refine Zu (aI cD rfl rfl) ?_
 obtain ⟨jQ,IL,hS⟩:=bF hS
 refine Zu (cZ (OP iX.path IL) rfl (fun _ _=>rfl)) ?_
 refine Zy ?_
 refine VC.keep (ρ':=[(0,eV.val),(1,i64 i_1),(5,ptr rW 0),(6,i64 jQ)]) [0,1,5,6] rfl ?_
 refine Zq (Zr ?_)
 refine Zm ?_
 refine Zu (mC rfl rfl) ?_
 refine Zl ?_
 refine uH hS (fun h15 hS => ?_) (fun h15 hS => ?_)
 ·
  refine Zq (Zr ?_)
  refine Zy ?_
  cases hS
  exact Ze
 refine Zk ?_
 refine Zq (Zb ?_)
 refine VC.j0 (S:=Bool) (fun (n7:Bool)=>n7) (fun (n7:Bool)=>[(0,eV.val),(1,i64 i_1),(5,ptr rW 0),(17,.bool n7)]) (fun (n7:Bool)=>Mo.tt) (fun (n7:Bool)=>Ow.star (bT rW [str iX.path,i64 iX.dJ,i64 iX.mode,str iX.data,i64 iX.time,i64 iX.size] 218) (Ow.emp)) hS ?_ ?_
 ·
  clear hS
  intro k5 hS
  refine Zr ?_
  refine Zu (aB uW rfl) ?_
  refine Zu (aI cN rfl rfl) ?_
  refine Zu (dA rfl rfl) ?_
  refine Zm ?_
  refine jJ 21 hS (fun h21 hS => ?_) (fun h21 hS => ?_)
  ·
   refine VL.runs 25 [(17,some true)] (by kernel_rfl) ?_
   refine VL.mt true [0,1,5,17] (fun _ _ h=>h) hS rfl
  refine Zh (aB uW rfl) ?_
  refine Zh (aI cN rfl rfl) ?_
  refine Zh (gQ rfl rfl) ?_
  refine Zy ?_
  refine jJ 26 hS (fun h26 hS => ?_) (fun h26 hS => ?_)
  ·
   refine VL.runs 20 [(17,some true)] (by kernel_rfl) ?_
   refine VL.mt true [0,1,5,17] (fun _ _ h=>h) hS rfl
  refine Zh (aB AN rfl) ?_
  refine Zh (aI cN rfl rfl) ?_
  refine Zh (mC rfl rfl) ?_
  refine Zg ?_
  refine II 30 hS (fun h30 hS => ?_) (fun h30 hS => ?_)
  ·
   refine Zh (aB AN rfl) ?_
   refine Zh (aI cN rfl rfl) ?_
   refine Zh (mC rfl rfl) ?_
   refine Zh (fB rfl rfl) ?_
   refine Zy ?_
   refine II 36 hS (fun h36 hS => ?_) (fun h36 hS => ?_)
   ·
    refine VL.runs 10 [(17,some true)] (by kernel_rfl) ?_
    refine VL.mt true [0,1,5,17] (fun _ _ h=>h) hS rfl
   refine Zh (aB QN rfl) ?_
   refine Zh (aI cN rfl rfl) ?_
   refine Zh (dA rfl rfl) ?_
   refine Zy ?_
   refine jJ 41 hS (fun h41 hS => ?_) (fun h41 hS => ?_)
   ·
    refine VL.runs 5 [(17,some true)] (by kernel_rfl) ?_
    refine VL.mt true [0,1,5,17] (fun _ _ h=>h) hS rfl
   refine Zh (aB QO rfl) ?_
   refine Zh (aI cN rfl rfl) ?_
   refine Zh (dA rfl rfl) ?_
   refine Zy ?_
   refine VL.mt (decide (iX.size < 0)) [0,1,5,17] (fun _ _ h=>h) hS rfl
  refine VL.runs 3 [(33,none)] (by kernel_rfl) ?_
  refine Zh (fE rfl rfl) ?_
  refine Zy ?_
  refine Zh (aB QN rfl) ?_
  refine Zh (aI cN rfl rfl) ?_
  refine Zh (dA rfl rfl) ?_
  refine Zy ?_
  refine jJ 41 hS (fun h41 hS => ?_) (fun h41 hS => ?_)
  ·
   refine VL.runs 5 [(17,some true)] (by kernel_rfl) ?_
   refine VL.mt true [0,1,5,17] (fun _ _ h=>h) hS rfl
  refine Zh (aB QO rfl) ?_
  refine Zh (aI cN rfl rfl) ?_
  refine Zh (dA rfl rfl) ?_
  refine Zy ?_
  refine VL.mt (decide (iX.size < 0)) [0,1,5,17] (fun _ _ h=>h) hS rfl
 clear hS
 rintro n7 hS
 refine mT hS (fun h17 hS => ?_) (fun h17 hS => ?_)
 ·
  refine Zq (Zr ?_)
  refine Zy ?_
  cases hS
  exact Ze
 refine Zq (Zr ?_)
 refine Zu (aB yO rfl) ?_
 refine Zu (aI cD rfl rfl) ?_
 refine Zu (iH Tryz.underlying9 rfl) ?_
 refine Zu (gQ rfl rfl) ?_
 refine Zy ?_
 refine Zc hS (fun h46 hS => ?_) (fun h46 hS => ?_)
 ·
  refine Zq (Zr ?_)
  refine Zy ?_
  cases hS
  exact Ze
 refine VC.j0 (S:=Bool) (fun (P0:Bool)=>P0) (fun (P0:Bool)=>[(0,eV.val),(1,i64 i_1),(5,ptr rW 0),(51,.bool P0)]) (fun (P0:Bool)=>Mo.tt) (fun (P0:Bool)=>Ow.star (bT rW [str iX.path,i64 iX.dJ,i64 iX.mode,str iX.data,i64 iX.time,i64 iX.size] 218) (Ow.emp)) hS ?_ ?_
 ·
  clear hS
  intro k7 hS
  refine VC.j0 (S:=Bool) (fun (JW:Bool)=>JW) (fun (JW:Bool)=>[(0,eV.val),(1,i64 i_1),(5,ptr rW 0),(51,.bool JW)]) (fun (JW:Bool)=>Mo.tt) (fun (JW:Bool)=>Ow.star (bT rW [str iX.path,i64 iX.dJ,i64 iX.mode,str iX.data,i64 iX.time,i64 iX.size] 218) (Ow.emp)) hS ?_ ?_
  ·
   clear hS
   intro k9 hS
   refine VC.draw ((List.range 13).map fun k=>(k,true)) mixed (by kernel_rfl) (by kernel_rfl) (by kernel_rfl) ?_
   refine Zw rfl (bI rfl) ?_
   refine Zw rfl (gQ rfl rfl) ?_
   refine Zw rfl (bI rfl) ?_
   refine VD.mY 54 rfl (fun h54 => ?_) (fun h54 => ?_)
   ·
    replace hS:=wW h54 hS
    refine Zi rfl (bI rfl) ?_
    refine Zi rfl (bI rfl) ?_
    obtain ⟨b57,hS⟩:=bQ hS
    refine Zi rfl (tW rfl rfl b57) ?_
    obtain ⟨aGv,aIc,aHv,hS⟩:=eW hS
    refine Zi rfl (dH (s:=eV) Tryz.underlying51 pS rfl rfl aIc (bC aIc aHv)) ?_
    refine Zi rfl (jL (s:=eV) sD rfl rfl aHv) ?_
    refine Zi rfl (gZ sD rfl rfl) ?_
    obtain ⟨aGY,aRF,hS⟩:=bF hS
    refine Zi rfl (cZ (UR aGv iX aRF) rfl (fun _ _=>rfl)) ?_
    refine Zi rfl (rQ rfl rfl) ?_
    refine Zw rfl (fB rfl rfl) ?_
    refine Zw rfl (iG rfl) ?_
    refine VD.mt (decide (0≤aGY)) [0,1,5,51] (fun _ _ h=>h) hS rfl
   replace hS:=BK h54 hS
   refine Zd ?_
   refine Zd ?_
   refine Zd ?_
   refine Zd ?_
   refine Zd ?_
   refine Zd ?_
   refine Zd ?_
   refine Zd ?_
   refine Zw rfl (fE rfl rfl) ?_
   refine Zw rfl (iG rfl) ?_
   refine VD.mt false [0,1,5,51] (fun _ _ h=>h) hS rfl
  clear hS
  rintro JW hS
  refine mT hS (fun h51 hS => ?_) (fun h51 hS => ?_)
  ·
   refine VC.qL JW [0,1,5,51] (fun _ _ h=>h) hS rfl
  refine Zr ?_
  refine Zy ?_
  obtain ⟨b66,hS⟩:=bQ hS
  refine VL.sto Tryz.underlying51 pS rfl rfl b66.1 (b66.2) (by decide) fun aYG aS6 => ?_
  replace hS:=dL aS6 hS
  refine Zu (tK rfl) ?_
  obtain ⟨aG3,aRM,hS⟩:=bF hS
  refine Zu (sK (tL aYG rW iX aRM) rfl (fun _ _=>rfl)) ?_
  refine Za ?_
  refine VL.mt aG3 [0,1,5,51] (fun _ _ h=>h) hS rfl
 clear hS
 rintro P0 hS
 refine mT hS (fun h51 hS => ?_) (fun h51 hS => ?_)
 ·
  refine Zq (Zr ?_)
  refine Zy ?_
  cases hS
  exact Ze
 refine Zq (Zr ?_)
 refine Zy ?_
 obtain ⟨b72,hS⟩:=bQ hS
 refine VL.sto Tryz.underlying51 pS rfl rfl b72.1 (b72.2) (by decide) fun aYH aS8 => ?_
 replace hS:=dL aS8 hS
 refine Zu (tK rfl) ?_
 obtain ⟨aNP,aRQ,hS⟩:=bF hS
 refine Zu (sK (sP aYH rW iX aRQ) rfl (fun _ _=>rfl)) ?_
 refine Zy ?_
 refine mT hS (fun h69 hS => ?_) (fun h69 hS => ?_)
 ·
  refine Zq (Zr ?_)
  refine Zy ?_
  refine VC.keep (ρ':=[(4,i64 11)]) [4] rfl ?_
  cases hS
  exact Ze
 refine Zk ?_
 refine Zq (Zr ?_)
 refine Zy ?_
 refine VC.keep (ρ':=[(4,i64 0)]) [4] rfl ?_
 cases hS
 exact Ze
theorem ZL (eV:Sv aQ) {r:jR} (hS:Sh.rO eV.l=some r) :
 Ct Tryz.prog 98 [eV.val] eV.ok (Ow.emp) (X:=Er) (fun x=>x.val) (fun x=>r=x.pl) (fun x=>x.ok) (fun x=>Ow.emp):=by
 refine Zo Tryz.func98 Tryz.ntmps98 fun c => ?_
 unfold Sh.rO at hS
 refine Zq (Zr ?_)
 refine Zy ?_
 refine Zq (Zq (Zr ?_))
 refine Zm ?_
 refine Zu (fH (s:=eV) Tryz.underlying51 rfl) ?_
 refine Zu (gQ rfl rfl) ?_
 refine Zl ?_
 refine Zc hS (fun h7 hS => ?_) (fun h7 hS => ?_)
 ·
  refine Zq (Zr ?_)
  refine Zu (o3 Tryz.underlying131 (fun _ h=>by cases h) rfl) ?_
  refine Zu (eO (vs:=[(0,str [101,110,116,114,121]),(1,i64 256),(2,(Er.no 4).val)]) (cs := #[str [101,110,116,114,121],i64 256,(Er.no 4).val]) rfl (by kernel_rfl)) ?_
  refine VL.box (cs:=[str [101,110,116,114,121],i64 256,(Er.no 4).val]) rfl rfl (by decide) fun aAM => ?_
  refine VL.YF aAM ?_
  refine Zu (o3 Tryz.underlying190 (fun _ h=>by cases h) rfl) ?_
  refine Zy ?_
  cases hS
  exact VC.ret (iU (.inr rfl) rfl rfl (Er.fault aAM [101,110,116,114,121] 256 (Er.no 4)) rfl rfl (by (try dsimp only); exact dQ.out) (fun _ _=>trivial))
 refine Zk ?_
 refine Zq (Zq (Zr ?_))
 refine Zm ?_
 refine Zu (fH (s:=eV) Tryz.underlying51 rfl) ?_
 refine Zy ?_
 refine Zb ?_
 refine VC.iter (S:=Int) (fun (lO:Int)=>lO) (fun (lO:Int)=>[(0,eV.val),(13,i64 (eV.l.length:Int)),(14,i64 lO)]) (fun (lO:Int)=>Mo.tt) (fun (lO:Int)=>Ow.emp) 0 [0,13,14] hS rfl ?_
 clear hS
 rintro lO m1 y1 hS hK1
 refine Zq (Zr ?_)
 refine Zu (dA rfl rfl) ?_
 refine Zl ?_
 refine Zq ?_
 refine Zc hS (fun h15 hS => ?_) (fun h15 hS => ?_)
 ·
  refine Zk ?_
  refine Zq (Zb (Zq (Zr ?_)))
  refine Zy ?_
  refine Zq (Zr ?_)
  refine Zy ?_
  obtain ⟨s7,TY,hS⟩:=bF hS
  refine Zu (cZ (ZM eV lO TY) rfl (fun _ _=>rfl)) ?_
  refine Zy ?_
  refine Zq (Zr ?_)
  refine Zm ?_
  refine Zu (mC rfl rfl) ?_
  refine Zl ?_
  refine uH hS (fun h21 hS => ?_) (fun h21 hS => ?_)
  ·
   refine Zq (Zr ?_)
   refine Zy ?_
   refine Zu (o3 Tryz.underlying131 (fun _ h=>by cases h) rfl) ?_
   refine Zu (eO (vs:=[(0,str [101,110,116,114,121]),(1,i64 lO),(2,(Er.no s7).val)]) (cs := #[str [101,110,116,114,121],i64 lO,(Er.no s7).val]) rfl (by kernel_rfl)) ?_
   refine VL.box (cs:=[str [101,110,116,114,121],i64 lO,(Er.no s7).val]) rfl rfl (by decide) fun R1 => ?_
   refine VL.YF R1 ?_
   refine Zu (o3 Tryz.underlying190 (fun _ h=>by cases h) rfl) ?_
   refine Zy ?_
   refine VC.keep (ρ':=[(2,(Er.fault R1 [101,110,116,114,121] lO (Er.no s7)).val)]) [2] rfl ?_
   replace hS:=fF hS hK1
   cases hS
   exact VC.ret (iU (.inr rfl) rfl rfl (Er.fault R1 [101,110,116,114,121] lO (Er.no s7)) rfl rfl (by (try dsimp only); exact dQ.out) (fun _ _=>trivial))
  refine Zk ?_
  refine VC.keep (ρ':=[(0,eV.val),(13,i64 (eV.l.length:Int)),(14,i64 lO)]) [0,13,14] rfl ?_
  refine Zr ?_
  obtain ⟨b28,hS⟩:=bQ hS
  refine Zu (dZ rfl rfl b28) ?_
  refine Zm ?_
  refine VL.kE (lO+1) [0,13,14] (fun _ _ h=>h) (go2 hS hK1) rfl
 replace hS:=fF hS hK1
 refine Zx ?_
 refine Zq (Zr ?_)
 refine Zy ?_
 cases hS
 exact VC.ret (iU (.inr rfl) rfl rfl .nil rfl rfl (by (try dsimp only); exact dQ.out) (fun _ _=>trivial))
theorem OM (D1:bN) {r:Bool} (hS:Sh.xO D1=some r) :
 Ct Tryz.prog 181 [str D1] Mo.tt (Ow.emp) (X:=Unit) (fun _ => .bool r) (fun _=>True) (fun _=>Mo.tt) (fun _=>Ow.emp):=by
 refine Zo Tryz.func181 Tryz.ntmps181 fun c => ?_
 unfold Sh.xO at hS
 refine Zq (Zr ?_)
 refine Zy ?_
 refine Zq (Zq (Zr ?_))
 refine Zm ?_
 obtain ⟨b6,hS⟩:=bQ hS
 refine VL.s2b Tryz.underlying9 Tryz.underlying22 Tryz.underlying5 rfl b6 (by decide) fun aBq aZr => ?_
 replace hS:=dL aZr hS
 refine Zu (fH (s:=aBq) Tryz.underlying22 rfl) ?_
 refine Zy ?_
 refine Zb ?_
 refine VC.iter (S:=Int) (fun (HZ:Int)=>HZ) (fun (HZ:Int)=>[(0,str D1),(6,aBq.val),(7,i64 (aBq.l.length:Int)),(8,i64 HZ)]) (fun (HZ:Int)=>Mo.tt) (fun (HZ:Int)=>Ow.emp) 0 [0,6,7,8] hS rfl ?_
 clear hS
 rintro HZ m1 y1 hS hK1
 refine Zq (Zr ?_)
 refine Zu (dA rfl rfl) ?_
 refine Zl ?_
 refine Zq ?_
 refine Zc hS (fun h9 hS => ?_) (fun h9 hS => ?_)
 ·
  refine Zk ?_
  refine Zq (Zb (Zq (Zr ?_)))
  refine Zm ?_
  obtain ⟨rS,VB,QS,hS⟩:=eW hS
  refine Zu (dH (s:=aBq) Tryz.underlying22 aHf rfl rfl VB (bC VB QS)) ?_
  refine Zu (qW (s:=aBq) aJr rfl QS rfl) ?_
  refine Zy ?_
  refine VC.j0 (S:=Bool) (fun (PX:Bool)=>PX) (fun (PX:Bool)=>[(0,str D1),(6,aBq.val),(7,i64 (aBq.l.length:Int)),(8,i64 HZ),(34,.bool PX)]) (fun (PX:Bool)=>Mo.tt) (fun (PX:Bool)=>Ow.emp) hS ?_ ?_
  ·
   clear hS
   intro k6 hS
   refine Zr ?_
   refine Zm ?_
   refine Zu (dA rfl rfl) ?_
   refine Zm ?_
   refine jJ 15 hS (fun h15 hS => ?_) (fun h15 hS => ?_)
   ·
    refine VL.runs 4 [(19,some true)] (by kernel_rfl) ?_
    refine Zg ?_
    refine Zh (gJ rfl rfl) ?_
    refine Zg ?_
    refine jJ 22 hS (fun h22 hS => ?_) (fun h22 hS => ?_)
    ·
     refine VL.runs 10 [(32,none)] (by kernel_rfl) ?_
     refine Zh (fB rfl rfl) ?_
     refine Zt ?_
     refine VL.mt true [0,6,7,8,34] (fun _ _ h=>h) hS rfl
    refine Zg ?_
    refine Zh (mC rfl rfl) ?_
    refine Zg ?_
    refine II 25 hS (fun h25 hS => ?_) (fun h25 hS => ?_)
    ·
     refine Zg ?_
     refine Zh (dA rfl rfl) ?_
     refine Zg ?_
     refine jJ 28 hS (fun h28 hS => ?_) (fun h28 hS => ?_)
     ·
      refine Zy ?_
      refine Zh (fB rfl rfl) ?_
      refine Zh (fB rfl rfl) ?_
      refine Zh (fE rfl rfl) ?_
      refine Zt ?_
      refine VL.mt true [0,6,7,8,34] (fun _ _ h=>h) hS rfl
     refine Zg ?_
     refine Zh (gQ rfl rfl) ?_
     refine Zh (fE rfl rfl) ?_
     refine Zh (fB rfl rfl) ?_
     refine Zh (fE rfl rfl) ?_
     refine Zt ?_
     refine VL.mt (decide (57 < (rS.toNat:Int))) [0,6,7,8,34] (fun _ _ h=>h) hS rfl
    refine VL.runs 6 [(31,none)] (by kernel_rfl) ?_
    refine Zh (fE rfl rfl) ?_
    refine Zh (fE rfl rfl) ?_
    refine Zt ?_
    refine VL.mt false [0,6,7,8,34] (fun _ _ h=>h) hS rfl
   refine Zg ?_
   refine Zh (gQ rfl rfl) ?_
   refine Zy ?_
   refine jJ 19 hS (fun h19 hS => ?_) (fun h19 hS => ?_)
   ·
    refine Zg ?_
    refine Zh (gJ rfl rfl) ?_
    refine Zg ?_
    refine jJ 22 hS (fun h22 hS => ?_) (fun h22 hS => ?_)
    ·
     refine VL.runs 10 [(32,none)] (by kernel_rfl) ?_
     refine Zh (fB rfl rfl) ?_
     refine Zt ?_
     refine VL.mt true [0,6,7,8,34] (fun _ _ h=>h) hS rfl
    refine Zg ?_
    refine Zh (mC rfl rfl) ?_
    refine Zg ?_
    refine II 25 hS (fun h25 hS => ?_) (fun h25 hS => ?_)
    ·
     refine Zg ?_
     refine Zh (dA rfl rfl) ?_
     refine Zg ?_
     refine jJ 28 hS (fun h28 hS => ?_) (fun h28 hS => ?_)
     ·
      refine Zy ?_
      refine Zh (fB rfl rfl) ?_
      refine Zh (fB rfl rfl) ?_
      refine Zh (fE rfl rfl) ?_
      refine Zt ?_
      refine VL.mt true [0,6,7,8,34] (fun _ _ h=>h) hS rfl
     refine Zg ?_
     refine Zh (gQ rfl rfl) ?_
     refine Zh (fE rfl rfl) ?_
     refine Zh (fB rfl rfl) ?_
     refine Zh (fE rfl rfl) ?_
     refine Zt ?_
     refine VL.mt (decide (57 < (rS.toNat:Int))) [0,6,7,8,34] (fun _ _ h=>h) hS rfl
    refine VL.runs 6 [(31,none)] (by kernel_rfl) ?_
    refine Zh (fE rfl rfl) ?_
    refine Zh (fE rfl rfl) ?_
    refine Zt ?_
    refine VL.mt false [0,6,7,8,34] (fun _ _ h=>h) hS rfl
   refine VL.runs 15 [(34,some false)] (by kernel_rfl) ?_
   refine VL.mt false [0,6,7,8,34] (fun _ _ h=>h) hS rfl
  clear hS
  rintro PX hS
  refine mT hS (fun h34 hS => ?_) (fun h34 hS => ?_)
  ·
   refine Zq (Zr ?_)
   refine Zy ?_
   replace hS:=fF hS hK1
   cases hS
   exact Ze
  refine Zk ?_
  refine Zr ?_
  obtain ⟨b35,hS⟩:=bQ hS
  refine Zu (dZ rfl rfl b35) ?_
  refine Zm ?_
  refine VL.kE (HZ+1) [0,6,7,8] (fun _ _ h=>h) (go2 hS hK1) rfl
 replace hS:=fF hS hK1
 refine Zx ?_
 refine Zq (Zr ?_)
 refine Zm ?_
 refine Zu (iH Tryz.underlying9 rfl) ?_
 refine Zu (rQ rfl rfl) ?_
 refine Zm ?_
 refine jJ 39 hS (fun h39 hS => ?_) (fun h39 hS => ?_)
 ·
  refine Zg ?_
  refine Zh (iH Tryz.underlying9 rfl) ?_
  refine Zh (OX rfl rfl) ?_
  refine Zy ?_
  refine VC.keep (ρ':=[(2,.bool (decide ((D1.length:Int)≤32)))]) [2] rfl ?_
  cases hS
  exact Ze
 refine VL.runs 5 [(2,some false)] (by kernel_rfl) ?_
 refine Zl ?_
 cases hS
 exact Ze
theorem JM (aD:fY) (aDt:Int) {r:Bool} (hS:Sh.vU aD.pl aDt=some r) :
 Ct Tryz.prog 91 [.agg (cC aD).toArray,i64 aDt] (aD.cJ.ok.and (aD.bV.ok.and (aD.bB.ok.and (aD.bW.ok.and (aD.cG.ok.and (aD.bX.ok.and (aD.cH.ok.and (aD.bL.ok.and (aD.aK.ok.and (aD.gC.ok.and aD.fA.ok)))))))))) (Ow.emp) (X:=Unit) (fun _ => .bool r) (fun _=>True) (fun _=>Mo.tt) (fun _=>Ow.emp):=by
 refine Zo Tryz.func91 Tryz.ntmps91 fun c => ?_
 unfold Sh.vU at hS
 refine Zq (Zr ?_)
 refine VL.box (cs:=(cC aD)) rfl rfl (by decide) fun nA => ?_
 refine Zy ?_
 refine Zq (Zr ?_)
 refine Zm ?_
 refine Zu (rQ rfl rfl) ?_
 refine Zm ?_
 refine jJ 7 hS (fun h7 hS => ?_) (fun h7 hS => ?_)
 ·
  refine Zg ?_
  refine Zh (aB sG rfl) ?_
  refine Zh (aI qT rfl rfl) ?_
  refine Zh (iT cL.pl (s:=aD.aK) Tryz.underlying68 rfl) ?_
  refine Zh (OX rfl rfl) ?_
  refine Zy ?_
  refine VC.keep (ρ':=[(4,.bool (decide (aDt≤((aD.aK.l.map cL.pl).length:Int))))]) [4] rfl ?_
  cases hS
  exact Ze
 refine VL.runs 7 [(4,some false)] (by kernel_rfl) ?_
 refine Zl ?_
 cases hS
 exact Ze
theorem aBv (aD:fY) {r:Int} (hS:Sh.A7 aD.pl=some r) :
 Ct Tryz.prog 100 [.agg (cC aD).toArray] (aD.cJ.ok.and (aD.bV.ok.and (aD.bB.ok.and (aD.bW.ok.and (aD.cG.ok.and (aD.bX.ok.and (aD.cH.ok.and (aD.bL.ok.and (aD.aK.ok.and (aD.gC.ok.and aD.fA.ok)))))))))) (Ow.emp) (X:=Unit) (fun _=>i64 r) (fun _=>True) (fun _=>Mo.tt) (fun _=>Ow.emp):=by
 refine Zo Tryz.func100 Tryz.ntmps100 fun c => ?_
 unfold Sh.A7 at hS
 refine Zq (Zr ?_)
 refine VL.box (cs:=(cC aD)) rfl rfl (by decide) fun cM => ?_
 refine Zy ?_
 refine Zq (Zq (Zr ?_))
 refine Zu (aB mF rfl) ?_
 refine Zu (aB lK rfl) ?_
 refine Zu (aI qS rfl rfl) ?_
 refine Zu (fH (s:=aD.bB) Tryz.underlying52 rfl) ?_
 refine Zy ?_
 refine Zb ?_
 refine VC.iter (S:=Int) (fun (CK:Int)=>CK) (fun (CK:Int)=>[(1,ptr cM 0),(7,aD.bB.val),(8,i64 (aD.bB.l.length:Int)),(9,i64 CK)]) (fun (CK:Int)=>Mo.tt) (fun (CK:Int)=>Ow.star (bT cM (cC aD) 93) (Ow.emp)) 0 [1,7,8,9] hS rfl ?_
 clear hS
 rintro CK m1 y1 hS hK1
 refine Zq (Zr ?_)
 refine Zu (dA rfl rfl) ?_
 refine Zl ?_
 refine Zq ?_
 refine Zc hS (fun h10 hS => ?_) (fun h10 hS => ?_)
 ·
  refine Zk ?_
  refine Zq (Zb (Zq (Zr ?_)))
  refine Zm ?_
  obtain ⟨yJ,aMB,aLc,hS⟩:=eW hS
  refine Zu (dH (s:=aD.bB) Tryz.underlying52 uL rfl rfl aMB (bC aMB aLc)) ?_
  refine Zu (jL (s:=aD.bB) G3 rfl rfl aLc) ?_
  refine VL.alloc (cs:=[str [],i64 0]) (by kernel_rfl) (by decide) fun aD0 => ?_
  refine Za ?_
  refine Zv (vc:=[str yJ.name,i64 yJ.cB]) (cs':=[str yJ.name,i64 yJ.cB]) rfl uL ?_
  refine Zl ?_
  refine Zb (Zq (Zr ?_))
  refine Zu (aB AM rfl) ?_
  refine Zu (aI cD rfl rfl) ?_
  obtain ⟨H8,TV,hS⟩:=bF hS
  refine Zu (cZ (OM yJ.name TV) rfl (fun _ _=>rfl)) ?_
  refine Zu (oS rfl) ?_
  refine Zy ?_
  refine VC.keep (ρ':=[(1,ptr cM 0),(7,aD.bB.val),(8,i64 (aD.bB.l.length:Int)),(9,i64 CK),(4,ptr aD0 0),(3,i64 CK),(14,.bool (!H8))]) [1,7,8,9,4,3,14] rfl ?_
  refine mT hS (fun h14 hS => ?_) (fun h14 hS => ?_)
  ·
   refine Zq (Zr ?_)
   refine Zy ?_
   replace hS:=fF hS hK1
   cases hS
   exact Ze
  refine VC.j0 (S:=Bool) (fun (JU:Bool)=>JU) (fun (JU:Bool)=>[(1,ptr cM 0),(4,ptr aD0 0),(7,aD.bB.val),(8,i64 (aD.bB.l.length:Int)),(9,i64 CK),(19,.bool JU)]) (fun (JU:Bool)=>Mo.tt) (fun (JU:Bool)=>Ow.star (bT aD0 [str yJ.name,i64 yJ.cB] 216) (Ow.star (bT cM (cC aD) 93) (Ow.emp))) hS ?_ ?_
  ·
   clear hS
   intro k7 hS
   refine VC.draw ((List.range 17).map fun k=>(k,true)) mixed (by kernel_rfl) (by kernel_rfl) (by kernel_rfl) ?_
   refine Zw rfl (bI rfl) ?_
   refine Zw rfl (gQ rfl rfl) ?_
   refine Zw rfl (bI rfl) ?_
   refine VD.mY 22 rfl (fun h22 => ?_) (fun h22 => ?_)
   ·
    replace hS:=wW h22 hS
    refine Zi rfl (aB mF rfl) ?_
    refine Zi rfl (aB lK rfl) ?_
    refine Zi rfl (aI qS rfl rfl) ?_
    refine Zi rfl (bI rfl) ?_
    obtain ⟨b27,hS⟩:=bQ hS
    refine Zi rfl (tW rfl rfl b27) ?_
    obtain ⟨aDH,aMR,aLo,hS⟩:=eW hS
    refine Zi rfl (dH (s:=aD.bB) Tryz.underlying52 uL rfl rfl aMR (bC aMR aLo)) ?_
    refine Zi rfl (aB AM rfl) ?_
    refine Zi rfl (jK (s:=aD.bB) cD rfl aLo rfl) ?_
    refine Zi rfl (aB AM rfl) ?_
    refine Zi rfl (aI cD rfl rfl) ?_
    obtain ⟨CN,aEu,hS⟩:=bF hS
    refine Zi rfl (cZ (BC aDH.name yJ.name aEu) rfl (fun _ _=>rfl)) ?_
    refine Zi rfl (rQ rfl rfl) ?_
    refine Zw rfl (fB rfl rfl) ?_
    refine Zw rfl (iG rfl) ?_
    refine VD.mt (decide (0≤CN)) [1,4,7,8,9,19] (fun _ _ h=>h) hS rfl
   replace hS:=BK h22 hS
   refine Zd ?_
   refine Zd ?_
   refine Zd ?_
   refine Zd ?_
   refine Zd ?_
   refine Zd ?_
   refine Zd ?_
   refine Zd ?_
   refine Zd ?_
   refine Zd ?_
   refine Zd ?_
   refine Zd ?_
   refine Zw rfl (fE rfl rfl) ?_
   refine Zw rfl (iG rfl) ?_
   refine VD.mt false [1,4,7,8,9,19] (fun _ _ h=>h) hS rfl
  clear hS
  rintro JU hS
  refine mT hS (fun h19 hS => ?_) (fun h19 hS => ?_)
  ·
   refine Zq (Zr ?_)
   refine Zy ?_
   replace hS:=fF hS hK1
   cases hS
   exact Ze
  refine Zq (Zr ?_)
  refine Zu (gZ jS rfl rfl) ?_
  refine Zu (aB KF rfl) ?_
  refine Zu (aI cN rfl rfl) ?_
  obtain ⟨WX,aQg,hS⟩:=bF hS
  refine Zu (cZ (JM aD yJ.cB aQg) rfl (fun _ _=>rfl)) ?_
  refine Zu (oS rfl) ?_
  refine Zy ?_
  refine VC.keep (ρ':=[(1,ptr cM 0),(7,aD.bB.val),(8,i64 (aD.bB.l.length:Int)),(9,i64 CK),(36,.bool (!WX))]) [1,7,8,9,36] rfl ?_
  refine mT hS (fun h36 hS => ?_) (fun h36 hS => ?_)
  ·
   refine Zq (Zr ?_)
   refine Zy ?_
   replace hS:=fF hS hK1
   cases hS
   exact Ze
  refine Zk ?_
  refine Zr ?_
  obtain ⟨b42,hS⟩:=bQ hS
  refine Zu (dZ rfl rfl b42) ?_
  refine Zm ?_
  refine VL.kE (CK+1) [1,7,8,9] (fun _ _ h=>h) (go2 hS hK1) rfl
 replace hS:=fF hS hK1
 refine Zx ?_
 refine Zq (Zr ?_)
 refine Zy ?_
 cases hS
 exact Ze
theorem DL (oG:Int) {r:jR} (hS:Sh.tY oG=some r) :
 Ct Tryz.prog 99 [i64 oG] Mo.tt (Ow.emp) (X:=Er) (fun x=>x.val) (fun x=>r=x.pl) (fun x=>x.ok) (fun x=>Ow.emp):=by
 refine Zo Tryz.func99 Tryz.ntmps99 fun c => ?_
 unfold Sh.tY at hS
 refine Zq (Zr ?_)
 refine Zy ?_
 refine Zq (Zq (Zr ?_))
 refine Zm ?_
 refine Zu (gJ rfl rfl) ?_
 refine Zl ?_
 refine Zc hS (fun h4 hS => ?_) (fun h4 hS => ?_)
 ·
  refine Zq (Zr ?_)
  refine Zy ?_
  cases hS
  exact VC.ret (iU (.inr rfl) rfl rfl .nil rfl rfl (by (try dsimp only); exact dQ.out) (fun _ _=>trivial))
 refine Zk ?_
 refine Zq (Zr ?_)
 refine Zm ?_
 refine Zu (o3 Tryz.underlying131 (fun _ h=>by cases h) rfl) ?_
 refine Zy ?_
 cases hS
 exact VC.ret (iU (.inr rfl) rfl rfl (Er.no oG) rfl rfl (by (try dsimp only); exact dQ.out) (fun _ _=>trivial))
theorem aBt (eL:dI) (j7:Nat) (a_1:bN) {r:Bool} (hS:Sh.I7 eL a_1=some r) :
 Ct Tryz.prog 229 [.agg #[str eL.name,i64 eL.cB],ptr j7 0] (Cells j7 0 [str a_1]) (Ow.emp) (X:=Unit) (fun _ => .bool r) (fun _=>True) (fun _=>Mo.tt) (fun _=>Ow.emp):=by
 refine Zo Tryz.func229 Tryz.ntmps229 fun c => ?_
 unfold Sh.I7 at hS
 refine Zq (Zr ?_)
 refine VL.box (cs:=[str eL.name,i64 eL.cB]) rfl rfl (by decide) fun nA => ?_
 refine Zy ?_
 refine Zq (Zr ?_)
 refine Zu (aB AM rfl) ?_
 refine Zu (aI cD rfl rfl) ?_
 refine Zu (FL cD rfl rfl) ?_
 refine Zy ?_
 cases hS
 exact Ze
theorem wM (aD:Sv dI) (fT:Nat) (fO:bN) {r:Int} (hS:Sh.jN aD.l fO=some r) :
 Ct Tryz.prog 228 [aD.val,.func (.func 229) #[] #[ptr fT 0]] (aD.ok.and (Cells fT 0 [str fO])) (Ow.emp) (X:=Unit) (fun _=>i64 r) (fun _=>True) (fun _=>Mo.tt) (fun _=>Ow.emp):=by
 refine Zo Tryz.func228 Tryz.ntmps228 fun c => ?_
 unfold Sh.jN at hS
 refine Zq (Zr ?_)
 refine Zy ?_
 refine Zq (Zq (Zr ?_))
 refine Zm ?_
 refine Zu (fH (s:=aD) Tryz.underlying52 rfl) ?_
 refine Zy ?_
 refine Zb ?_
 refine VC.iter (S:=Int) (fun (fJ:Int)=>fJ) (fun (fJ:Int)=>[(0,aD.val),(1,.func (.func 229) #[] #[ptr fT 0]),(7,i64 (aD.l.length:Int)),(8,i64 fJ)]) (fun (fJ:Int)=>Mo.tt) (fun (fJ:Int)=>Ow.emp) 0 [0,1,7,8] hS rfl ?_
 clear hS
 rintro fJ m1 y1 hS hK1
 refine Zq (Zr ?_)
 refine Zu (dA rfl rfl) ?_
 refine Zl ?_
 refine Zq ?_
 refine Zc hS (fun h9 hS => ?_) (fun h9 hS => ?_)
 ·
  refine Zk ?_
  refine Zq (Zb (Zq (Zr ?_)))
  refine Zy ?_
  refine Zq (Zr ?_)
  refine Zy ?_
  obtain ⟨lF,tH,sX,hS⟩:=eW hS
  refine Zu (dH (s:=aD) Tryz.underlying52 uL rfl rfl tH (bC tH sX)) ?_
  refine Zu (jL (s:=aD) G3 rfl rfl sX) ?_
  obtain ⟨uC,FU,hS⟩:=bF hS
  refine Zu (K4 (vs:=[.agg #[str lF.name,i64 lF.cB]]) (caps:=[ptr fT 0]) (aBt lF fT fO FU) rfl rfl (fun _ _=>rfl)) ?_
  refine Zl ?_
  refine VC.keep (ρ':=[(0,aD.val),(1,.func (.func 229) #[] #[ptr fT 0]),(7,i64 (aD.l.length:Int)),(8,i64 fJ),(5,i64 fJ),(16,.bool uC)]) [0,1,7,8,5,16] rfl ?_
  refine mT hS (fun h16 hS => ?_) (fun h16 hS => ?_)
  ·
   refine Zq (Zr ?_)
   refine Zy ?_
   replace hS:=fF hS hK1
   cases hS
   exact Ze
  refine Zk ?_
  refine Zr ?_
  obtain ⟨b18,hS⟩:=bQ hS
  refine Zu (dZ rfl rfl b18) ?_
  refine Zm ?_
  refine VL.kE (fJ+1) [0,1,7,8] (fun _ _ h=>h) (go2 hS hK1) rfl
 replace hS:=fF hS hK1
 refine Zx ?_
 refine Zq (Zr ?_)
 refine Zy ?_
 cases hS
 exact Ze
theorem aFm (eV:Sv dI) (QX:bN) {r:Int} (hS:Sh.LB eV.l QX=some r) :
 Ct Tryz.prog 183 [eV.val,str QX] eV.ok (Ow.emp) (X:=Unit) (fun _=>i64 r) (fun _=>True) (fun _=>Mo.tt) (fun _=>Ow.emp):=by
 refine Zo Tryz.func183 Tryz.ntmps183 fun c => ?_
 unfold Sh.LB at hS
 refine Zq (Zr ?_)
 refine VL.box (cs:=[str QX]) rfl rfl (by decide) fun qQ => ?_
 refine Zy ?_
 refine Zq (Zr ?_)
 refine Zm ?_
 refine Zu (tK rfl) ?_
 obtain ⟨oF,CZ,hS⟩:=bF hS
 refine Zu (sK (wM eV qQ QX CZ) rfl (fun _ _=>rfl)) ?_
 refine Zy ?_
 refine Zq (Zq (Zr ?_))
 refine Zm ?_
 refine Zu (dA rfl rfl) ?_
 refine Zl ?_
 refine Zc hS (fun h10 hS => ?_) (fun h10 hS => ?_)
 ·
  refine Zq (Zr ?_)
  refine Zy ?_
  cases hS
  exact Ze
 refine Zk ?_
 refine Zq (Zr ?_)
 refine Zy ?_
 obtain ⟨kL,wX,tG,hS⟩:=eW hS
 refine Zu (dH (s:=eV) Tryz.underlying52 uL rfl rfl wX (bC wX tG)) ?_
 refine Zu (aB KF rfl) ?_
 refine Zu (jK (s:=eV) cN rfl tG rfl) ?_
 refine Zy ?_
 refine VC.keep (ρ':=[(4,i64 kL.cB)]) [4] rfl ?_
 cases hS
 exact Ze
theorem aBu (aD:fY) {r:Int} (hS:Sh.A6 aD.pl=some r) :
 Ct Tryz.prog 101 [.agg (cC aD).toArray] (aD.cJ.ok.and (aD.bV.ok.and (aD.bB.ok.and (aD.bW.ok.and (aD.cG.ok.and (aD.bX.ok.and (aD.cH.ok.and (aD.bL.ok.and (aD.aK.ok.and (aD.gC.ok.and aD.fA.ok)))))))))) (Ow.emp) (X:=Unit) (fun _=>i64 r) (fun _=>True) (fun _=>Mo.tt) (fun _=>Ow.emp):=by
 refine Zo Tryz.func101 Tryz.ntmps101 fun c => ?_
 unfold Sh.A6 at hS
 refine Zq (Zr ?_)
 refine VL.box (cs:=(cC aD)) rfl rfl (by decide) fun cM => ?_
 refine Zy ?_
 refine Zq (Zr ?_)
 refine Zu (aB mF rfl) ?_
 refine Zu (aB jU rfl) ?_
 refine Zu (sL (j:=3) (n:=2) IM rfl rfl rfl) ?_
 refine VL.alloc (cs:=[str [],i64 0]) (by kernel_rfl) (by decide) fun eZ => ?_
 refine Zv (vc:=[str aD.aR,i64 aD.bA]) (cs':=[str aD.aR,i64 aD.bA]) rfl aAr ?_
 refine Zl ?_
 refine Zq (Zb ?_)
 refine VC.j0 (S:=Bool) (fun (ZG:Bool)=>ZG) (fun (ZG:Bool)=>[(1,ptr cM 0),(3,ptr eZ 0),(7,.bool ZG)]) (fun (ZG:Bool)=>Mo.tt) (fun (ZG:Bool)=>Ow.star (bT eZ [str aD.aR,i64 aD.bA] 54) (Ow.star (bT cM (cC aD) 93) (Ow.emp))) hS ?_ ?_
 ·
  clear hS
  intro k4 hS
  refine Zr ?_
  refine Zu (aB lD rfl) ?_
  refine Zu (aI cD rfl rfl) ?_
  refine Zy ?_
  refine jJ 11 hS (fun h11 hS => ?_) (fun h11 hS => ?_)
  ·
   refine Zh (gZ jS rfl rfl) ?_
   refine Zh (aB nK rfl) ?_
   refine Zh (aI cN rfl rfl) ?_
   obtain ⟨aC7,aV8,hS⟩:=bF hS
   refine Zh (cZ (JM aD aD.bA aV8) rfl (fun _ _=>rfl)) ?_
   refine Zh (oS rfl) ?_
   refine Zy ?_
   refine VL.mt (!aC7) [1,3,7] (fun _ _ h=>h) hS rfl
  refine VL.runs 7 [(7,some false)] (by kernel_rfl) ?_
  refine VL.mt false [1,3,7] (fun _ _ h=>h) hS rfl
 clear hS
 rintro ZG hS
 refine mT hS (fun h7 hS => ?_) (fun h7 hS => ?_)
 ·
  refine Zq (Zr ?_)
  refine Zy ?_
  cases hS
  exact Ze
 refine Zq (Zr ?_)
 refine Zu (aB lD rfl) ?_
 refine Zu (aI cD rfl rfl) ?_
 refine Zy ?_
 refine Zc hS (fun h18 hS => ?_) (fun h18 hS => ?_)
 ·
  refine Zq (Zr ?_)
  refine Zy ?_
  cases hS
  exact Ze
 refine Zq (Zr ?_)
 refine Zu (aB lD rfl) ?_
 refine Zu (aI cD rfl rfl) ?_
 obtain ⟨S8,aEn,hS⟩:=bF hS
 refine Zu (cZ (OM aD.aR aEn) rfl (fun _ _=>rfl)) ?_
 refine Zu (oS rfl) ?_
 refine Zy ?_
 refine VC.keep (ρ':=[(1,ptr cM 0),(3,ptr eZ 0),(22,.bool (!S8))]) [1,3,22] rfl ?_
 refine mT hS (fun h22 hS => ?_) (fun h22 hS => ?_)
 ·
  refine Zq (Zr ?_)
  refine Zy ?_
  cases hS
  exact Ze
 refine Zq ?_
 refine VC.draw ((List.range 10).map fun k=>(k,true)) mixed (by kernel_rfl) (by kernel_rfl) (by kernel_rfl) ?_
 refine Zw rfl (aB nK rfl) ?_
 refine Zw rfl (aI cN rfl rfl) ?_
 refine Zw rfl (aB mF rfl) ?_
 refine Zw rfl (aB lK rfl) ?_
 refine Zw rfl (aI qS rfl rfl) ?_
 refine Zw rfl (aB lD rfl) ?_
 refine Zw rfl (aI cD rfl rfl) ?_
 obtain ⟨aDB,aWO,hS⟩:=bF hS
 refine Zw rfl (cZ (aFm aD.bB aD.aR aWO) rfl (fun _ _=>rfl)) ?_
 refine Zw rfl (mC rfl rfl) ?_
 refine Zw rfl (iG rfl) ?_
 refine VD.to (fun _ _ h=>h) ?_
 refine VC.keep (ρ':=[(27,.bool (!decide (aD.bA=aDB)))]) [27] rfl ?_
 refine uH hS (fun h27 hS => ?_) (fun h27 hS => ?_)
 ·
  refine Zq (Zr ?_)
  refine Zy ?_
  cases hS
  exact Ze
 refine Zk ?_
 refine Zq (Zr ?_)
 refine Zy ?_
 cases hS
 exact Ze
theorem JI (aD:Sv Int) {r:List Int} (hS:Sh.pX aD.l=some r) :
 Ct Tryz.prog 89 [aD.val] aD.ok (Ow.emp) (X:=Sv Int) (fun x=>x.val) (fun x=>r=x.l) (fun x=>Mo.tt) (fun x=>Sv.own x 3):=by
 refine Zo Tryz.func89 Tryz.ntmps89 fun c => ?_
 unfold Sh.pX at hS
 refine Zq (Zr ?_)
 refine Zy ?_
 refine Zq (Zq (Zr ?_))
 refine Zm ?_
 refine Zu (aJF (s:=aD) Tryz.underlying32 rfl) ?_
 refine Zl ?_
 refine VC.slnil (s:=aD) rfl (fun h4 => ?_) ?_
 ·
  have hS:(some [])=some r:=by
    simp [lt,gd,h4] at hS ⊢
    try exact hS
  refine Zq (Zr ?_)
  refine Zy ?_
  refine VC.qU (⟨none,0,[]⟩:Sv Int) 3 ⟨rfl,rfl⟩ ?_
  cases hS
  exact VC.ret (iU (.inr rfl) rfl rfl ⟨none,0,[]⟩ rfl rfl (by (try dsimp only); exact dQ.out) (by (try dsimp only); exact fL.out))
 refine Zk ?_
 refine Zq (Zr ?_)
 refine VL.aZA (α:=Int) Tryz.underlying32 aZk (by decide) (fun aJT aAz aFH => ?_)
 refine VL.qU aJT 3 ⟨aFH,aAz⟩ ?_
 replace hS:=dL aAz hS
 refine Zm ?_
 obtain ⟨b7,hS⟩:=bQ hS
 refine VL.app (s:=aJT) (r:=aD) Tryz.underlying32 aZi (by decide) rfl Fo.out (CW b7) (CX b7 (by decide)) (by decide) (fun aUR aJv => ?_)
 replace hS:=dL aJv hS
 refine Zy ?_
 cases hS
 exact VC.ret (iU (.inr rfl) rfl rfl aUR rfl rfl (by (try dsimp only); exact dQ.out) (by (try dsimp only); exact fL.out))
end Go.Proofs.YthbccdlpalenlaaGreatDoor
end

section
set_option linter.unusedVariables false
namespace Go.Proofs.YthbccdlpalenlaaGreatDoor
set_option maxHeartbeats 4000000
set_option maxRecDepth 100000
set_option synthInstance.maxSize 2000
set_option synthInstance.maxHeartbeats 1000000
open Go.RowKit Go.V
open Go.S hiding bN
theorem K7 (aD:Sv Int) {r:List Int} (hS:Sh.qM aD.l=some r) :
 Ct Tryz.prog 88 [aD.val] aD.ok (Ow.emp) (X:=Sv Int) (fun x=>x.val) (fun x=>r=x.l) (fun x=>x.ok) (fun x=>Ow.emp):=by
 refine Zo Tryz.func88 Tryz.ntmps88 fun c => ?_
 unfold Sh.qM at hS
 refine Zq (Zr ?_)
 refine Zy ?_
 refine Zq (Zr ?_)
 refine Zy ?_
 refine Zu (fH (s:=aD) Tryz.underlying32 rfl) ?_
 refine Zm ?_
 refine Zu (fH (s:=aD) Tryz.underlying32 rfl) ?_
 obtain ⟨b8,hS⟩:=bQ hS
 refine VL.RW Tryz.underlying32 FI rfl rfl rfl b8.1 (b8.2) (by decide) fun BZ vQ => ?_
 replace hS:=dL vQ hS
 refine Zy ?_
 cases hS
 exact VC.ret (iU (.inr rfl) rfl rfl BZ rfl rfl (by (try dsimp only); exact dQ.out) (fun _ _=>trivial))
theorem CP (aD:Sv (Sv Int)) {r:List (List Int)} (hS:Sh.l5 (aD.l.map Sv.l)=some r) :
 Ct Tryz.prog 90 [aD.val] aD.ok (Ow.emp) (X:=Sv (Sv Int)) (fun x=>x.val) (fun x=>r=(x.l.map Sv.l)) (fun x=>x.ok) (fun x=>Ow.emp):=by
 refine Zo Tryz.func90 Tryz.ntmps90 fun c => ?_
 unfold Sh.l5 at hS
 refine Zq (Zr ?_)
 refine Zy ?_
 refine Zq (Zr ?_)
 refine Zy ?_
 refine Zu (iT Sv.l (s:=aD) Tryz.underlying107 rfl) ?_
 refine Zm ?_
 refine Zu (iT Sv.l (s:=aD) Tryz.underlying107 rfl) ?_
 obtain ⟨b8,hS⟩:=bQ hS
 refine VL.RW Tryz.underlying107 MD rfl rfl rfl b8.1 (aKB b8.2) (by decide) fun BZ vQ => ?_
 replace hS:=dL ((congrArg (List.map Sv.l) vQ).trans List.map_take) hS
 refine Zy ?_
 cases hS
 exact VC.ret (iU (.inr rfl) rfl rfl BZ rfl rfl (by (try dsimp only); exact dQ.out) (fun _ _=>trivial))
theorem ZQ (aD:fY) {r:List (List Int)} (hS:Sh.CB aD.pl=some r) :
 Ct Tryz.prog 35 [.agg (cC aD).toArray] (aD.cJ.ok.and (aD.bV.ok.and (aD.bB.ok.and (aD.bW.ok.and (aD.cG.ok.and (aD.bX.ok.and (aD.cH.ok.and (aD.bL.ok.and (aD.aK.ok.and (aD.gC.ok.and aD.fA.ok)))))))))) (Ow.emp) (X:=Sv (Sv Int)) (fun x=>x.val) (fun x=>r=(x.l.map Sv.l)) (fun x=>x.ok) (fun x=>Ow.emp):=by
 refine Zo Tryz.func35 Tryz.ntmps35 fun c => ?_
 unfold Sh.CB at hS
 refine Zq (Zr ?_)
 refine VL.box (cs:=(cC aD)) rfl rfl (by decide) fun cM => ?_
 refine Zy ?_
 refine Zq (Zr ?_)
 refine Zy ?_
 refine Zq (Zq (Zr ?_))
 refine Zu (aB sG rfl) ?_
 refine Zu (aI qT rfl rfl) ?_
 refine Zu (iT cL.pl (s:=aD.aK) Tryz.underlying68 rfl) ?_
 refine Zy ?_
 refine Zb ?_
 refine VC.qU (⟨none,0,[]⟩:Sv (Sv Int)) 32 ⟨rfl,rfl⟩ ?_
 refine VC.G9 (s:=(⟨none,0,[]⟩:Sv (Sv Int))) rfl ?_
 refine VC.iter (S:=Sv (Sv Int)×Int) (fun sg=>((sg.1.l.map Sv.l),sg.2)) (fun sg=>[(3,sg.1.val),(7,aD.aK.val),(8,i64 ((aD.aK.l.map cL.pl).length:Int)),(9,i64 sg.2)]) (fun sg=>(wL sg.1.l)) (fun sg=>Ow.star (bT cM (cC aD) 93) (Ow.star (Sv.own sg.1 32) (Ow.emp))) (⟨none,0,[]⟩,0) [3,7,8,9] hS rfl ?_
 clear hS
 rintro ⟨I4,aCH⟩ m1 y1 hS hK1
 refine Zq (Zr ?_)
 refine Zu (dA rfl rfl) ?_
 refine Zl ?_
 refine Zq ?_
 refine Zc hS (fun h10 hS => ?_) (fun h10 hS => ?_)
 ·
  refine Zk ?_
  refine Zq (Zb (Zq (Zr ?_)))
  obtain ⟨rS,VB,QS,hS⟩:=kQ hS
  refine VL.deep rS.m QS (fun _ q=>q) ?_
  refine Zu (dH (s:=aD.aK) Tryz.underlying68 pQ rfl rfl VB (bC VB QS)) ?_
  refine Zu (jL (s:=aD.aK) xF rfl rfl QS) ?_
  refine VL.alloc (cs:=[.slice none 0 0,.slice none 0 0,i64 0,str []]) (by kernel_rfl) (by decide) fun aPs => ?_
  refine Zv (vc:=[rS.tree.val,rS.parents.val,i64 rS.time,str rS.text]) (cs':=[rS.tree.val,rS.parents.val,i64 rS.time,str rS.text]) rfl pQ ?_
  refine Zl ?_
  refine Zr ?_
  refine Zm ?_
  refine Zu (aB C1 rfl) ?_
  refine Zu (aI tF rfl rfl) ?_
  obtain ⟨FF,aEi,hS⟩:=bF hS
  refine VL.cT (JI rS.parents aEi) rfl (by decide) ?_
  rintro VQ rfl
  try dsimp only
  refine VL.shut VQ 3 (fun _ _ _ _=>trivial) ?_
  obtain ⟨QB,TW,hS⟩:=bF hS
  refine VL.gI (K7 VQ TW) rfl (by decide) ?_
  rintro HK rfl
  try dsimp only
  refine VL.lit (α:=Sv Int) (xs:=[.tmp 17]) (vs:=[HK.val]) [HK] Tryz.underlying107 aL5 (by decide) rfl rfl rfl rfl (by decide) (fun h m=>List.forall_mem_cons.2 ⟨dQ.out (X:=HK.ok) h m,fun _ h=>by cases h⟩) (by decide) (fun a04 aWp => ?_) (by decide)
  replace hS:=dL (congrArg (List.map Sv.l) aWp) hS
  obtain ⟨b19,hS⟩:=bQ hS
  refine VL.app (s:=I4) (r:=a04) Tryz.underlying107 aL1 (by decide) rfl Fo.out (CW (TH b19)) (CX (TH b19) (by decide)) (by decide) (fun aMe aHg => ?_)
  replace hS:=dL ((congrArg (List.map Sv.l) aHg).trans List.map_append) hS
  refine VL.SU aHg ?_
  refine Zy ?_
  refine VC.keep (ρ':=[(3,aMe.val),(7,aD.aK.val),(8,i64 ((aD.aK.l.map cL.pl).length:Int)),(9,i64 aCH)]) [3,7,8,9] rfl ?_
  refine Zr ?_
  obtain ⟨b20,hS⟩:=bQ hS
  refine Zu (dZ rfl rfl b20) ?_
  refine Zm ?_
  refine VL.kE (aMe,(aCH+1)) [3,7,8,9] (fun _ _ h=>h) (go2 hS hK1) rfl
 replace hS:=fF hS hK1
 refine Zx ?_
 refine Zq (Zr ?_)
 refine Zm ?_
 refine VL.shut I4 32 (fun h m=>dQ.out (X:=wL I4.l) h m) ?_
 obtain ⟨aMt,aQW,hS⟩:=bF hS
 refine VL.gI (CP I4 aQW) rfl (by decide) ?_
 rintro aPE rfl
 try dsimp only
 refine Zy ?_
 cases hS
 exact VC.ret (iU (.inr rfl) rfl rfl aPE rfl rfl (by (try dsimp only); exact dQ.out) (fun _ _=>trivial))
theorem UC (bO:Int) (j7:Nat) (a_1:Int) {r:Bool} (hS:Sh.xK bO a_1=some r) :
 Ct Tryz.prog 255 [i64 bO,ptr j7 0] (Cells j7 0 [i64 a_1]) (Ow.emp) (X:=Unit) (fun _ => .bool r) (fun _=>True) (fun _=>Mo.tt) (fun _=>Ow.emp):=by
 refine Zo Tryz.func255 Tryz.ntmps255 fun c => ?_
 unfold Sh.xK at hS
 refine Zq (Zr ?_)
 refine Zy ?_
 refine Zq (Zr ?_)
 refine Zm ?_
 refine Zu (dA rfl rfl) ?_
 refine Zm ?_
 refine jJ 6 hS (fun h6 hS => ?_) (fun h6 hS => ?_)
 ·
  refine VL.runs 5 [(3,some true)] (by kernel_rfl) ?_
  refine Zl ?_
  cases hS
  exact Ze
 refine Zg ?_
 refine Zh (FL cN rfl rfl) ?_
 refine Zh (rQ rfl rfl) ?_
 refine Zy ?_
 cases hS
 exact Ze
theorem E9 (aD:Sv Int) (fT:Nat) (fO:Int) {r:Int} (hS:Sh.nP aD.l fO=some r) :
 Ct Tryz.prog 278 [aD.val,.func (.func 255) #[] #[ptr fT 0]] (aD.ok.and (Cells fT 0 [i64 fO])) (Ow.emp) (X:=Unit) (fun _=>i64 r) (fun _=>True) (fun _=>Mo.tt) (fun _=>Ow.emp):=by
 refine Zo Tryz.func278 Tryz.ntmps278 fun c => ?_
 unfold Sh.nP at hS
 refine Zq (Zr ?_)
 refine Zy ?_
 refine Zq (Zq (Zr ?_))
 refine Zm ?_
 refine Zu (fH (s:=aD) Tryz.underlying32 rfl) ?_
 refine Zy ?_
 refine Zb ?_
 refine VC.iter (S:=Int) (fun (fJ:Int)=>fJ) (fun (fJ:Int)=>[(0,aD.val),(1,.func (.func 255) #[] #[ptr fT 0]),(7,i64 (aD.l.length:Int)),(8,i64 fJ)]) (fun (fJ:Int)=>Mo.tt) (fun (fJ:Int)=>Ow.emp) 0 [0,1,7,8] hS rfl ?_
 clear hS
 rintro fJ m1 y1 hS hK1
 refine Zq (Zr ?_)
 refine Zu (dA rfl rfl) ?_
 refine Zl ?_
 refine Zq ?_
 refine Zc hS (fun h9 hS => ?_) (fun h9 hS => ?_)
 ·
  refine Zk ?_
  refine Zq (Zb (Zq (Zr ?_)))
  refine Zy ?_
  refine Zq (Zr ?_)
  refine Zy ?_
  obtain ⟨lF,tH,sX,hS⟩:=eW hS
  refine Zu (dH (s:=aD) Tryz.underlying32 FI rfl rfl tH (bC tH sX)) ?_
  refine Zu (qW (s:=aD) cN rfl sX rfl) ?_
  obtain ⟨uC,FU,hS⟩:=bF hS
  refine Zu (K4 (vs:=[i64 lF]) (caps:=[ptr fT 0]) (UC lF fT fO FU) rfl rfl (fun _ _=>rfl)) ?_
  refine Zl ?_
  refine VC.keep (ρ':=[(0,aD.val),(1,.func (.func 255) #[] #[ptr fT 0]),(7,i64 (aD.l.length:Int)),(8,i64 fJ),(5,i64 fJ),(16,.bool uC)]) [0,1,7,8,5,16] rfl ?_
  refine mT hS (fun h16 hS => ?_) (fun h16 hS => ?_)
  ·
   refine Zq (Zr ?_)
   refine Zy ?_
   replace hS:=fF hS hK1
   cases hS
   exact Ze
  refine Zk ?_
  refine Zr ?_
  obtain ⟨b18,hS⟩:=bQ hS
  refine Zu (dZ rfl rfl b18) ?_
  refine Zm ?_
  refine VL.kE (fJ+1) [0,1,7,8] (fun _ _ h=>h) (go2 hS hK1) rfl
 replace hS:=fF hS hK1
 refine Zx ?_
 refine Zq (Zr ?_)
 refine Zy ?_
 cases hS
 exact Ze
theorem CR (aD:Sv Int) (fT:Nat) (fO:Int) {r:Bool} (hS:Sh.l6 aD.l fO=some r) :
 Ct Tryz.prog 254 [aD.val,.func (.func 255) #[] #[ptr fT 0]] (aD.ok.and (Cells fT 0 [i64 fO])) (Ow.emp) (X:=Unit) (fun _ => .bool r) (fun _=>True) (fun _=>Mo.tt) (fun _=>Ow.emp):=by
 refine Zo Tryz.func254 Tryz.ntmps254 fun c => ?_
 unfold Sh.l6 at hS
 refine Zq (Zr ?_)
 refine Zy ?_
 refine Zq (Zr ?_)
 refine Zy ?_
 obtain ⟨lT,oH,hS⟩:=bF hS
 refine Zu (sK (E9 aD fT fO oH) rfl (fun _ _=>rfl)) ?_
 refine Zu (rQ rfl rfl) ?_
 refine Zy ?_
 cases hS
 exact Ze
theorem ZK (Y9:Int) (l_1:Sv Int) {r:Int} (hS:Sh.BI Y9 l_1.l=some r) :
 Ct Tryz.prog 230 [i64 Y9,l_1.val] l_1.ok (Ow.emp) (X:=Unit) (fun _=>i64 r) (fun _=>True) (fun _=>Mo.tt) (fun _=>Ow.emp):=by
 refine Zo Tryz.func230 Tryz.ntmps230 fun c => ?_
 unfold Sh.BI at hS
 refine Zq (Zr ?_)
 refine VL.box (cs:=[i64 Y9]) rfl rfl (by decide) fun nA => ?_
 refine Zy ?_
 refine Zq ?_
 refine VC.j0 (S:=Bool) (fun (PK:Bool)=>PK) (fun (PK:Bool)=>[(1,l_1.val),(12,.bool PK)]) (fun (PK:Bool)=>Mo.tt) (fun (PK:Bool)=>Ow.star (bT nA [i64 Y9] 3) (Ow.emp)) hS ?_ ?_
 ·
  clear hS
  intro k3 hS
  refine Zr ?_
  refine Zm ?_
  refine Zu (fH (s:=l_1) Tryz.underlying32 rfl) ?_
  refine Zu (gQ rfl rfl) ?_
  refine Zm ?_
  refine jJ 8 hS (fun h8 hS => ?_) (fun h8 hS => ?_)
  ·
   refine VL.runs 4 [(12,some true)] (by kernel_rfl) ?_
   refine VL.mt true [1,12] (fun _ _ h=>h) hS rfl
  refine Zg ?_
  refine Zh (tK rfl) ?_
  obtain ⟨aK7,aV2,hS⟩:=bF hS
  refine Zh (sK (CR l_1 nA Y9 aV2) rfl (fun _ _=>rfl)) ?_
  refine Zf ?_
  refine VL.mt aK7 [1,12] (fun _ _ h=>h) hS rfl
 clear hS
 rintro PK hS
 refine mT hS (fun h12 hS => ?_) (fun h12 hS => ?_)
 ·
  refine Zq (Zr ?_)
  refine Zy ?_
  cases hS
  exact Ze
 refine Zk ?_
 refine Zq ?_
 refine VC.j0 (S:=Bool) (fun (PU:Bool)=>PU) (fun (PU:Bool)=>[(24,.bool PU)]) (fun (PU:Bool)=>Mo.tt) (fun (PU:Bool)=>Ow.star (bT nA [i64 Y9] 3) (Ow.emp)) hS ?_ ?_
 ·
  clear hS
  intro k6 hS
  refine VC.draw ((List.range 12).map fun k=>(k,true)) mixed (by kernel_rfl) (by kernel_rfl) (by kernel_rfl) ?_
  refine Zw rfl (bI rfl) ?_
  refine Zw rfl (fH (s:=l_1) Tryz.underlying32 rfl) ?_
  refine Zw rfl (gJ rfl rfl) ?_
  refine Zw rfl (bI rfl) ?_
  refine VD.mY 16 rfl (fun h16 => ?_) (fun h16 => ?_)
  ·
   replace hS:=wW h16 hS
   refine Zi rfl (bI rfl) ?_
   obtain ⟨aKz,aMH,aLh,hS⟩:=eW hS
   refine Zi rfl (dH (s:=l_1) Tryz.underlying32 FI rfl rfl aMH (bC aMH aLh)) ?_
   refine Zi rfl (qW (s:=l_1) cN rfl aLh rfl) ?_
   refine Zi rfl (bI rfl) ?_
   obtain ⟨aLB,aMK,aLj,hS⟩:=eW hS
   refine Zi rfl (dH (s:=l_1) Tryz.underlying32 FI rfl rfl aMK (bC aMK aLj)) ?_
   refine Zi rfl (qW (s:=l_1) cN rfl aLj rfl) ?_
   refine Zi rfl (gJ rfl rfl) ?_
   refine Zw rfl (fB rfl rfl) ?_
   refine VD.mt (decide (aKz=aLB)) [24] (fun _ _ h=>h) hS rfl
  replace hS:=BK h16 hS
  refine Zd ?_
  refine Zd ?_
  refine Zd ?_
  refine Zd ?_
  refine Zd ?_
  refine Zd ?_
  refine Zd ?_
  refine Zw rfl (fE rfl rfl) ?_
  refine VD.mt false [24] (fun _ _ h=>h) hS rfl
 clear hS
 rintro PU hS
 refine mT hS (fun h24 hS => ?_) (fun h24 hS => ?_)
 ·
  refine Zq (Zr ?_)
  refine Zy ?_
  cases hS
  exact Ze
 refine Zk ?_
 refine Zq (Zr ?_)
 refine Zy ?_
 cases hS
 exact Ze
theorem NR (oL:Sv (Sv Int)) {r:Int} (hS:Sh.sH (oL.l.map Sv.l)=some r) :
 Ct Tryz.prog 184 [oL.val] oL.ok (Ow.emp) (X:=Unit) (fun _=>i64 r) (fun _=>True) (fun _=>Mo.tt) (fun _=>Ow.emp):=by
 refine Zo Tryz.func184 Tryz.ntmps184 fun c => ?_
 unfold Sh.sH at hS
 refine Zq (Zr ?_)
 refine Zy ?_
 refine Zq (Zq (Zr ?_))
 refine Zm ?_
 refine Zu (iT Sv.l (s:=oL) Tryz.underlying107 rfl) ?_
 refine Zu (gQ rfl rfl) ?_
 refine Zl ?_
 refine Zc hS (fun h8 hS => ?_) (fun h8 hS => ?_)
 ·
  refine Zq (Zr ?_)
  refine Zy ?_
  cases hS
  exact Ze
 refine Zk ?_
 refine Zq (Zq (Zr ?_))
 refine Zm ?_
 refine Zu (iT Sv.l (s:=oL) Tryz.underlying107 rfl) ?_
 refine Zy ?_
 refine Zb ?_
 refine VC.iter (S:=Int) (fun (zI:Int)=>zI) (fun (zI:Int)=>[(9,oL.val),(10,i64 ((oL.l.map Sv.l).length:Int)),(11,i64 zI)]) (fun (zI:Int)=>Mo.tt) (fun (zI:Int)=>Ow.emp) 0 [9,10,11] hS rfl ?_
 clear hS
 rintro zI m1 y1 hS hK1
 refine Zq (Zr ?_)
 refine Zu (dA rfl rfl) ?_
 refine Zl ?_
 refine Zq ?_
 refine Zc hS (fun h12 hS => ?_) (fun h12 hS => ?_)
 ·
  refine Zk ?_
  refine Zq (Zb (Zq (Zr ?_)))
  refine Zm ?_
  obtain ⟨lF,tH,sX,hS⟩:=kQ hS
  refine VL.deep lF.ok sX (fun _ q=>q) ?_
  refine Zu (dH (s:=oL) Tryz.underlying107 MD rfl rfl tH (bC tH sX)) ?_
  refine Zu (qW (s:=oL) tF rfl sX rfl) ?_
  refine Zy ?_
  refine Zq (Zr ?_)
  refine Zm ?_
  obtain ⟨b17,hS⟩:=bQ hS
  refine Zu (dZ rfl rfl b17) ?_
  refine Zm ?_
  obtain ⟨s7,TY,hS⟩:=bF hS
  refine Zu (cZ (ZK (zI+1) lF TY) rfl (fun _ _=>rfl)) ?_
  refine Zy ?_
  refine VC.keep (ρ':=[(9,oL.val),(10,i64 ((oL.l.map Sv.l).length:Int)),(11,i64 zI),(5,i64 s7)]) [9,10,11,5] rfl ?_
  refine Zq (Zr ?_)
  refine Zm ?_
  refine Zu (mC rfl rfl) ?_
  refine Zl ?_
  refine uH hS (fun h21 hS => ?_) (fun h21 hS => ?_)
  ·
   refine Zq (Zr ?_)
   refine Zy ?_
   replace hS:=fF hS hK1
   cases hS
   exact Ze
  refine Zk ?_
  refine Zr ?_
  obtain ⟨b23,hS⟩:=bQ hS
  refine Zu (dZ rfl rfl b23) ?_
  refine Zm ?_
  refine VL.kE (zI+1) [9,10,11] (fun _ _ h=>h) (go2 hS hK1) rfl
 replace hS:=fF hS hK1
 refine Zx ?_
 refine Zq (Zr ?_)
 refine Zy ?_
 cases hS
 exact Ze
theorem WD (aD:fY) {r:jR} (hS:Sh.vC aD.pl=some r) :
 Ct Tryz.prog 102 [.agg (cC aD).toArray] (aD.cJ.ok.and (aD.bV.ok.and (aD.bB.ok.and (aD.bW.ok.and (aD.cG.ok.and (aD.bX.ok.and (aD.cH.ok.and (aD.bL.ok.and (aD.aK.ok.and (aD.gC.ok.and aD.fA.ok)))))))))) (Ow.emp) (X:=Er) (fun x=>x.val) (fun x=>r=x.pl) (fun x=>x.ok) (fun x=>Ow.emp):=by
 refine Zo Tryz.func102 Tryz.ntmps102 fun c => ?_
 unfold Sh.vC at hS
 refine Zq (Zr ?_)
 refine VL.box (cs:=(cC aD)) rfl rfl (by decide) fun cM => ?_
 refine Zy ?_
 refine Zq (Zq (Zr ?_))
 refine Zu (gZ jS rfl rfl) ?_
 obtain ⟨oF,CZ,hS⟩:=bF hS
 refine VL.gI (ZQ aD CZ) rfl (by decide) ?_
 rintro sZ rfl
 try dsimp only
 obtain ⟨yI,MA,hS⟩:=bF hS
 refine Zu (cZ (NR sZ MA) rfl (fun _ _=>rfl)) ?_
 refine Zy ?_
 refine Zq (Zr ?_)
 refine Zm ?_
 refine Zu (mC rfl rfl) ?_
 refine Zl ?_
 refine uH hS (fun h11 hS => ?_) (fun h11 hS => ?_)
 ·
  refine Zq (Zr ?_)
  refine Zm ?_
  refine Zu (o3 Tryz.underlying131 (fun _ h=>by cases h) rfl) ?_
  refine Zy ?_
  refine VC.keep (ρ':=[(2,(Er.no yI).val)]) [2] rfl ?_
  cases hS
  exact VC.ret (iU (.inr rfl) rfl rfl (Er.no yI) rfl rfl (by (try dsimp only); exact dQ.out) (fun _ _=>trivial))
 refine Zk ?_
 refine Zq (Zq (Zr ?_))
 refine Zu (aB sG rfl) ?_
 refine Zu (aI qT rfl rfl) ?_
 refine Zu (iT cL.pl (s:=aD.aK) Tryz.underlying68 rfl) ?_
 refine Zy ?_
 refine VC.keep (ρ':=[(15,aD.aK.val),(16,i64 ((aD.aK.l.map cL.pl).length:Int)),(17,i64 0)]) [15,16,17] rfl ?_
 refine Zb ?_
 refine VC.iter (S:=Int) (fun (n7:Int)=>n7) (fun (n7:Int)=>[(15,aD.aK.val),(16,i64 ((aD.aK.l.map cL.pl).length:Int)),(17,i64 n7)]) (fun (n7:Int)=>Mo.tt) (fun (n7:Int)=>Ow.star (bT cM (cC aD) 93) (Ow.emp)) 0 [15,16,17] hS rfl ?_
 clear hS
 rintro n7 m1 y1 hS hK1
 refine Zq (Zr ?_)
 refine Zu (dA rfl rfl) ?_
 refine Zl ?_
 refine Zq ?_
 refine Zc hS (fun h18 hS => ?_) (fun h18 hS => ?_)
 ·
  refine Zk ?_
  refine Zq (Zb (Zq (Zr ?_)))
  obtain ⟨vY,aMI,aFS,hS⟩:=kQ hS
  refine VL.deep vY.m aFS (fun _ q=>q) ?_
  refine Zu (dH (s:=aD.aK) Tryz.underlying68 pQ rfl rfl aMI (bC aMI aFS)) ?_
  refine Zu (jL (s:=aD.aK) xF rfl rfl aFS) ?_
  refine VL.alloc (cs:=[.slice none 0 0,.slice none 0 0,i64 0,str []]) (by kernel_rfl) (by decide) fun aLQ => ?_
  refine Zv (vc:=[vY.tree.val,vY.parents.val,i64 vY.time,str vY.text]) (cs':=[vY.tree.val,vY.parents.val,i64 vY.time,str vY.text]) rfl pQ ?_
  refine Zl ?_
  refine Zq (Zq (Zr ?_))
  refine Zu (aB GH rfl) ?_
  refine Zu (aI iQ rfl rfl) ?_
  obtain ⟨DQ,T5,hS⟩:=bF hS
  refine VL.gI (uJ vY.tree T5) rfl (by decide) ?_
  rintro HL rfl
  try dsimp only
  refine Zy ?_
  refine Zq (Zr ?_)
  refine Zm ?_
  refine Zu (z8 Tryz.underlying26 rfl) ?_
  refine Zl ?_
  refine VC.keep (ρ':=[(15,aD.aK.val),(16,i64 ((aD.aK.l.map cL.pl).length:Int)),(17,i64 n7),(5,ptr aLQ 0),(6,HL.val),(25,.bool (!decide (HL.pl.isNil=true)))]) [15,16,17,5,6,25] rfl ?_
  refine uH hS (fun h25 hS => ?_) (fun h25 hS => ?_)
  ·
   refine Zq (Zr ?_)
   refine Zy ?_
   replace hS:=fF hS hK1
   cases hS
   exact VC.ret (iU (.inr rfl) rfl rfl HL rfl rfl (by (try dsimp only); exact dQ.out) (fun _ _=>trivial))
  refine Zk ?_
  refine Zq (Zq (Zr ?_))
  refine Zu (aB KC rfl) ?_
  refine Zu (aI cN rfl rfl) ?_
  refine Zu (dA rfl rfl) ?_
  refine Zl ?_
  refine Zc hS (fun h29 hS => ?_) (fun h29 hS => ?_)
  ·
   refine Zq (Zr ?_)
   refine Zu (o3 Tryz.underlying131 (fun _ h=>by cases h) rfl) ?_
   refine Zy ?_
   refine VC.keep (ρ':=[(2,(Er.no 1).val)]) [2] rfl ?_
   replace hS:=fF hS hK1
   cases hS
   exact VC.ret (iU (.inr rfl) rfl rfl (Er.no 1) rfl rfl (by (try dsimp only); exact dQ.out) (fun _ _=>trivial))
  refine Zk ?_
  refine Zq (Zr ?_)
  refine Zu (aB yN rfl) ?_
  refine Zu (aI cD rfl rfl) ?_
  refine Zu (iH Tryz.underlying9 rfl) ?_
  refine Zu (gQ rfl rfl) ?_
  refine Zl ?_
  refine VC.keep (ρ':=[(15,aD.aK.val),(16,i64 ((aD.aK.l.map cL.pl).length:Int)),(17,i64 n7),(34,.bool (decide (256 < (vY.text.length:Int))))]) [15,16,17,34] rfl ?_
  refine Zc hS (fun h34 hS => ?_) (fun h34 hS => ?_)
  ·
   refine Zq (Zr ?_)
   refine Zu (o3 Tryz.underlying131 (fun _ h=>by cases h) rfl) ?_
   refine Zy ?_
   replace hS:=fF hS hK1
   cases hS
   exact VC.ret (iU (.inr rfl) rfl rfl (Er.no 4) rfl rfl (by (try dsimp only); exact dQ.out) (fun _ _=>trivial))
  refine Zk ?_
  refine Zr ?_
  obtain ⟨b36,hS⟩:=bQ hS
  refine Zu (dZ rfl rfl b36) ?_
  refine Zm ?_
  refine VL.kE (n7+1) [15,16,17] (fun _ _ h=>h) (go2 hS hK1) rfl
 replace hS:=fF hS hK1
 refine Zx ?_
 refine Zq (Zr ?_)
 refine Zy ?_
 cases hS
 exact VC.ret (iU (.inr rfl) rfl rfl .nil rfl rfl (by (try dsimp only); exact dQ.out) (fun _ _=>trivial))
theorem ZR (aD:fY) {r:jR} (hS:Sh.y4 aD.pl=some r) :
 Ct Tryz.prog 103 [.agg (cC aD).toArray] (aD.cJ.ok.and (aD.bV.ok.and (aD.bB.ok.and (aD.bW.ok.and (aD.cG.ok.and (aD.bX.ok.and (aD.cH.ok.and (aD.bL.ok.and (aD.aK.ok.and (aD.gC.ok.and aD.fA.ok)))))))))) (Ow.emp) (X:=Er) (fun x=>x.val) (fun x=>r=x.pl) (fun x=>x.ok) (fun x=>Ow.emp):=by
 refine Zo Tryz.func103 Tryz.ntmps103 fun c => ?_
 unfold Sh.y4 at hS
 refine Zq (Zr ?_)
 refine VL.box (cs:=(cC aD)) rfl rfl (by decide) fun cM => ?_
 refine Zy ?_
 refine Zq (Zq (Zr ?_))
 refine Zu (aB mF rfl) ?_
 refine Zu (aB j8 rfl) ?_
 refine Zu (aI nD rfl rfl) ?_
 refine Zu (iT bR.pl (s:=aD.bL) Tryz.underlying59 rfl) ?_
 refine Zy ?_
 refine Zb ?_
 refine VC.iter (S:=Int) (fun (lA:Int)=>lA) (fun (lA:Int)=>[(1,ptr cM 0),(9,aD.bL.val),(10,i64 ((aD.bL.l.map bR.pl).length:Int)),(11,i64 lA)]) (fun (lA:Int)=>Mo.tt) (fun (lA:Int)=>Ow.star (bT cM (cC aD) 93) (Ow.emp)) 0 [1,9,10,11] hS rfl ?_
 clear hS
 rintro lA m1 y1 hS hK1
 refine Zq (Zr ?_)
 refine Zu (dA rfl rfl) ?_
 refine Zl ?_
 refine Zq ?_
 refine Zc hS (fun h12 hS => ?_) (fun h12 hS => ?_)
 ·
  refine Zk ?_
  refine Zq (Zb (Zq (Zr ?_)))
  obtain ⟨kL,wX,tG,hS⟩:=kQ hS
  refine VL.deep kL.m tG (fun _ q=>q) ?_
  refine Zu (dH (s:=aD.bL) Tryz.underlying59 pR rfl rfl wX (bC wX tG)) ?_
  refine Zu (jL (s:=aD.bL) G1 rfl rfl tG) ?_
  refine VL.alloc (cs:=[i64 0,.slice none 0 0,.slice none 0 0,str []]) (by kernel_rfl) (by decide) fun aD0 => ?_
  refine Zv (vc:=[i64 kL.base,kL.index.val,kL.work.val,str kL.text]) (cs':=[i64 kL.base,kL.index.val,kL.work.val,str kL.text]) rfl pR ?_
  refine Zl ?_
  refine Zq (Zq (Zr ?_))
  refine Zu (gZ jS rfl rfl) ?_
  refine Zu (aB C3 rfl) ?_
  refine Zu (aI cN rfl rfl) ?_
  obtain ⟨aCn,aVh,hS⟩:=bF hS
  refine Zu (cZ (JM aD kL.base aVh) rfl (fun _ _=>rfl)) ?_
  refine Zu (oS rfl) ?_
  refine Zl ?_
  refine VC.keep (ρ':=[(1,ptr cM 0),(9,aD.bL.val),(10,i64 ((aD.bL.l.map bR.pl).length:Int)),(11,i64 lA),(4,ptr aD0 0),(19,.bool (!aCn))]) [1,9,10,11,4,19] rfl ?_
  refine mT hS (fun h19 hS => ?_) (fun h19 hS => ?_)
  ·
   refine Zq (Zr ?_)
   refine Zu (o3 Tryz.underlying131 (fun _ h=>by cases h) rfl) ?_
   refine Zy ?_
   replace hS:=fF hS hK1
   cases hS
   exact VC.ret (iU (.inr rfl) rfl rfl (Er.no 1) rfl rfl (by (try dsimp only); exact dQ.out) (fun _ _=>trivial))
  refine Zk ?_
  refine Zq (Zq (Zr ?_))
  refine Zu (aB GI rfl) ?_
  refine Zu (aI iQ rfl rfl) ?_
  obtain ⟨zM,T4,hS⟩:=bF hS
  refine VL.gI (uJ kL.index T4) rfl (by decide) ?_
  rintro u9 rfl
  try dsimp only
  refine Zy ?_
  refine Zq (Zr ?_)
  refine Zm ?_
  refine Zu (z8 Tryz.underlying26 rfl) ?_
  refine Zl ?_
  refine uH hS (fun h25 hS => ?_) (fun h25 hS => ?_)
  ·
   refine Zq (Zr ?_)
   refine Zy ?_
   refine VC.keep (ρ':=[(2,u9.val)]) [2] rfl ?_
   replace hS:=fF hS hK1
   cases hS
   exact VC.ret (iU (.inr rfl) rfl rfl u9 rfl rfl (by (try dsimp only); exact dQ.out) (fun _ _=>trivial))
  refine Zk ?_
  refine VC.keep (ρ':=[(1,ptr cM 0),(9,aD.bL.val),(10,i64 ((aD.bL.l.map bR.pl).length:Int)),(11,i64 lA),(4,ptr aD0 0)]) [1,9,10,11,4] rfl ?_
  refine Zq (Zr ?_)
  refine Zu (aB C4 rfl) ?_
  refine Zu (aI iQ rfl rfl) ?_
  obtain ⟨Y1,aWG,hS⟩:=bF hS
  refine VL.gI (uJ kL.work aWG) rfl (by decide) ?_
  rintro aJC rfl
  try dsimp only
  refine Zy ?_
  refine Zq (Zr ?_)
  refine Zm ?_
  refine Zu (z8 Tryz.underlying26 rfl) ?_
  refine Zl ?_
  refine uH hS (fun h31 hS => ?_) (fun h31 hS => ?_)
  ·
   refine Zq (Zr ?_)
   refine Zy ?_
   refine VC.keep (ρ':=[(2,aJC.val)]) [2] rfl ?_
   replace hS:=fF hS hK1
   cases hS
   exact VC.ret (iU (.inr rfl) rfl rfl aJC rfl rfl (by (try dsimp only); exact dQ.out) (fun _ _=>trivial))
  refine Zk ?_
  refine VC.keep (ρ':=[(1,ptr cM 0),(9,aD.bL.val),(10,i64 ((aD.bL.l.map bR.pl).length:Int)),(11,i64 lA)]) [1,9,10,11] rfl ?_
  refine Zr ?_
  obtain ⟨b33,hS⟩:=bQ hS
  refine Zu (dZ rfl rfl b33) ?_
  refine Zm ?_
  refine VL.kE (lA+1) [1,9,10,11] (fun _ _ h=>h) (go2 hS hK1) rfl
 replace hS:=fF hS hK1
 refine Zx ?_
 refine Zq (Zr ?_)
 refine Zy ?_
 cases hS
 exact VC.ret (iU (.inr rfl) rfl rfl .nil rfl rfl (by (try dsimp only); exact dQ.out) (fun _ _=>trivial))
theorem aXV [aDZ] (l:List Er):(l.map Er.val).map (fun v=>v.cells.toList)=l.map cS.enc:=by
 rw [List.map_map]
 exact List.map_congr_left fun e _=>by cases e <;> rfl
theorem NO (aD:fY) {r:jR} (hS:Sh.yZ aD.pl=some r) :
 Ct Tryz.prog 40 [.agg (cC aD).toArray] (aD.cJ.ok.and (aD.bV.ok.and (aD.bB.ok.and (aD.bW.ok.and (aD.cG.ok.and (aD.bX.ok.and (aD.cH.ok.and (aD.bL.ok.and (aD.aK.ok.and (aD.gC.ok.and aD.fA.ok)))))))))) (Ow.emp) (X:=Er) (fun x=>x.val) (fun x=>r=x.pl) (fun x=>x.ok) (fun x=>Ow.emp):=by
 refine Zo Tryz.func40 Tryz.ntmps40 fun c => ?_
 unfold Sh.yZ at hS
 refine Zq (Zr ?_)
 refine VL.box (cs:=(cC aD)) rfl rfl (by decide) fun cM => ?_
 refine Zy ?_
 refine Zq (Zr ?_)
 refine Zy ?_
 refine VC.j0 (S:=Int) (fun (CI:Int)=>CI) (fun (CI:Int)=>[(1,ptr cM 0),(3,i64 CI)]) (fun (CI:Int)=>Mo.tt) (fun (CI:Int)=>Ow.star (bT cM (cC aD) 93) (Ow.emp)) hS ?_ ?_
 ·
  clear hS
  intro k3 hS
  refine Zq (Zr ?_)
  refine Zu (aB zS rfl) ?_
  refine Zu (aI cN rfl rfl) ?_
  refine Zu (dA rfl rfl) ?_
  refine Zl ?_
  refine Zc hS (fun h8 hS => ?_) (fun h8 hS => ?_)
  ·
   refine Zr ?_
   refine Za ?_
   refine VL.mt 1 [1,3] (fun _ _ h=>h) hS rfl
  refine VC.qL 0 [1,3] (fun _ _ h=>h) hS rfl
 clear hS
 rintro CI hS
 refine Zq (Zq ?_)
 refine VC.draw [(0,true),(1,true),(2,true),(4,true),(5,true),(6,true),(8,true),(11,true),(14,true),(16,true),(18,true),(22,true),(3,false),(7,false),(9,true),(10,false),(12,true),(13,false),(15,false),(17,false),(19,false),(20,false),(21,true)] mixed (by kernel_rfl) (by kernel_rfl) (by kernel_rfl) ?_
 refine Zw rfl (aB mF rfl) ?_
 refine Zw rfl (aB EJ rfl) ?_
 refine Zw rfl (aI iQ rfl rfl) ?_
 refine Zw rfl (aB mF rfl) ?_
 refine Zw rfl (aB zQ rfl) ?_
 refine Zw rfl (aI lW rfl rfl) ?_
 refine Zw rfl (gZ jS rfl rfl) ?_
 refine Zw rfl (gZ jS rfl rfl) ?_
 refine Zw rfl (gZ jS rfl rfl) ?_
 refine Zw rfl (gZ jS rfl rfl) ?_
 refine Zw rfl (bI rfl) ?_
 refine Zw rfl (bI rfl) ?_
 refine VD.one rfl ?_
 obtain ⟨FD,TS,hS⟩:=bF hS
 refine VL.gI (uJ aD.cJ TS) rfl (by decide) ?_
 rintro qI rfl
 try dsimp only
 refine VL.back (D':=[(16,.agg (cC aD).toArray),(14,.agg (cC aD).toArray),(11,.agg (cC aD).toArray),(8,.agg (cC aD).toArray),(6,aD.bV.val),(5,ptr cM 1),(4,ptr cM 0)]) (by kernel_rfl) (aF.cons rfl (gZ jS rfl rfl) (aF.cons rfl (gZ jS rfl rfl) (aF.cons rfl (gZ jS rfl rfl) (aF.cons rfl (gZ jS rfl rfl) (aF.cons rfl (aI lW rfl rfl) (aF.cons rfl (aB zQ rfl) (aF.cons rfl (aB mF rfl) (aF.nil)))))))) ?_
 refine VD.one rfl ?_
 obtain ⟨QA,aEh,hS⟩:=bF hS
 refine VL.gI (ZL aD.bV aEh) rfl (by decide) ?_
 rintro VP rfl
 try dsimp only
 refine VL.back (D':=[(16,.agg (cC aD).toArray),(14,.agg (cC aD).toArray),(11,.agg (cC aD).toArray),(8,.agg (cC aD).toArray)]) (by kernel_rfl) (aF.cons rfl (gZ jS rfl rfl) (aF.cons rfl (gZ jS rfl rfl) (aF.cons rfl (gZ jS rfl rfl) (aF.cons rfl (gZ jS rfl rfl) (aF.nil))))) ?_
 obtain ⟨aKd,aVi,hS⟩:=bF hS
 refine Zw rfl (cZ (aBv aD aVi) rfl (fun _ _=>rfl)) ?_
 refine VD.one rfl ?_
 obtain ⟨aUi,aVm,hS⟩:=bF hS
 refine VL.gI (DL aKd aVm) rfl (by decide) ?_
 rintro VS rfl
 try dsimp only
 refine VL.back (D':=[(16,.agg (cC aD).toArray),(14,.agg (cC aD).toArray),(11,.agg (cC aD).toArray)]) (by kernel_rfl) (aF.cons rfl (gZ jS rfl rfl) (aF.cons rfl (gZ jS rfl rfl) (aF.cons rfl (gZ jS rfl rfl) (aF.nil)))) ?_
 obtain ⟨JY,T0,hS⟩:=bF hS
 refine Zw rfl (cZ (aBu aD T0) rfl (fun _ _=>rfl)) ?_
 refine VD.one rfl ?_
 obtain ⟨aUm,aVt,hS⟩:=bF hS
 refine VL.gI (DL JY aVt) rfl (by decide) ?_
 rintro VU rfl
 try dsimp only
 refine VL.back (D':=[(16,.agg (cC aD).toArray),(14,.agg (cC aD).toArray)]) (by kernel_rfl) (aF.cons rfl (gZ jS rfl rfl) (aF.cons rfl (gZ jS rfl rfl) (aF.nil))) ?_
 refine VD.one rfl ?_
 obtain ⟨JA,N2,hS⟩:=bF hS
 refine VL.gI (WD aD N2) rfl (by decide) ?_
 rintro GN rfl
 try dsimp only
 refine VL.back (D':=[(16,.agg (cC aD).toArray)]) (by kernel_rfl) (aF.cons rfl (gZ jS rfl rfl) (aF.nil)) ?_
 refine VD.one rfl ?_
 obtain ⟨aMu,aQX,hS⟩:=bF hS
 refine VL.gI (ZR aD aQX) rfl (by decide) ?_
 rintro Q2 rfl
 try dsimp only
 refine VL.back (D':=[]) (by kernel_rfl) (aF.nil) ?_
 refine VD.one rfl ?_
 obtain ⟨aMv,aQY,hS⟩:=bF hS
 refine VL.gI (DL CI aQY) rfl (by decide) ?_
 rintro Q3 rfl
 try dsimp only
 refine VL.back (D':=[]) (by kernel_rfl) (aF.nil) ?_
 refine VD.one rfl ?_
 refine VL.lit (α:=Er) (xs:=[.tmp 12,.tmp 16,.tmp 19,.tmp 22,.tmp 24,.tmp 26,.tmp 28]) (vs:=[qI.val,VP.val,VS.val,VU.val,GN.val,Q2.val,Q3.val]) [qI,VP,VS,VU,GN,Q2,Q3] Tryz.underlying200 aWa (by decide) rfl rfl (aXV [qI,VP,VS,VU,GN,Q2,Q3]) rfl (by decide) (fun h m=>List.forall_mem_cons.2 ⟨dQ.out (X:=qI.ok) h m,List.forall_mem_cons.2 ⟨dQ.out (X:=VP.ok) h m,List.forall_mem_cons.2 ⟨dQ.out (X:=VS.ok) h m,List.forall_mem_cons.2 ⟨dQ.out (X:=VU.ok) h m,List.forall_mem_cons.2 ⟨dQ.out (X:=GN.ok) h m,List.forall_mem_cons.2 ⟨dQ.out (X:=Q2.ok) h m,List.forall_mem_cons.2 ⟨dQ.out (X:=Q3.ok) h m,fun _ h=>by cases h⟩⟩⟩⟩⟩⟩⟩) (by decide) (fun F5 aSP => ?_) (by decide)
 replace hS:=dL (congrArg (List.map Er.pl) aSP) hS
 refine VL.back (D':=[]) (by kernel_rfl) (aF.nil) ?_
 refine Zw rfl (iT Er.pl (s:=F5) Tryz.underlying200 rfl) ?_
 refine VD.to (fun _ _ h=>h) ?_
 refine VC.keep (ρ':=[(31,i64 0),(29,F5.val),(30,i64 ((F5.l.map Er.pl).length:Int))]) [31,29,30] rfl ?_
 refine Zb ?_
 refine VC.iter (S:=Int) (fun (oD:Int)=>oD) (fun (oD:Int)=>[(29,F5.val),(30,i64 ((F5.l.map Er.pl).length:Int)),(31,i64 oD)]) (fun (oD:Int)=>Mo.tt) (fun (oD:Int)=>Ow.star (bT cM (cC aD) 93) (Ow.emp)) 0 [29,30,31] hS rfl ?_
 clear hS
 rintro oD m1 y1 hS hK1
 refine Zq (Zr ?_)
 refine Zu (dA rfl rfl) ?_
 refine Zl ?_
 refine Zq ?_
 refine Zc hS (fun h32 hS => ?_) (fun h32 hS => ?_)
 ·
  refine Zk ?_
  refine Zq (Zb (Zq (Zr ?_)))
  refine Zm ?_
  obtain ⟨y9,aIT,aBA,hS⟩:=kQ hS
  refine VL.deep y9.ok aBA (fun _ q=>q) ?_
  refine Zu (dH (s:=F5) Tryz.underlying200 aSK rfl rfl aIT (bC aIT aBA)) ?_
  refine Zu (qW (s:=F5) IN rfl aBA rfl) ?_
  refine Zy ?_
  refine Zq (Zr ?_)
  refine Zm ?_
  refine Zu (z8 Tryz.underlying26 rfl) ?_
  refine Zl ?_
  refine uH hS (fun h37 hS => ?_) (fun h37 hS => ?_)
  ·
   refine Zq (Zr ?_)
   refine Zy ?_
   refine Zu (eO (vs:=[(0,str [115,116,97,116,101]),(1,i64 oD),(2,y9.val)]) (cs := #[str [115,116,97,116,101],i64 oD,y9.val]) rfl (by generalize y9=z0; cases z0 <;> kernel_rfl)) ?_
   refine VL.box (cs:=[str [115,116,97,116,101],i64 oD,y9.val]) rfl rfl (by decide) fun aE8 => ?_
   refine VL.YF aE8 ?_
   refine Zu (o3 Tryz.underlying190 (fun _ h=>by cases h) rfl) ?_
   refine Zy ?_
   refine VC.keep (ρ':=[(2,(Er.fault aE8 [115,116,97,116,101] oD y9).val)]) [2] rfl ?_
   replace hS:=fF hS hK1
   cases hS
   exact VC.ret (iU (.inr rfl) rfl rfl (Er.fault aE8 [115,116,97,116,101] oD y9) rfl rfl (by (try dsimp only); exact dQ.out) (fun _ _=>trivial))
  refine Zk ?_
  refine VC.keep (ρ':=[(29,F5.val),(30,i64 ((F5.l.map Er.pl).length:Int)),(31,i64 oD)]) [29,30,31] rfl ?_
  refine Zr ?_
  obtain ⟨b43,hS⟩:=bQ hS
  refine Zu (dZ rfl rfl b43) ?_
  refine Zm ?_
  refine VL.kE (oD+1) [29,30,31] (fun _ _ h=>h) (go2 hS hK1) rfl
 replace hS:=fF hS hK1
 refine Zx ?_
 refine Zq (Zr ?_)
 refine Zy ?_
 cases hS
 exact VC.ret (iU (.inr rfl) rfl rfl .nil rfl rfl (by (try dsimp only); exact dQ.out) (fun _ _=>trivial))
theorem aU0 {A B:Ow} (hB : ∀ {x y:Hp},x.le y→B x→B y) {x z:Hp} (l:x.le z) (h:Ow.star A B x):Ow.star A B z:=by
 obtain ⟨x1,y1,d,rfl,h1,h2⟩:=h
 refine ⟨x1,fun i=>if x1 i=none then z i else none,fun i => ?_,?_,h1,hB ?_ h2⟩
 ·
  by_cases q:x1 i=none
  ·
   exact .inl q
  exact .inr (if_neg q)
 ·
  funext i
  cases q:x1 i with
  | none=>simp [Hp.join,q]
  | some o =>
    have:=l i o (by simp [Hp.join,q])
    simp [Hp.join,q,this]
 intro i o e
 have q:x1 i=none:=by
   rcases d i with q | q
   . exact q
   . rw [q] at e; cases e
 show (if x1 i=none then z i else none)=some o
 rw [if_pos q]
 exact l i o (by simp [Hp.join,q,e])
theorem Bd.up {T e:TypeId} {b:Nat} {l:bN} {x z:Hp} (k:x.le z) (h:Bd T e b l x):Bd T e b l z:=by
 obtain ⟨p,s,h1,h2,h3,h4⟩:=h
 exact ⟨p,s,h1,h2,h3,aU0 (fun k=>Sv.aF7 k) k h4⟩
instance (priority:=800) fL.bdS (E:Ow) {F:Ow} (T e:TypeId) (b:Nat) (l:bN) [i:Fo E (Bd T e b l) F]:fL E (Bd T e b l):=⟨fun e' he=>by
  obtain ⟨x,y,dxy,j,hx,hy⟩:=i.out e' he
  exact Bd.up (T:=T) (e:=e) (b:=b) (l:=l) (by rw [j]; exact Hp.fK x y) hx⟩
theorem aII (s:Sv bN) (sep:bN) (hb:s.l.length≤4294967296∧(Go.S.rP s.l sep).length≤4294967296):Ct Tryz.prog 112 [s.val,str sep] s.ok Ow.emp (X:=Unit) (fun _=>str (Go.S.rP s.l sep)) (fun _=>True) (fun _=>Mo.tt) (fun _=>Ow.emp) :=
  Ct.aTG (GF Tryz.func112 rfl (by kernel_rfl)) fun w h m l=>by
    by_cases hl:s.l=[]
    . have:=Tryz.strings_Join_none s.a s.c ⟨⟨sep⟩⟩ w
      have e1:s.val = .slice s.a 0 s.c:=by unfold Sv.val; rw [hl]; rfl
      rw [e1]
      exact this.mono fun e w' ⟨h1,h2⟩=>⟨by rw [h1,hl]; rfl,h2▸Gr.refl w⟩
    . obtain ⟨h1,_,h3,h4,_⟩:=m
      have ha:=h3 hl
      have hx:(s.l.map fun z=>(⟨⟨z⟩⟩:ByteArray)).map (·.data.toList)=s.l:=by rw [List.map_map]; exact (List.map_congr_left fun z _=>rfl).trans (List.map_id _)
      have hc : ∀ (j:Nat) x,(s.l.map fun z=>(⟨⟨z⟩⟩:ByteArray))[j]? = some x→w.cell? ⟨s.b,s.o+j,none⟩=some (.string x):=fun j x hj=>by
        rw [List.getElem?_map] at hj
        cases hz:s.l[j]? with
        | none=>rw [hz] at hj; cases hj
        | some z =>
          rw [hz] at hj; cases hj
          have:=h4 j z hz 0 (str z) rfl
          have hs:cS.sz bN=1:=rfl
          rw [hs,Nat.mul_one] at this
          exact xC l (by simpa using this)
      have hlt:s.b < w.heap.size:=by
        have h0:0 < s.l.length:=List.length_pos_iff.2 hl
        have:=hc 0 ⟨⟨s.l[0]⟩⟩ (by simp [h0])
        rcases Nat.lt_or_ge s.b w.heap.size with q | q
        . exact q
        . simp [World.cell?,Array.getElem?_eq_none q] at this
      have:=Tryz.strings_Join s.b s.o s.c (s.l.map fun z=>⟨⟨z⟩⟩) ⟨⟨sep⟩⟩ w hc hlt (by rw [List.length_map]; omega) (by rw [List.length_map]; exact h1) (by rw [hx]; have:=hb.2; unfold Go.S.rP at this; show (Lib.join s.l sep).length≤_; omega)
      rw [hx,List.length_map] at this
      have e1:s.val = .slice (some ⟨s.b,s.o,none⟩) s.l.length s.c:=by unfold Sv.val; rw [ha]
      rw [e1]
      exact this.mono fun e w' ⟨h1,h2⟩=>⟨h1,Gr.aPA h2⟩
theorem nH (eV:Sv bN) (j7:Nat) (a_1:bN) {r:bN} (hS:Sh.l9 eV.l a_1=some r) :
 Ct Tryz.prog 110 [eV.val,ptr j7 0] eV.ok (Bd 212 5 j7 a_1) (X:=bN) (fun x => .tuple #[]) (fun x=>r=x) (fun x=>Mo.tt) (fun x=>Bd 212 5 j7 x):=by
 refine Zo Tryz.func110 Tryz.ntmps110 fun c => ?_
 unfold Sh.l9 at hS
 refine Zr ?_
 refine Zm ?_
 obtain ⟨b4,hS⟩:=bQ hS
 obtain ⟨aEY,aJn,hS⟩:=gY hS
 refine Zu (cZ (aII eV [32] b4) rfl (fun _ _=>congrArg str aJn)) ?_
 obtain ⟨b5,hS⟩:=bQ hS
 obtain ⟨RZ,aZ7,hS⟩:=gY hS
 refine Zu (fC rfl rfl b5 aZ7) ?_
 obtain ⟨b6,hS⟩:=bQ hS
 refine VL.cT (ZS j7 a_1 RZ b6) rfl (by decide) ?_
 rintro _ _
 obtain ⟨aLI,aQR,hS⟩:=gY hS
 rw [aQR]
 cases hS
 exact VL.nil (pK (.inl rfl) rfl _ rfl rfl (by (try dsimp only); exact dQ.out) (by (try dsimp only); exact fL.out))
theorem sI (n:Int) (b:Go.S.dV n):Ct Tryz.prog 113 [i64 n] Gl Ow.emp (X:=Unit) (fun _=>str (Go.S.fI n)) (fun _=>True) (fun _=>Mo.tt) (fun _=>Ow.emp) :=
  Ct.aTG (GF Tryz.func113 rfl (by kernel_rfl)) fun w h m l=>(Tryz.strconv_Itoa n b.1 b.2 w (J4.var (by kernel_rfl) (dQ.out (X:=J4 2 _) h m) l)).mono fun e w' ⟨h1,k,os,h2⟩=>⟨by rw [h1,XV b],h2▸Gr.grown w k os⟩
theorem O9 (aD:fY) {r:bN} (hS:Sh.A5 aD.pl=some r) :
 Ct Tryz.prog 42 [.agg (cC aD).toArray] (aD.cJ.ok.and (aD.bV.ok.and (aD.bB.ok.and (aD.bW.ok.and (aD.cG.ok.and (aD.bX.ok.and (aD.cH.ok.and (aD.bL.ok.and (aD.aK.ok.and (aD.gC.ok.and (aD.fA.ok.and Gl))))))))))) (Ow.emp) (X:=Unit) (fun _=>str r) (fun _=>True) (fun _=>Mo.tt) (fun _=>Ow.emp):=by
 refine Zo Tryz.func42 Tryz.ntmps42 fun c => ?_
 unfold Sh.A5 at hS
 refine Zq (Zr ?_)
 refine VL.box (cs:=(cC aD)) rfl rfl (by decide) fun cM => ?_
 refine Zy ?_
 refine Zq (Zr ?_)
 refine VL.alloc (cs:=[.pointer none,.slice none 0 0]) (by kernel_rfl) (by decide) fun eZ => ?_
 refine VL.a13 5 eZ ?_
 refine Zl ?_
 refine Zq (Zr ?_)
 refine Zu (tK rfl) ?_
 refine Zy ?_
 refine Zq (Zr ?_)
 refine Zy ?_
 refine VC.j0 (S:=bN) (fun (LJ:bN)=>LJ) (fun (LJ:bN)=>[(1,ptr cM 0),(3,ptr eZ 0),(4,.func (.func 110) #[] #[ptr eZ 0]),(5,.func (.func 113) #[] #[])]) (fun (LJ:bN)=>Mo.tt) (fun (LJ:bN)=>Ow.star (bT cM (cC aD) 93) (Ow.star (Bd 212 5 eZ LJ) (Ow.emp))) hS ?_ ?_
 ·
  clear hS
  intro k4 hS
  refine Zq (Zr ?_)
  refine Zu (aB mF rfl) ?_
  refine Zu (aB jU rfl) ?_
  refine Zu (aB lD rfl) ?_
  refine Zu (aI cD rfl rfl) ?_
  refine Zu (BX rfl rfl) ?_
  refine Zl ?_
  refine VC.keep (ρ':=[(1,ptr cM 0),(3,ptr eZ 0),(4,.func (.func 110) #[] #[ptr eZ 0]),(5,.func (.func 113) #[] #[]),(23,.bool (!decide (aD.aR=[])))]) [1,3,4,5,23] rfl ?_
  refine uH hS (fun h23 hS => ?_) (fun h23 hS => ?_)
  ·
   refine Zr ?_
   refine Zm ?_
   refine Zu (aB mF rfl) ?_
   refine Zu (aB jU rfl) ?_
   refine Zu (aB lD rfl) ?_
   refine Zu (aI cD rfl rfl) ?_
   refine VL.lit (α:=bN) (xs:=[.const (str [104,101,97,100]),.tmp 28]) (vs:=[str [104,101,97,100],str aD.aR]) [[104,101,97,100],aD.aR] Tryz.underlying89 oZ (by decide) rfl rfl rfl rfl (by decide) (fun _ _ _ _=>trivial) (by decide) (fun aUN aXA => ?_) (by decide)
   replace hS:=dL aXA hS
   obtain ⟨aKm,aWK,hS⟩:=bF hS
   refine VL.uI (vs:=[aUN.val]) (caps:=[ptr eZ 0]) (nH aUN eZ [] aWK) rfl rfl (by decide) ?_
   rintro _ rfl
   try dsimp only
   refine VL.mt aKm [1,3,4,5] (fun _ _ h=>h) hS rfl
  refine Zr ?_
  refine Zy ?_
  refine Zu (aB mF rfl) ?_
  refine Zu (aB jU rfl) ?_
  refine Zu (aB nK rfl) ?_
  refine Zu (aI cN rfl rfl) ?_
  obtain ⟨b37,hS⟩:=bQ hS
  refine Zu (qJ (sI aD.bA b37) rfl rfl (fun _ _=>rfl)) ?_
  obtain ⟨b38,hS⟩:=bQ hS
  obtain ⟨aGN,aWU,hS⟩:=gY hS
  refine Zu (fC rfl rfl b38 aWU) ?_
  refine VL.lit (α:=bN) (xs:=[.const (str [104,101,97,100]),.tmp 38]) (vs:=[str [104,101,97,100],str aGN]) [[104,101,97,100],aGN] Tryz.underlying89 oZ (by decide) rfl rfl rfl rfl (by decide) (fun _ _ _ _=>trivial) (by decide) (fun aUQ aXI => ?_) (by decide)
  replace hS:=dL aXI hS
  obtain ⟨aGP,aQh,hS⟩:=bF hS
  refine VL.uI (vs:=[aUQ.val]) (caps:=[ptr eZ 0]) (nH aUQ eZ [] aQh) rfl rfl (by decide) ?_
  rintro _ rfl
  try dsimp only
  refine VL.mt aGP [1,3,4,5] (fun _ _ h=>h) hS rfl
 clear hS
 rintro LJ hS
 refine Zq (Zq (Zr ?_))
 refine Zu (aB mF rfl) ?_
 refine Zu (aB lK rfl) ?_
 refine Zu (aI qS rfl rfl) ?_
 refine Zu (fH (s:=aD.bB) Tryz.underlying52 rfl) ?_
 refine Zy ?_
 refine Zb ?_
 refine VC.iter (S:=Int×bN) (fun sg=>(sg.1,sg.2)) (fun sg=>[(1,ptr cM 0),(3,ptr eZ 0),(4,.func (.func 110) #[] #[ptr eZ 0]),(5,.func (.func 113) #[] #[]),(43,aD.bB.val),(44,i64 (aD.bB.l.length:Int)),(45,i64 sg.1)]) (fun sg=>Mo.tt) (fun sg=>Ow.star (bT cM (cC aD) 93) (Ow.star (Bd 212 5 eZ sg.2) (Ow.emp))) (0,LJ) [1,3,4,5,43,44,45] hS rfl ?_
 clear hS
 rintro ⟨MZ,LI⟩ m1 y1 hS hK1
 refine Zq (Zr ?_)
 refine Zu (dA rfl rfl) ?_
 refine Zl ?_
 refine Zq ?_
 refine Zc hS (fun h46 hS => ?_) (fun h46 hS => ?_)
 ·
  refine Zk ?_
  refine Zq (Zb (Zq (Zr ?_)))
  obtain ⟨wZ,aI2,aHo,hS⟩:=eW hS
  refine Zu (dH (s:=aD.bB) Tryz.underlying52 uL rfl rfl aI2 (bC aI2 aHo)) ?_
  refine Zu (jL (s:=aD.bB) G3 rfl rfl aHo) ?_
  refine VL.alloc (cs:=[str [],i64 0]) (by kernel_rfl) (by decide) fun aZY => ?_
  refine Zv (vc:=[str wZ.name,i64 wZ.cB]) (cs':=[str wZ.name,i64 wZ.cB]) rfl uL ?_
  refine Zl ?_
  refine VC.draw [(0,true),(1,true),(2,true),(3,true),(4,true),(5,true),(6,false),(7,false),(8,false)] mixed (by kernel_rfl) (by kernel_rfl) (by kernel_rfl) ?_
  refine Zw rfl (bI rfl) ?_
  refine Zw rfl (aB AM rfl) ?_
  refine Zw rfl (aI cD rfl rfl) ?_
  refine Zw rfl (bI rfl) ?_
  refine Zw rfl (aB KF rfl) ?_
  refine Zw rfl (aI cN rfl rfl) ?_
  refine VD.one rfl ?_
  obtain ⟨b55,hS⟩:=bQ hS
  refine Zu (qJ (sI wZ.cB b55) rfl rfl (fun _ _=>rfl)) ?_
  refine VL.back (D':=[(2,str wZ.name),(1,ptr aZY 0)]) (by kernel_rfl) (aF.cons rfl (aI cD rfl rfl) (aF.cons rfl (aB AM rfl) (aF.nil))) ?_
  refine VD.one rfl ?_
  refine VL.lit (α:=bN) (xs:=[.const (str [114,101,102]),.tmp 51,.tmp 55]) (vs:=[str [114,101,102],str wZ.name,str (fI wZ.cB)]) [[114,101,102],wZ.name,(fI wZ.cB)] Tryz.underlying89 oZ (by decide) rfl rfl rfl rfl (by decide) (fun _ _ _ _=>trivial) (by decide) (fun aMh aS3 => ?_) (by decide)
  replace hS:=dL aS3 hS
  refine VL.back (D':=[]) (by kernel_rfl) (aF.nil) ?_
  refine VD.one rfl ?_
  obtain ⟨aGW,aRA,hS⟩:=bF hS
  refine VL.uI (vs:=[aMh.val]) (caps:=[ptr eZ 0]) (nH aMh eZ LI aRA) rfl rfl (by decide) ?_
  rintro _ rfl
  try dsimp only
  refine VL.back (D':=[]) (by kernel_rfl) (aF.nil) ?_
  refine VD.to (fun _ _ h=>h) ?_
  refine VC.keep (ρ':=[(1,ptr cM 0),(3,ptr eZ 0),(4,.func (.func 110) #[] #[ptr eZ 0]),(5,.func (.func 113) #[] #[]),(43,aD.bB.val),(44,i64 (aD.bB.l.length:Int)),(45,i64 MZ)]) [1,3,4,5,43,44,45] rfl ?_
  refine Zr ?_
  obtain ⟨b58,hS⟩:=bQ hS
  refine Zu (dZ rfl rfl b58) ?_
  refine Zm ?_
  refine VL.kE ((MZ+1),aGW) [1,3,4,5,43,44,45] (fun _ _ h=>h) (go2 hS hK1) rfl
 replace hS:=fF hS hK1
 refine Zx ?_
 refine VC.j0 (S:=bN) (fun (FO:bN)=>FO) (fun (FO:bN)=>[(1,ptr cM 0),(3,ptr eZ 0),(4,.func (.func 110) #[] #[ptr eZ 0]),(5,.func (.func 113) #[] #[])]) (fun (FO:bN)=>Mo.tt) (fun (FO:bN)=>Ow.star (bT cM (cC aD) 93) (Ow.star (Bd 212 5 eZ FO) (Ow.emp))) hS ?_ ?_
 ·
  clear hS
  intro k20 hS
  refine Zq (Zr ?_)
  refine Zu (aB mF rfl) ?_
  refine Zu (aB sF rfl) ?_
  refine Zu (aB sE rfl) ?_
  refine Zu (aI cD rfl rfl) ?_
  refine Zu (BX rfl rfl) ?_
  refine Zl ?_
  refine VC.keep (ρ':=[(1,ptr cM 0),(3,ptr eZ 0),(4,.func (.func 110) #[] #[ptr eZ 0]),(5,.func (.func 113) #[] #[]),(63,.bool (!decide (aD.cI=[])))]) [1,3,4,5,63] rfl ?_
  refine uH hS (fun h63 hS => ?_) (fun h63 hS => ?_)
  ·
   refine Zr ?_
   refine Zm ?_
   refine Zu (aB mF rfl) ?_
   refine Zu (aB sF rfl) ?_
   refine Zu (aB sE rfl) ?_
   refine Zu (aI cD rfl rfl) ?_
   refine VL.lit (α:=bN) (xs:=[.const (str [115,101,113]),.tmp 68]) (vs:=[str [115,101,113],str aD.cI]) [[115,101,113],aD.cI] Tryz.underlying89 oZ (by decide) rfl rfl rfl rfl (by decide) (fun _ _ _ _=>trivial) (by decide) (fun aMj aS7 => ?_) (by decide)
   replace hS:=dL aS7 hS
   obtain ⟨aG4,aRO,hS⟩:=bF hS
   refine VL.uI (vs:=[aMj.val]) (caps:=[ptr eZ 0]) (nH aMj eZ LI aRO) rfl rfl (by decide) ?_
   rintro _ rfl
   try dsimp only
   refine VL.mt aG4 [1,3,4,5] (fun _ _ h=>h) hS rfl
  refine VC.qL LI [1,3,4,5] (fun _ _ h=>h) hS rfl
 clear hS
 rintro FO hS
 refine Zq (Zq (Zr ?_))
 refine Zu (aB mF rfl) ?_
 refine Zu (aB EJ rfl) ?_
 refine Zu (aI iQ rfl rfl) ?_
 refine Zu (fH (s:=aD.cJ) Tryz.underlying50 rfl) ?_
 refine Zy ?_
 refine Zb ?_
 refine VC.iter (S:=Int×bN) (fun sg=>(sg.1,sg.2)) (fun sg=>[(1,ptr cM 0),(3,ptr eZ 0),(4,.func (.func 110) #[] #[ptr eZ 0]),(5,.func (.func 113) #[] #[]),(73,aD.cJ.val),(74,i64 (aD.cJ.l.length:Int)),(75,i64 sg.1)]) (fun sg=>Mo.tt) (fun sg=>Ow.star (bT cM (cC aD) 93) (Ow.star (Bd 212 5 eZ sg.2) (Ow.emp))) (0,FO) [1,3,4,5,73,74,75] hS rfl ?_
 clear hS
 rintro ⟨M3,TE⟩ m1 y1 hS hK1
 refine Zq (Zr ?_)
 refine Zu (dA rfl rfl) ?_
 refine Zl ?_
 refine Zq ?_
 refine Zc hS (fun h76 hS => ?_) (fun h76 hS => ?_)
 ·
  refine Zk ?_
  refine Zq (Zb (Zq (Zr ?_)))
  obtain ⟨oQ,aIo,aID,hS⟩:=eW hS
  refine Zu (dH (s:=aD.cJ) Tryz.underlying50 rN rfl rfl aIo (bC aIo aID)) ?_
  refine Zu (jL (s:=aD.cJ) G2 rfl rfl aID) ?_
  refine VL.alloc (cs:=[str [],i64 0,str []]) (by kernel_rfl) (by decide) fun aJd => ?_
  refine Zv (vc:=[str oQ.path,i64 oQ.mode,str oQ.data]) (cs':=[str oQ.path,i64 oQ.mode,str oQ.data]) rfl rN ?_
  refine Zl ?_
  refine VC.draw [(0,true),(1,true),(2,true),(3,true),(4,true),(5,true),(7,true),(8,true),(9,true),(10,true),(6,false),(11,false),(12,false),(13,false)] mixed (by kernel_rfl) (by kernel_rfl) (by kernel_rfl) ?_
  refine Zw rfl (bI rfl) ?_
  refine Zw rfl (aB uV rfl) ?_
  refine Zw rfl (aI cD rfl rfl) ?_
  refine Zw rfl (bI rfl) ?_
  refine Zw rfl (aB KD rfl) ?_
  refine Zw rfl (aI cN rfl rfl) ?_
  refine Zw rfl (bI rfl) ?_
  refine Zw rfl (aB GL rfl) ?_
  refine Zw rfl (aI cD rfl rfl) ?_
  refine Zw rfl (iH Tryz.underlying9 rfl) ?_
  refine VD.one rfl ?_
  obtain ⟨b85,hS⟩:=bQ hS
  refine Zu (qJ (sI oQ.mode b85) rfl rfl (fun _ _=>rfl)) ?_
  refine VL.back (D':=[(10,i64 (oQ.data.length:Int)),(9,str oQ.data),(8,ptr aJd 2),(2,str oQ.path),(1,ptr aJd 0)]) (by kernel_rfl) (aF.cons rfl (iH Tryz.underlying9 rfl) (aF.cons rfl (aI cD rfl rfl) (aF.cons rfl (aB GL rfl) (aF.cons rfl (aI cD rfl rfl) (aF.cons rfl (aB uV rfl) (aF.nil)))))) ?_
  refine VD.one rfl ?_
  obtain ⟨b90,hS⟩:=bQ hS
  refine Zu (qJ (sI (oQ.data.length:Int) b90) rfl rfl (fun _ _=>rfl)) ?_
  refine VL.back (D':=[(2,str oQ.path),(1,ptr aJd 0)]) (by kernel_rfl) (aF.cons rfl (aI cD rfl rfl) (aF.cons rfl (aB uV rfl) (aF.nil))) ?_
  refine VD.one rfl ?_
  refine VL.lit (α:=bN) (xs:=[.const (str [119,111,114,107]),.tmp 81,.tmp 85,.tmp 90]) (vs:=[str [119,111,114,107],str oQ.path,str (fI oQ.mode),str (fI (oQ.data.length:Int))]) [[119,111,114,107],oQ.path,(fI oQ.mode),(fI (oQ.data.length:Int))] Tryz.underlying89 oZ (by decide) rfl rfl rfl rfl (by decide) (fun _ _ _ _=>trivial) (by decide) (fun aMk aSc => ?_) (by decide)
  replace hS:=dL aSc hS
  refine VL.back (D':=[]) (by kernel_rfl) (aF.nil) ?_
  refine VD.one rfl ?_
  obtain ⟨aGf,aR7,hS⟩:=bF hS
  refine VL.uI (vs:=[aMk.val]) (caps:=[ptr eZ 0]) (nH aMk eZ TE aR7) rfl rfl (by decide) ?_
  rintro _ rfl
  try dsimp only
  refine VL.back (D':=[]) (by kernel_rfl) (aF.nil) ?_
  refine VD.to (fun _ _ h=>h) ?_
  refine VC.keep (ρ':=[(1,ptr cM 0),(3,ptr eZ 0),(4,.func (.func 110) #[] #[ptr eZ 0]),(5,.func (.func 113) #[] #[]),(73,aD.cJ.val),(74,i64 (aD.cJ.l.length:Int)),(75,i64 M3)]) [1,3,4,5,73,74,75] rfl ?_
  refine Zr ?_
  obtain ⟨b93,hS⟩:=bQ hS
  refine Zu (dZ rfl rfl b93) ?_
  refine Zm ?_
  refine VL.kE ((M3+1),aGf) [1,3,4,5,73,74,75] (fun _ _ h=>h) (go2 hS hK1) rfl
 replace hS:=fF hS hK1
 refine Zx ?_
 refine Zq (Zq (Zr ?_))
 refine Zu (aB mF rfl) ?_
 refine Zu (aB zQ rfl) ?_
 refine Zu (aI lW rfl rfl) ?_
 refine Zu (fH (s:=aD.bV) Tryz.underlying51 rfl) ?_
 refine Zy ?_
 refine Zb ?_
 refine VC.iter (S:=Int×bN) (fun sg=>(sg.1,sg.2)) (fun sg=>[(1,ptr cM 0),(3,ptr eZ 0),(4,.func (.func 110) #[] #[ptr eZ 0]),(5,.func (.func 113) #[] #[]),(96,aD.bV.val),(97,i64 (aD.bV.l.length:Int)),(98,i64 sg.1)]) (fun sg=>Mo.tt) (fun sg=>Ow.star (bT cM (cC aD) 93) (Ow.star (Bd 212 5 eZ sg.2) (Ow.emp))) (0,TE) [1,3,4,5,96,97,98] hS rfl ?_
 clear hS
 rintro ⟨M4,TF⟩ m1 y1 hS hK1
 refine Zq (Zr ?_)
 refine Zu (dA rfl rfl) ?_
 refine Zl ?_
 refine Zq ?_
 refine Zc hS (fun h99 hS => ?_) (fun h99 hS => ?_)
 ·
  refine Zk ?_
  refine Zq (Zb (Zq (Zr ?_)))
  obtain ⟨iO,aDw,aDm,hS⟩:=eW hS
  refine Zu (dH (s:=aD.bV) Tryz.underlying51 pS rfl rfl aDw (bC aDw aDm)) ?_
  refine Zu (jL (s:=aD.bV) sD rfl rfl aDm) ?_
  refine VL.alloc (cs:=[str [],i64 0,i64 0,str [],i64 0,i64 0]) (by kernel_rfl) (by decide) fun QF => ?_
  refine Zv (vc:=[str iO.path,i64 iO.dJ,i64 iO.mode,str iO.data,i64 iO.time,i64 iO.size]) (cs':=[str iO.path,i64 iO.dJ,i64 iO.mode,str iO.data,i64 iO.time,i64 iO.size]) rfl pS ?_
  refine Zl ?_
  refine VC.draw [(0,true),(1,true),(2,true),(3,true),(4,true),(5,true),(7,true),(8,true),(9,true),(11,true),(12,true),(13,true),(14,true),(6,false),(10,false),(15,false),(16,false),(17,false)] mixed (by kernel_rfl) (by kernel_rfl) (by kernel_rfl) ?_
  refine Zw rfl (bI rfl) ?_
  refine Zw rfl (aB pE rfl) ?_
  refine Zw rfl (aI cD rfl rfl) ?_
  refine Zw rfl (bI rfl) ?_
  refine Zw rfl (aB uW rfl) ?_
  refine Zw rfl (aI cN rfl rfl) ?_
  refine Zw rfl (bI rfl) ?_
  refine Zw rfl (aB AN rfl) ?_
  refine Zw rfl (aI cN rfl rfl) ?_
  refine Zw rfl (bI rfl) ?_
  refine Zw rfl (aB yO rfl) ?_
  refine Zw rfl (aI cD rfl rfl) ?_
  refine Zw rfl (iH Tryz.underlying9 rfl) ?_
  refine VD.one rfl ?_
  obtain ⟨b108,hS⟩:=bQ hS
  refine Zu (qJ (sI iO.dJ b108) rfl rfl (fun _ _=>rfl)) ?_
  refine VL.back (D':=[(14,i64 (iO.data.length:Int)),(13,str iO.data),(12,ptr QF 3),(9,i64 iO.mode),(8,ptr QF 2),(2,str iO.path),(1,ptr QF 0)]) (by kernel_rfl) (aF.cons rfl (iH Tryz.underlying9 rfl) (aF.cons rfl (aI cD rfl rfl) (aF.cons rfl (aB yO rfl) (aF.cons rfl (aI cN rfl rfl) (aF.cons rfl (aB AN rfl) (aF.cons rfl (aI cD rfl rfl) (aF.cons rfl (aB pE rfl) (aF.nil)))))))) ?_
  refine VD.one rfl ?_
  obtain ⟨b112,hS⟩:=bQ hS
  refine Zu (qJ (sI iO.mode b112) rfl rfl (fun _ _=>rfl)) ?_
  refine VL.back (D':=[(14,i64 (iO.data.length:Int)),(13,str iO.data),(12,ptr QF 3),(2,str iO.path),(1,ptr QF 0)]) (by kernel_rfl) (aF.cons rfl (iH Tryz.underlying9 rfl) (aF.cons rfl (aI cD rfl rfl) (aF.cons rfl (aB yO rfl) (aF.cons rfl (aI cD rfl rfl) (aF.cons rfl (aB pE rfl) (aF.nil)))))) ?_
  refine VD.one rfl ?_
  obtain ⟨b117,hS⟩:=bQ hS
  refine Zu (qJ (sI (iO.data.length:Int) b117) rfl rfl (fun _ _=>rfl)) ?_
  refine VL.back (D':=[(2,str iO.path),(1,ptr QF 0)]) (by kernel_rfl) (aF.cons rfl (aI cD rfl rfl) (aF.cons rfl (aB pE rfl) (aF.nil))) ?_
  refine VD.one rfl ?_
  refine VL.lit (α:=bN) (xs:=[.const (str [105,110,100,101,120]),.tmp 104,.tmp 108,.tmp 112,.tmp 117]) (vs:=[str [105,110,100,101,120],str iO.path,str (fI iO.dJ),str (fI iO.mode),str (fI (iO.data.length:Int))]) [[105,110,100,101,120],iO.path,(fI iO.dJ),(fI iO.mode),(fI (iO.data.length:Int))] Tryz.underlying89 oZ (by decide) rfl rfl rfl rfl (by decide) (fun _ _ _ _=>trivial) (by decide) (fun aJM aOp => ?_) (by decide)
  replace hS:=dL aOp hS
  refine VL.back (D':=[]) (by kernel_rfl) (aF.nil) ?_
  refine VD.one rfl ?_
  obtain ⟨aCL,aNo,hS⟩:=bF hS
  refine VL.uI (vs:=[aJM.val]) (caps:=[ptr eZ 0]) (nH aJM eZ TF aNo) rfl rfl (by decide) ?_
  rintro _ rfl
  try dsimp only
  refine VL.back (D':=[]) (by kernel_rfl) (aF.nil) ?_
  refine VD.to (fun _ _ h=>h) ?_
  refine VC.keep (ρ':=[(1,ptr cM 0),(3,ptr eZ 0),(4,.func (.func 110) #[] #[ptr eZ 0]),(5,.func (.func 113) #[] #[]),(96,aD.bV.val),(97,i64 (aD.bV.l.length:Int)),(98,i64 M4)]) [1,3,4,5,96,97,98] rfl ?_
  refine Zr ?_
  obtain ⟨b120,hS⟩:=bQ hS
  refine Zu (dZ rfl rfl b120) ?_
  refine Zm ?_
  refine VL.kE ((M4+1),aCL) [1,3,4,5,96,97,98] (fun _ _ h=>h) (go2 hS hK1) rfl
 replace hS:=fF hS hK1
 refine Zx ?_
 refine Zq (Zq (Zr ?_))
 refine Zu (aB sG rfl) ?_
 refine Zu (aI qT rfl rfl) ?_
 refine Zu (iT cL.pl (s:=aD.aK) Tryz.underlying68 rfl) ?_
 refine Zy ?_
 refine Zb ?_
 refine VC.iter (S:=Int×bN) (fun sg=>(sg.1,sg.2)) (fun sg=>[(1,ptr cM 0),(3,ptr eZ 0),(4,.func (.func 110) #[] #[ptr eZ 0]),(5,.func (.func 113) #[] #[]),(122,aD.aK.val),(123,i64 ((aD.aK.l.map cL.pl).length:Int)),(124,i64 sg.1)]) (fun sg=>Mo.tt) (fun sg=>Ow.star (bT cM (cC aD) 93) (Ow.star (Bd 212 5 eZ sg.2) (Ow.emp))) (0,TF) [1,3,4,5,122,123,124] hS rfl ?_
 clear hS
 rintro ⟨rI,QE⟩ m1 y1 hS hK1
 refine Zq (Zr ?_)
 refine Zu (dA rfl rfl) ?_
 refine Zl ?_
 refine Zq ?_
 refine Zc hS (fun h125 hS => ?_) (fun h125 hS => ?_)
 ·
  refine Zk ?_
  refine Zq (Zb (Zq (Zr ?_)))
  refine Zm ?_
  obtain ⟨jD,aEC,XP,hS⟩:=kQ hS
  refine VL.deep jD.m XP (fun _ q=>q) ?_
  refine Zu (dH (s:=aD.aK) Tryz.underlying68 pQ rfl rfl aEC (bC aEC XP)) ?_
  refine Zu (jL (s:=aD.aK) xF rfl rfl XP) ?_
  refine VL.alloc (cs:=[.slice none 0 0,.slice none 0 0,i64 0,str []]) (by kernel_rfl) (by decide) fun QG => ?_
  refine Za ?_
  refine Zv (vc:=[jD.tree.val,jD.parents.val,i64 jD.time,str jD.text]) (cs':=[jD.tree.val,jD.parents.val,i64 jD.time,str jD.text]) rfl pQ ?_
  refine Zl ?_
  refine Zq (Zr ?_)
  refine Zy ?_
  refine Zq (Zq (Zr ?_))
  refine Zu (aB C1 rfl) ?_
  refine Zu (aI tF rfl rfl) ?_
  refine Zu (fH (s:=jD.parents) Tryz.underlying32 rfl) ?_
  refine Zy ?_
  refine Zb ?_
  refine VC.qU (⟨none,0,[]⟩:Sv bN) 9 ⟨rfl,rfl⟩ ?_
  refine VC.iter (S:=Sv bN×Int) (fun sg=>(sg.1.l,sg.2)) (fun sg=>[(1,ptr cM 0),(3,ptr eZ 0),(4,.func (.func 110) #[] #[ptr eZ 0]),(5,.func (.func 113) #[] #[]),(12,i64 rI),(13,ptr QG 0),(14,sg.1.val),(122,aD.aK.val),(123,i64 ((aD.aK.l.map cL.pl).length:Int)),(124,i64 rI),(130,jD.parents.val),(131,i64 (jD.parents.l.length:Int)),(132,i64 sg.2)]) (fun sg=>Mo.tt) (fun sg=>Ow.star (bT QG [jD.tree.val,jD.parents.val,i64 jD.time,str jD.text] 110) (Ow.star (bT cM (cC aD) 93) (Ow.star (Bd 212 5 eZ QE) (Ow.star (Sv.own sg.1 9) (Ow.emp))))) (⟨none,0,[]⟩,0) [1,3,4,5,12,13,14,122,123,124,130,131,132] hS rfl ?_
  clear hS
  rintro ⟨rT,HY⟩ m2 y2 hS hK2
  refine Zq (Zr ?_)
  refine Zu (dA rfl rfl) ?_
  refine Zl ?_
  refine Zq ?_
  refine Zc hS (fun h133 hS => ?_) (fun h133 hS => ?_)
  ·
   refine Zk ?_
   refine Zq (Zb (Zq (Zr ?_)))
   obtain ⟨LF,aED,aDs,hS⟩:=eW hS
   refine Zu (dH (s:=jD.parents) Tryz.underlying32 FI rfl rfl aED (bC aED aDs)) ?_
   refine Zu (qW (s:=jD.parents) cN rfl aDs rfl) ?_
   refine Zy ?_
   refine Zr ?_
   refine Zy ?_
   obtain ⟨b139,hS⟩:=bQ hS
   refine Zu (qJ (sI LF b139) rfl rfl (fun _ _=>rfl)) ?_
   refine VL.lit (α:=bN) (xs:=[.tmp 139]) (vs:=[str (fI LF)]) [(fI LF)] Tryz.underlying89 oZ (by decide) rfl rfl rfl rfl (by decide) (fun _ _ _ _=>trivial) (by decide) (fun aUK aOq => ?_) (by decide)
   replace hS:=dL aOq hS
   obtain ⟨b141,hS⟩:=bQ hS
   refine VL.app (s:=rT) (r:=aUK) Tryz.underlying89 XH (by decide) rfl Fo.out (CW b141) (CX b141 (by decide)) (by decide) (fun aJN aOr => ?_)
   replace hS:=dL aOr hS
   refine Zy ?_
   refine VC.keep (ρ':=[(1,ptr cM 0),(3,ptr eZ 0),(4,.func (.func 110) #[] #[ptr eZ 0]),(5,.func (.func 113) #[] #[]),(12,i64 rI),(13,ptr QG 0),(14,aJN.val),(122,aD.aK.val),(123,i64 ((aD.aK.l.map cL.pl).length:Int)),(124,i64 rI),(130,jD.parents.val),(131,i64 (jD.parents.l.length:Int)),(132,i64 HY)]) [1,3,4,5,12,13,14,122,123,124,130,131,132] rfl ?_
   refine Zr ?_
   obtain ⟨b142,hS⟩:=bQ hS
   refine Zu (dZ rfl rfl b142) ?_
   refine Zm ?_
   refine VL.kE (aJN,(HY+1)) [1,3,4,5,12,13,14,122,123,124,130,131,132] (fun _ _ h=>h) (go2 hS hK2) rfl
  replace hS:=fF hS hK2
  refine Zx ?_
  refine VC.draw [(0,true),(1,true),(2,true),(3,true),(6,true),(9,true),(10,true),(11,true),(12,true),(15,true),(16,true),(4,false),(5,true),(7,true),(8,true),(13,false),(14,true),(17,false),(18,false)] mixed (by kernel_rfl) (by kernel_rfl) (by kernel_rfl) ?_
  refine Zw rfl (bI rfl) ?_
  refine Zw rfl (bI rfl) ?_
  refine Zw rfl (bI rfl) ?_
  obtain ⟨b146,hS⟩:=bQ hS
  refine Zw rfl (dZ rfl rfl b146) ?_
  refine Zw rfl (bI rfl) ?_
  refine Zw rfl (bI rfl) ?_
  refine Zw rfl (aB GH rfl) ?_
  refine Zw rfl (aI iQ rfl rfl) ?_
  refine Zw rfl (fH (s:=jD.tree) Tryz.underlying50 rfl) ?_
  refine Zw rfl (aB yN rfl) ?_
  refine Zw rfl (aI cD rfl rfl) ?_
  refine VD.one rfl ?_
  obtain ⟨b147,hS⟩:=bQ hS
  refine Zu (qJ (sI (rI+1) b147) rfl rfl (fun _ _=>rfl)) ?_
  refine VL.back (D':=[(16,str jD.text),(15,ptr QG 3),(12,i64 (jD.tree.l.length:Int)),(11,jD.tree.val),(10,ptr QG 0)]) (by kernel_rfl) (aF.cons rfl (aI cD rfl rfl) (aF.cons rfl (aB yN rfl) (aF.cons rfl (fH (s:=jD.tree) Tryz.underlying50 rfl) (aF.cons rfl (aI iQ rfl rfl) (aF.cons rfl (aB GH rfl) (aF.nil)))))) ?_
  obtain ⟨b148,hS⟩:=bQ hS
  obtain ⟨P7,aD3,hS⟩:=gY hS
  refine Zw rfl (fC rfl rfl b148 aD3) ?_
  obtain ⟨b150,hS⟩:=bQ hS
  obtain ⟨aCZ,aOE,hS⟩:=gY hS
  refine Zw rfl (sK (aII rT [32] b150) rfl (fun _ _=>congrArg str aOE)) ?_
  obtain ⟨b151,hS⟩:=bQ hS
  obtain ⟨P8,aD4,hS⟩:=gY hS
  refine Zw rfl (fC rfl rfl b151 aD4) ?_
  refine VD.one rfl ?_
  obtain ⟨b156,hS⟩:=bQ hS
  refine Zu (qJ (sI (jD.tree.l.length:Int) b156) rfl rfl (fun _ _=>rfl)) ?_
  refine VL.back (D':=[(8,str P8),(5,str P7),(16,str jD.text),(15,ptr QG 3)]) (by kernel_rfl) (aF.cons rfl (fC rfl rfl b151 aD4) (aF.cons rfl (fC rfl rfl b148 aD3) (aF.cons rfl (aI cD rfl rfl) (aF.cons rfl (aB yN rfl) (aF.nil))))) ?_
  obtain ⟨b157,hS⟩:=bQ hS
  obtain ⟨WR,aOJ,hS⟩:=gY hS
  refine Zw rfl (fC rfl rfl b157 aOJ) ?_
  refine VD.one rfl ?_
  refine VL.lit (α:=bN) (xs:=[.const (str [99,111,109,109,105,116]),.tmp 148,.tmp 151,.tmp 157,.tmp 159]) (vs:=[str [99,111,109,109,105,116],str P7,str P8,str WR,str jD.text]) [[99,111,109,109,105,116],P7,P8,WR,jD.text] Tryz.underlying89 oZ (by decide) rfl rfl rfl rfl (by decide) (fun _ _ _ _=>trivial) (by decide) (fun aJO aOs => ?_) (by decide)
  replace hS:=dL aOs hS
  refine VL.back (D':=[]) (by kernel_rfl) (aF.nil) ?_
  refine VD.one rfl ?_
  obtain ⟨aC8,aON,hS⟩:=bF hS
  refine VL.uI (vs:=[aJO.val]) (caps:=[ptr eZ 0]) (nH aJO eZ QE aON) rfl rfl (by decide) ?_
  rintro _ rfl
  try dsimp only
  refine VL.back (D':=[]) (by kernel_rfl) (aF.nil) ?_
  refine VD.to (fun _ _ h=>h) ?_
  refine VC.keep (ρ':=[(1,ptr cM 0),(3,ptr eZ 0),(4,.func (.func 110) #[] #[ptr eZ 0]),(5,.func (.func 113) #[] #[]),(122,aD.aK.val),(123,i64 ((aD.aK.l.map cL.pl).length:Int)),(124,i64 rI)]) [1,3,4,5,122,123,124] rfl ?_
  refine Zr ?_
  obtain ⟨b162,hS⟩:=bQ hS
  refine Zu (dZ rfl rfl b162) ?_
  refine Zm ?_
  refine VL.kE ((rI+1),aC8) [1,3,4,5,122,123,124] (fun _ _ h=>h) (go2 hS hK1) rfl
 replace hS:=fF hS hK1
 refine Zx ?_
 refine Zq (Zq (Zr ?_))
 refine Zu (aB mF rfl) ?_
 refine Zu (aB j8 rfl) ?_
 refine Zu (aI nD rfl rfl) ?_
 refine Zu (iT bR.pl (s:=aD.bL) Tryz.underlying59 rfl) ?_
 refine Zy ?_
 refine VC.keep (ρ':=[(1,ptr cM 0),(3,ptr eZ 0),(4,.func (.func 110) #[] #[ptr eZ 0]),(5,.func (.func 113) #[] #[]),(166,i64 ((aD.bL.l.map bR.pl).length:Int)),(167,i64 0)]) [1,3,4,5,166,167] rfl ?_
 refine Zb ?_
 refine VC.iter (S:=Int×bN) (fun sg=>(sg.1,sg.2)) (fun sg=>[(1,ptr cM 0),(3,ptr eZ 0),(4,.func (.func 110) #[] #[ptr eZ 0]),(5,.func (.func 113) #[] #[]),(166,i64 ((aD.bL.l.map bR.pl).length:Int)),(167,i64 sg.1)]) (fun sg=>Mo.tt) (fun sg=>Ow.star (bT cM (cC aD) 93) (Ow.star (Bd 212 5 eZ sg.2) (Ow.emp))) (0,QE) [1,3,4,5,166,167] hS rfl ?_
 clear hS
 rintro ⟨yF,TG⟩ m1 y1 hS hK1
 refine Zq (Zr ?_)
 refine Zu (dA rfl rfl) ?_
 refine Zl ?_
 refine Zq ?_
 refine Zc hS (fun h168 hS => ?_) (fun h168 hS => ?_)
 ·
  refine Zk ?_
  refine Zq (Zb (Zq (Zr ?_)))
  refine Zy ?_
  refine Zr ?_
  refine Zy ?_
  obtain ⟨b173,hS⟩:=bQ hS
  refine Zu (qJ (sI yF b173) rfl rfl (fun _ _=>rfl)) ?_
  refine VL.lit (α:=bN) (xs:=[.const (str [115,116,97,115,104]),.tmp 173]) (vs:=[str [115,116,97,115,104],str (fI yF)]) [[115,116,97,115,104],(fI yF)] Tryz.underlying89 oZ (by decide) rfl rfl rfl rfl (by decide) (fun _ _ _ _=>trivial) (by decide) (fun aJP aOt => ?_) (by decide)
  replace hS:=dL aOt hS
  obtain ⟨aCe,aOV,hS⟩:=bF hS
  refine VL.uI (vs:=[aJP.val]) (caps:=[ptr eZ 0]) (nH aJP eZ TG aOV) rfl rfl (by decide) ?_
  rintro _ rfl
  try dsimp only
  refine Zl ?_
  refine VC.keep (ρ':=[(1,ptr cM 0),(3,ptr eZ 0),(4,.func (.func 110) #[] #[ptr eZ 0]),(5,.func (.func 113) #[] #[]),(166,i64 ((aD.bL.l.map bR.pl).length:Int)),(167,i64 yF)]) [1,3,4,5,166,167] rfl ?_
  refine Zr ?_
  obtain ⟨b176,hS⟩:=bQ hS
  refine Zu (dZ rfl rfl b176) ?_
  refine Zm ?_
  refine VL.kE ((yF+1),aCe) [1,3,4,5,166,167] (fun _ _ h=>h) (go2 hS hK1) rfl
 replace hS:=fF hS hK1
 refine Zx ?_
 refine Zq ?_
 refine VC.draw [(0,true),(1,true),(2,true),(3,true),(4,true),(5,true),(7,true),(8,true),(9,true),(10,true),(11,true),(6,false),(12,false),(13,false),(14,false)] mixed (by kernel_rfl) (by kernel_rfl) (by kernel_rfl) ?_
 refine Zw rfl (bI rfl) ?_
 refine Zw rfl (bI rfl) ?_
 refine Zw rfl (aB nM rfl) ?_
 refine Zw rfl (aB zR rfl) ?_
 refine Zw rfl (aI oC rfl rfl) ?_
 refine Zw rfl (fH (s:=aD.gC) Tryz.underlying89 rfl) ?_
 refine Zw rfl (bI rfl) ?_
 refine Zw rfl (aB nM rfl) ?_
 refine Zw rfl (aB xI rfl) ?_
 refine Zw rfl (aI oC rfl rfl) ?_
 refine Zw rfl (fH (s:=aD.fA) Tryz.underlying89 rfl) ?_
 refine VD.one rfl ?_
 obtain ⟨b183,hS⟩:=bQ hS
 refine Zu (qJ (sI (aD.gC.l.length:Int) b183) rfl rfl (fun _ _=>rfl)) ?_
 refine VL.back (D':=[(11,i64 (aD.fA.l.length:Int)),(10,aD.fA.val),(9,ptr cM 19),(8,ptr cM 18)]) (by kernel_rfl) (aF.cons rfl (fH (s:=aD.fA) Tryz.underlying89 rfl) (aF.cons rfl (aI oC rfl rfl) (aF.cons rfl (aB xI rfl) (aF.cons rfl (aB nM rfl) (aF.nil))))) ?_
 refine VD.one rfl ?_
 obtain ⟨b189,hS⟩:=bQ hS
 refine Zu (qJ (sI (aD.fA.l.length:Int) b189) rfl rfl (fun _ _=>rfl)) ?_
 refine VL.back (D':=[]) (by kernel_rfl) (aF.nil) ?_
 refine VD.one rfl ?_
 refine VL.lit (α:=bN) (xs:=[.const (str [117,110,100,111]),.tmp 183,.const (str [114,101,100,111]),.tmp 189]) (vs:=[str [117,110,100,111],str (fI (aD.gC.l.length:Int)),str [114,101,100,111],str (fI (aD.fA.l.length:Int))]) [[117,110,100,111],(fI (aD.gC.l.length:Int)),[114,101,100,111],(fI (aD.fA.l.length:Int))] Tryz.underlying89 oZ (by decide) rfl rfl rfl rfl (by decide) (fun _ _ _ _=>trivial) (by decide) (fun aJQ aOu => ?_) (by decide)
 replace hS:=dL aOu hS
 refine VL.back (D':=[]) (by kernel_rfl) (aF.nil) ?_
 refine VD.one rfl ?_
 obtain ⟨aCp,aO6,hS⟩:=bF hS
 refine VL.uI (vs:=[aJQ.val]) (caps:=[ptr eZ 0]) (nH aJQ eZ TG aO6) rfl rfl (by decide) ?_
 rintro _ rfl
 try dsimp only
 refine VL.back (D':=[]) (by kernel_rfl) (aF.nil) ?_
 refine VD.to (fun _ _ h=>h) ?_
 refine VC.keep (ρ':=[(3,ptr eZ 0)]) [3] rfl ?_
 refine Zq (Zr ?_)
 refine VL.cT (aKY eZ aCp) rfl (by decide) ?_
 rintro _ _
 refine Zy ?_
 cases hS
 exact Ze
theorem aDN  {r:Bool} (hS:Sh.ML=some r) :
 Ct Tryz.prog 20 [] Gl (Ow.emp) (X:=Unit) (fun _ => .bool r) (fun _=>True) (fun _=>Mo.tt) (fun _=>Ow.emp):=by
 refine Zo Tryz.func20 Tryz.ntmps20 fun c => ?_
 unfold Sh.ML at hS
 refine Zq (Zr ?_)
 refine Zy ?_
 refine Zq (Zr ?_)
 obtain ⟨kK,L1,hS⟩:=bF hS
 refine Zu (cZ (aDY L1) rfl (fun _ _=>rfl)) ?_
 refine VL.alloc (cs:=[.slice none 0 0,.slice none 0 0,.slice none 0 0,str [],i64 0,str [],i64 0,str [],.slice none 0 0,.slice none 0 0,i64 0,str [],str [],i64 0,.slice none 0 0,.slice none 0 0,.slice none 0 0,.slice none 0 0,.slice none 0 0,.slice none 0 0,i64 0]) (by kernel_rfl) (by decide) fun aYv => ?_
 refine Zv (vc:=[.slice none 0 0,.slice none 0 0,.slice none 0 0,str [109,97,105,110],i64 0,str [],i64 0,str [],.slice none 0 0,.slice none 0 0,i64 0,str [],str [],i64 0,.slice none 0 0,.slice none 0 0,.slice none 0 0,.slice none 0 0,.slice none 0 0,.slice none 0 0,i64 0]) (cs':=[.slice none 0 0,.slice none 0 0,.slice none 0 0,str [109,97,105,110],i64 0,str [],i64 0,str [],.slice none 0 0,.slice none 0 0,i64 0,str [],str [],i64 0,.slice none 0 0,.slice none 0 0,.slice none 0 0,.slice none 0 0,.slice none 0 0,.slice none 0 0,i64 0]) rfl G4 ?_
 refine Zl ?_
 refine Zq (Zr ?_)
 refine Zu (aB mF rfl) ?_
 refine Zu (sL (j:=0) (n:=17) oB rfl rfl rfl) ?_
 obtain ⟨FE,aEf,hS⟩:=bF hS
 refine Zu (cZ (CC (⟨⟨none,0,[]⟩,⟨none,0,[]⟩,⟨none,0,[]⟩,[109,97,105,110],0,[],0,[],⟨none,0,[]⟩,⟨none,0,[]⟩,0,[],[],0,⟨none,0,[]⟩,⟨none,0,[]⟩,⟨none,0,[]⟩⟩:eK) aEf) rfl (fun _ _=>rfl)) ?_
 refine Zy ?_
 refine Zq (Zr ?_)
 refine Zm ?_
 obtain ⟨vH,L6,hS⟩:=bF hS
 refine VL.gI (DK FE L6) rfl (by decide) ?_
 rintro ⟨gE,ES⟩ rfl
 try dsimp only
 refine Zm ?_
 refine Zu (gB rfl rfl) ?_
 refine Zu (gB rfl rfl) ?_
 refine VL.alloc (cs:=[.slice none 0 0,.slice none 0 0,.slice none 0 0,str [],i64 0,str [],i64 0,str [],.slice none 0 0,.slice none 0 0,i64 0,str [],str [],i64 0,.slice none 0 0,.slice none 0 0,.slice none 0 0]) (by kernel_rfl) (by decide) fun aLP => ?_
 refine Zv (vc:=[gE.work.val,gE.index.val,gE.refs.val,str gE.aG,i64 gE.aH,str gE.aW,i64 gE.aS,str gE.aV,gE.aN.val,gE.aT.val,i64 gE.aY,str gE.aM,str gE.aC,i64 gE.aE,gE.aO.val,gE.aU.val,gE.bJ.val]) (cs':=[gE.work.val,gE.index.val,gE.refs.val,str gE.aG,i64 gE.aH,str gE.aW,i64 gE.aS,str gE.aV,gE.aN.val,gE.aT.val,i64 gE.aY,str gE.aM,str gE.aC,i64 gE.aE,gE.aO.val,gE.aU.val,gE.bJ.val]) rfl zB ?_
 refine Zy ?_
 refine VC.keep (ρ':=[(1,ptr aYv 0),(2,str FE),(3,ptr aLP 0),(4,ES.val)]) [1,2,3,4] rfl ?_
 refine Zq (Zr ?_)
 refine Zu (gZ jS rfl rfl) ?_
 obtain ⟨aUk,aVr,hS⟩:=bF hS
 refine VL.gI (YL (⟨⟨none,0,[]⟩,⟨none,0,[]⟩,⟨none,0,[]⟩,[109,97,105,110],0,[],0,[],⟨none,0,[]⟩,⟨none,0,[]⟩,0,[],[],0,⟨none,0,[]⟩,⟨none,0,[]⟩,⟨none,0,[]⟩,⟨none,0,[]⟩,⟨none,0,[]⟩,⟨none,0,[]⟩,0⟩:fY) aVr) rfl (by decide) ?_
 rintro aTc rfl
 try dsimp only
 obtain ⟨DQ,T5,hS⟩:=bF hS
 refine VL.gI (YK aTc T5) rfl (by decide) ?_
 rintro ⟨HL,aTd⟩ rfl
 try dsimp only
 refine Zm ?_
 refine Zu (gB rfl rfl) ?_
 refine Zu (gB rfl rfl) ?_
 refine VL.alloc (cs:=[.slice none 0 0,.slice none 0 0,.slice none 0 0,str [],i64 0,str [],i64 0,str [],.slice none 0 0,.slice none 0 0,i64 0,str [],str [],i64 0,.slice none 0 0,.slice none 0 0,.slice none 0 0,.slice none 0 0,.slice none 0 0,.slice none 0 0,i64 0]) (by kernel_rfl) (by decide) fun a1I => ?_
 refine Zv (vc:=(cC HL)) (cs':=(cC HL)) rfl G4 ?_
 refine Zy ?_
 refine Zq (Zr ?_)
 refine Zm ?_
 obtain ⟨b28,hS⟩:=bQ hS
 obtain ⟨S9,aEp,hS⟩:=gY hS
 refine Zu (fC rfl rfl b28 aEp) ?_
 obtain ⟨M9,aA2,hS⟩:=bF hS
 refine VL.gI (DK S9 aA2) rfl (by decide) ?_
 rintro ⟨iF,aPG⟩ rfl
 try dsimp only
 refine Zm ?_
 refine Zu (gB rfl rfl) ?_
 refine Zu (gB rfl rfl) ?_
 refine VL.alloc (cs:=[.slice none 0 0,.slice none 0 0,.slice none 0 0,str [],i64 0,str [],i64 0,str [],.slice none 0 0,.slice none 0 0,i64 0,str [],str [],i64 0,.slice none 0 0,.slice none 0 0,.slice none 0 0]) (by kernel_rfl) (by decide) fun a1d => ?_
 refine Zv (vc:=[iF.work.val,iF.index.val,iF.refs.val,str iF.aG,i64 iF.aH,str iF.aW,i64 iF.aS,str iF.aV,iF.aN.val,iF.aT.val,i64 iF.aY,str iF.aM,str iF.aC,i64 iF.aE,iF.aO.val,iF.aU.val,iF.bJ.val]) (cs':=[iF.work.val,iF.index.val,iF.refs.val,str iF.aG,i64 iF.aH,str iF.aW,i64 iF.aS,str iF.aV,iF.aN.val,iF.aT.val,i64 iF.aY,str iF.aM,str iF.aC,i64 iF.aE,iF.aO.val,iF.aU.val,iF.bJ.val]) rfl zB ?_
 refine Zy ?_
 refine VC.keep (ρ':=[(1,ptr aYv 0),(2,str FE),(3,ptr aLP 0),(4,ES.val),(5,ptr a1I 0),(6,aTd.val),(8,aPG.val)]) [1,2,3,4,5,6,8] rfl ?_
 refine Zq (Zr ?_)
 refine Zu (gZ jS rfl rfl) ?_
 obtain ⟨NA,aA4,hS⟩:=bF hS
 refine VL.gI (YM (⟨⟨none,0,[]⟩,⟨none,0,[]⟩,⟨none,0,[]⟩,[109,97,105,110],0,[],0,[],⟨none,0,[]⟩,⟨none,0,[]⟩,0,[],[],0,⟨none,0,[]⟩,⟨none,0,[]⟩,⟨none,0,[]⟩,⟨none,0,[]⟩,⟨none,0,[]⟩,⟨none,0,[]⟩,0⟩:fY) aA4) rfl (by decide) ?_
 rintro ⟨aPK,a1B⟩ rfl
 try dsimp only
 refine Zm ?_
 refine Zu (gB rfl rfl) ?_
 refine Zu (gB rfl rfl) ?_
 refine Zy ?_
 refine Zq (Zr ?_)
 refine Zm ?_
 refine Zu (vT Tryz.underlying26 rfl) ?_
 refine Zm ?_
 refine jJ 39 hS (fun h39 hS => ?_) (fun h39 hS => ?_)
 ·
  refine Zg ?_
  refine Zh (vT Tryz.underlying26 rfl) ?_
  refine Zy ?_
  refine jJ 43 hS (fun h43 hS => ?_) (fun h43 hS => ?_)
  ·
   refine Zg ?_
   refine Zh (z8 Tryz.underlying26 rfl) ?_
   refine Zy ?_
   refine II 47 hS (fun h47 hS => ?_) (fun h47 hS => ?_)
   ·
    refine Zg ?_
    refine Zh (vT Tryz.underlying26 rfl) ?_
    refine Zy ?_
    refine jJ 51 hS (fun h51 hS => ?_) (fun h51 hS => ?_)
    ·
     refine Zh (aB jU rfl) ?_
     refine Zh (aB lD rfl) ?_
     refine Zh (aI cD rfl rfl) ?_
     refine Zh (sM rfl rfl) ?_
     refine Zy ?_
     refine jJ 57 hS (fun h57 hS => ?_) (fun h57 hS => ?_)
     ·
      refine Zh (gZ oB rfl rfl) ?_
      obtain ⟨aNL,aRC,hS⟩:=bF hS
      refine Zh (cZ (CC gE aRC) rfl (fun _ _=>rfl)) ?_
      refine Zg ?_
      refine Zh (sM rfl rfl) ?_
      refine Zy ?_
      refine jJ 63 hS (fun h63 hS => ?_) (fun h63 hS => ?_)
      ·
       refine Zh (gZ jS rfl rfl) ?_
       refine Zh (gZ jS rfl rfl) ?_
       obtain ⟨aNN,aRL,hS⟩:=bF hS
       refine Zh (cZ (aBs (⟨⟨none,0,[]⟩,⟨none,0,[]⟩,⟨none,0,[]⟩,[109,97,105,110],0,[],0,[],⟨none,0,[]⟩,⟨none,0,[]⟩,0,[],[],0,⟨none,0,[]⟩,⟨none,0,[]⟩,⟨none,0,[]⟩,⟨none,0,[]⟩,⟨none,0,[]⟩,⟨none,0,[]⟩,0⟩:fY) HL aRL) rfl (fun _ _=>rfl)) ?_
       refine Zy ?_
       refine rC 68 hS (fun h68 hS => ?_) (fun h68 hS => ?_)
       ·
        refine Zh (gZ jS rfl rfl) ?_
        refine VL.guard rfl rfl ?_
        obtain ⟨aNO,aRN,hS⟩:=bF hS
        refine VL.gI (NO (⟨⟨none,0,[]⟩,⟨none,0,[]⟩,⟨none,0,[]⟩,[109,97,105,110],0,[],0,[],⟨none,0,[]⟩,⟨none,0,[]⟩,0,[],[],0,⟨none,0,[]⟩,⟨none,0,[]⟩,⟨none,0,[]⟩,⟨none,0,[]⟩,⟨none,0,[]⟩,⟨none,0,[]⟩,0⟩:fY) aRN) rfl (by decide) ?_
        rintro a1C rfl
        try dsimp only
        refine Zh (vT Tryz.underlying26 rfl) ?_
        refine Zy ?_
        refine jJ 73 hS (fun h73 hS => ?_) (fun h73 hS => ?_)
        ·
         refine Zh (gZ jS rfl rfl) ?_
         obtain ⟨Z8,aAe,hS⟩:=bF hS
         refine Zh (cZ (O9 (⟨⟨none,0,[]⟩,⟨none,0,[]⟩,⟨none,0,[]⟩,[109,97,105,110],0,[],0,[],⟨none,0,[]⟩,⟨none,0,[]⟩,0,[],[],0,⟨none,0,[]⟩,⟨none,0,[]⟩,⟨none,0,[]⟩,⟨none,0,[]⟩,⟨none,0,[]⟩,⟨none,0,[]⟩,0⟩:fY) aAe) rfl (fun _ _=>rfl)) ?_
         refine Zh (sM rfl rfl) ?_
         refine Zy ?_
         refine jJ 78 hS (fun h78 hS => ?_) (fun h78 hS => ?_)
         ·
          refine Zg ?_
          refine Zh (gJ rfl rfl) ?_
          refine Zy ?_
          refine VC.keep (ρ':=[(0,.bool (decide (aPK=4)))]) [0] rfl ?_
          cases hS
          exact Ze
         refine VL.runs 4 [(0,some false)] (by kernel_rfl) ?_
         refine Zl ?_
         refine VC.keep (ρ':=[(0,.bool false)]) [0] rfl ?_
         cases hS
         exact Ze
        refine VL.runs 9 [(0,some false)] (by kernel_rfl) ?_
        refine Zl ?_
        refine VC.keep (ρ':=[(0,.bool false)]) [0] rfl ?_
        cases hS
        exact Ze
       refine VL.runs 14 [(0,some false)] (by kernel_rfl) ?_
       refine Zl ?_
       refine VC.keep (ρ':=[(0,.bool false)]) [0] rfl ?_
       cases hS
       exact Ze
      refine VL.runs 19 [(0,some false)] (by kernel_rfl) ?_
      refine Zl ?_
      refine VC.keep (ρ':=[(0,.bool false)]) [0] rfl ?_
      cases hS
      exact Ze
     refine VL.runs 25 [(0,some false)] (by kernel_rfl) ?_
     refine Zl ?_
     refine VC.keep (ρ':=[(0,.bool false)]) [0] rfl ?_
     cases hS
     exact Ze
    refine VL.runs 31 [(0,some false)] (by kernel_rfl) ?_
    refine Zl ?_
    refine VC.keep (ρ':=[(0,.bool false)]) [0] rfl ?_
    cases hS
    exact Ze
   refine VL.runs 35 [(0,some false)] (by kernel_rfl) ?_
   refine Zl ?_
   refine VC.keep (ρ':=[(0,.bool false)]) [0] rfl ?_
   cases hS
   exact Ze
  refine VL.runs 39 [(0,some false)] (by kernel_rfl) ?_
  refine Zl ?_
  refine VC.keep (ρ':=[(0,.bool false)]) [0] rfl ?_
  cases hS
  exact Ze
 refine VL.runs 43 [(0,some false)] (by kernel_rfl) ?_
 refine Zl ?_
 refine VC.keep (ρ':=[(0,.bool false)]) [0] rfl ?_
 cases hS
 exact Ze
theorem EL (eL:Sv aZ) {r:Bool} (hS:Sh.BM eL.l=some r) :
 Ct Tryz.prog 64 [eL.val] eL.ok (Ow.emp) (X:=Unit) (fun _ => .bool r) (fun _=>True) (fun _=>Mo.tt) (fun _=>Ow.emp):=by
 refine Zo Tryz.func64 Tryz.ntmps64 fun c => ?_
 unfold Sh.BM at hS
 refine Zq (Zr ?_)
 refine Zy ?_
 refine Zq (Zq (Zr ?_))
 refine Zm ?_
 refine Zu (fH (s:=eL) Tryz.underlying50 rfl) ?_
 refine Zu (gQ rfl rfl) ?_
 refine Zl ?_
 refine Zc hS (fun h6 hS => ?_) (fun h6 hS => ?_)
 ·
  refine Zq (Zr ?_)
  refine Zy ?_
  cases hS
  exact Ze
 refine Zk ?_
 refine Zq (Zq (Zr ?_))
 refine Zy ?_
 refine Zb ?_
 refine VC.iter (S:=Int) (fun (lM:Int)=>lM) (fun (lM:Int)=>[(0,eL.val),(3,i64 lM)]) (fun (lM:Int)=>Mo.tt) (fun (lM:Int)=>Ow.emp) 0 [0,3] hS rfl ?_
 clear hS
 rintro lM m1 y1 hS hK1
 refine Zq (Zq (Zr ?_))
 refine Zy ?_
 refine Zu (fH (s:=eL) Tryz.underlying50 rfl) ?_
 refine Zu (dA rfl rfl) ?_
 refine Zl ?_
 refine Zc hS (fun h10 hS => ?_) (fun h10 hS => ?_)
 ·
  refine Zk ?_
  refine Zq (Zb ?_)
  refine VC.j0 (S:=Bool) (fun (yH:Bool)=>yH) (fun (yH:Bool)=>[(0,eL.val),(3,i64 lM),(28,.bool yH)]) (fun (yH:Bool)=>Mo.tt) (fun (yH:Bool)=>Ow.emp) hS ?_ ?_
  ·
   clear hS
   intro k3 hS
   refine Zr ?_
   refine Zy ?_
   obtain ⟨aDF,VE,UO,hS⟩:=eW hS
   refine Zu (dH (s:=eL) Tryz.underlying50 rN rfl rfl VE (bC VE UO)) ?_
   refine Zu (aB uV rfl) ?_
   refine Zu (jK (s:=eL) cD rfl UO rfl) ?_
   refine Zu (iH Tryz.underlying9 rfl) ?_
   refine Zu (gQ rfl rfl) ?_
   refine Zm ?_
   refine jJ 20 hS (fun h20 hS => ?_) (fun h20 hS => ?_)
   ·
    refine VL.runs 8 [(28,some true)] (by kernel_rfl) ?_
    refine VL.mt true [0,3,28] (fun _ _ h=>h) hS rfl
   refine Zy ?_
   obtain ⟨CO,I1,FX,hS⟩:=eW hS
   refine Zh (dH (s:=eL) Tryz.underlying50 rN rfl rfl I1 (bC I1 FX)) ?_
   refine Zh (aB GL rfl) ?_
   refine Zh (jK (s:=eL) cD rfl FX rfl) ?_
   refine Zh (iH Tryz.underlying9 rfl) ?_
   refine Zh (gQ rfl rfl) ?_
   refine Zf ?_
   refine VL.mt (decide (5000 < (CO.data.length:Int))) [0,3,28] (fun _ _ h=>h) hS rfl
  clear hS
  rintro yH hS
  refine mT hS (fun h28 hS => ?_) (fun h28 hS => ?_)
  ·
   refine Zq (Zr ?_)
   refine Zy ?_
   replace hS:=fF hS hK1
   cases hS
   exact Ze
  refine Zk ?_
  refine Zr ?_
  refine Zm ?_
  obtain ⟨b12,hS⟩:=bQ hS
  refine Zu (dZ rfl rfl b12) ?_
  refine Za ?_
  refine VL.kE (lM+1) [0,3] (fun _ _ h=>h) (go2 hS hK1) rfl
 replace hS:=fF hS hK1
 refine Zx ?_
 refine Zq (Zr ?_)
 refine Zy ?_
 cases hS
 exact Ze
theorem ZB (eV:Sv aQ) {r:Bool} (hS:Sh.KM eV.l=some r) :
 Ct Tryz.prog 65 [eV.val] eV.ok (Ow.emp) (X:=Unit) (fun _ => .bool r) (fun _=>True) (fun _=>Mo.tt) (fun _=>Ow.emp):=by
 refine Zo Tryz.func65 Tryz.ntmps65 fun c => ?_
 unfold Sh.KM at hS
 refine Zq (Zr ?_)
 refine Zy ?_
 refine Zq (Zq (Zr ?_))
 refine Zm ?_
 refine Zu (fH (s:=eV) Tryz.underlying51 rfl) ?_
 refine Zu (gQ rfl rfl) ?_
 refine Zl ?_
 refine Zc hS (fun h6 hS => ?_) (fun h6 hS => ?_)
 ·
  refine Zq (Zr ?_)
  refine Zy ?_
  cases hS
  exact Ze
 refine Zk ?_
 refine Zq (Zq (Zr ?_))
 refine Zy ?_
 refine Zb ?_
 refine VC.iter (S:=Int) (fun (lM:Int)=>lM) (fun (lM:Int)=>[(0,eV.val),(3,i64 lM)]) (fun (lM:Int)=>Mo.tt) (fun (lM:Int)=>Ow.emp) 0 [0,3] hS rfl ?_
 clear hS
 rintro lM m1 y1 hS hK1
 refine Zq (Zq (Zr ?_))
 refine Zy ?_
 refine Zu (fH (s:=eV) Tryz.underlying51 rfl) ?_
 refine Zu (dA rfl rfl) ?_
 refine Zl ?_
 refine Zc hS (fun h10 hS => ?_) (fun h10 hS => ?_)
 ·
  refine Zk ?_
  refine Zq (Zb ?_)
  refine VC.j0 (S:=Bool) (fun (yH:Bool)=>yH) (fun (yH:Bool)=>[(0,eV.val),(3,i64 lM),(28,.bool yH)]) (fun (yH:Bool)=>Mo.tt) (fun (yH:Bool)=>Ow.emp) hS ?_ ?_
  ·
   clear hS
   intro k3 hS
   refine Zr ?_
   refine Zy ?_
   obtain ⟨aDF,VE,UO,hS⟩:=eW hS
   refine Zu (dH (s:=eV) Tryz.underlying51 pS rfl rfl VE (bC VE UO)) ?_
   refine Zu (aB pE rfl) ?_
   refine Zu (jK (s:=eV) cD rfl UO rfl) ?_
   refine Zu (iH Tryz.underlying9 rfl) ?_
   refine Zu (gQ rfl rfl) ?_
   refine Zm ?_
   refine jJ 20 hS (fun h20 hS => ?_) (fun h20 hS => ?_)
   ·
    refine VL.runs 8 [(28,some true)] (by kernel_rfl) ?_
    refine VL.mt true [0,3,28] (fun _ _ h=>h) hS rfl
   refine Zy ?_
   obtain ⟨CO,I1,FX,hS⟩:=eW hS
   refine Zh (dH (s:=eV) Tryz.underlying51 pS rfl rfl I1 (bC I1 FX)) ?_
   refine Zh (aB yO rfl) ?_
   refine Zh (jK (s:=eV) cD rfl FX rfl) ?_
   refine Zh (iH Tryz.underlying9 rfl) ?_
   refine Zh (gQ rfl rfl) ?_
   refine Zf ?_
   refine VL.mt (decide (5000 < (CO.data.length:Int))) [0,3,28] (fun _ _ h=>h) hS rfl
  clear hS
  rintro yH hS
  refine mT hS (fun h28 hS => ?_) (fun h28 hS => ?_)
  ·
   refine Zq (Zr ?_)
   refine Zy ?_
   replace hS:=fF hS hK1
   cases hS
   exact Ze
  refine Zk ?_
  refine Zr ?_
  refine Zm ?_
  obtain ⟨b12,hS⟩:=bQ hS
  refine Zu (dZ rfl rfl b12) ?_
  refine Za ?_
  refine VL.kE (lM+1) [0,3] (fun _ _ h=>h) (go2 hS hK1) rfl
 replace hS:=fF hS hK1
 refine Zx ?_
 refine Zq (Zr ?_)
 refine Zy ?_
 cases hS
 exact Ze
theorem G6 (bE:eK) {r:Bool} (hS:Sh.xN bE.pl=some r) :
 Ct Tryz.prog 21 [.agg #[bE.work.val,bE.index.val,bE.refs.val,str bE.aG,i64 bE.aH,str bE.aW,i64 bE.aS,str bE.aV,bE.aN.val,bE.aT.val,i64 bE.aY,str bE.aM,str bE.aC,i64 bE.aE,bE.aO.val,bE.aU.val,bE.bJ.val]] (bE.work.ok.and (bE.index.ok.and (bE.refs.ok.and (bE.aN.ok.and (bE.aT.ok.and (bE.aO.ok.and (bE.aU.ok.and bE.bJ.ok))))))) (Ow.emp) (X:=Unit) (fun _ => .bool r) (fun _=>True) (fun _=>Mo.tt) (fun _=>Ow.emp):=by
 refine Zo Tryz.func21 Tryz.ntmps21 fun c => ?_
 unfold Sh.xN at hS
 refine Zq (Zr ?_)
 refine VL.box (cs:=[bE.work.val,bE.index.val,bE.refs.val,str bE.aG,i64 bE.aH,str bE.aW,i64 bE.aS,str bE.aV,bE.aN.val,bE.aT.val,i64 bE.aY,str bE.aM,str bE.aC,i64 bE.aE,bE.aO.val,bE.aU.val,bE.bJ.val]) rfl rfl (by decide) fun cM => ?_
 refine Zy ?_
 refine Zq ?_
 refine VC.j0 (S:=Bool) (fun (P2:Bool)=>P2) (fun (P2:Bool)=>[(1,ptr cM 0),(60,.bool P2)]) (fun (P2:Bool)=>Mo.tt) (fun (P2:Bool)=>Ow.star (bT cM [bE.work.val,bE.index.val,bE.refs.val,str bE.aG,i64 bE.aH,str bE.aW,i64 bE.aS,str bE.aV,bE.aN.val,bE.aT.val,i64 bE.aY,str bE.aM,str bE.aC,i64 bE.aE,bE.aO.val,bE.aU.val,bE.bJ.val] 61) (Ow.emp)) hS ?_ ?_
 ·
  clear hS
  intro k3 hS
  refine Zr ?_
  refine Zu (aB EJ rfl) ?_
  refine Zu (aI iQ rfl rfl) ?_
  obtain ⟨aZU,aZ8,hS⟩:=bF hS
  refine Zu (cZ (EL bE.work aZ8) rfl (fun _ _=>rfl)) ?_
  refine Zu (oS rfl) ?_
  refine Zm ?_
  refine rC 8 hS (fun h8 hS => ?_) (fun h8 hS => ?_)
  ·
   refine VL.runs 52 [(60,some true)] (by kernel_rfl) ?_
   refine VL.mt true [1,60] (fun _ _ h=>h) hS rfl
  refine Zh (aB zQ rfl) ?_
  refine Zh (aI lW rfl rfl) ?_
  obtain ⟨zK,FT,hS⟩:=bF hS
  refine Zh (cZ (ZB bE.index FT) rfl (fun _ _=>rfl)) ?_
  refine Zh (oS rfl) ?_
  refine Zy ?_
  refine rC 14 hS (fun h14 hS => ?_) (fun h14 hS => ?_)
  ·
   refine VL.runs 46 [(60,some true)] (by kernel_rfl) ?_
   refine VL.mt true [1,60] (fun _ _ h=>h) hS rfl
  refine Zh (aB lK rfl) ?_
  refine Zh (aI qS rfl rfl) ?_
  refine Zh (fH (s:=bE.refs) Tryz.underlying52 rfl) ?_
  refine Zh (gQ rfl rfl) ?_
  refine Zy ?_
  refine jJ 20 hS (fun h20 hS => ?_) (fun h20 hS => ?_)
  ·
   refine VL.runs 40 [(60,some true)] (by kernel_rfl) ?_
   refine VL.mt true [1,60] (fun _ _ h=>h) hS rfl
  refine Zh (aB j8 rfl) ?_
  refine Zh (aI nD rfl rfl) ?_
  refine Zh (iT bR.pl (s:=bE.bJ) Tryz.underlying59 rfl) ?_
  refine Zh (gQ rfl rfl) ?_
  refine Zy ?_
  refine jJ 26 hS (fun h26 hS => ?_) (fun h26 hS => ?_)
  ·
   refine VL.runs 34 [(60,some true)] (by kernel_rfl) ?_
   refine VL.mt true [1,60] (fun _ _ h=>h) hS rfl
  refine Zh (aB sF rfl) ?_
  refine Zh (aB uY rfl) ?_
  refine Zh (aI iQ rfl rfl) ?_
  obtain ⟨aDA,aWJ,hS⟩:=bF hS
  refine Zh (cZ (EL bE.aU aWJ) rfl (fun _ _=>rfl)) ?_
  refine Zh (oS rfl) ?_
  refine Zy ?_
  refine rC 33 hS (fun h33 hS => ?_) (fun h33 hS => ?_)
  ·
   refine VL.runs 27 [(60,some true)] (by kernel_rfl) ?_
   refine VL.mt true [1,60] (fun _ _ h=>h) hS rfl
  refine Zh (aB sF rfl) ?_
  refine Zh (aB wF rfl) ?_
  refine Zh (aI lW rfl rfl) ?_
  obtain ⟨aUv,aWT,hS⟩:=bF hS
  refine Zh (cZ (ZB bE.aO aWT) rfl (fun _ _=>rfl)) ?_
  refine Zh (oS rfl) ?_
  refine Zy ?_
  refine rC 40 hS (fun h40 hS => ?_) (fun h40 hS => ?_)
  ·
   refine VL.runs 20 [(60,some true)] (by kernel_rfl) ?_
   refine VL.mt true [1,60] (fun _ _ h=>h) hS rfl
  refine Zh (aB sF rfl) ?_
  refine Zh (aB zP rfl) ?_
  refine Zh (aI mG rfl rfl) ?_
  refine Zh (fH (s:=bE.aN) Tryz.underlying55 rfl) ?_
  refine Zh (gQ rfl rfl) ?_
  refine Zy ?_
  refine jJ 47 hS (fun h47 hS => ?_) (fun h47 hS => ?_)
  ·
   refine VL.runs 13 [(60,some true)] (by kernel_rfl) ?_
   refine VL.mt true [1,60] (fun _ _ h=>h) hS rfl
  refine Zh (aB sF rfl) ?_
  refine Zh (aB xH rfl) ?_
  refine Zh (aI mG rfl rfl) ?_
  refine Zh (fH (s:=bE.aT) Tryz.underlying55 rfl) ?_
  refine Zh (gQ rfl rfl) ?_
  refine Zy ?_
  refine jJ 54 hS (fun h54 hS => ?_) (fun h54 hS => ?_)
  ·
   refine VL.runs 6 [(60,some true)] (by kernel_rfl) ?_
   refine VL.mt true [1,60] (fun _ _ h=>h) hS rfl
  refine Zh (aB sF rfl) ?_
  refine Zh (aB tD rfl) ?_
  refine Zh (aI cD rfl rfl) ?_
  refine Zh (iH Tryz.underlying9 rfl) ?_
  refine Zh (gQ rfl rfl) ?_
  refine Zf ?_
  refine VL.mt (decide (300 < (bE.aV.length:Int))) [1,60] (fun _ _ h=>h) hS rfl
 clear hS
 rintro P2 hS
 refine mT hS (fun h60 hS => ?_) (fun h60 hS => ?_)
 ·
  refine Zq (Zr ?_)
  refine Zy ?_
  cases hS
  exact Ze
 refine Zk ?_
 refine Zq (Zq (Zr ?_))
 refine Zy ?_
 refine Zb ?_
 refine VC.iter (S:=Int) (fun (IW:Int)=>IW) (fun (IW:Int)=>[(1,ptr cM 0),(3,i64 IW)]) (fun (IW:Int)=>Mo.tt) (fun (IW:Int)=>Ow.star (bT cM [bE.work.val,bE.index.val,bE.refs.val,str bE.aG,i64 bE.aH,str bE.aW,i64 bE.aS,str bE.aV,bE.aN.val,bE.aT.val,i64 bE.aY,str bE.aM,str bE.aC,i64 bE.aE,bE.aO.val,bE.aU.val,bE.bJ.val] 61) (Ow.emp)) 0 [1,3] hS rfl ?_
 clear hS
 rintro IW m1 y1 hS hK1
 refine Zq (Zq (Zr ?_))
 refine Zm ?_
 refine Zu (aB j8 rfl) ?_
 refine Zu (aI nD rfl rfl) ?_
 refine Zu (iT bR.pl (s:=bE.bJ) Tryz.underlying59 rfl) ?_
 refine Zu (dA rfl rfl) ?_
 refine Zl ?_
 refine Zc hS (fun h65 hS => ?_) (fun h65 hS => ?_)
 ·
  refine Zk ?_
  refine Zq (Zb ?_)
  refine VC.j0 (S:=Bool) (fun (P5:Bool)=>P5) (fun (P5:Bool)=>[(1,ptr cM 0),(3,i64 IW),(85,.bool P5)]) (fun (P5:Bool)=>Mo.tt) (fun (P5:Bool)=>Ow.star (bT cM [bE.work.val,bE.index.val,bE.refs.val,str bE.aG,i64 bE.aH,str bE.aW,i64 bE.aS,str bE.aV,bE.aN.val,bE.aT.val,i64 bE.aY,str bE.aM,str bE.aC,i64 bE.aE,bE.aO.val,bE.aU.val,bE.bJ.val] 61) (Ow.emp)) hS ?_ ?_
  ·
   clear hS
   intro k10 hS
   refine Zr ?_
   refine Zu (aB j8 rfl) ?_
   refine Zu (aI nD rfl rfl) ?_
   refine Zm ?_
   obtain ⟨aAC,aIl,aBK,hS⟩:=kQ hS
   refine VL.deep aAC.m aBK (fun _ q=>q) ?_
   refine Zu (dH (s:=bE.bJ) Tryz.underlying59 pR rfl rfl aIl (bC aIl aBK)) ?_
   refine Zu (aB GI rfl) ?_
   refine Zu (jK (s:=bE.bJ) iQ rfl aBK rfl) ?_
   obtain ⟨W2,aAd,hS⟩:=bF hS
   refine Zu (cZ (EL aAC.index aAd) rfl (fun _ _=>rfl)) ?_
   refine Zu (oS rfl) ?_
   refine Zm ?_
   refine rC 76 hS (fun h76 hS => ?_) (fun h76 hS => ?_)
   ·
    refine VL.runs 9 [(85,some true)] (by kernel_rfl) ?_
    refine VL.mt true [1,3,85] (fun _ _ h=>h) hS rfl
   refine Zh (aB j8 rfl) ?_
   refine Zh (aI nD rfl rfl) ?_
   refine Zg ?_
   obtain ⟨aAE,aIq,aBM,hS⟩:=kQ hS
   refine VL.deep aAE.m aBM (fun _ q=>q) ?_
   refine Zh (dH (s:=bE.bJ) Tryz.underlying59 pR rfl rfl aIq (bC aIq aBM)) ?_
   refine Zh (aB C4 rfl) ?_
   refine Zh (jK (s:=bE.bJ) iQ rfl aBM rfl) ?_
   obtain ⟨aG9,aRY,hS⟩:=bF hS
   refine Zh (cZ (EL aAE.work aRY) rfl (fun _ _=>rfl)) ?_
   refine Zh (oS rfl) ?_
   refine Zf ?_
   refine VL.mt (!aG9) [1,3,85] (fun _ _ h=>h) hS rfl
  clear hS
  rintro P5 hS
  refine mT hS (fun h85 hS => ?_) (fun h85 hS => ?_)
  ·
   refine Zq (Zr ?_)
   refine Zy ?_
   replace hS:=fF hS hK1
   cases hS
   exact Ze
  refine Zk ?_
  refine Zr ?_
  refine Zm ?_
  obtain ⟨b67,hS⟩:=bQ hS
  refine Zu (dZ rfl rfl b67) ?_
  refine Za ?_
  refine VL.kE (IW+1) [1,3] (fun _ _ h=>h) (go2 hS hK1) rfl
 replace hS:=fF hS hK1
 refine Zx ?_
 refine Zq (Zr ?_)
 refine Zy ?_
 cases hS
 exact Ze
theorem aIJ (bO:iY) {r:Bool} (hS:Sh.OL bO.pl=some r) :
 Ct Tryz.prog 25 [.agg (jO bO).toArray] (bO.cJ.ok.and (bO.bV.ok.and (bO.bB.ok.and (bO.bW.ok.and (bO.cG.ok.and (bO.bX.ok.and (bO.cH.ok.and (bO.bL.ok.and (bO.aK.ok.and (bO.back.ok.and bO.hO.ok)))))))))) (Ow.emp) (X:=Unit) (fun _ => .bool r) (fun _=>True) (fun _=>Mo.tt) (fun _=>Ow.emp):=by
 refine Zo Tryz.func25 Tryz.ntmps25 fun c => ?_
 unfold Sh.OL at hS
 refine Zq (Zr ?_)
 refine VL.box (cs:=(jO bO)) rfl rfl (by decide) fun cM => ?_
 refine Zy ?_
 refine Zq ?_
 refine VC.j0 (S:=Bool) (fun (yG:Bool)=>yG) (fun (yG:Bool)=>[(1,ptr cM 0),(27,.bool yG)]) (fun (yG:Bool)=>Mo.tt) (fun (yG:Bool)=>Ow.star (bT cM (jO bO) 71) (Ow.emp)) hS ?_ ?_
 ·
  clear hS
  intro k3 hS
  refine Zr ?_
  refine Zu (aB aH7 rfl) ?_
  refine Zu (sL (j:=0) (n:=17) oB rfl rfl rfl) ?_
  obtain ⟨E6,G0,hS⟩:=bF hS
  refine Zu (cZ (G6 (⟨bO.cJ,bO.bV,bO.bB,bO.aR,bO.bA,bO.cI,bO.dB,bO.dP,bO.bW,bO.cG,bO.dK,bO.cY,bO.bU,bO.bS,bO.bX,bO.cH,bO.bL⟩:eK) G0) rfl (fun _ _=>rfl)) ?_
  refine Zu (oS rfl) ?_
  refine Zm ?_
  refine rC 10 hS (fun h10 hS => ?_) (fun h10 hS => ?_)
  ·
   refine VL.runs 17 [(27,some true)] (by kernel_rfl) ?_
   refine VL.mt true [1,27] (fun _ _ h=>h) hS rfl
  refine Zh (aB KI rfl) ?_
  refine Zh (aI qT rfl rfl) ?_
  refine Zh (iT cL.pl (s:=bO.aK) Tryz.underlying68 rfl) ?_
  refine Zh (gQ rfl rfl) ?_
  refine Zy ?_
  refine jJ 16 hS (fun h16 hS => ?_) (fun h16 hS => ?_)
  ·
   refine VL.runs 11 [(27,some true)] (by kernel_rfl) ?_
   refine VL.mt true [1,27] (fun _ _ h=>h) hS rfl
  refine Zh (aB N9 rfl) ?_
  refine Zh (aI DW rfl rfl) ?_
  refine Zh (iT eK.pl (s:=bO.back) Tryz.underlying69 rfl) ?_
  refine Zh (gQ rfl rfl) ?_
  refine Zy ?_
  refine jJ 22 hS (fun h22 hS => ?_) (fun h22 hS => ?_)
  ·
   refine VL.runs 5 [(27,some true)] (by kernel_rfl) ?_
   refine VL.mt true [1,27] (fun _ _ h=>h) hS rfl
  refine Zh (aB OA rfl) ?_
  refine Zh (aI DW rfl rfl) ?_
  refine Zh (iT eK.pl (s:=bO.hO) Tryz.underlying69 rfl) ?_
  refine Zh (gQ rfl rfl) ?_
  refine Zf ?_
  refine VL.mt (decide (5 < ((bO.hO.l.map eK.pl).length:Int))) [1,27] (fun _ _ h=>h) hS rfl
 clear hS
 rintro yG hS
 refine mT hS (fun h27 hS => ?_) (fun h27 hS => ?_)
 ·
  refine Zq (Zr ?_)
  refine Zy ?_
  cases hS
  exact Ze
 refine Zk ?_
 refine Zq (Zq (Zr ?_))
 refine Zy ?_
 refine Zb ?_
 refine VC.iter (S:=Int) (fun (pL:Int)=>pL) (fun (pL:Int)=>[(1,ptr cM 0),(3,i64 pL)]) (fun (pL:Int)=>Mo.tt) (fun (pL:Int)=>Ow.star (bT cM (jO bO) 71) (Ow.emp)) 0 [1,3] hS rfl ?_
 clear hS
 rintro pL m1 y1 hS hK1
 refine Zq (Zq (Zr ?_))
 refine Zm ?_
 refine Zu (aB KI rfl) ?_
 refine Zu (aI qT rfl rfl) ?_
 refine Zu (iT cL.pl (s:=bO.aK) Tryz.underlying68 rfl) ?_
 refine Zu (dA rfl rfl) ?_
 refine Zl ?_
 refine Zc hS (fun h32 hS => ?_) (fun h32 hS => ?_)
 ·
  refine Zk ?_
  refine Zq (Zb ?_)
  refine VC.j0 (S:=Bool) (fun (P3:Bool)=>P3) (fun (P3:Bool)=>[(1,ptr cM 0),(3,i64 pL),(62,.bool P3)]) (fun (P3:Bool)=>Mo.tt) (fun (P3:Bool)=>Ow.star (bT cM (jO bO) 71) (Ow.emp)) hS ?_ ?_
  ·
   clear hS
   intro k7 hS
   refine Zr ?_
   refine Zu (aB KI rfl) ?_
   refine Zu (aI qT rfl rfl) ?_
   refine Zm ?_
   obtain ⟨QD,VK,QU,hS⟩:=kQ hS
   refine VL.deep QD.m QU (fun _ q=>q) ?_
   refine Zu (dH (s:=bO.aK) Tryz.underlying68 pQ rfl rfl VK (bC VK QU)) ?_
   refine Zu (aB GH rfl) ?_
   refine Zu (jK (s:=bO.aK) iQ rfl QU rfl) ?_
   obtain ⟨aUw,aWX,hS⟩:=bF hS
   refine Zu (cZ (EL QD.tree aWX) rfl (fun _ _=>rfl)) ?_
   refine Zu (oS rfl) ?_
   refine Zm ?_
   refine rC 43 hS (fun h43 hS => ?_) (fun h43 hS => ?_)
   ·
    refine VL.runs 19 [(62,some true)] (by kernel_rfl) ?_
    refine VL.mt true [1,3,62] (fun _ _ h=>h) hS rfl
   refine Zh (aB KI rfl) ?_
   refine Zh (aI qT rfl rfl) ?_
   refine Zg ?_
   obtain ⟨aAA,aI1,aBD,hS⟩:=kQ hS
   refine VL.deep aAA.m aBD (fun _ q=>q) ?_
   refine Zh (dH (s:=bO.aK) Tryz.underlying68 pQ rfl rfl aI1 (bC aI1 aBD)) ?_
   refine Zh (aB C1 rfl) ?_
   refine Zh (jK (s:=bO.aK) tF rfl aBD rfl) ?_
   refine Zh (fH (s:=aAA.parents) Tryz.underlying32 rfl) ?_
   refine Zh (gQ rfl rfl) ?_
   refine Zy ?_
   refine jJ 53 hS (fun h53 hS => ?_) (fun h53 hS => ?_)
   ·
    refine VL.runs 9 [(62,some true)] (by kernel_rfl) ?_
    refine VL.mt true [1,3,62] (fun _ _ h=>h) hS rfl
   refine Zh (aB KI rfl) ?_
   refine Zh (aI qT rfl rfl) ?_
   refine Zg ?_
   obtain ⟨aAB,aI9,aBG,hS⟩:=kQ hS
   refine VL.deep aAB.m aBG (fun _ q=>q) ?_
   refine Zh (dH (s:=bO.aK) Tryz.underlying68 pQ rfl rfl aI9 (bC aI9 aBG)) ?_
   refine Zh (aB yN rfl) ?_
   refine Zh (jK (s:=bO.aK) cD rfl aBG rfl) ?_
   refine Zh (iH Tryz.underlying9 rfl) ?_
   refine Zh (gQ rfl rfl) ?_
   refine Zf ?_
   refine VL.mt (decide (300 < (aAB.text.length:Int))) [1,3,62] (fun _ _ h=>h) hS rfl
  clear hS
  rintro P3 hS
  refine mT hS (fun h62 hS => ?_) (fun h62 hS => ?_)
  ·
   refine Zq (Zr ?_)
   refine Zy ?_
   replace hS:=fF hS hK1
   cases hS
   exact Ze
  refine Zk ?_
  refine Zr ?_
  refine Zm ?_
  obtain ⟨b34,hS⟩:=bQ hS
  refine Zu (dZ rfl rfl b34) ?_
  refine Za ?_
  refine VL.kE (pL+1) [1,3] (fun _ _ h=>h) (go2 hS hK1) rfl
 replace hS:=fF hS hK1
 refine Zx ?_
 refine Zq (Zq (Zr ?_))
 refine Zy ?_
 refine Zb ?_
 refine VC.iter (S:=Int) (fun (C8:Int)=>C8) (fun (C8:Int)=>[(1,ptr cM 0),(4,i64 C8)]) (fun (C8:Int)=>Mo.tt) (fun (C8:Int)=>Ow.star (bT cM (jO bO) 71) (Ow.emp)) 0 [1,4] hS rfl ?_
 clear hS
 rintro C8 m1 y1 hS hK1
 refine Zq (Zq (Zr ?_))
 refine Zm ?_
 refine Zu (aB N9 rfl) ?_
 refine Zu (aI DW rfl rfl) ?_
 refine Zu (iT eK.pl (s:=bO.back) Tryz.underlying69 rfl) ?_
 refine Zu (dA rfl rfl) ?_
 refine Zl ?_
 refine Zc hS (fun h67 hS => ?_) (fun h67 hS => ?_)
 ·
  refine Zk ?_
  refine Zq (Zb (Zq (Zr ?_)))
  refine Zu (aB N9 rfl) ?_
  refine Zu (aI DW rfl rfl) ?_
  refine Zm ?_
  obtain ⟨aAD,aIm,aBL,hS⟩:=kQ hS
  refine VL.deep aAD.m aBL (fun _ q=>q) ?_
  refine Zu (dH (s:=bO.back) Tryz.underlying69 zB rfl rfl aIm (bC aIm aBL)) ?_
  refine Zu (jL (s:=bO.back) oB rfl rfl aBL) ?_
  obtain ⟨aG6,aRS,hS⟩:=bF hS
  refine Zu (cZ (G6 aAD aRS) rfl (fun _ _=>rfl)) ?_
  refine Zu (oS rfl) ?_
  refine Zl ?_
  refine VC.keep (ρ':=[(1,ptr cM 0),(4,i64 C8),(76,.bool (!aG6))]) [1,4,76] rfl ?_
  refine mT hS (fun h76 hS => ?_) (fun h76 hS => ?_)
  ·
   refine Zq (Zr ?_)
   refine Zy ?_
   replace hS:=fF hS hK1
   cases hS
   exact Ze
  refine Zk ?_
  refine Zr ?_
  refine Zm ?_
  obtain ⟨b69,hS⟩:=bQ hS
  refine Zu (dZ rfl rfl b69) ?_
  refine Za ?_
  refine VL.kE (C8+1) [1,4] (fun _ _ h=>h) (go2 hS hK1) rfl
 replace hS:=fF hS hK1
 refine Zx ?_
 refine Zq (Zq (Zr ?_))
 refine Zy ?_
 refine Zb ?_
 refine VC.iter (S:=Int) (fun (C9:Int)=>C9) (fun (C9:Int)=>[(1,ptr cM 0),(5,i64 C9)]) (fun (C9:Int)=>Mo.tt) (fun (C9:Int)=>Ow.star (bT cM (jO bO) 71) (Ow.emp)) 0 [1,5] hS rfl ?_
 clear hS
 rintro C9 m1 y1 hS hK1
 refine Zq (Zq (Zr ?_))
 refine Zm ?_
 refine Zu (aB OA rfl) ?_
 refine Zu (aI DW rfl rfl) ?_
 refine Zu (iT eK.pl (s:=bO.hO) Tryz.underlying69 rfl) ?_
 refine Zu (dA rfl rfl) ?_
 refine Zl ?_
 refine Zc hS (fun h81 hS => ?_) (fun h81 hS => ?_)
 ·
  refine Zk ?_
  refine Zq (Zb (Zq (Zr ?_)))
  refine Zu (aB OA rfl) ?_
  refine Zu (aI DW rfl rfl) ?_
  refine Zm ?_
  obtain ⟨aAF,aIt,aBO,hS⟩:=kQ hS
  refine VL.deep aAF.m aBO (fun _ q=>q) ?_
  refine Zu (dH (s:=bO.hO) Tryz.underlying69 zB rfl rfl aIt (bC aIt aBO)) ?_
  refine Zu (jL (s:=bO.hO) oB rfl rfl aBO) ?_
  obtain ⟨aGa,aR1,hS⟩:=bF hS
  refine Zu (cZ (G6 aAF aR1) rfl (fun _ _=>rfl)) ?_
  refine Zu (oS rfl) ?_
  refine Zl ?_
  refine VC.keep (ρ':=[(1,ptr cM 0),(5,i64 C9),(90,.bool (!aGa))]) [1,5,90] rfl ?_
  refine mT hS (fun h90 hS => ?_) (fun h90 hS => ?_)
  ·
   refine Zq (Zr ?_)
   refine Zy ?_
   replace hS:=fF hS hK1
   cases hS
   exact Ze
  refine Zk ?_
  refine Zr ?_
  refine Zm ?_
  obtain ⟨b83,hS⟩:=bQ hS
  refine Zu (dZ rfl rfl b83) ?_
  refine Za ?_
  refine VL.kE (C9+1) [1,5] (fun _ _ h=>h) (go2 hS hK1) rfl
 replace hS:=fF hS hK1
 refine Zx ?_
 refine Zq (Zr ?_)
 refine Zy ?_
 cases hS
 exact Ze
theorem aKA (bO:iY) {r:eP} (hS:Sh.UW bO.pl=some r) :
 Ct Tryz.prog 27 [.agg (jO bO).toArray] (bO.cJ.ok.and (bO.bV.ok.and (bO.bB.ok.and (bO.bW.ok.and (bO.cG.ok.and (bO.bX.ok.and (bO.cH.ok.and (bO.bL.ok.and (bO.aK.ok.and (bO.back.ok.and bO.hO.ok)))))))))) (Ow.emp) (X:=fY) (fun x => .agg (cS.enc x).toArray) (fun x=>r=x.pl) (fun x=>x.m) (fun x=>Ow.emp):=by
 refine Zo Tryz.func27 Tryz.ntmps27 fun c => ?_
 unfold Sh.UW at hS
 refine Zq (Zr ?_)
 refine VL.box (cs:=(jO bO)) rfl rfl (by decide) fun cM => ?_
 refine VL.alloc (cs:=[.slice none 0 0,.slice none 0 0,.slice none 0 0,str [],i64 0,str [],i64 0,str [],.slice none 0 0,.slice none 0 0,i64 0,str [],str [],i64 0,.slice none 0 0,.slice none 0 0,.slice none 0 0,.slice none 0 0,.slice none 0 0,.slice none 0 0,i64 0]) (by kernel_rfl) (by decide) fun iL => ?_
 refine Zl ?_
 refine Zq (Zr ?_)
 refine Zu (aB aH7 rfl) ?_
 refine Zu (sL (j:=0) (n:=17) oB rfl rfl rfl) ?_
 refine Zu (aB KI rfl) ?_
 refine Zu (aI qT rfl rfl) ?_
 refine Zu (aB aRv rfl) ?_
 refine Zu (aI cN rfl rfl) ?_
 refine Zu (eO (vs:=[(0,.agg #[bO.cJ.val,bO.bV.val,bO.bB.val,str bO.aR,i64 bO.bA,str bO.cI,i64 bO.dB,str bO.dP,bO.bW.val,bO.cG.val,i64 bO.dK,str bO.cY,str bO.bU,i64 bO.bS,bO.bX.val,bO.cH.val,bO.bL.val]),(1,bO.aK.val),(3,i64 bO.time)]) (cs := #[bO.cJ.val,bO.bV.val,bO.bB.val,str bO.aR,i64 bO.bA,str bO.cI,i64 bO.dB,str bO.dP,bO.bW.val,bO.cG.val,i64 bO.dK,str bO.cY,str bO.bU,i64 bO.bS,bO.bX.val,bO.cH.val,bO.bL.val,bO.aK.val,.slice none 0 0,.slice none 0 0,i64 bO.time]) rfl (by kernel_rfl)) ?_
 refine VL.alloc (cs:=[.slice none 0 0,.slice none 0 0,.slice none 0 0,str [],i64 0,str [],i64 0,str [],.slice none 0 0,.slice none 0 0,i64 0,str [],str [],i64 0,.slice none 0 0,.slice none 0 0,.slice none 0 0,.slice none 0 0,.slice none 0 0,.slice none 0 0,i64 0]) (by kernel_rfl) (by decide) fun eJ => ?_
 refine Zv (vc:=[bO.cJ.val,bO.bV.val,bO.bB.val,str bO.aR,i64 bO.bA,str bO.cI,i64 bO.dB,str bO.dP,bO.bW.val,bO.cG.val,i64 bO.dK,str bO.cY,str bO.bU,i64 bO.bS,bO.bX.val,bO.cH.val,bO.bL.val,bO.aK.val,.slice none 0 0,.slice none 0 0,i64 bO.time]) (cs':=[bO.cJ.val,bO.bV.val,bO.bB.val,str bO.aR,i64 bO.bA,str bO.cI,i64 bO.dB,str bO.dP,bO.bW.val,bO.cG.val,i64 bO.dK,str bO.cY,str bO.bU,i64 bO.bS,bO.bX.val,bO.cH.val,bO.bL.val,bO.aK.val,.slice none 0 0,.slice none 0 0,i64 bO.time]) rfl G4 ?_
 refine Zl ?_
 refine VC.keep (ρ':=[(1,ptr cM 0),(2,ptr iL 0),(3,ptr eJ 0)]) [1,2,3] rfl ?_
 refine Zq (Zq (Zr ?_))
 refine Zy ?_
 refine Zb ?_
 refine VC.qU (⟨none,0,[]⟩:Sv bN) 9 ⟨rfl,rfl⟩ ?_
 refine VC.RL eJ (cs':=[bO.cJ.val,bO.bV.val,bO.bB.val,str bO.aR,i64 bO.bA,str bO.cI,i64 bO.dB,str bO.dP,bO.bW.val,bO.cG.val,i64 bO.dK,str bO.cY,str bO.bU,i64 bO.bS,bO.bX.val,bO.cH.val,bO.bL.val,bO.aK.val,(⟨none,0,[]⟩:Sv bN).val,.slice none 0 0,i64 bO.time]) rfl ?_
 refine VC.iter (S:=Int×Sv bN) (fun sg=>(sg.1,sg.2.l)) (fun sg=>[(1,ptr cM 0),(2,ptr iL 0),(3,ptr eJ 0),(4,i64 sg.1)]) (fun sg=>Mo.tt) (fun sg=>Ow.star (bT eJ [bO.cJ.val,bO.bV.val,bO.bB.val,str bO.aR,i64 bO.bA,str bO.cI,i64 bO.dB,str bO.dP,bO.bW.val,bO.cG.val,i64 bO.dK,str bO.cY,str bO.bU,i64 bO.bS,bO.bX.val,bO.cH.val,bO.bL.val,bO.aK.val,sg.2.val,.slice none 0 0,i64 bO.time] 93) (Ow.star (bT iL [.slice none 0 0,.slice none 0 0,.slice none 0 0,str [],i64 0,str [],i64 0,str [],.slice none 0 0,.slice none 0 0,i64 0,str [],str [],i64 0,.slice none 0 0,.slice none 0 0,.slice none 0 0,.slice none 0 0,.slice none 0 0,.slice none 0 0,i64 0] 93) (Ow.star (bT cM (jO bO) 71) (Ow.star (Sv.own sg.2 9) (Ow.emp))))) (0,(⟨none,0,[]⟩:Sv bN)) [1,2,3,4] hS rfl ?_
 clear hS
 rintro ⟨wV,AA⟩ m1 y1 hS hK1
 refine Zq (Zq (Zr ?_))
 refine Zm ?_
 refine Zu (aB N9 rfl) ?_
 refine Zu (aI DW rfl rfl) ?_
 refine Zu (iT eK.pl (s:=bO.back) Tryz.underlying69 rfl) ?_
 refine Zu (dA rfl rfl) ?_
 refine Zl ?_
 refine Zc hS (fun h17 hS => ?_) (fun h17 hS => ?_)
 ·
  refine Zk ?_
  refine Zq (Zb ?_)
  refine VC.draw [(0,true),(1,true),(2,true),(3,true),(4,true),(5,true),(6,true),(7,true),(8,true),(9,false),(10,false),(11,true),(12,true),(13,false)] mixed (by kernel_rfl) (by kernel_rfl) (by kernel_rfl) ?_
  refine Zw rfl (aB nM rfl) ?_
  refine Zw rfl (aB zR rfl) ?_
  refine Zw rfl (aI oC rfl rfl) ?_
  refine Zw rfl (aB N9 rfl) ?_
  refine Zw rfl (aI DW rfl rfl) ?_
  refine Zw rfl (bI rfl) ?_
  obtain ⟨aGj,aMP,aFU,hS⟩:=kQ hS
  refine VD.deep aGj.m aFU (fun _ q=>q) ?_
  refine Zw rfl (dH (s:=bO.back) Tryz.underlying69 zB rfl rfl aMP (bC aMP aFU)) ?_
  refine Zw rfl (jL (s:=bO.back) oB rfl rfl aFU) ?_
  obtain ⟨JZ,aWE,hS⟩:=bF hS
  refine Zw rfl (cZ (CC aGj aWE) rfl (fun _ _=>rfl)) ?_
  refine VD.one rfl ?_
  refine VL.lit (α:=bN) (xs:=[.tmp 28]) (vs:=[str JZ]) [JZ] Tryz.underlying89 oZ (by decide) rfl rfl rfl rfl (by decide) (fun _ _ _ _=>trivial) (by decide) (fun S1 UK => ?_) (by decide)
  replace hS:=dL UK hS
  refine VL.back (D':=[(2,AA.val),(1,ptr eJ 18),(0,ptr eJ 18)]) (by kernel_rfl) (aF.cons rfl (aI oC rfl rfl) (aF.cons rfl (aB zR rfl) (aF.cons rfl (aB nM rfl) (aF.nil)))) ?_
  refine VD.one rfl ?_
  obtain ⟨b30,hS⟩:=bQ hS
  refine VL.app (s:=AA) (r:=S1) Tryz.underlying89 XH (by decide) rfl Fo.out (CW b30) (CX b30 (by decide)) (by decide) (fun aFf aSQ => ?_)
  replace hS:=dL aSQ hS
  refine VL.back (D':=[]) (by kernel_rfl) (aF.nil) ?_
  refine Zw rfl (aB nM rfl) ?_
  refine Zw rfl (aB zR rfl) ?_
  refine VD.one rfl ?_
  refine Zv (vc:=[aFf.val]) (cs':=[bO.cJ.val,bO.bV.val,bO.bB.val,str bO.aR,i64 bO.bA,str bO.cI,i64 bO.dB,str bO.dP,bO.bW.val,bO.cG.val,i64 bO.dK,str bO.cY,str bO.bU,i64 bO.bS,bO.bX.val,bO.cH.val,bO.bL.val,bO.aK.val,aFf.val,.slice none 0 0,i64 bO.time]) rfl aAs ?_
  refine VL.back (D':=[]) (by kernel_rfl) (aF.nil) ?_
  refine VD.to (fun _ _ h=>h) ?_
  refine VC.keep (ρ':=[(1,ptr cM 0),(2,ptr iL 0),(3,ptr eJ 0),(4,i64 wV)]) [1,2,3,4] rfl ?_
  refine Zr ?_
  refine Zm ?_
  obtain ⟨b19,hS⟩:=bQ hS
  refine Zu (dZ rfl rfl b19) ?_
  refine Za ?_
  refine VL.kE ((wV+1),aFf) [1,2,3,4] (fun _ _ h=>h) (go2 hS hK1) rfl
 replace hS:=fF hS hK1
 refine Zx ?_
 refine Zq (Zq (Zr ?_))
 refine Zy ?_
 refine Zb ?_
 refine VC.qU (⟨none,0,[]⟩:Sv bN) 9 ⟨rfl,rfl⟩ ?_
 refine VC.RL eJ (cs':=[bO.cJ.val,bO.bV.val,bO.bB.val,str bO.aR,i64 bO.bA,str bO.cI,i64 bO.dB,str bO.dP,bO.bW.val,bO.cG.val,i64 bO.dK,str bO.cY,str bO.bU,i64 bO.bS,bO.bX.val,bO.cH.val,bO.bL.val,bO.aK.val,AA.val,(⟨none,0,[]⟩:Sv bN).val,i64 bO.time]) rfl ?_
 refine VC.iter (S:=Int×Sv bN) (fun sg=>(sg.1,sg.2.l)) (fun sg=>[(1,ptr cM 0),(2,ptr iL 0),(3,ptr eJ 0),(5,i64 sg.1)]) (fun sg=>Mo.tt) (fun sg=>Ow.star (bT eJ [bO.cJ.val,bO.bV.val,bO.bB.val,str bO.aR,i64 bO.bA,str bO.cI,i64 bO.dB,str bO.dP,bO.bW.val,bO.cG.val,i64 bO.dK,str bO.cY,str bO.bU,i64 bO.bS,bO.bX.val,bO.cH.val,bO.bL.val,bO.aK.val,AA.val,sg.2.val,i64 bO.time] 93) (Ow.star (bT iL [.slice none 0 0,.slice none 0 0,.slice none 0 0,str [],i64 0,str [],i64 0,str [],.slice none 0 0,.slice none 0 0,i64 0,str [],str [],i64 0,.slice none 0 0,.slice none 0 0,.slice none 0 0,.slice none 0 0,.slice none 0 0,.slice none 0 0,i64 0] 93) (Ow.star (bT cM (jO bO) 71) (Ow.star (Sv.own AA 9) (Ow.star (Sv.own sg.2 9) (Ow.emp)))))) (0,(⟨none,0,[]⟩:Sv bN)) [1,2,3,5] hS rfl ?_
 clear hS
 rintro ⟨SQ,BB⟩ m1 y1 hS hK1
 refine Zq (Zq (Zr ?_))
 refine Zm ?_
 refine Zu (aB OA rfl) ?_
 refine Zu (aI DW rfl rfl) ?_
 refine Zu (iT eK.pl (s:=bO.hO) Tryz.underlying69 rfl) ?_
 refine Zu (dA rfl rfl) ?_
 refine Zl ?_
 refine Zc hS (fun h37 hS => ?_) (fun h37 hS => ?_)
 ·
  refine Zk ?_
  refine Zq (Zb ?_)
  refine VC.draw [(0,true),(1,true),(2,true),(3,true),(4,true),(5,true),(6,true),(7,true),(8,true),(9,false),(10,false),(11,true),(12,true),(13,false)] mixed (by kernel_rfl) (by kernel_rfl) (by kernel_rfl) ?_
  refine Zw rfl (aB nM rfl) ?_
  refine Zw rfl (aB xI rfl) ?_
  refine Zw rfl (aI oC rfl rfl) ?_
  refine Zw rfl (aB OA rfl) ?_
  refine Zw rfl (aI DW rfl rfl) ?_
  refine Zw rfl (bI rfl) ?_
  obtain ⟨Z9,aI0,aBC,hS⟩:=kQ hS
  refine VD.deep Z9.m aBC (fun _ q=>q) ?_
  refine Zw rfl (dH (s:=bO.hO) Tryz.underlying69 zB rfl rfl aI0 (bC aI0 aBC)) ?_
  refine Zw rfl (jL (s:=bO.hO) oB rfl rfl aBC) ?_
  obtain ⟨GB,aA9,hS⟩:=bF hS
  refine Zw rfl (cZ (CC Z9 aA9) rfl (fun _ _=>rfl)) ?_
  refine VD.one rfl ?_
  refine VL.lit (α:=bN) (xs:=[.tmp 48]) (vs:=[str GB]) [GB] Tryz.underlying89 oZ (by decide) rfl rfl rfl rfl (by decide) (fun _ _ _ _=>trivial) (by decide) (fun aYC aSZ => ?_) (by decide)
  replace hS:=dL aSZ hS
  refine VL.back (D':=[(2,BB.val),(1,ptr eJ 19),(0,ptr eJ 18)]) (by kernel_rfl) (aF.cons rfl (aI oC rfl rfl) (aF.cons rfl (aB xI rfl) (aF.cons rfl (aB nM rfl) (aF.nil)))) ?_
  refine VD.one rfl ?_
  obtain ⟨b50,hS⟩:=bQ hS
  refine VL.app (s:=BB) (r:=aYC) Tryz.underlying89 XH (by decide) rfl Fo.out (CW b50) (CX b50 (by decide)) (by decide) (fun aFj aS1 => ?_)
  replace hS:=dL aS1 hS
  refine VL.back (D':=[]) (by kernel_rfl) (aF.nil) ?_
  refine Zw rfl (aB nM rfl) ?_
  refine Zw rfl (aB xI rfl) ?_
  refine VD.one rfl ?_
  refine Zv (vc:=[aFj.val]) (cs':=[bO.cJ.val,bO.bV.val,bO.bB.val,str bO.aR,i64 bO.bA,str bO.cI,i64 bO.dB,str bO.dP,bO.bW.val,bO.cG.val,i64 bO.dK,str bO.cY,str bO.bU,i64 bO.bS,bO.bX.val,bO.cH.val,bO.bL.val,bO.aK.val,AA.val,aFj.val,i64 bO.time]) rfl aAs ?_
  refine VL.back (D':=[]) (by kernel_rfl) (aF.nil) ?_
  refine VD.to (fun _ _ h=>h) ?_
  refine VC.keep (ρ':=[(1,ptr cM 0),(2,ptr iL 0),(3,ptr eJ 0),(5,i64 SQ)]) [1,2,3,5] rfl ?_
  refine Zr ?_
  refine Zm ?_
  obtain ⟨b39,hS⟩:=bQ hS
  refine Zu (dZ rfl rfl b39) ?_
  refine Za ?_
  refine VL.kE ((SQ+1),aFj) [1,2,3,5] (fun _ _ h=>h) (go2 hS hK1) rfl
 replace hS:=fF hS hK1
 refine Zx ?_
 refine Zq (Zr ?_)
 refine Zu (gZ jS rfl rfl) ?_
 refine Zv (vc:=[bO.cJ.val,bO.bV.val,bO.bB.val,str bO.aR,i64 bO.bA,str bO.cI,i64 bO.dB,str bO.dP,bO.bW.val,bO.cG.val,i64 bO.dK,str bO.cY,str bO.bU,i64 bO.bS,bO.bX.val,bO.cH.val,bO.bL.val,bO.aK.val,AA.val,BB.val,i64 bO.time]) (cs':=[bO.cJ.val,bO.bV.val,bO.bB.val,str bO.aR,i64 bO.bA,str bO.cI,i64 bO.dB,str bO.dP,bO.bW.val,bO.cG.val,i64 bO.dK,str bO.cY,str bO.bU,i64 bO.bS,bO.bX.val,bO.cH.val,bO.bL.val,bO.aK.val,AA.val,BB.val,i64 bO.time]) rfl G4 ?_
 refine Zl ?_
 refine VC.shut AA 9 (fun _ _ _ _=>trivial) ?_
 refine VC.shut BB 9 (fun _ _ _ _=>trivial) ?_
 cases hS
 exact VC.ret (oV (vs:=[.agg #[bO.cJ.val,bO.bV.val,bO.bB.val,str bO.aR,i64 bO.bA,str bO.cI,i64 bO.dB,str bO.dP,bO.bW.val,bO.cG.val,i64 bO.dK,str bO.cY,str bO.bU,i64 bO.bS,bO.bX.val,bO.cH.val,bO.bL.val,bO.aK.val,AA.val,BB.val,i64 bO.time]]) (.inr rfl) rfl (jY.cell jS rfl rfl Rd.blk (jY.nil)) ⟨bO.cJ,bO.bV,bO.bB,bO.aR,bO.bA,bO.cI,bO.dB,bO.dP,bO.bW,bO.cG,bO.dK,bO.cY,bO.bU,bO.bS,bO.bX,bO.cH,bO.bL,bO.aK,AA,BB,bO.time⟩ rfl rfl (by (try dsimp only); exact dQ.out) (fun _ _=>trivial))
theorem DC (eL:Sv aZ) {r:List eC} (hS:Sh.F0 eL.l=some r) :
 Ct Tryz.prog 37 [eL.val] eL.ok (Ow.emp) (X:=Sv eC) (fun x=>x.val) (fun x=>r=x.l) (fun x=>Mo.tt) (fun x=>Sv.own x 184):=by
 refine Zo Tryz.func37 Tryz.ntmps37 fun c => ?_
 unfold Sh.F0 at hS
 refine Zq (Zr ?_)
 refine Zy ?_
 refine Zq (Zr ?_)
 refine Zy ?_
 refine Zq (Zq (Zr ?_))
 refine Zy ?_
 refine Zb ?_
 refine VC.qU (⟨none,0,[]⟩:Sv eC) 184 ⟨rfl,rfl⟩ ?_
 refine VC.iter (S:=Sv eC×Int) (fun sg=>(sg.1.l,sg.2)) (fun sg=>[(0,eL.val),(3,sg.1.val),(4,i64 sg.2)]) (fun sg=>Mo.tt) (fun sg=>Ow.star (Sv.own sg.1 184) (Ow.emp)) (⟨none,0,[]⟩,0) [0,3,4] hS rfl ?_
 clear hS
 rintro ⟨kH,gT⟩ m1 y1 hS hK1
 refine Zq (Zq (Zr ?_))
 refine Zy ?_
 refine Zu (fH (s:=eL) Tryz.underlying50 rfl) ?_
 refine Zu (dA rfl rfl) ?_
 refine Zl ?_
 refine Zc hS (fun h8 hS => ?_) (fun h8 hS => ?_)
 ·
  refine Zk ?_
  refine Zq (Zb ?_)
  refine VC.draw [(0,true),(1,true),(2,true),(3,true),(4,true),(5,true),(6,true),(7,true),(8,true),(9,true),(10,true),(11,true),(12,true),(13,true),(14,true),(15,true),(16,true),(17,false),(18,false),(19,true)] mixed (by kernel_rfl) (by kernel_rfl) (by kernel_rfl) ?_
  refine Zw rfl (bI rfl) ?_
  refine Zw rfl (bI rfl) ?_
  refine Zw rfl (bI rfl) ?_
  obtain ⟨fP,qV,qC,hS⟩:=eW hS
  refine Zw rfl (dH (s:=eL) Tryz.underlying50 rN rfl rfl qV (bC qV qC)) ?_
  refine Zw rfl (aB uV rfl) ?_
  refine Zw rfl (jK (s:=eL) cD rfl qC rfl) ?_
  refine Zw rfl (bI rfl) ?_
  refine Zw rfl (bI rfl) ?_
  obtain ⟨lQ,uM,sY,hS⟩:=eW hS
  refine Zw rfl (dH (s:=eL) Tryz.underlying50 rN rfl rfl uM (bC uM sY)) ?_
  refine Zw rfl (aB KD rfl) ?_
  refine Zw rfl (jK (s:=eL) cN rfl sY rfl) ?_
  refine Zw rfl (bI rfl) ?_
  refine Zw rfl (bI rfl) ?_
  obtain ⟨DT,VH,UP,hS⟩:=eW hS
  refine Zw rfl (dH (s:=eL) Tryz.underlying50 rN rfl rfl VH (bC VH UP)) ?_
  refine Zw rfl (aB GL rfl) ?_
  refine Zw rfl (jK (s:=eL) cD rfl UP rfl) ?_
  refine Zw rfl (eO (vs:=[(0,str fP.path),(1,i64 lQ.mode),(2,str DT.data)]) (cs := #[str fP.path,i64 lQ.mode,str DT.data]) rfl (by kernel_rfl)) ?_
  refine VD.one rfl ?_
  refine VL.lit (α:=eC) (xs:=[.tmp 27]) (vs:=[.agg #[str fP.path,i64 lQ.mode,str DT.data]]) [⟨fP.path,lQ.mode,DT.data⟩] Tryz.underlying73 aRz (by decide) rfl rfl rfl rfl (by decide) (fun _ _ _ _=>trivial) (by decide) (fun aKP aFN => ?_) (by decide)
  replace hS:=dL aFN hS
  refine VL.back (D':=[]) (by kernel_rfl) (aF.nil) ?_
  refine VD.one rfl ?_
  obtain ⟨b29,hS⟩:=bQ hS
  refine VL.app (s:=kH) (r:=aKP) Tryz.underlying73 aRg (by decide) rfl Fo.out (CW b29) (CX b29 (by decide)) (by decide) (fun S1 UK => ?_)
  replace hS:=dL UK hS
  refine VL.back (D':=[]) (by kernel_rfl) (aF.nil) ?_
  refine Zw rfl (iG rfl) ?_
  refine VD.to (fun _ _ h=>h) ?_
  refine VC.keep (ρ':=[(0,eL.val),(3,S1.val),(4,i64 gT)]) [0,3,4] rfl ?_
  refine Zr ?_
  refine Zm ?_
  obtain ⟨b10,hS⟩:=bQ hS
  refine Zu (dZ rfl rfl b10) ?_
  refine Za ?_
  refine VL.kE (S1,(gT+1)) [0,3,4] (fun _ _ h=>h) (go2 hS hK1) rfl
 replace hS:=fF hS hK1
 refine Zx ?_
 refine Zq (Zr ?_)
 refine Zy ?_
 cases hS
 exact VC.ret (iU (.inr rfl) rfl rfl kH rfl rfl (by (try dsimp only); exact dQ.out) (by (try dsimp only); exact fL.out))
theorem aBR (eV:Sv aQ) {r:List fD} (hS:Sh.QV eV.l=some r) :
 Ct Tryz.prog 149 [eV.val] eV.ok (Ow.emp) (X:=Sv fD) (fun x=>x.val) (fun x=>r=x.l) (fun x=>Mo.tt) (fun x=>Sv.own x 219):=by
 refine Zo Tryz.func149 Tryz.ntmps149 fun c => ?_
 unfold Sh.QV at hS
 refine Zq (Zr ?_)
 refine Zy ?_
 refine Zq (Zr ?_)
 refine Zy ?_
 refine Zq (Zq (Zr ?_))
 refine Zy ?_
 refine Zb ?_
 refine VC.qU (⟨none,0,[]⟩:Sv fD) 219 ⟨rfl,rfl⟩ ?_
 refine VC.iter (S:=Sv fD×Int) (fun sg=>(sg.1.l,sg.2)) (fun sg=>[(0,eV.val),(3,sg.1.val),(4,i64 sg.2)]) (fun sg=>Mo.tt) (fun sg=>Ow.star (Sv.own sg.1 219) (Ow.emp)) (⟨none,0,[]⟩,0) [0,3,4] hS rfl ?_
 clear hS
 rintro ⟨kH,gT⟩ m1 y1 hS hK1
 refine Zq (Zq (Zr ?_))
 refine Zy ?_
 refine Zu (fH (s:=eV) Tryz.underlying51 rfl) ?_
 refine Zu (dA rfl rfl) ?_
 refine Zl ?_
 refine Zc hS (fun h9 hS => ?_) (fun h9 hS => ?_)
 ·
  refine Zk ?_
  refine Zq (Zb (Zq (Zr ?_)))
  refine Zy ?_
  obtain ⟨fP,qV,qC,hS⟩:=eW hS
  refine Zu (dH (s:=eV) Tryz.underlying51 pS rfl rfl qV (bC qV qC)) ?_
  refine Zu (jL (s:=eV) sD rfl rfl qC) ?_
  refine VL.alloc (cs:=[str [],i64 0,i64 0,str [],i64 0,i64 0]) (by kernel_rfl) (by decide) fun a1H => ?_
  refine Zv (vc:=[str fP.path,i64 fP.dJ,i64 fP.mode,str fP.data,i64 fP.time,i64 fP.size]) (cs':=[str fP.path,i64 fP.dJ,i64 fP.mode,str fP.data,i64 fP.time,i64 fP.size]) rfl pS ?_
  refine Zl ?_
  refine VC.keep (ρ':=[(0,eV.val),(3,kH.val),(4,i64 gT),(5,ptr a1H 0)]) [0,3,4,5] rfl ?_
  refine Zr ?_
  refine Zm ?_
  refine Zu (aB pE rfl) ?_
  refine Zu (aI cD rfl rfl) ?_
  refine Zu (aB uW rfl) ?_
  refine Zu (aI cN rfl rfl) ?_
  refine Zu (aB AN rfl) ?_
  refine Zu (aI cN rfl rfl) ?_
  refine Zu (aB yO rfl) ?_
  refine Zu (aI cD rfl rfl) ?_
  refine Zu (aB QN rfl) ?_
  refine Zu (aI cN rfl rfl) ?_
  refine Zu (aB QO rfl) ?_
  refine Zu (aI cN rfl rfl) ?_
  refine Zu (eO (vs:=[(0,str fP.path),(1,i64 fP.dJ),(2,i64 fP.mode),(3,str fP.data),(4,i64 fP.time),(5,i64 fP.size)]) (cs := #[str fP.path,i64 fP.dJ,i64 fP.mode,str fP.data,i64 fP.time,i64 fP.size]) rfl (by kernel_rfl)) ?_
  refine VL.lit (α:=fD) (xs:=[.tmp 29]) (vs:=[.agg #[str fP.path,i64 fP.dJ,i64 fP.mode,str fP.data,i64 fP.time,i64 fP.size]]) [⟨fP.path,fP.dJ,fP.mode,fP.data,fP.time,fP.size⟩] Tryz.underlying74 aSF (by decide) rfl rfl rfl rfl (by decide) (fun _ _ _ _=>trivial) (by decide) (fun a0e aXB => ?_) (by decide)
  replace hS:=dL aXB hS
  obtain ⟨b31,hS⟩:=bQ hS
  refine VL.app (s:=kH) (r:=a0e) Tryz.underlying74 aRn (by decide) rfl Fo.out (CW b31) (CX b31 (by decide)) (by decide) (fun aUP aXE => ?_)
  replace hS:=dL aXE hS
  refine Zy ?_
  refine VC.keep (ρ':=[(0,eV.val),(3,aUP.val),(4,i64 gT)]) [0,3,4] rfl ?_
  refine Zr ?_
  refine Zm ?_
  obtain ⟨b11,hS⟩:=bQ hS
  refine Zu (dZ rfl rfl b11) ?_
  refine Za ?_
  refine VL.kE (aUP,(gT+1)) [0,3,4] (fun _ _ h=>h) (go2 hS hK1) rfl
 replace hS:=fF hS hK1
 refine Zx ?_
 refine Zq (Zr ?_)
 refine Zy ?_
 cases hS
 exact VC.ret (iU (.inr rfl) rfl rfl kH rfl rfl (by (try dsimp only); exact dQ.out) (by (try dsimp only); exact fL.out))
theorem aFY (eV:Sv dI) {r:List kP} (hS:Sh.KO eV.l=some r) :
 Ct Tryz.prog 150 [eV.val] eV.ok (Ow.emp) (X:=Sv kP) (fun x=>x.val) (fun x=>r=x.l) (fun x=>Mo.tt) (fun x=>Sv.own x 205):=by
 refine Zo Tryz.func150 Tryz.ntmps150 fun c => ?_
 unfold Sh.KO at hS
 refine Zq (Zr ?_)
 refine Zy ?_
 refine Zq (Zr ?_)
 refine Zy ?_
 refine Zq (Zq (Zr ?_))
 refine Zy ?_
 refine Zb ?_
 refine VC.qU (⟨none,0,[]⟩:Sv kP) 205 ⟨rfl,rfl⟩ ?_
 refine VC.iter (S:=Sv kP×Int) (fun sg=>(sg.1.l,sg.2)) (fun sg=>[(0,eV.val),(3,sg.1.val),(4,i64 sg.2)]) (fun sg=>Mo.tt) (fun sg=>Ow.star (Sv.own sg.1 205) (Ow.emp)) (⟨none,0,[]⟩,0) [0,3,4] hS rfl ?_
 clear hS
 rintro ⟨kH,gT⟩ m1 y1 hS hK1
 refine Zq (Zq (Zr ?_))
 refine Zy ?_
 refine Zu (fH (s:=eV) Tryz.underlying52 rfl) ?_
 refine Zu (dA rfl rfl) ?_
 refine Zl ?_
 refine Zc hS (fun h8 hS => ?_) (fun h8 hS => ?_)
 ·
  refine Zk ?_
  refine Zq (Zb ?_)
  refine VC.draw [(0,true),(1,true),(2,true),(3,true),(4,true),(5,true),(6,true),(7,true),(8,true),(9,true),(10,true),(11,true),(12,false),(13,false),(14,true)] mixed (by kernel_rfl) (by kernel_rfl) (by kernel_rfl) ?_
  refine Zw rfl (bI rfl) ?_
  refine Zw rfl (bI rfl) ?_
  refine Zw rfl (bI rfl) ?_
  obtain ⟨fP,qV,qC,hS⟩:=eW hS
  refine Zw rfl (dH (s:=eV) Tryz.underlying52 uL rfl rfl qV (bC qV qC)) ?_
  refine Zw rfl (aB AM rfl) ?_
  refine Zw rfl (jK (s:=eV) cD rfl qC rfl) ?_
  refine Zw rfl (bI rfl) ?_
  refine Zw rfl (bI rfl) ?_
  obtain ⟨lQ,uM,sY,hS⟩:=eW hS
  refine Zw rfl (dH (s:=eV) Tryz.underlying52 uL rfl rfl uM (bC uM sY)) ?_
  refine Zw rfl (aB KF rfl) ?_
  refine Zw rfl (jK (s:=eV) cN rfl sY rfl) ?_
  refine Zw rfl (eO (vs:=[(0,str fP.name),(1,i64 lQ.cB)]) (cs := #[str fP.name,i64 lQ.cB]) rfl (by kernel_rfl)) ?_
  refine VD.one rfl ?_
  refine VL.lit (α:=kP) (xs:=[.tmp 22]) (vs:=[.agg #[str fP.name,i64 lQ.cB]]) [⟨fP.name,lQ.cB⟩] Tryz.underlying75 aSB (by decide) rfl rfl rfl rfl (by decide) (fun _ _ _ _=>trivial) (by decide) (fun a08 aWt => ?_) (by decide)
  replace hS:=dL aWt hS
  refine VL.back (D':=[]) (by kernel_rfl) (aF.nil) ?_
  refine VD.one rfl ?_
  obtain ⟨b24,hS⟩:=bQ hS
  refine VL.app (s:=kH) (r:=a08) Tryz.underlying75 aRj (by decide) rfl Fo.out (CW b24) (CX b24 (by decide)) (by decide) (fun aUL aWw => ?_)
  replace hS:=dL aWw hS
  refine VL.back (D':=[]) (by kernel_rfl) (aF.nil) ?_
  refine Zw rfl (iG rfl) ?_
  refine VD.to (fun _ _ h=>h) ?_
  refine VC.keep (ρ':=[(0,eV.val),(3,aUL.val),(4,i64 gT)]) [0,3,4] rfl ?_
  refine Zr ?_
  refine Zm ?_
  obtain ⟨b10,hS⟩:=bQ hS
  refine Zu (dZ rfl rfl b10) ?_
  refine Za ?_
  refine VL.kE (aUL,(gT+1)) [0,3,4] (fun _ _ h=>h) (go2 hS hK1) rfl
 replace hS:=fF hS hK1
 refine Zx ?_
 refine Zq (Zr ?_)
 refine Zy ?_
 cases hS
 exact VC.ret (iU (.inr rfl) rfl rfl kH rfl rfl (by (try dsimp only); exact dQ.out) (by (try dsimp only); exact fL.out))
end Go.Proofs.YthbccdlpalenlaaGreatDoor
end
