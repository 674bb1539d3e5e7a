/- Part of the proofs of: a plan's folder, laid down by the journal, is on the disk as planned, and outlasts the power (any two trees, any keep) -/
import Derived.Test.YtedhnpjkoeblnaaGreatDoorLE
set_option linter.unusedVariables false
set_option linter.unusedSimpArgs false
set_option linter.unusedSectionVars false
section
set_option linter.unusedVariables false
namespace Go.Proofs.YtedhnpjkoeblnaaGreatDoor
set_option maxHeartbeats 4000000
set_option maxRecDepth 100000
set_option synthInstance.maxSize 2000
set_option synthInstance.maxHeartbeats 1000000
open Go.RowKit Go.V
open Go.S hiding aK
theorem aHe (jP:Sv aC) (DF:Sv aE) (YC:Sv aC) (p_3:aK) {r:Bool} (hS:Sh.LU jP.l DF.l YC.l p_3=some r) :
 Cp Tryz.prog 66 [jP.val,DF.val,YC.val,str p_3] (jP.ok.and (DF.ok.and YC.ok)) (.bool r):=by
 refine Zo Tryz.func66 Tryz.ntmps66 fun c => ?_
 unfold Sh.LU at hS
 refine Zq (Zr (Zy ?_))
 refine Zq (Zr (Zm ?_))
 obtain ⟨iW,CE,hS⟩:=aO hS
 refine VL.dK (TT DF 0 CE) rfl (by decide) ?_
 rintro oV rfl
 try dsimp only
 refine Zm ?_
 obtain ⟨kM,RP,hS⟩:=aO hS
 refine Zu (cH (vY oV p_3 RP) rfl (fun _ _=>rfl)) ?_
 refine gV [str [],i64 0,str [],.bool false] fun aAv => ?_
 refine Zv (cs':=[str kM.dZ,i64 kM.cN,str kM.dQ,.bool kM.is]) rfl aE7 ?_
 refine Zl ?_
 refine Zq ?_
 refine l9 [(0,true),(1,true),(2,true),(3,true),(4,true),(5,true),(6,true),(7,true),(8,true),(9,true),(10,true),(11,true),(12,true),(13,true),(15,true),(14,false),(16,true),(17,true),(18,true),(19,true)] ?_
 refine Zw rfl (bB rfl) ?_
 refine Zw rfl (bB rfl) ?_
 obtain ⟨pT,J5,hS⟩:=aO hS
 refine Zw rfl (cH (vY YC p_3 J5) rfl (fun _ _=>rfl)) ?_
 refine Zw rfl (cJ aFb rfl rfl) ?_
 refine Zw rfl (VZ aFf (aFh pT.dZ pT.cN pT.dQ pT.is kM.dZ kM.cN kM.dQ kM.is) rfl rfl) ?_
 refine Zw rfl (bB rfl) ?_
 refine VD.rC 19 rfl (fun h19 => ?_) (fun h19 => ?_)
 ·
  replace hS:=EZ h19 hS
  refine Zi rfl (cJ aFb rfl rfl) ?_
  refine Zi rfl (bB rfl) ?_
  refine Zi rfl (bB rfl) ?_
  obtain ⟨TA,a0P,hS⟩:=aO hS
  refine Zi rfl (cH (vY jP p_3 a0P) rfl (fun _ _=>rfl)) ?_
  refine Zi rfl (VZ aFf (aFh kM.dZ kM.cN kM.dQ kM.is TA.dZ TA.cN TA.dQ TA.is) rfl rfl) ?_
  refine Zw rfl (gS rfl rfl) ?_
  refine Zw rfl (bB rfl) ?_
  refine VD.rC 26 rfl (fun h26 => ?_) (fun h26 => ?_)
  ·
   replace hS:=EZ h26 hS
   refine Zi rfl (bB rfl) ?_
   refine Zi rfl (bB rfl) ?_
   refine VD.aEF rfl rfl rfl ?_
   refine VL.guard rfl rfl ?_
   obtain ⟨aDw,aJ6,hS⟩:=aO hS
   refine VL.bL (CZ DF aJ6) rfl (by decide) ?_
   rintro aYO rfl
   try dsimp only
   refine jS [(15,str p_3)] (aI.mB rfl rfl rfl (bB rfl) aI.nil) ?_
   obtain ⟨aPS,a07,hS⟩:=aO hS
   refine Zi rfl (rT (mM aYO p_3 a07) rfl (fun _ _=>rfl)) ?_
   refine Zi rfl (jE rfl) ?_
   refine Zw rfl (gS rfl rfl) ?_
   refine Zw rfl (gI rfl) ?_
   refine VD.to (fun _ _ h=>h) ?_
   refine VC.keep (ρ':=[(8,.bool (!aPS))]) [8] rfl ?_
   cases hS
   exact Ze
  replace hS:=JW h26 hS
  refine Zd ?_
  refine Zd ?_
  refine VD.Y4 (D':=[(15,undef)]) rfl rfl rfl (by decide) (by decide) (by kernel_rfl) (aI.jZ rfl rfl rfl rfl (aI.nil)) ?_
  refine Zd ?_
  refine Zd ?_
  refine Zw rfl (gL rfl rfl) ?_
  refine Zw rfl (gI rfl) ?_
  refine VD.to (fun _ _ h=>h) ?_
  refine VC.keep (ρ':=[(8,.bool false)]) [8] rfl ?_
  cases hS
  exact Ze
 replace hS:=JW h19 hS
 refine Zd ?_
 refine Zd ?_
 refine Zd ?_
 refine Zd ?_
 refine Zd ?_
 refine Zw rfl (gL rfl rfl) ?_
 refine Zw rfl (bB rfl) ?_
 refine Zd ?_
 refine Zd ?_
 refine VD.Y4 (D':=[(15,undef)]) rfl rfl rfl (by decide) (by decide) (by kernel_rfl) (aI.jZ rfl rfl rfl rfl (aI.nil)) ?_
 refine Zd ?_
 refine Zd ?_
 refine Zw rfl (gL rfl rfl) ?_
 refine Zw rfl (gI rfl) ?_
 refine VD.to (fun _ _ h=>h) ?_
 refine VC.keep (ρ':=[(8,.bool false)]) [8] rfl ?_
 cases hS
 exact Ze
theorem aEM (zT:aK) (jA:Nat) (a_1:jL) (aUU:Nat) (a_2:aC) {r:Bool} (hS:Sh.CH zT a_1.pl a_2=some r) :
 Cp Tryz.prog 69 [str zT,ptr jA 0,ptr aUU 0] (a_1.files.ok.and (a_1.entries.ok.and (a_1.conflicts.ok.and ((Cells jA 0 [a_1.files.val,a_1.entries.val,a_1.conflicts.val]).and (Cells aUU 0 [str a_2.path,i64 a_2.mode,str a_2.data]))))) (.bool r):=by
 refine Zo Tryz.func69 Tryz.ntmps69 fun c => ?_
 unfold Sh.CH at hS
 refine Zq (Zr (Zy ?_))
 refine Zq (Zr (Zu (aB xP rfl) (Zu (VW kO rfl rfl) (Zm ?_))))
 obtain ⟨uL,G8,hS⟩:=aO hS
 refine Zu (cH (vY a_1.files zT G8) rfl (fun _ _=>rfl)) ?_
 refine Zu (aY0 Tryz.underlying110 rfl lK rfl rfl) (Zm ?_)
 refine xJ 10 hS (fun h10 hS => ?_) (fun h10 hS => ?_)
 ·
  refine Zg ?_
  refine Zh (aB kU rfl) ?_
  refine Zh (VW cQ rfl rfl) ?_
  obtain ⟨C9,aJT,hS⟩:=aO hS
  refine Zh (cH (rQ zT a_2.path aJT) rfl (fun _ _=>rfl)) ?_
  refine Zy ?_
  refine VC.keep (ρ':=[(4,.bool C9)]) [4] rfl ?_
  cases hS
  exact Ze
 refine VL.runs 6 [(4,some false)] (by kernel_rfl) ?_
 refine Zl ?_
 cases hS
 exact Ze
theorem ES (aA:Sv aK) (eF:Nat) (fD:jL) (DC:Nat) (ED:aC) {r:Int} (hS:Sh.qO aA.l fD.pl ED=some r) :
 Cp Tryz.prog 124 [aA.val,.func (.func 69) #[] #[ptr eF 0,ptr DC 0]] (aA.ok.and (fD.files.ok.and (fD.entries.ok.and (fD.conflicts.ok.and ((Cells eF 0 [fD.files.val,fD.entries.val,fD.conflicts.val]).and (Cells DC 0 [str ED.path,i64 ED.mode,str ED.data])))))) (i64 r):=by
 refine Zo Tryz.func124 Tryz.ntmps124 fun c => ?_
 unfold Sh.qO at hS
 refine Zq (Zr (Zy ?_))
 refine Zq (Zq (Zr (Zm (Zu (eB (s:=aA) Tryz.underlying39 rfl) (Zy ?_)))))
 refine Zb ?_
 refine VC.iter (S:=Int) (fun (cV:Int)=>cV) (fun (cV:Int)=>[(0,aA.val),(1,.func (.func 69) #[] #[ptr eF 0,ptr DC 0]),(7,i64 (aA.l.length:Int)),(8,i64 cV)]) (fun (cV:Int)=>Mo.tt) (fun (cV:Int)=>Ow.emp) 0 [0,1,7,8] hS rfl ?_
 clear hS
 rintro cV m1 y1 hS hK1
 refine Zq (Zr (Zu (dW rfl rfl) ?_))
 refine Zl ?_
 refine Zq ?_
 refine Zc hS (fun h9 hS => ?_) (fun h9 hS => ?_)
 ·
  refine Zk ?_
  refine Zq (Zb (Zq (Zr (Zy ?_))))
  refine Zq (Zr (Zy ?_))
  obtain ⟨eV,nC,lU,hS⟩:=fA hS
  refine Zu (eZ (s:=aA) Tryz.underlying39 pU rfl rfl nC (bH nC lU)) (Zu (zW (s:=aA) cQ rfl lU rfl) ?_)
  obtain ⟨iA,rG,hS⟩:=aO hS
  refine Zu (tJ (vs:=[str eV]) (caps:=[ptr eF 0,ptr DC 0]) (aEM eV eF fD DC ED rG) rfl rfl (fun _ _=>rfl)) ?_
  refine Zl ?_
  refine VC.keep (ρ':=[(0,aA.val),(1,.func (.func 69) #[] #[ptr eF 0,ptr DC 0]),(7,i64 (aA.l.length:Int)),(8,i64 cV),(5,i64 cV),(16,.bool iA)]) [0,1,7,8,5,16] rfl ?_
  refine gR hS (fun h16 hS => ?_) (fun h16 hS => ?_)
  ·
   refine Zq (Zr (Zy ?_))
   replace hS:=iJ hS hK1
   cases hS
   exact Ze
  refine Zk ?_
  refine Zr ?_
  obtain ⟨b18,hS⟩:=bU hS
  refine Zu (cR rfl rfl b18) (Zm ?_)
  refine VL.jU (cV+1) [0,1,7,8] (fun _ _ h=>h) (go2 hS hK1) rfl
 replace hS:=iJ hS hK1
 refine Zx ?_
 refine Zq (Zr (Zy ?_))
 cases hS
 exact Ze
theorem CM (aA:Sv aK) (eF:Nat) (fD:jL) (DC:Nat) (ED:aC) {r:Bool} (hS:Sh.kE aA.l fD.pl ED=some r) :
 Cp Tryz.prog 68 [aA.val,.func (.func 69) #[] #[ptr eF 0,ptr DC 0]] (aA.ok.and (fD.files.ok.and (fD.entries.ok.and (fD.conflicts.ok.and ((Cells eF 0 [fD.files.val,fD.entries.val,fD.conflicts.val]).and (Cells DC 0 [str ED.path,i64 ED.mode,str ED.data])))))) (.bool r):=by
 refine Zo Tryz.func68 Tryz.ntmps68 fun c => ?_
 unfold Sh.kE at hS
 refine Zq (Zr (Zy ?_))
 refine Zq (Zr (Zy ?_))
 obtain ⟨jO,mD,hS⟩:=aO hS
 refine Zu (rT (ES aA eF fD DC ED mD) rfl (fun _ _=>rfl)) ?_
 refine Zu (vC rfl rfl) (Zy ?_)
 cases hS
 exact Ze
theorem aHd (jP:Sv aC) (r_1:jL) (DG:Sv aE) (j7:Sv aC) {r:List aK} (hS:Sh.LS jP.l r_1.pl DG.l j7.l=some r) :
 Ct Tryz.prog 28 [jP.val,.agg #[r_1.files.val,r_1.entries.val,r_1.conflicts.val],DG.val,j7.val] (jP.ok.and (r_1.files.ok.and (r_1.entries.ok.and (r_1.conflicts.ok.and (DG.ok.and j7.ok))))) (Ow.emp) (X:=Sv aK) (fun x=>x.val) (fun x=>r=x.l) (fun x=>Mo.tt) (fun x=>Sv.own x 9):=by
 refine Zo Tryz.func28 Tryz.ntmps28 fun c => ?_
 unfold Sh.LS at hS
 refine Zq (Zr ?_)
 refine kQ [r_1.files.val,r_1.entries.val,r_1.conflicts.val] fun BG => ?_
 refine Zy ?_
 refine Zq (Zr (Zm (Zu (cJ FZ rfl rfl) ?_)))
 obtain ⟨MQ,aJX,hS⟩:=aO hS
 refine VL.bL (P8 jP r_1 aJX) rfl (by decide) ?_
 rintro nE rfl
 try dsimp only
 refine Zy ?_
 refine Zq (Zr (Zy ?_))
 refine Zq (Zq (Zr (Zm (Zu (eB (s:=nE) Tryz.underlying39 rfl) (Zy ?_)))))
 refine Zb ?_
 refine VC.nU (⟨none,0,[]⟩:Sv aK) 9 ⟨rfl,rfl⟩ ?_
 refine VC.iter (S:=Sv aK×Int) (fun sg=>(sg.1.l,sg.2)) (fun sg=>[(0,jP.val),(2,DG.val),(3,j7.val),(5,ptr BG 0),(9,nE.val),(10,sg.1.val),(18,nE.val),(19,i64 (nE.l.length:Int)),(20,i64 sg.2)]) (fun sg=>Mo.tt) (fun sg=>Ow.star (bE BG [r_1.files.val,r_1.entries.val,r_1.conflicts.val] 41) (Ow.star (Sv.own nE 9) (Ow.star (Sv.own sg.1 9) (Ow.emp)))) (⟨none,0,[]⟩,0) [0,2,3,5,9,10,18,19,20] hS rfl ?_
 clear hS
 rintro ⟨DK,O8⟩ m1 y1 hS hK1
 refine Zq (Zr (Zu (dW rfl rfl) ?_))
 refine Zl ?_
 refine Zq ?_
 refine Zc hS (fun h21 hS => ?_) (fun h21 hS => ?_)
 ·
  refine Zk ?_
  refine Zq (Zb (Zq (Zr ?_)))
  obtain ⟨aAk,aQn,aQL,hS⟩:=fA hS
  refine Zu (lN (s:=nE) Tryz.underlying39 pU rfl rfl aQn (bH aQn aQL)) (Zu (AO (s:=nE) 9 cQ rfl aQL rfl) (Zy ?_))
  refine Zq (Zr (Zy ?_))
  obtain ⟨aDw,aJ6,hS⟩:=aO hS
  refine Zu (cH (aHe jP DG j7 aAk aJ6) rfl (fun _ _=>rfl)) ?_
  refine Zu (jE rfl) ?_
  refine Zl ?_
  refine VC.keep (ρ':=[(0,jP.val),(2,DG.val),(3,j7.val),(5,ptr BG 0),(9,nE.val),(10,DK.val),(18,nE.val),(19,i64 (nE.l.length:Int)),(20,i64 O8),(12,str aAk),(29,.bool (!aDw))]) [0,2,3,5,9,10,18,19,20,12,29] rfl ?_
  refine gR hS (fun h29 hS => ?_) (fun h29 hS => ?_)
  ·
   refine Zr (Zy ?_)
   refine VL.lit (α:=aK) (xs:=[.tmp 31]) (vs:=[str aAk]) [aAk] Tryz.underlying39 xQ (by decide) rfl rfl rfl rfl (by decide) (fun _ _ _ _=>trivial) (by decide) (fun a6R a1t => ?_) (by decide)
   replace hS:=bW a1t hS
   obtain ⟨b33,hS⟩:=bU hS
   refine VL.app (s:=DK) (r:=a6R) Tryz.underlying39 R6 (by decide) rfl Fo.out (wM b33) (wN b33 (by decide)) (by decide) (fun a6S a1u => ?_)
   replace hS:=bW a1u hS
   refine Zy ?_
   refine Zr ?_
   obtain ⟨b34,hS⟩:=bU hS
   refine Zu (cR rfl rfl b34) (Zm ?_)
   refine VL.jU (a6S,(O8+1)) [0,2,3,5,9,10,18,19,20] (fun _ _ h=>h) (go2 hS hK1) rfl
  refine Zk ?_
  refine Zr ?_
  obtain ⟨b34,hS⟩:=bU hS
  refine Zu (cR rfl rfl b34) (Zm ?_)
  refine VL.jU (DK,(O8+1)) [0,2,3,5,9,10,18,19,20] (fun _ _ h=>h) (go2 hS hK1) rfl
 replace hS:=iJ hS hK1
 refine Zx ?_
 refine Zq (Zq (Zr (Zm (Zu (eB (s:=j7) Tryz.underlying23 rfl) (Zy ?_)))))
 refine VC.keep (ρ':=[(5,ptr BG 0),(9,nE.val),(10,DK.val),(35,j7.val),(36,i64 (j7.l.length:Int)),(37,i64 0)]) [5,9,10,35,36,37] rfl ?_
 refine Zb ?_
 refine VC.iter (S:=Sv aK×Int) (fun sg=>(sg.1.l,sg.2)) (fun sg=>[(5,ptr BG 0),(9,nE.val),(10,sg.1.val),(35,j7.val),(36,i64 (j7.l.length:Int)),(37,i64 sg.2)]) (fun sg=>Mo.tt) (fun sg=>Ow.star (bE BG [r_1.files.val,r_1.entries.val,r_1.conflicts.val] 41) (Ow.star (Sv.own nE 9) (Ow.star (Sv.own sg.1 9) (Ow.emp)))) (DK,0) [5,9,10,35,36,37] hS rfl ?_
 clear hS
 rintro ⟨q9,xG⟩ m1 y1 hS hK1
 refine Zq (Zr (Zu (dW rfl rfl) ?_))
 refine Zl ?_
 refine Zq ?_
 refine Zc hS (fun h38 hS => ?_) (fun h38 hS => ?_)
 ·
  refine Zk ?_
  refine Zq (Zb (Zq (Zr ?_)))
  obtain ⟨xI,aM6,aLq,hS⟩:=fA hS
  refine Zu (eZ (s:=j7) Tryz.underlying23 fC rfl rfl aM6 (bH aM6 aLq)) (Zu (nX (s:=j7) kI rfl rfl aLq) ?_)
  refine gV [str [],i64 0,str []] fun aAt => ?_
  refine Zv (cs':=[str xI.path,i64 xI.mode,str xI.data]) rfl fC ?_
  refine Zl ?_
  refine VC.gN (S:=Unit) (fun (_:Unit)=>()) (fun (_:Unit)=>[(5,ptr BG 0),(9,nE.val),(10,q9.val),(14,ptr aAt 0),(35,j7.val),(36,i64 (j7.l.length:Int)),(37,i64 xG)]) (fun (_:Unit)=>Mo.tt) (fun (_:Unit)=>Ow.star (bE aAt [str xI.path,i64 xI.mode,str xI.data] 32) (Ow.star (bE BG [r_1.files.val,r_1.entries.val,r_1.conflicts.val] 41) (Ow.star (Sv.own nE 9) (Ow.star (Sv.own q9 9) (Ow.emp))))) hS ?_ ?_
  ·
   clear hS
   intro k15 hS
   refine Zq (Zr (Zm (Zu (aB kU rfl) (Zu (aL cQ rfl rfl) ?_))))
   obtain ⟨aC8,aF0,hS⟩:=aO hS
   refine Zu (rT (mM nE xI.path aF0) rfl (fun _ _=>rfl)) ?_
   refine Zm ?_
   refine xJ 45 hS (fun h45 hS => ?_) (fun h45 hS => ?_)
   ·
    refine Zh (aB xP rfl) ?_
    refine Zh (aL kO rfl rfl) ?_
    refine Zh (aB kU rfl) ?_
    refine Zh (aL cQ rfl rfl) ?_
    obtain ⟨aKj,aV0,hS⟩:=aO hS
    refine Zh (cH (vY r_1.files xI.path aV0) rfl (fun _ _=>rfl)) ?_
    refine Zh (aY0 Tryz.underlying110 rfl lK rfl rfl) ?_
    refine Zh (jE rfl) ?_
    refine Zy ?_
    refine VC.keep (ρ':=[(5,ptr BG 0),(9,nE.val),(10,q9.val),(35,j7.val),(36,i64 (j7.l.length:Int)),(37,i64 xG),(14,ptr aAt 0),(53,.bool (!aKj.is))]) [5,9,10,35,36,37,14,53] rfl ?_
    refine gR hS (fun h53 hS => ?_) (fun h53 hS => ?_)
    ·
     refine Zx ?_
     refine Zr ?_
     obtain ⟨b62,hS⟩:=bU hS
     refine Zu (cR rfl rfl b62) (Zm ?_)
     refine VL.jU (q9,(xG+1)) [5,9,10,35,36,37] (fun _ _ h=>h) (go2 hS hK1) rfl
    refine VC.iV () [5,9,10,14,35,36,37] (fun _ _ h=>h) hS rfl
   refine VL.runs 8 [(53,some false)] (by kernel_rfl) ?_
   refine Zl ?_
   refine VC.keep (ρ':=[(5,ptr BG 0),(9,nE.val),(10,q9.val),(35,j7.val),(36,i64 (j7.l.length:Int)),(37,i64 xG),(14,ptr aAt 0),(53,.bool false)]) [5,9,10,35,36,37,14,53] rfl ?_
   refine VC.CC rfl ?_
   refine VC.iV () [5,9,10,14,35,36,37] (fun _ _ h=>h) hS rfl
  clear hS
  rintro _ hS
  refine Zq (Zr (Zm (Zu (sJ rfl) ?_)))
  obtain ⟨aSB,aVc,hS⟩:=aO hS
  refine Zu (rT (CM nE BG r_1 aAt xI aVc) rfl (fun _ _=>rfl)) ?_
  refine Zl ?_
  refine gR hS (fun h56 hS => ?_) (fun h56 hS => ?_)
  ·
   refine Zr (Zm (Zu (aB kU rfl) (Zu (aL cQ rfl rfl) ?_)))
   refine VL.lit (α:=aK) (xs:=[.tmp 59]) (vs:=[str xI.path]) [xI.path] Tryz.underlying39 xQ (by decide) rfl rfl rfl rfl (by decide) (fun _ _ _ _=>trivial) (by decide) (fun aK2 aFt => ?_) (by decide)
   replace hS:=bW aFt hS
   obtain ⟨b61,hS⟩:=bU hS
   refine VL.app (s:=q9) (r:=aK2) Tryz.underlying39 R6 (by decide) rfl Fo.out (wM b61) (wN b61 (by decide)) (by decide) (fun aRU aXQ => ?_)
   replace hS:=bW aXQ hS
   refine Zy ?_
   refine VC.keep (ρ':=[(5,ptr BG 0),(9,nE.val),(10,aRU.val),(35,j7.val),(36,i64 (j7.l.length:Int)),(37,i64 xG)]) [5,9,10,35,36,37] rfl ?_
   refine Zr ?_
   obtain ⟨b62,hS⟩:=bU hS
   refine Zu (cR rfl rfl b62) (Zm ?_)
   refine VL.jU (aRU,(xG+1)) [5,9,10,35,36,37] (fun _ _ h=>h) (go2 hS hK1) rfl
  refine Zk ?_
  refine Zr ?_
  obtain ⟨b62,hS⟩:=bU hS
  refine Zu (cR rfl rfl b62) (Zm ?_)
  refine VL.jU (q9,(xG+1)) [5,9,10,35,36,37] (fun _ _ h=>h) (go2 hS hK1) rfl
 replace hS:=iJ hS hK1
 refine Zx ?_
 refine Zq (Zr (Zm ?_))
 obtain ⟨b64,hS⟩:=bU hS
 refine VL.bL (aA9 q9 b64) rfl (by decide) ?_
 rintro a3a ⟨aX1,aYt⟩
 try dsimp only
 rw [← aYt]
 replace hS:=bW aX1 hS
 refine Zl ?_
 refine Zq (Zr (Zm ?_))
 obtain ⟨b66,hS⟩:=bU hS
 refine VL.bL (N9 a3a b66) rfl (by decide) ?_
 rintro a3b aX2
 try dsimp only
 replace hS:=bW aX2 hS
 obtain ⟨aSM,aVp,hS⟩:=aO hS
 refine VL.bL (lZ a3b aVp) rfl (by decide) ?_
 rintro aIh rfl
 try dsimp only
 refine Zy ?_
 refine VC.keep (ρ':=[(8,aIh.val)]) [8] rfl ?_
 cases hS
 exact VC.ret (Z1 aIh)
theorem PX (fY:aE) (jA:Nat) (a_1:aK) {r:Bool} (hS:Sh.AD fY a_1=some r) :
 Cp Tryz.prog 74 [.agg #[str fY.path,i64 fY.eM,i64 fY.mode,str fY.data,i64 fY.time,i64 fY.size],ptr jA 0] (Cells jA 0 [str a_1]) (.bool r):=by
 refine Zo Tryz.func74 Tryz.ntmps74 fun c => ?_
 unfold Sh.AD at hS
 refine Zq (Zr ?_)
 refine kQ [str fY.path,i64 fY.eM,i64 fY.mode,str fY.data,i64 fY.time,i64 fY.size] fun fJ => ?_
 refine Zy ?_
 refine Zq (Zr (Zu (aB tG rfl) (Zu (aL cQ rfl rfl) (Zu (VW cQ rfl rfl) (Zy ?_)))))
 cases hS
 exact Ze
theorem wE (aA:Sv aE) (eF:Nat) (fD:aK) {r:Int} (hS:Sh.hU aA.l fD=some r) :
 Cp Tryz.prog 127 [aA.val,.func (.func 74) #[] #[ptr eF 0]] (aA.ok.and (Cells eF 0 [str fD])) (i64 r):=by
 refine Zo Tryz.func127 Tryz.ntmps127 fun c => ?_
 unfold Sh.hU at hS
 refine Zq (Zr (Zy ?_))
 refine Zq (Zq (Zr (Zm (Zu (eB (s:=aA) Tryz.underlying36 rfl) (Zy ?_)))))
 refine Zb ?_
 refine VC.iter (S:=Int) (fun (cV:Int)=>cV) (fun (cV:Int)=>[(0,aA.val),(1,.func (.func 74) #[] #[ptr eF 0]),(7,i64 (aA.l.length:Int)),(8,i64 cV)]) (fun (cV:Int)=>Mo.tt) (fun (cV:Int)=>Ow.emp) 0 [0,1,7,8] hS rfl ?_
 clear hS
 rintro cV m1 y1 hS hK1
 refine Zq (Zr (Zu (dW rfl rfl) ?_))
 refine Zl ?_
 refine Zq ?_
 refine Zc hS (fun h9 hS => ?_) (fun h9 hS => ?_)
 ·
  refine Zk ?_
  refine Zq (Zb (Zq (Zr (Zy ?_))))
  refine Zq (Zr (Zy ?_))
  obtain ⟨eV,nC,lU,hS⟩:=fA hS
  refine Zu (eZ (s:=aA) Tryz.underlying36 jD rfl rfl nC (bH nC lU)) (Zu (nX (s:=aA) oE rfl rfl lU) ?_)
  obtain ⟨iA,rG,hS⟩:=aO hS
  refine Zu (tJ (vs:=[.agg #[str eV.path,i64 eV.eM,i64 eV.mode,str eV.data,i64 eV.time,i64 eV.size]]) (caps:=[ptr eF 0]) (PX eV eF fD rG) rfl rfl (fun _ _=>rfl)) ?_
  refine Zl ?_
  refine VC.keep (ρ':=[(0,aA.val),(1,.func (.func 74) #[] #[ptr eF 0]),(7,i64 (aA.l.length:Int)),(8,i64 cV),(5,i64 cV),(16,.bool iA)]) [0,1,7,8,5,16] rfl ?_
  refine gR hS (fun h16 hS => ?_) (fun h16 hS => ?_)
  ·
   refine Zq (Zr (Zy ?_))
   replace hS:=iJ hS hK1
   cases hS
   exact Ze
  refine Zk ?_
  refine Zr ?_
  obtain ⟨b18,hS⟩:=bU hS
  refine Zu (cR rfl rfl b18) (Zm ?_)
  refine VL.jU (cV+1) [0,1,7,8] (fun _ _ h=>h) (go2 hS hK1) rfl
 replace hS:=iJ hS hK1
 refine Zx ?_
 refine Zq (Zr (Zy ?_))
 cases hS
 exact Ze
theorem vH (aA:Sv aE) (cY:Nat) (dY:aK) {r:List aE} (hS:Sh.gT aA.l dY=some r) :
 Ct Tryz.prog 73 [aA.val,.func (.func 74) #[] #[ptr cY 0]] Mo.tt (Ow.star (Sv.own aA 103) (bE cY [str dY] 9)) (X:=Sv aE) (fun x=>x.val) (fun x=>r=x.l) (fun x=>Mo.tt) (fun x=>Ow.star (Sv.own x 103) (bE cY [str dY] 9)):=by
 refine Zo Tryz.func73 Tryz.ntmps73 fun c => ?_
 unfold Sh.gT at hS
 refine Zq (Zr (Zy ?_))
 refine Zq (Zr (Zy ?_))
 obtain ⟨dA,mC,hS⟩:=aO hS
 refine Zu (rT (wE aA cY dY mC) rfl (fun _ _=>rfl)) ?_
 refine Zy ?_
 refine Zq (Zq (Zr (Zm (Zu (iI rfl rfl) ?_))))
 refine Zl ?_
 refine Zc hS (fun h12 hS => ?_) (fun h12 hS => ?_)
 ·
  refine Zq (Zr (Zy ?_))
  cases hS
  exact VC.ret (Z1 aA)
 refine Zk ?_
 refine Zq (Zq (Zr (Zm ?_)))
 obtain ⟨b15,hS⟩:=bU hS
 refine Zu (cR rfl rfl b15) (Zy ?_)
 refine VC.keep (ρ':=[(0,aA.val),(1,.func (.func 74) #[] #[ptr cY 0]),(5,i64 dA),(6,i64 (dA+1))]) [0,1,5,6] rfl ?_
 refine Zb ?_
 refine VC.iter (S:=Sv aE×Int×Int) (fun sg=>(sg.1.l,sg.2.1,sg.2.2)) (fun sg=>[(0,sg.1.val),(1,.func (.func 74) #[] #[ptr cY 0]),(5,i64 sg.2.1),(6,i64 sg.2.2)]) (fun sg=>Mo.tt) (fun sg=>Ow.star (bE cY [str dY] 9) (Ow.star (Sv.own sg.1 103) (Ow.emp))) (aA,dA,(dA+1)) [0,1,5,6] hS rfl ?_
 clear hS
 rintro ⟨eT,gF,kV⟩ m1 y1 hS hK1
 refine Zq (Zq (Zr (Zy ?_)))
 refine Zu (eB (s:=eT) Tryz.underlying36 rfl) (Zu (dW rfl rfl) ?_)
 refine Zl ?_
 refine Zc hS (fun h19 hS => ?_) (fun h19 hS => ?_)
 ·
  refine Zk ?_
  refine VC.gN (S:=Sv aE×Int) (fun sg=>(sg.1.l,sg.2)) (fun sg=>[(0,sg.1.val),(1,.func (.func 74) #[] #[ptr cY 0]),(5,i64 sg.2),(6,i64 kV)]) (fun sg=>Mo.tt) (fun sg=>Ow.star (bE cY [str dY] 9) (Ow.star (Sv.own sg.1 103) (Ow.emp))) hS ?_ ?_
  ·
   clear hS
   intro k7 hS
   refine Zb (Zq (Zr (Zy ?_)))
   obtain ⟨dN,vX,vV,hS⟩:=fA hS
   refine Zu (lN (s:=eT) Tryz.underlying36 jD rfl rfl vX (bH vX vV)) (Zu (X5 (s:=eT) oE rfl rfl vV) ?_)
   refine gV [str [],i64 0,i64 0,str [],i64 0,i64 0] fun aFA => ?_
   refine Zv (cs':=[str dN.path,i64 dN.eM,i64 dN.mode,str dN.data,i64 dN.time,i64 dN.size]) rfl jD ?_
   refine Zl ?_
   refine VC.keep (ρ':=[(0,eT.val),(1,.func (.func 74) #[] #[ptr cY 0]),(5,i64 gF),(6,i64 kV),(7,ptr aFA 0)]) [0,1,5,6,7] rfl ?_
   refine Zq (Zr (Zm (Zu (cJ oE rfl rfl) ?_)))
   obtain ⟨BB,FR,hS⟩:=aO hS
   refine Zu (tJ (vs:=[.agg #[str dN.path,i64 dN.eM,i64 dN.mode,str dN.data,i64 dN.time,i64 dN.size]]) (caps:=[ptr cY 0]) (PX dN cY dY FR) rfl rfl (fun _ _=>rfl)) ?_
   refine Zu (jE rfl) ?_
   refine Zl ?_
   refine gR hS (fun h29 hS => ?_) (fun h29 hS => ?_)
   ·
    refine Zq (Zr (Zy ?_))
    refine Zu (cJ oE rfl rfl) ?_
    obtain ⟨TP,BS,BM,hS⟩:=fA hS
    refine Zu (lN (s:=eT) Tryz.underlying36 jD rfl rfl BS (bH BS BM)) ?_
    refine VL.wJ (s:=eT) (T:=103) (j:=0) (vc:=[str dN.path,i64 dN.eM,i64 dN.mode,str dN.data,i64 dN.time,i64 dN.size]) (⟨dN.path,dN.eM,dN.mode,dN.data,dN.time,dN.size⟩:aE) (by decide) rfl rfl BM rfl jD rfl rfl (Nat.le_of_ble_eq_true rfl) rfl (fun w12 hw12 haw12 hcw12 hvw12 hbw12 how12 => ?_)
    rw [← hvw12]
    replace hS:=bW hw12 hS
    refine Zl ?_
    refine VC.keep (ρ':=[(0,w12.val),(1,.func (.func 74) #[] #[ptr cY 0]),(5,i64 gF),(6,i64 kV)]) [0,1,5,6] rfl ?_
    refine Zr (Zm ?_)
    obtain ⟨b35,hS⟩:=bU hS
    refine Zu (cR rfl rfl b35) (Za ?_)
    refine VL.mt (w12,(gF+1)) [0,1,5,6] (fun _ _ h=>h) hS rfl
   refine VC.iV (eT,gF) [0,1,5,6] (fun _ _ h=>h) hS rfl
  clear hS
  rintro ⟨BW,BN⟩ hS
  refine Zr (Zm ?_)
  obtain ⟨b21,hS⟩:=bU hS
  refine Zu (cR rfl rfl b21) (Za ?_)
  refine VL.jU (BW,BN,(kV+1)) [0,1,5,6] (fun _ _ h=>h) (go2 hS hK1) rfl
 replace hS:=iJ hS hK1
 refine Zx ?_
 refine Zq (Zr (Zy ?_))
 obtain ⟨b38,hS⟩:=bU hS
 refine VL.fits (s:=eT) (e:=103) Fo.out fun FU => ?_
 refine Zu (KC (s:=eT) Tryz.underlying36 jD rfl rfl b38.1 b38.2 FU) ?_
 refine VL.aHs (s:=eT) (i:=gF.toNat) (.agg #[str [],i64 0,i64 0,str [],i64 0,i64 0]) Tryz.underlying36 aPq rfl rfl rfl (by have:=b38; dsimp only at this ⊢; omega) Fo.out fun GJ LL MK => ?_
 replace hS:=bW LL hS
 refine Zl ?_
 refine VC.keep (ρ':=[(0,eT.val),(5,i64 gF)]) [0,5] rfl ?_
 refine Zq (Zr (Zy ?_))
 refine Zu (X4 (s:=eT) (q:=GJ) Tryz.underlying36 jD rfl rfl b38.1 b38.2 FU MK) (Zy ?_)
 cases hS
 exact VC.ret (Z1 GJ)
theorem aGD (fF:Sv aE) (p_1:aK) {r:List aE} (hS:Sh.IL fF.l p_1=some r) :
 Ct Tryz.prog 34 [fF.val,str p_1] fF.ok (Ow.emp) (X:=Sv aE) (fun x=>x.val) (fun x=>r=x.l) (fun x=>x.ok) (fun x=>Ow.emp):=by
 refine Zo Tryz.func34 Tryz.ntmps34 fun c => ?_
 unfold Sh.IL at hS
 refine Zq (Zr ?_)
 refine kQ [str p_1] fun jC => ?_
 refine Zy ?_
 refine Zq (Zr (Zm ?_))
 obtain ⟨N5,aAB,hS⟩:=aO hS
 refine VL.bL (kJ fF aAB) rfl (by decide) ?_
 rintro aCO rfl
 try dsimp only
 refine Zu (sJ rfl) ?_
 obtain ⟨E7,R2,hS⟩:=aO hS
 refine VL.bL (vH aCO jC p_1 R2) rfl (by decide) ?_
 rintro xB rfl
 try dsimp only
 refine VL.shut xB 103 (fun _ _ _ _=>trivial) ?_
 obtain ⟨XG,aAD,hS⟩:=aO hS
 refine VL.dK (gC xB aAD) rfl (by decide) ?_
 rintro aCR rfl
 try dsimp only
 refine Zy ?_
 cases hS
 exact VC.ret (Z1 aCR)
theorem JV (aD:aC) (jA:Nat) (a_1:aK) {r:Bool} (hS:Sh.tF aD a_1=some r) :
 Cp Tryz.prog 76 [.agg #[str aD.path,i64 aD.mode,str aD.data],ptr jA 0] (Cells jA 0 [str a_1]) (.bool r):=by
 refine Zo Tryz.func76 Tryz.ntmps76 fun c => ?_
 unfold Sh.tF at hS
 refine Zq (Zr ?_)
 refine kQ [str aD.path,i64 aD.mode,str aD.data] fun fJ => ?_
 refine Zy ?_
 refine Zq (Zr (Zu (aB kU rfl) (Zu (aL cQ rfl rfl) (Zu (VW cQ rfl rfl) (Zy ?_)))))
 cases hS
 exact Ze
theorem yH (aA:Sv aC) (eF:Nat) (fD:aK) {r:Int} (hS:Sh.iR aA.l fD=some r) :
 Cp Tryz.prog 120 [aA.val,.func (.func 76) #[] #[ptr eF 0]] (aA.ok.and (Cells eF 0 [str fD])) (i64 r):=by
 refine Zo Tryz.func120 Tryz.ntmps120 fun c => ?_
 unfold Sh.iR at hS
 refine Zq (Zr (Zy ?_))
 refine Zq (Zq (Zr (Zm (Zu (eB (s:=aA) Tryz.underlying23 rfl) (Zy ?_)))))
 refine Zb ?_
 refine VC.iter (S:=Int) (fun (cV:Int)=>cV) (fun (cV:Int)=>[(0,aA.val),(1,.func (.func 76) #[] #[ptr eF 0]),(7,i64 (aA.l.length:Int)),(8,i64 cV)]) (fun (cV:Int)=>Mo.tt) (fun (cV:Int)=>Ow.emp) 0 [0,1,7,8] hS rfl ?_
 clear hS
 rintro cV m1 y1 hS hK1
 refine Zq (Zr (Zu (dW rfl rfl) ?_))
 refine Zl ?_
 refine Zq ?_
 refine Zc hS (fun h9 hS => ?_) (fun h9 hS => ?_)
 ·
  refine Zk ?_
  refine Zq (Zb (Zq (Zr (Zy ?_))))
  refine Zq (Zr (Zy ?_))
  obtain ⟨eV,nC,lU,hS⟩:=fA hS
  refine Zu (eZ (s:=aA) Tryz.underlying23 fC rfl rfl nC (bH nC lU)) (Zu (nX (s:=aA) kI rfl rfl lU) ?_)
  obtain ⟨iA,rG,hS⟩:=aO hS
  refine Zu (tJ (vs:=[.agg #[str eV.path,i64 eV.mode,str eV.data]]) (caps:=[ptr eF 0]) (JV eV eF fD rG) rfl rfl (fun _ _=>rfl)) ?_
  refine Zl ?_
  refine VC.keep (ρ':=[(0,aA.val),(1,.func (.func 76) #[] #[ptr eF 0]),(7,i64 (aA.l.length:Int)),(8,i64 cV),(5,i64 cV),(16,.bool iA)]) [0,1,7,8,5,16] rfl ?_
  refine gR hS (fun h16 hS => ?_) (fun h16 hS => ?_)
  ·
   refine Zq (Zr (Zy ?_))
   replace hS:=iJ hS hK1
   cases hS
   exact Ze
  refine Zk ?_
  refine Zr ?_
  obtain ⟨b18,hS⟩:=bU hS
  refine Zu (cR rfl rfl b18) (Zm ?_)
  refine VL.jU (cV+1) [0,1,7,8] (fun _ _ h=>h) (go2 hS hK1) rfl
 replace hS:=iJ hS hK1
 refine Zx ?_
 refine Zq (Zr (Zy ?_))
 cases hS
 exact Ze
theorem wX (aA:Sv aC) (cY:Nat) (dY:aK) {r:List aC} (hS:Sh.iM aA.l dY=some r) :
 Ct Tryz.prog 75 [aA.val,.func (.func 76) #[] #[ptr cY 0]] Mo.tt (Ow.star (Sv.own aA 32) (bE cY [str dY] 9)) (X:=Sv aC) (fun x=>x.val) (fun x=>r=x.l) (fun x=>Mo.tt) (fun x=>Ow.star (Sv.own x 32) (bE cY [str dY] 9)):=by
 refine Zo Tryz.func75 Tryz.ntmps75 fun c => ?_
 unfold Sh.iM at hS
 refine Zq (Zr (Zy ?_))
 refine Zq (Zr (Zy ?_))
 obtain ⟨dA,mC,hS⟩:=aO hS
 refine Zu (rT (yH aA cY dY mC) rfl (fun _ _=>rfl)) ?_
 refine Zy ?_
 refine Zq (Zq (Zr (Zm (Zu (iI rfl rfl) ?_))))
 refine Zl ?_
 refine Zc hS (fun h12 hS => ?_) (fun h12 hS => ?_)
 ·
  refine Zq (Zr (Zy ?_))
  cases hS
  exact VC.ret (Z1 aA)
 refine Zk ?_
 refine Zq (Zq (Zr (Zm ?_)))
 obtain ⟨b15,hS⟩:=bU hS
 refine Zu (cR rfl rfl b15) (Zy ?_)
 refine VC.keep (ρ':=[(0,aA.val),(1,.func (.func 76) #[] #[ptr cY 0]),(5,i64 dA),(6,i64 (dA+1))]) [0,1,5,6] rfl ?_
 refine Zb ?_
 refine VC.iter (S:=Sv aC×Int×Int) (fun sg=>(sg.1.l,sg.2.1,sg.2.2)) (fun sg=>[(0,sg.1.val),(1,.func (.func 76) #[] #[ptr cY 0]),(5,i64 sg.2.1),(6,i64 sg.2.2)]) (fun sg=>Mo.tt) (fun sg=>Ow.star (bE cY [str dY] 9) (Ow.star (Sv.own sg.1 32) (Ow.emp))) (aA,dA,(dA+1)) [0,1,5,6] hS rfl ?_
 clear hS
 rintro ⟨eT,gF,kV⟩ m1 y1 hS hK1
 refine Zq (Zq (Zr (Zy ?_)))
 refine Zu (eB (s:=eT) Tryz.underlying23 rfl) (Zu (dW rfl rfl) ?_)
 refine Zl ?_
 refine Zc hS (fun h19 hS => ?_) (fun h19 hS => ?_)
 ·
  refine Zk ?_
  refine VC.gN (S:=Sv aC×Int) (fun sg=>(sg.1.l,sg.2)) (fun sg=>[(0,sg.1.val),(1,.func (.func 76) #[] #[ptr cY 0]),(5,i64 sg.2),(6,i64 kV)]) (fun sg=>Mo.tt) (fun sg=>Ow.star (bE cY [str dY] 9) (Ow.star (Sv.own sg.1 32) (Ow.emp))) hS ?_ ?_
  ·
   clear hS
   intro k7 hS
   refine Zb (Zq (Zr (Zy ?_)))
   obtain ⟨dN,vX,vV,hS⟩:=fA hS
   refine Zu (lN (s:=eT) Tryz.underlying23 fC rfl rfl vX (bH vX vV)) (Zu (X5 (s:=eT) kI rfl rfl vV) ?_)
   refine gV [str [],i64 0,str []] fun aFA => ?_
   refine Zv (cs':=[str dN.path,i64 dN.mode,str dN.data]) rfl fC ?_
   refine Zl ?_
   refine VC.keep (ρ':=[(0,eT.val),(1,.func (.func 76) #[] #[ptr cY 0]),(5,i64 gF),(6,i64 kV),(7,ptr aFA 0)]) [0,1,5,6,7] rfl ?_
   refine Zq (Zr (Zm (Zu (cJ kI rfl rfl) ?_)))
   obtain ⟨BB,FR,hS⟩:=aO hS
   refine Zu (tJ (vs:=[.agg #[str dN.path,i64 dN.mode,str dN.data]]) (caps:=[ptr cY 0]) (JV dN cY dY FR) rfl rfl (fun _ _=>rfl)) ?_
   refine Zu (jE rfl) ?_
   refine Zl ?_
   refine gR hS (fun h29 hS => ?_) (fun h29 hS => ?_)
   ·
    refine Zq (Zr (Zy ?_))
    refine Zu (cJ kI rfl rfl) ?_
    obtain ⟨TP,BS,BM,hS⟩:=fA hS
    refine Zu (lN (s:=eT) Tryz.underlying23 fC rfl rfl BS (bH BS BM)) ?_
    refine VL.wJ (s:=eT) (T:=32) (j:=0) (vc:=[str dN.path,i64 dN.mode,str dN.data]) (⟨dN.path,dN.mode,dN.data⟩:aC) (by decide) rfl rfl BM rfl fC rfl rfl (Nat.le_of_ble_eq_true rfl) rfl (fun w12 hw12 haw12 hcw12 hvw12 hbw12 how12 => ?_)
    rw [← hvw12]
    replace hS:=bW hw12 hS
    refine Zl ?_
    refine VC.keep (ρ':=[(0,w12.val),(1,.func (.func 76) #[] #[ptr cY 0]),(5,i64 gF),(6,i64 kV)]) [0,1,5,6] rfl ?_
    refine Zr (Zm ?_)
    obtain ⟨b35,hS⟩:=bU hS
    refine Zu (cR rfl rfl b35) (Za ?_)
    refine VL.mt (w12,(gF+1)) [0,1,5,6] (fun _ _ h=>h) hS rfl
   refine VC.iV (eT,gF) [0,1,5,6] (fun _ _ h=>h) hS rfl
  clear hS
  rintro ⟨BW,BN⟩ hS
  refine Zr (Zm ?_)
  obtain ⟨b21,hS⟩:=bU hS
  refine Zu (cR rfl rfl b21) (Za ?_)
  refine VL.jU (BW,BN,(kV+1)) [0,1,5,6] (fun _ _ h=>h) (go2 hS hK1) rfl
 replace hS:=iJ hS hK1
 refine Zx ?_
 refine Zq (Zr (Zy ?_))
 obtain ⟨b38,hS⟩:=bU hS
 refine VL.fits (s:=eT) (e:=32) Fo.out fun FU => ?_
 refine Zu (KC (s:=eT) Tryz.underlying23 fC rfl rfl b38.1 b38.2 FU) ?_
 refine VL.aHs (s:=eT) (i:=gF.toNat) (.agg #[str [],i64 0,str []]) Tryz.underlying23 aWf rfl rfl rfl (by have:=b38; dsimp only at this ⊢; omega) Fo.out fun GJ LL MK => ?_
 replace hS:=bW LL hS
 refine Zl ?_
 refine VC.keep (ρ':=[(0,eT.val),(5,i64 gF)]) [0,5] rfl ?_
 refine Zq (Zr (Zy ?_))
 refine Zu (X4 (s:=eT) (q:=GJ) Tryz.underlying23 fC rfl rfl b38.1 b38.2 FU MK) (Zy ?_)
 cases hS
 exact VC.ret (Z1 GJ)
theorem aBU (dD:Sv aC) (p_1:aK) {r:List aC} (hS:Sh.BJ dD.l p_1=some r) :
 Ct Tryz.prog 35 [dD.val,str p_1] dD.ok (Ow.emp) (X:=Sv aC) (fun x=>x.val) (fun x=>r=x.l) (fun x=>x.ok) (fun x=>Ow.emp):=by
 refine Zo Tryz.func35 Tryz.ntmps35 fun c => ?_
 unfold Sh.BJ at hS
 refine Zq (Zr ?_)
 refine kQ [str p_1] fun jC => ?_
 refine Zy ?_
 refine Zq (Zr (Zm ?_))
 obtain ⟨N5,aAB,hS⟩:=aO hS
 refine VL.bL (iH dD aAB) rfl (by decide) ?_
 rintro aCO rfl
 try dsimp only
 refine Zu (sJ rfl) ?_
 obtain ⟨E7,R2,hS⟩:=aO hS
 refine VL.bL (wX aCO jC p_1 R2) rfl (by decide) ?_
 rintro xB rfl
 try dsimp only
 refine VL.shut xB 32 (fun _ _ _ _=>trivial) ?_
 obtain ⟨XG,aAD,hS⟩:=aO hS
 refine VL.dK (eU xB aAD) rfl (by decide) ?_
 rintro aCR rfl
 try dsimp only
 refine Zy ?_
 cases hS
 exact VC.ret (Z1 aCR)
theorem aKR (dD:jL) (DF:Sv aE) (p_2:aK) {r:List aE} (hS:Sh.P7 dD.pl DF.l p_2=some r) :
 Ct Tryz.prog 36 [.agg #[dD.files.val,dD.entries.val,dD.conflicts.val],DF.val,str p_2] (dD.files.ok.and (dD.entries.ok.and (dD.conflicts.ok.and DF.ok))) (Ow.emp) (X:=Sv aE) (fun x=>x.val) (fun x=>r=x.l) (fun x=>x.ok) (fun x=>Ow.emp):=by
 refine Zo Tryz.func36 Tryz.ntmps36 fun c => ?_
 unfold Sh.P7 at hS
 refine Zq (Zr ?_)
 refine kQ [dD.files.val,dD.entries.val,dD.conflicts.val] fun jC => ?_
 refine Zy ?_
 refine Zq (Zq (Zr (Zu (aB IF rfl) (Zu (aL zC rfl rfl) (Zm ?_)))))
 obtain ⟨kM,RP,hS⟩:=aO hS
 refine Zu (cH (mM dD.conflicts p_2 RP) rfl (fun _ _=>rfl)) ?_
 refine Zl ?_
 refine gR hS (fun h13 hS => ?_) (fun h13 hS => ?_)
 ·
  refine Zq (Zq (Zr (Zu (aB aFk rfl) (Zu (aL nN rfl rfl) (Zu (eB (s:=dD.entries) Tryz.underlying36 rfl) (Zy ?_))))))
  refine VC.keep (ρ':=[(1,DF.val),(2,str p_2),(15,dD.entries.val),(16,i64 (dD.entries.l.length:Int)),(17,i64 0)]) [1,2,15,16,17] rfl ?_
  refine Zb ?_
  refine VC.iter (S:=Sv aE×Int) (fun sg=>(sg.1.l,sg.2)) (fun sg=>[(1,sg.1.val),(2,str p_2),(15,dD.entries.val),(16,i64 (dD.entries.l.length:Int)),(17,i64 sg.2)]) (fun sg=>sg.1.ok) (fun sg=>Ow.star (bE jC [dD.files.val,dD.entries.val,dD.conflicts.val] 41) (Ow.emp)) (DF,0) [1,2,15,16,17] hS rfl ?_
  clear hS
  rintro ⟨U2,yQ⟩ m1 y1 hS hK1
  refine Zq (Zr (Zu (dW rfl rfl) ?_))
  refine Zl ?_
  refine Zq ?_
  refine Zc hS (fun h18 hS => ?_) (fun h18 hS => ?_)
  ·
   refine Zk ?_
   refine Zq (Zb (Zq (Zr ?_)))
   obtain ⟨PE,aQf,aQD,hS⟩:=fA hS
   refine Zu (eZ (s:=dD.entries) Tryz.underlying36 jD rfl rfl aQf (bH aQf aQD)) (Zu (nX (s:=dD.entries) oE rfl rfl aQD) ?_)
   refine gV [str [],i64 0,i64 0,str [],i64 0,i64 0] fun YW => ?_
   refine Zv (cs':=[str PE.path,i64 PE.eM,i64 PE.mode,str PE.data,i64 PE.time,i64 PE.size]) rfl jD ?_
   refine Zl ?_
   refine Zq (Zr (Zu (aB tG rfl) (Zu (aL cQ rfl rfl) (Zy ?_))))
   refine Zc hS (fun h24 hS => ?_) (fun h24 hS => ?_)
   ·
    refine Zr (Zm (Zu (cJ oE rfl rfl) ?_))
    obtain ⟨aZM,a01,hS⟩:=aO hS
    refine VL.dK (OG U2 PE a01) rfl (by decide) ?_
    rintro aNE rfl
    try dsimp only
    refine Zy ?_
    refine VC.keep (ρ':=[(1,aNE.val),(2,str p_2),(15,dD.entries.val),(16,i64 (dD.entries.l.length:Int)),(17,i64 yQ)]) [1,2,15,16,17] rfl ?_
    refine Zr ?_
    obtain ⟨b28,hS⟩:=bU hS
    refine Zu (cR rfl rfl b28) (Zm ?_)
    refine VL.jU (aNE,(yQ+1)) [1,2,15,16,17] (fun _ _ h=>h) (go2 hS hK1) rfl
   refine Zk ?_
   refine VC.keep (ρ':=[(1,U2.val),(2,str p_2),(15,dD.entries.val),(16,i64 (dD.entries.l.length:Int)),(17,i64 yQ)]) [1,2,15,16,17] rfl ?_
   refine Zr ?_
   obtain ⟨b28,hS⟩:=bU hS
   refine Zu (cR rfl rfl b28) (Zm ?_)
   refine VL.jU (U2,(yQ+1)) [1,2,15,16,17] (fun _ _ h=>h) (go2 hS hK1) rfl
  replace hS:=iJ hS hK1
  refine Zx ?_
  refine Zq (Zr (Zy ?_))
  cases hS
  exact VC.ret (Z1 U2)
 refine Zk ?_
 refine Zq (Zr (Zu (aB xP rfl) (Zu (aL kO rfl rfl) (Zm ?_))))
 obtain ⟨G0,a0c,hS⟩:=aO hS
 refine Zu (cH (vY dD.files p_2 a0c) rfl (fun _ _=>rfl)) ?_
 refine gV [str [],i64 0,str [],.bool false] fun a6p => ?_
 refine Zv (cs':=[str G0.dZ,i64 G0.cN,str G0.dQ,.bool G0.is]) rfl aE7 ?_
 refine Zl ?_
 refine VC.keep (ρ':=[(1,DF.val),(2,str p_2),(9,ptr a6p 0)]) [1,2,9] rfl ?_
 refine Zq (Zq (Zr (Zu (aB aHy rfl) (Zu (aL lK rfl rfl) (Zu (jE rfl) ?_)))))
 refine Zl ?_
 refine gR hS (fun h36 hS => ?_) (fun h36 hS => ?_)
 ·
  refine Zq (Zr (Zy ?_))
  cases hS
  exact VC.ret (Z1 DF)
 refine Zk ?_
 refine Zq (Zr (Zy ?_))
 refine Zu (aB aDE rfl) (Zu (aB xO rfl) (Zu (aL fL rfl rfl) (Zu (aB aDE rfl) (Zu (aB DD rfl) (Zu (aL cQ rfl rfl) ?_)))))
 refine Zu (fR (vs:=[(0,str p_2),(2,i64 G0.cN),(3,str G0.dQ)]) (cs := #[str p_2,i64 0,i64 G0.cN,str G0.dQ,i64 0,i64 0]) rfl (by kernel_rfl)) ?_
 obtain ⟨aRs,aVX,hS⟩:=aO hS
 refine VL.dK (OG DF (⟨p_2,0,G0.cN,G0.dQ,0,0⟩:aE) aVX) rfl (by decide) ?_
 rintro aId rfl
 try dsimp only
 refine Zy ?_
 refine VC.keep (ρ':=[(6,aId.val)]) [6] rfl ?_
 cases hS
 exact VC.ret (Z1 aId)
theorem VE (jP:Sv aC) (r_1:jL) (DG:Sv aE) (j7:Sv aC) {r:List aE×List aC×kH} (hS:Sh.BT jP.l r_1.pl DG.l j7.l=some r) :
 Ct Tryz.prog 8 [jP.val,.agg #[r_1.files.val,r_1.entries.val,r_1.conflicts.val],DG.val,j7.val] (jP.ok.and (r_1.files.ok.and (r_1.entries.ok.and (r_1.conflicts.ok.and (DG.ok.and j7.ok))))) (Ow.emp) (X:=Sv aE×Sv aC×Er) (fun x => .tuple #[x.1.val,x.2.1.val,x.2.2.val]) (fun x=>r=(x.1.l,x.2.1.l,x.2.2.pl)) (fun x=>(x.1.ok.and (x.2.1.ok.and x.2.2.ok))) (fun x=>Ow.emp):=by
 refine Zo Tryz.func8 Tryz.ntmps8 fun c => ?_
 unfold Sh.BT at hS
 refine Zq (Zr ?_)
 refine kQ [r_1.files.val,r_1.entries.val,r_1.conflicts.val] fun BG => ?_
 refine Zy ?_
 refine Zq (Zq (Zr (Zm (Zu (cJ FZ rfl rfl) (Zy ?_)))))
 obtain ⟨aPK,a0M,hS⟩:=aO hS
 refine VL.bL (aHd jP r_1 DG j7 a0M) rfl (by decide) ?_
 rintro IX rfl
 try dsimp only
 refine Zy ?_
 refine VC.keep (ρ':=[(0,jP.val),(2,DG.val),(3,j7.val),(5,ptr BG 0),(11,IX.val)]) [0,2,3,5,11] rfl ?_
 refine Zq (Zr (Zm (Zu (eB (s:=IX) Tryz.underlying39 rfl) (Zu (lE rfl rfl) ?_))))
 refine Zl ?_
 refine Zc hS (fun h25 hS => ?_) (fun h25 hS => ?_)
 ·
  refine Zq (Zr (Zm ?_))
  obtain ⟨TD,aBR,hS⟩:=aO hS
  refine VL.bL (kJ DG aBR) rfl (by decide) ?_
  rintro QF rfl
  try dsimp only
  refine VL.shut QF 103 (fun _ _ _ _=>trivial) ?_
  obtain ⟨aZN,a02,hS⟩:=aO hS
  refine VL.dK (gC QF a02) rfl (by decide) ?_
  rintro aNF rfl
  try dsimp only
  refine Zm ?_
  obtain ⟨aHK,aJ8,hS⟩:=aO hS
  refine VL.bL (iH j7 aJ8) rfl (by decide) ?_
  rintro aCK rfl
  try dsimp only
  refine VL.shut aCK 32 (fun _ _ _ _=>trivial) ?_
  obtain ⟨aKb,a08,hS⟩:=aO hS
  refine VL.dK (eU aCK a08) rfl (by decide) ?_
  rintro aNG rfl
  try dsimp only
  refine Zm (Zu (eB (s:=IX) Tryz.underlying39 rfl) ?_)
  refine Zu (SG Tryz.underlying33 (fun _ h=>by cases h) rfl) ?_
  refine Zu (fR (vs:=[(0,str [112,97,116,104]),(1,i64 (IX.l.length:Int)),(2,(Er.no 8).val)]) (cs := #[str [112,97,116,104],i64 (IX.l.length:Int),(Er.no 8).val]) rfl (by kernel_rfl)) ?_
  refine kQ [str [112,97,116,104],i64 (IX.l.length:Int),(Er.no 8).val] fun aNj => ?_
  refine VL.aPB aNj ?_
  refine Zu (SG Tryz.underlying86 (fun _ h=>by cases h) rfl) ?_
  refine Zy ?_
  refine VC.keep (ρ':=[(8,aNF.val),(9,aNG.val),(10,(Er.fault aNj [112,97,116,104] (IX.l.length:Int) (Er.no 8)).val)]) [8,9,10] rfl ?_
  cases hS
  exact VC.ret (aLZ (.inr rfl) rfl rfl rfl rfl (aNF,aNG,(Er.fault aNj [112,97,116,104] (IX.l.length:Int) (Er.no 8))) rfl rfl (by (try dsimp only); exact fQ.out) (fun _ _=>trivial))
 refine Zk ?_
 refine Zq (Zr (Zm (Zu (cJ FZ rfl rfl) ?_)))
 obtain ⟨aHL,a0l,hS⟩:=aO hS
 refine VL.bL (P8 jP r_1 a0l) rfl (by decide) ?_
 rintro nW rfl
 try dsimp only
 refine Zy ?_
 refine VC.keep (ρ':=[(2,DG.val),(3,j7.val),(5,ptr BG 0),(12,nW.val)]) [2,3,5,12] rfl ?_
 refine Zq (Zr (Zm ?_))
 obtain ⟨aZX,a0s,hS⟩:=aO hS
 refine VL.bL (kJ DG a0s) rfl (by decide) ?_
 rintro aNI rfl
 try dsimp only
 refine Zm ?_
 obtain ⟨aRp,aVR,hS⟩:=aO hS
 refine VL.bL (iH j7 aVR) rfl (by decide) ?_
 rintro aIc rfl
 try dsimp only
 refine Zy ?_
 refine Zq (Zq (Zr (Zm (Zu (eB (s:=nW) Tryz.underlying39 rfl) (Zy ?_)))))
 refine Zb ?_
 refine VC.shut aNI 103 (fun _ _ _ _=>trivial) ?_
 refine VC.shut aIc 32 (fun _ _ _ _=>trivial) ?_
 refine VC.iter (S:=Sv aE×Sv aC×Int) (fun sg=>(sg.1.l,sg.2.1.l,sg.2.2)) (fun sg=>[(2,sg.1.val),(3,sg.2.1.val),(5,ptr BG 0),(12,nW.val),(45,nW.val),(46,i64 (nW.l.length:Int)),(47,i64 sg.2.2)]) (fun sg=>(sg.1.ok.and sg.2.1.ok)) (fun sg=>Ow.star (bE BG [r_1.files.val,r_1.entries.val,r_1.conflicts.val] 41) (Ow.star (Sv.own nW 9) (Ow.emp))) (aNI,aIc,0) [2,3,5,12,45,46,47] hS rfl ?_
 clear hS
 rintro ⟨aBl,QT,S5⟩ m1 y1 hS hK1
 refine Zq (Zr (Zu (dW rfl rfl) ?_))
 refine Zl ?_
 refine Zq ?_
 refine Zc hS (fun h48 hS => ?_) (fun h48 hS => ?_)
 ·
  refine Zk ?_
  refine Zq (Zb (Zq (Zr ?_)))
  obtain ⟨aCi,aMc,aLu,hS⟩:=fA hS
  refine Zu (lN (s:=nW) Tryz.underlying39 pU rfl rfl aMc (bH aMc aLu)) (Zu (AO (s:=nW) 9 cQ rfl aLu rfl) (Zy ?_))
  refine Zr (Zy ?_)
  obtain ⟨aRv,aV4,hS⟩:=aO hS
  refine VL.dK (aGD aBl aCi aV4) rfl (by decide) ?_
  rintro aIe rfl
  try dsimp only
  refine Zy ?_
  obtain ⟨aSA,aVb,hS⟩:=aO hS
  refine VL.dK (aBU QT aCi aVb) rfl (by decide) ?_
  rintro aIf rfl
  try dsimp only
  refine Zy ?_
  refine VC.keep (ρ':=[(2,aIe.val),(3,aIf.val),(5,ptr BG 0),(12,nW.val),(45,nW.val),(46,i64 (nW.l.length:Int)),(47,i64 S5)]) [2,3,5,12,45,46,47] rfl ?_
  refine Zr ?_
  obtain ⟨b57,hS⟩:=bU hS
  refine Zu (cR rfl rfl b57) (Zm ?_)
  refine VL.jU (aIe,aIf,(S5+1)) [2,3,5,12,45,46,47] (fun _ _ h=>h) (go2 hS hK1) rfl
 replace hS:=iJ hS hK1
 refine Zx ?_
 refine Zq (Zq (Zr (Zm (Zu (eB (s:=nW) Tryz.underlying39 rfl) (Zy ?_)))))
 refine Zb ?_
 refine VC.iter (S:=Sv aE×Sv aC×Int) (fun sg=>(sg.1.l,sg.2.1.l,sg.2.2)) (fun sg=>[(2,sg.1.val),(3,sg.2.1.val),(5,ptr BG 0),(58,nW.val),(59,i64 (nW.l.length:Int)),(60,i64 sg.2.2)]) (fun sg=>(sg.1.ok.and sg.2.1.ok)) (fun sg=>Ow.star (bE BG [r_1.files.val,r_1.entries.val,r_1.conflicts.val] 41) (Ow.star (Sv.own nW 9) (Ow.emp))) (aBl,QT,0) [2,3,5,58,59,60] hS rfl ?_
 clear hS
 rintro ⟨aBm,CQ,D4⟩ m1 y1 hS hK1
 refine Zq (Zr (Zu (dW rfl rfl) ?_))
 refine Zl ?_
 refine Zq ?_
 refine Zc hS (fun h61 hS => ?_) (fun h61 hS => ?_)
 ·
  refine Zk ?_
  refine Zq (Zb (Zq (Zr ?_)))
  obtain ⟨YL,aMi,aLz,hS⟩:=fA hS
  refine Zu (lN (s:=nW) Tryz.underlying39 pU rfl rfl aMi (bH aMi aLz)) (Zu (AO (s:=nW) 9 cQ rfl aLz rfl) (Zy ?_))
  refine Zq (Zr (Zu (cJ FZ rfl rfl) (Zy ?_)))
  obtain ⟨aKp,aVn,hS⟩:=aO hS
  refine VL.dK (aKR r_1 aBm YL aVn) rfl (by decide) ?_
  rintro QI rfl
  try dsimp only
  refine Zy ?_
  refine VC.keep (ρ':=[(2,QI.val),(3,CQ.val),(5,ptr BG 0),(58,nW.val),(59,i64 (nW.l.length:Int)),(60,i64 D4),(16,str YL)]) [2,3,5,58,59,60,16] rfl ?_
  refine Zq (Zr (Zu (aB xP rfl) (Zu (aL kO rfl rfl) (Zm ?_))))
  obtain ⟨EA,aVt,hS⟩:=aO hS
  refine Zu (cH (vY r_1.files YL aVt) rfl (fun _ _=>rfl)) ?_
  refine gV [str [],i64 0,str [],.bool false] fun a7S => ?_
  refine Zv (cs':=[str EA.dZ,i64 EA.cN,str EA.dQ,.bool EA.is]) rfl aE7 ?_
  refine Zl ?_
  refine Zq (Zr (Zu (aB aHy rfl) (Zu (aL lK rfl rfl) ?_)))
  refine Zl ?_
  refine gR hS (fun h73 hS => ?_) (fun h73 hS => ?_)
  ·
   refine Zr (Zm (Zu (aB aDE rfl) (Zu (ON (j:=0) (n:=3) kI rfl rfl rfl) ?_)))
   obtain ⟨aSS,aVy,hS⟩:=aO hS
   refine VL.dK (M5 CQ (⟨EA.dZ,EA.cN,EA.dQ⟩:aC) aVy) rfl (by decide) ?_
   rintro aIi rfl
   try dsimp only
   refine Zy ?_
   refine VC.keep (ρ':=[(2,QI.val),(3,aIi.val),(5,ptr BG 0),(58,nW.val),(59,i64 (nW.l.length:Int)),(60,i64 D4)]) [2,3,5,58,59,60] rfl ?_
   refine Zr ?_
   obtain ⟨b78,hS⟩:=bU hS
   refine Zu (cR rfl rfl b78) (Zm ?_)
   refine VL.jU (QI,aIi,(D4+1)) [2,3,5,58,59,60] (fun _ _ h=>h) (go2 hS hK1) rfl
  refine Zk ?_
  refine VC.keep (ρ':=[(2,QI.val),(3,CQ.val),(5,ptr BG 0),(58,nW.val),(59,i64 (nW.l.length:Int)),(60,i64 D4)]) [2,3,5,58,59,60] rfl ?_
  refine Zr ?_
  obtain ⟨b78,hS⟩:=bU hS
  refine Zu (cR rfl rfl b78) (Zm ?_)
  refine VL.jU (QI,CQ,(D4+1)) [2,3,5,58,59,60] (fun _ _ h=>h) (go2 hS hK1) rfl
 replace hS:=iJ hS hK1
 refine Zx ?_
 refine Zq (Zr (Zm ?_))
 obtain ⟨aSU,aWA,hS⟩:=aO hS
 refine VL.dK (gC aBm aWA) rfl (by decide) ?_
 rintro aIj rfl
 try dsimp only
 refine Zm ?_
 obtain ⟨aSV,aWB,hS⟩:=aO hS
 refine VL.dK (eU CQ aWB) rfl (by decide) ?_
 rintro aIk rfl
 try dsimp only
 refine Zy ?_
 refine VC.keep (ρ':=[(8,aIj.val),(9,aIk.val),(10,.nilIface)]) [8,9,10] rfl ?_
 cases hS
 exact VC.ret (aLZ (.inr rfl) rfl rfl rfl rfl (aIj,aIk,.nil) rfl rfl (by (try dsimp only); exact fQ.out) (fun _ _=>trivial))
theorem Y5 (aA:cF) {r:Bool} (hS:Sh.SM aA.pl=some r) :
 Cp Tryz.prog 220 [.agg (aJ aA).toArray] (aA.bG.ok.and (aA.aY.ok.and (aA.bP.ok.and (aA.aP.ok.and (aA.aT.ok.and (aA.aQ.ok.and (aA.aU.ok.and (aA.bC.ok.and (aA.bD.ok.and (aA.bS.ok.and aA.bJ.ok)))))))))) (.bool r):=by
 refine Zo Tryz.func220 Tryz.ntmps220 fun c => ?_
 unfold Sh.SM at hS
 refine Zq (Zr ?_)
 refine kQ (aJ aA) fun jN => ?_
 refine Zy ?_
 refine Zq (Zr (Zu (aB eO rfl) (Zu (aB tP rfl) (Zu (aL kO rfl rfl) (Zu (eB (s:=aA.bG) Tryz.underlying23 rfl) (Zu (lE rfl rfl) (Zy ?_)))))))
 cases hS
 exact Ze
theorem Y6 (aA:cF) (r_1:jL) {r:bQ×kH} (hS:Sh.SN aA.pl r_1.pl=some r) :
 Ct Tryz.prog 296 [.agg (aJ aA).toArray,.agg #[r_1.files.val,r_1.entries.val,r_1.conflicts.val]] (aA.bG.ok.and (aA.aY.ok.and (aA.bP.ok.and (aA.aP.ok.and (aA.aT.ok.and (aA.aQ.ok.and (aA.aU.ok.and (aA.bC.ok.and (aA.bD.ok.and (aA.bS.ok.and (aA.bJ.ok.and (r_1.files.ok.and (r_1.entries.ok.and r_1.conflicts.ok))))))))))))) (Ow.emp) (X:=cF×Er) (fun x => .tuple #[.agg (bM.enc x.1).toArray,x.2.val]) (fun x=>r=(x.1.pl,x.2.pl)) (fun x=>(x.1.m.and x.2.ok)) (fun x=>Ow.emp):=by
 refine Zo Tryz.func296 Tryz.ntmps296 fun c => ?_
 unfold Sh.SN at hS
 refine Zq (Zr ?_)
 refine kQ (aJ aA) fun fJ => ?_
 refine kQ [r_1.files.val,r_1.entries.val,r_1.conflicts.val] fun lI => ?_
 refine gV [.slice none 0 0,.slice none 0 0,.slice none 0 0,str [],i64 0,str [],i64 0,str [],.slice none 0 0,.slice none 0 0,i64 0,str [],str [],i64 0,.slice none 0 0,.slice none 0 0,.slice none 0 0,.slice none 0 0,.slice none 0 0,.slice none 0 0,i64 0] fun o6 => ?_
 refine Zy ?_
 refine Zq ?_
 refine l9 [(0,true),(2,true),(3,true),(4,true),(5,true),(6,true),(7,true),(8,true),(1,false),(9,false),(10,true),(11,true),(12,true),(13,true),(14,true),(15,true),(16,true)] ?_
 refine Zw rfl (cJ cI rfl rfl) ?_
 refine Zw rfl (cJ FZ rfl rfl) ?_
 refine Zw rfl (aB eO rfl) ?_
 refine Zw rfl (aB rO rfl) ?_
 refine Zw rfl (aL nN rfl rfl) ?_
 refine Zw rfl (aB eO rfl) ?_
 refine Zw rfl (aB tP rfl) ?_
 refine Zw rfl (aL kO rfl rfl) ?_
 refine VD.one rfl ?_
 obtain ⟨JM,M4,hS⟩:=aO hS
 refine VL.dK (HX aA M4) rfl (by decide) ?_
 rintro VF rfl
 try dsimp only
 refine jS [(8,aA.bG.val),(7,ptr fJ 0),(6,ptr fJ 0),(5,aA.aY.val),(4,ptr fJ 1),(3,ptr fJ 0),(2,.agg #[r_1.files.val,r_1.entries.val,r_1.conflicts.val])] (aI.cons rfl (aL kO rfl rfl) (aI.cons rfl (aB tP rfl) (aI.cons rfl (aB eO rfl) (aI.cons rfl (aL nN rfl rfl) (aI.cons rfl (aB rO rfl) (aI.cons rfl (aB eO rfl) (aI.cons rfl (cJ FZ rfl rfl) aI.nil))))))) ?_
 refine VD.one rfl ?_
 obtain ⟨nL,RV,hS⟩:=aO hS
 refine VL.dK (VE VF r_1 aA.aY aA.bG RV) rfl (by decide) ?_
 rintro ⟨rR,zV,aGW⟩ rfl
 try dsimp only
 refine jH ?_
 refine Zw rfl (bB rfl) ?_
 refine Zw rfl (aV rfl rfl) ?_
 refine Zw rfl (aV rfl rfl) ?_
 refine Zw rfl (aV rfl rfl) ?_
 refine Zw rfl (gI rfl) ?_
 refine Zw rfl (gI rfl) ?_
 refine Zw rfl (gI rfl) ?_
 refine VD.to (fun _ _ h=>h) ?_
 refine VC.keep (ρ':=[(2,ptr fJ 0),(4,ptr o6 0),(6,rR.val),(7,zV.val),(8,aGW.val)]) [2,4,6,7,8] rfl ?_
 refine Zq (Zq (Zr (Zm (Zu (o5 Tryz.underlying27 rfl) ?_))))
 refine Zl ?_
 refine o3 hS (fun h24 hS => ?_) (fun h24 hS => ?_)
 ·
  refine Zq ?_
  cases hS
 refine Zk ?_
 refine Zq (Zr (Zy ?_))
 refine Zu (aB eO rfl) (Zu (aB rO rfl) ?_)
 refine Zv (cs':=[aA.bG.val,rR.val,aA.bP.val,str aA.aS,i64 aA.aH,str aA.bK,i64 aA.bI,str aA.bO,aA.aP.val,aA.aT.val,i64 aA.bN,str aA.aZ,str aA.aM,i64 aA.aN,aA.aQ.val,aA.aU.val,aA.bC.val,aA.bD.val,aA.bS.val,aA.bJ.val,i64 aA.time]) rfl aO0 ?_
 refine Zu (aB eO rfl) (Zu (aB tP rfl) ?_)
 refine Zv (cs':=[zV.val,rR.val,aA.bP.val,str aA.aS,i64 aA.aH,str aA.bK,i64 aA.bI,str aA.bO,aA.aP.val,aA.aT.val,i64 aA.bN,str aA.aZ,str aA.aM,i64 aA.aN,aA.aQ.val,aA.aU.val,aA.bC.val,aA.bD.val,aA.bS.val,aA.bJ.val,i64 aA.time]) rfl aDG ?_
 refine Zl ?_
 refine VC.keep (ρ':=[(2,ptr fJ 0),(4,ptr o6 0)]) [2,4] rfl ?_
 refine Zq (Zq (Zr (Zu (cJ cI rfl rfl) ?_)))
 obtain ⟨aZR,a0e,hS⟩:=aO hS
 refine Zu (cH (Y5 (⟨zV,rR,aA.bP,aA.aS,aA.aH,aA.bK,aA.bI,aA.bO,aA.aP,aA.aT,aA.bN,aA.aZ,aA.aM,aA.aN,aA.aQ,aA.aU,aA.bC,aA.bD,aA.bS,aA.bJ,aA.time⟩:cF) a0e) rfl (fun _ _=>rfl)) ?_
 refine Zl ?_
 refine gR hS (fun h34 hS => ?_) (fun h34 hS => ?_)
 ·
  refine Zq ?_
  cases hS
 refine Zk ?_
 refine Zq (Zr (Zu (cJ cI rfl rfl) ?_))
 refine Zv (cs':=[zV.val,rR.val,aA.bP.val,str aA.aS,i64 aA.aH,str aA.bK,i64 aA.bI,str aA.bO,aA.aP.val,aA.aT.val,i64 aA.bN,str aA.aZ,str aA.aM,i64 aA.aN,aA.aQ.val,aA.aU.val,aA.bC.val,aA.bD.val,aA.bS.val,aA.bJ.val,i64 aA.time]) rfl gP ?_
 refine Zy ?_
 cases hS
 exact VC.ret (Z3 (⟨zV,rR,aA.bP,aA.aS,aA.aH,aA.bK,aA.bI,aA.bO,aA.aP,aA.aT,aA.bN,aA.aZ,aA.aM,aA.aN,aA.aQ,aA.aU,aA.bC,aA.bD,aA.bS,aA.bJ,aA.time⟩,.nil) [.agg #[zV.val,rR.val,aA.bP.val,str aA.aS,i64 aA.aH,str aA.bK,i64 aA.bI,str aA.bO,aA.aP.val,aA.aT.val,i64 aA.bN,str aA.aZ,str aA.aM,i64 aA.aN,aA.aQ.val,aA.aU.val,aA.bC.val,aA.bD.val,aA.bS.val,aA.bJ.val,i64 aA.time],.nilIface] (fI.cell cI rfl rfl Rd.blk (fI.tmp rfl (fI.nil))))
theorem aEO (aA:cF) (eC:r9) {r:bQ×kH} (hS:Sh.SK aA.pl eC.pl=some r) :
 Ct Tryz.prog 228 [.agg (aJ aA).toArray,.agg #[str eC.verb,str eC.name,i64 eC.n,str eC.text,.bool eC.force,eC.todo.val]] (aA.bG.ok.and (aA.aY.ok.and (aA.bP.ok.and (aA.aP.ok.and (aA.aT.ok.and (aA.aQ.ok.and (aA.aU.ok.and (aA.bC.ok.and (aA.bD.ok.and (aA.bS.ok.and (aA.bJ.ok.and eC.todo.ok))))))))))) (Ow.emp) (X:=cF×Er) (fun x => .tuple #[.agg (bM.enc x.1).toArray,x.2.val]) (fun x=>r=(x.1.pl,x.2.pl)) (fun x=>(x.1.m.and x.2.ok)) (fun x=>Ow.emp):=by
 refine Zo Tryz.func228 Tryz.ntmps228 fun c => ?_
 unfold Sh.SK at hS
 refine Zq (Zr ?_)
 refine kQ (aJ aA) fun fJ => ?_
 refine kQ [str eC.verb,str eC.name,i64 eC.n,str eC.text,.bool eC.force,eC.todo.val] fun lI => ?_
 refine gV [.slice none 0 0,.slice none 0 0,.slice none 0 0,str [],i64 0,str [],i64 0,str [],.slice none 0 0,.slice none 0 0,i64 0,str [],str [],i64 0,.slice none 0 0,.slice none 0 0,.slice none 0 0,.slice none 0 0,.slice none 0 0,.slice none 0 0,i64 0] fun o6 => ?_
 refine Zy ?_
 refine Zq (Zr (Zu (cJ cI rfl rfl) (Zu (cJ rN rfl rfl) ?_)))
 obtain ⟨MO,aJS,hS⟩:=aO hS
 refine VL.dK (aNO aA eC aJS) rfl (by decide) ?_
 rintro ⟨xZ,aYA⟩ rfl
 try dsimp only
 refine Zm (Zu (aV rfl rfl) (Zu (aV rfl rfl) ?_))
 refine gV [str [],i64 0] fun aHo => ?_
 refine Zv (cs':=[str xZ.branch,i64 xZ.dX]) rfl aAG ?_
 refine Zy ?_
 refine VC.keep (ρ':=[(2,ptr fJ 0),(3,ptr lI 0),(4,ptr o6 0),(6,ptr aHo 0),(7,aYA.val)]) [2,3,4,6,7] rfl ?_
 refine Zq (Zq (Zr (Zm (Zu (o5 Tryz.underlying27 rfl) ?_))))
 refine Zl ?_
 refine o3 hS (fun h17 hS => ?_) (fun h17 hS => ?_)
 ·
  refine Zq ?_
  cases hS
 refine Zk ?_
 refine Zq (Zr (Zu (cJ cI rfl rfl) (Zu (aB F1 rfl) (Zu (aL fL rfl rfl) ?_))))
 obtain ⟨HO,RW,hS⟩:=aO hS
 refine VL.dK (B0 aA xZ.dX RW) rfl (by decide) ?_
 rintro L2 rfl
 try dsimp only
 refine Zy ?_
 refine VC.keep (ρ':=[(2,ptr fJ 0),(3,ptr lI 0),(4,ptr o6 0),(6,ptr aHo 0),(8,L2.val)]) [2,3,4,6,8] rfl ?_
 refine Zq (Zr (Zu (cJ cI rfl rfl) ?_))
 refine gV [.slice none 0 0,.slice none 0 0,.slice none 0 0,str [],i64 0,str [],i64 0,str [],.slice none 0 0,.slice none 0 0,i64 0,str [],str [],i64 0,.slice none 0 0,.slice none 0 0,.slice none 0 0,.slice none 0 0,.slice none 0 0,.slice none 0 0,i64 0] fun aPf => ?_
 refine Zv (cs':=(aJ aA)) rfl gP ?_
 refine Zl ?_
 refine Zq (Zb (Zq (Zr (Zu (aB aTA rfl) (Zu (aL lK rfl rfl) (Zy ?_))))))
 refine gR hS (fun h36 hS => ?_) (fun h36 hS => ?_)
 ·
  cases hS
 refine Zq (Zr (Zu (aB eO rfl) (Zu (aB rO rfl) (Zu (aL nN rfl rfl) ?_))))
 obtain ⟨aZ1,a0y,hS⟩:=aO hS
 refine VL.bL (CZ aA.aY a0y) rfl (by decide) ?_
 rintro aNJ rfl
 try dsimp only
 refine Zu (eB (s:=aNJ) Tryz.underlying39 rfl) (Zu (lE rfl rfl) (Zy ?_))
 refine VC.keep (ρ':=[(2,ptr fJ 0),(4,ptr o6 0),(6,ptr aHo 0),(8,L2.val),(9,ptr aPf 0),(42,.bool (decide (0 < (aNJ.l.length:Int))))]) [2,4,6,8,9,42] rfl ?_
 refine Zc hS (fun h42 hS => ?_) (fun h42 hS => ?_)
 ·
  refine Zq ?_
  cases hS
 refine Zq (Zr (Zu (cJ cI rfl rfl) (Zm ?_)))
 refine Zu (fR (vs:=[(0,L2.val)]) (cs := #[L2.val,.slice none 0 0,.slice none 0 0]) rfl (by kernel_rfl)) ?_
 obtain ⟨uI,a06,hS⟩:=aO hS
 refine VL.dK (Y6 aA (⟨L2,⟨none,0,[]⟩,⟨none,0,[]⟩⟩:jL) a06) rfl (by decide) ?_
 rintro ⟨dM,aYQ⟩ rfl
 try dsimp only
 refine Zm (Zu (aV rfl rfl) (Zu (aV rfl rfl) ?_))
 refine Zv (cs':=(aJ dM)) rfl gP ?_
 refine Zy ?_
 refine VC.keep (ρ':=[(2,ptr fJ 0),(4,ptr o6 0),(6,ptr aHo 0),(9,ptr aPf 0),(7,aYQ.val)]) [2,4,6,9,7] rfl ?_
 refine Zq (Zr (Zm (Zu (o5 Tryz.underlying27 rfl) ?_)))
 refine Zl ?_
 refine o3 hS (fun h33 hS => ?_) (fun h33 hS => ?_)
 ·
  refine Zq ?_
  cases hS
 refine Zk ?_
 refine Zq ?_
 refine VC.gN (S:=Bool) (fun (N1:Bool)=>N1) (fun (N1:Bool)=>[(2,ptr fJ 0),(4,ptr o6 0),(6,ptr aHo 0),(9,ptr aPf 0),(59,.bool N1)]) (fun (N1:Bool)=>Mo.tt) (fun (N1:Bool)=>Ow.star (bE aPf (aJ dM) 77) (Ow.star (bE aHo [str xZ.branch,i64 xZ.dX] 65) (Ow.star (bE o6 [.slice none 0 0,.slice none 0 0,.slice none 0 0,str [],i64 0,str [],i64 0,str [],.slice none 0 0,.slice none 0 0,i64 0,str [],str [],i64 0,.slice none 0 0,.slice none 0 0,.slice none 0 0,.slice none 0 0,.slice none 0 0,.slice none 0 0,i64 0] 77) (Ow.star (bE lI [str eC.verb,str eC.name,i64 eC.n,str eC.text,.bool eC.force,eC.todo.val] 133) (Ow.star (bE fJ (aJ aA) 77) (Ow.emp)))))) hS ?_ ?_
 ·
  clear hS
  intro k11 hS
  refine Zr (Zu (cJ cI rfl rfl) ?_)
  obtain ⟨aRu,aV1,hS⟩:=aO hS
  refine Zu (cH (Y5 dM aV1) rfl (fun _ _=>rfl)) ?_
  refine Zm ?_
  refine xJ 53 hS (fun h53 hS => ?_) (fun h53 hS => ?_)
  ·
   refine VL.runs 6 [(59,some true)] (by kernel_rfl) ?_
   refine VL.mt true [2,4,6,9,59] (fun _ _ h=>h) hS rfl
  refine Zh (aB eO rfl) ?_
  refine Zh (aB rO rfl) ?_
  refine Zh (aL nN rfl rfl) ?_
  refine Zh (eB (s:=dM.aY) Tryz.underlying36 rfl) ?_
  refine Zh (lE rfl rfl) ?_
  refine Zf ?_
  refine VL.mt (decide (256 < (dM.aY.l.length:Int))) [2,4,6,9,59] (fun _ _ h=>h) hS rfl
 clear hS
 rintro N1 hS
 refine gR hS (fun h59 hS => ?_) (fun h59 hS => ?_)
 ·
  refine Zq ?_
  cases hS
 refine Zk ?_
 refine Zq (Zr (Zu (cJ aBX rfl rfl) (Zu (aB eO rfl) (Zu (aB p4 rfl) ?_))))
 refine Zv (cs':=[dM.bG.val,dM.aY.val,dM.bP.val,str xZ.branch,i64 xZ.dX,str dM.bK,i64 dM.bI,str dM.bO,dM.aP.val,dM.aT.val,i64 dM.bN,str dM.aZ,str dM.aM,i64 dM.aN,dM.aQ.val,dM.aU.val,dM.bC.val,dM.bD.val,dM.bS.val,dM.bJ.val,i64 dM.time]) rfl aAG ?_
 refine Zl ?_
 refine Zq (Zr (Zu (cJ cI rfl rfl) ?_))
 refine Zv (cs':=[dM.bG.val,dM.aY.val,dM.bP.val,str xZ.branch,i64 xZ.dX,str dM.bK,i64 dM.bI,str dM.bO,dM.aP.val,dM.aT.val,i64 dM.bN,str dM.aZ,str dM.aM,i64 dM.aN,dM.aQ.val,dM.aU.val,dM.bC.val,dM.bD.val,dM.bS.val,dM.bJ.val,i64 dM.time]) rfl gP ?_
 refine Zy ?_
 cases hS
 exact VC.ret (Z3 (⟨dM.bG,dM.aY,dM.bP,xZ.branch,xZ.dX,dM.bK,dM.bI,dM.bO,dM.aP,dM.aT,dM.bN,dM.aZ,dM.aM,dM.aN,dM.aQ,dM.aU,dM.bC,dM.bD,dM.bS,dM.bJ,dM.time⟩,.nil) [.agg #[dM.bG.val,dM.aY.val,dM.bP.val,str xZ.branch,i64 xZ.dX,str dM.bK,i64 dM.bI,str dM.bO,dM.aP.val,dM.aT.val,i64 dM.bN,str dM.aZ,str dM.aM,i64 dM.aN,dM.aQ.val,dM.aU.val,dM.bC.val,dM.bD.val,dM.bS.val,dM.bJ.val,i64 dM.time],.nilIface] (fI.cell cI rfl rfl Rd.blk (fI.tmp rfl (fI.nil))))
theorem DU (aA:Sv Int) {r:List Int} (hS:Sh.uR aA.l=some r) :
 Ct Tryz.prog 357 [aA.val] aA.ok (Ow.emp) (X:=Sv Int) (fun x=>x.val) (fun x=>r=x.l) (fun x=>Mo.tt) (fun x=>Sv.own x 3):=by
 refine Zo Tryz.func357 Tryz.ntmps357 fun c => ?_
 unfold Sh.uR at hS
 refine Zq (Zr (Zy ?_))
 refine Zq (Zq (Zr (Zm (Zu (IZ (s:=aA) Tryz.underlying83 rfl) ?_))))
 refine Zl ?_
 refine VC.slnil (s:=aA) rfl (fun h4 => ?_) ?_
 ·
  have hS:(some [])=some r:=by
    simp [lt,gd,h4] at hS ⊢
    try exact hS
  refine Zq (Zr (Zy ?_))
  refine VC.nU (⟨none,0,[]⟩:Sv Int) 3 ⟨rfl,rfl⟩ ?_
  cases hS
  exact VC.ret (Z1 ⟨none,0,[]⟩)
 refine Zk ?_
 refine Zq (Zr ?_)
 refine VL.aEE (α:=Int) Tryz.underlying83 a5K (by decide) (fun BX s6 zE => ?_)
 refine VL.nU BX 3 ⟨zE,s6⟩ ?_
 replace hS:=bW s6 hS
 refine Zm ?_
 obtain ⟨b7,hS⟩:=bU hS
 refine VL.app (s:=BX) (r:=aA) Tryz.underlying83 aFd (by decide) rfl Fo.out (wM b7) (wN b7 (by decide)) (by decide) (fun MB CY => ?_)
 replace hS:=bW CY hS
 refine Zy ?_
 cases hS
 exact VC.ret (Z1 MB)
theorem G2 (aA:Sv (Sv Int)) {r:List (List Int)} (hS:Sh.sU (aA.l.map Sv.l)=some r) :
 Ct Tryz.prog 358 [aA.val] aA.ok (Ow.emp) (X:=Sv (Sv Int)) (fun x=>x.val) (fun x=>r=(x.l.map Sv.l)) (fun x=>x.ok) (fun x=>Ow.emp):=by
 refine Zo Tryz.func358 Tryz.ntmps358 fun c => ?_
 unfold Sh.sU at hS
 refine Zq (Zr (Zy ?_))
 refine Zq (Zr (Zy ?_))
 refine Zu (qN Sv.l (s:=aA) Tryz.underlying366 rfl) (Zm (Zu (qN Sv.l (s:=aA) Tryz.underlying366 rfl) ?_))
 obtain ⟨b8,hS⟩:=bU hS
 refine VL.WG Tryz.underlying366 aJn rfl rfl rfl b8.1 (aOd b8.2) (by decide) fun BY tU => ?_
 replace hS:=bW ((congrArg (List.map Sv.l) tU).trans List.map_take) hS
 refine Zy ?_
 cases hS
 exact VC.ret (Z1 BY)
theorem aEU (aA:cF) {r:List (List Int)} (hS:Sh.SY aA.pl=some r) :
 Ct Tryz.prog 304 [.agg (aJ aA).toArray] (aA.bG.ok.and (aA.aY.ok.and (aA.bP.ok.and (aA.aP.ok.and (aA.aT.ok.and (aA.aQ.ok.and (aA.aU.ok.and (aA.bC.ok.and (aA.bD.ok.and (aA.bS.ok.and aA.bJ.ok)))))))))) (Ow.emp) (X:=Sv (Sv Int)) (fun x=>x.val) (fun x=>r=(x.l.map Sv.l)) (fun x=>x.ok) (fun x=>Ow.emp):=by
 refine Zo Tryz.func304 Tryz.ntmps304 fun c => ?_
 unfold Sh.SY at hS
 refine Zq (Zr ?_)
 refine kQ (aJ aA) fun jN => ?_
 refine Zy ?_
 refine Zq (Zr (Zy ?_))
 refine Zq (Zq (Zr (Zu (aB nT rfl) (Zu (aL s5 rfl rfl) (Zu (qN cG.pl (s:=aA.bD) Tryz.underlying73 rfl) (Zy ?_))))))
 refine Zb ?_
 refine VC.nU (⟨none,0,[]⟩:Sv (Sv Int)) 83 ⟨rfl,rfl⟩ ?_
 refine VC.JD (s:=(⟨none,0,[]⟩:Sv (Sv Int))) rfl ?_
 refine VC.iter (S:=Sv (Sv Int)×Int) (fun sg=>((sg.1.l.map Sv.l),sg.2)) (fun sg=>[(3,sg.1.val),(7,aA.bD.val),(8,i64 ((aA.bD.l.map cG.pl).length:Int)),(9,i64 sg.2)]) (fun sg=>(mH sg.1.l)) (fun sg=>Ow.star (bE jN (aJ aA) 77) (Ow.star (Sv.own sg.1 83) (Ow.emp))) (⟨none,0,[]⟩,0) [3,7,8,9] hS rfl ?_
 clear hS
 rintro ⟨NJ,aGv⟩ m1 y1 hS hK1
 refine Zq (Zr (Zu (dW rfl rfl) ?_))
 refine Zl ?_
 refine Zq ?_
 refine Zc hS (fun h10 hS => ?_) (fun h10 hS => ?_)
 ·
  refine Zk ?_
  refine Zq (Zb (Zq (Zr ?_)))
  obtain ⟨yV,aBt,XT,hS⟩:=EB hS
  refine VL.deep yV.m XT (fun _ q=>q) ?_
  refine Zu (eZ (s:=aA.bD) Tryz.underlying73 aAI rfl rfl aBt (bH aBt XT)) (Zu (nX (s:=aA.bD) aPn rfl rfl XT) ?_)
  refine gV [.slice none 0 0,.slice none 0 0,i64 0,str []] fun aUZ => ?_
  refine Zv (cs':=[yV.tree.val,yV.parents.val,i64 yV.time,str yV.text]) rfl aAI ?_
  refine Zl ?_
  refine Zr (Zm (Zu (aB aB2 rfl) (Zu (aL HR rfl rfl) ?_)))
  obtain ⟨DA,aBJ,hS⟩:=aO hS
  refine VL.bL (DU yV.parents aBJ) rfl (by decide) ?_
  rintro QD rfl
  try dsimp only
  refine VL.shut QD 3 (fun _ _ _ _=>trivial) ?_
  obtain ⟨PA,aBL,hS⟩:=aO hS
  refine VL.dK (yE QD aBL) rfl (by decide) ?_
  rintro L0 rfl
  try dsimp only
  refine VL.lit (α:=Sv Int) (xs:=[.tmp 17]) (vs:=[L0.val]) [L0] Tryz.underlying366 a1N (by decide) rfl rfl rfl rfl (by decide) (fun h m=>List.forall_mem_cons.2 ⟨fQ.out (X:=L0.ok) h m,fun _ h=>by cases h⟩) (by decide) (fun a6H a1f => ?_) (by decide)
  replace hS:=bW (congrArg (List.map Sv.l) a1f) hS
  obtain ⟨b19,hS⟩:=bU hS
  refine VL.app (s:=NJ) (r:=a6H) Tryz.underlying366 a1H (by decide) rfl Fo.out (wM (apm b19)) (wN (apm b19) (by decide)) (by decide) (fun aRN aLk => ?_)
  replace hS:=bW ((congrArg (List.map Sv.l) aLk).trans List.map_append) hS
  refine VL.aAU aLk ?_
  refine Zy ?_
  refine VC.keep (ρ':=[(3,aRN.val),(7,aA.bD.val),(8,i64 ((aA.bD.l.map cG.pl).length:Int)),(9,i64 aGv)]) [3,7,8,9] rfl ?_
  refine Zr ?_
  obtain ⟨b20,hS⟩:=bU hS
  refine Zu (cR rfl rfl b20) (Zm ?_)
  refine VL.jU (aRN,(aGv+1)) [3,7,8,9] (fun _ _ h=>h) (go2 hS hK1) rfl
 replace hS:=iJ hS hK1
 refine Zx ?_
 refine Zq (Zr (Zm ?_))
 refine VL.shut NJ 83 (fun h m=>fQ.out (X:=mH NJ.l) h m) ?_
 obtain ⟨aR5,aUh,hS⟩:=aO hS
 refine VL.dK (G2 NJ aUh) rfl (by decide) ?_
 rintro aTX rfl
 try dsimp only
 refine Zy ?_
 cases hS
 exact VC.ret (Z1 aTX)
theorem aBi (dD:Sv aC) {r:List aE} (hS:Sh.KR dD.l=some r) :
 Ct Tryz.prog 9 [dD.val] dD.ok (Ow.emp) (X:=Sv aE) (fun x=>x.val) (fun x=>r=x.l) (fun x=>x.ok) (fun x=>Ow.emp):=by
 refine Zo Tryz.func9 Tryz.ntmps9 fun c => ?_
 unfold Sh.KR at hS
 refine Zq (Zr (Zy ?_))
 refine Zq (Zr (Zy ?_))
 refine Zq (Zq (Zr (Zm (Zu (eB (s:=dD) Tryz.underlying23 rfl) (Zy ?_)))))
 refine Zb ?_
 refine VC.nU (⟨none,0,[]⟩:Sv aE) 103 ⟨rfl,rfl⟩ ?_
 refine VC.iter (S:=Sv aE×Int) (fun sg=>(sg.1.l,sg.2)) (fun sg=>[(3,sg.1.val),(6,dD.val),(7,i64 (dD.l.length:Int)),(8,i64 sg.2)]) (fun sg=>Mo.tt) (fun sg=>Ow.star (Sv.own sg.1 103) (Ow.emp)) (⟨none,0,[]⟩,0) [3,6,7,8] hS rfl ?_
 clear hS
 rintro ⟨nD,sM⟩ m1 y1 hS hK1
 refine Zq (Zr (Zu (dW rfl rfl) ?_))
 refine Zl ?_
 refine Zq ?_
 refine Zc hS (fun h9 hS => ?_) (fun h9 hS => ?_)
 ·
  refine Zk ?_
  refine Zq (Zb (Zq (Zr ?_)))
  obtain ⟨jW,GA,F6,hS⟩:=fA hS
  refine Zu (eZ (s:=dD) Tryz.underlying23 fC rfl rfl GA (bH GA F6)) (Zu (nX (s:=dD) kI rfl rfl F6) ?_)
  refine gV [str [],i64 0,str []] fun a6l => ?_
  refine Zv (cs':=[str jW.path,i64 jW.mode,str jW.data]) rfl fC ?_
  refine Zl ?_
  refine Zr (Zm (Zu (aB kU rfl) (Zu (aL cQ rfl rfl) (Zu (aB xO rfl) (Zu (aL fL rfl rfl) (Zu (aB DD rfl) ?_))))))
  refine Zu (aL cQ rfl rfl) ?_
  refine Zu (fR (vs:=[(0,str jW.path),(2,i64 jW.mode),(3,str jW.data)]) (cs := #[str jW.path,i64 0,i64 jW.mode,str jW.data,i64 0,i64 0]) rfl (by kernel_rfl)) ?_
  refine VL.lit (α:=aE) (xs:=[.tmp 19]) (vs:=[.agg #[str jW.path,i64 0,i64 jW.mode,str jW.data,i64 0,i64 0]]) [⟨jW.path,0,jW.mode,jW.data,0,0⟩] Tryz.underlying36 aFm (by decide) rfl rfl rfl rfl (by decide) (fun _ _ _ _=>trivial) (by decide) (fun a6I a1h => ?_) (by decide)
  replace hS:=bW a1h hS
  obtain ⟨b21,hS⟩:=bU hS
  refine VL.app (s:=nD) (r:=a6I) Tryz.underlying36 UP (by decide) rfl Fo.out (wM b21) (wN b21 (by decide)) (by decide) (fun aYd a1k => ?_)
  replace hS:=bW a1k hS
  refine Zy ?_
  refine VC.keep (ρ':=[(3,aYd.val),(6,dD.val),(7,i64 (dD.l.length:Int)),(8,i64 sM)]) [3,6,7,8] rfl ?_
  refine Zr ?_
  obtain ⟨b22,hS⟩:=bU hS
  refine Zu (cR rfl rfl b22) (Zm ?_)
  refine VL.jU (aYd,(sM+1)) [3,6,7,8] (fun _ _ h=>h) (go2 hS hK1) rfl
 replace hS:=iJ hS hK1
 refine Zx ?_
 refine Zq (Zr (Zm ?_))
 refine VL.shut nD 103 (fun _ _ _ _=>trivial) ?_
 obtain ⟨rY,aBO,hS⟩:=aO hS
 refine VL.dK (gC nD aBO) rfl (by decide) ?_
 rintro QE rfl
 try dsimp only
 refine Zy ?_
 cases hS
 exact VC.ret (Z1 QE)
theorem aG8 (aA:cF) {r:Bool} (hS:Sh.V3 aA.pl=some r) :
 Cp Tryz.prog 284 [.agg (aJ aA).toArray] (aA.bG.ok.and (aA.aY.ok.and (aA.bP.ok.and (aA.aP.ok.and (aA.aT.ok.and (aA.aQ.ok.and (aA.aU.ok.and (aA.bC.ok.and (aA.bD.ok.and (aA.bS.ok.and aA.bJ.ok)))))))))) (.bool r):=by
 refine Zo Tryz.func284 Tryz.ntmps284 fun c => ?_
 unfold Sh.V3 at hS
 refine Zq (Zr ?_)
 refine kQ (aJ aA) fun jN => ?_
 refine Zy ?_
 refine Zq ?_
 refine l9 [(0,true),(1,true),(2,true),(3,true),(4,false),(5,false),(6,true),(7,true)] ?_
 refine Zw rfl (aB eO rfl) ?_
 refine Zw rfl (aB rO rfl) ?_
 refine Zw rfl (aL nN rfl rfl) ?_
 refine Zw rfl (cJ cI rfl rfl) ?_
 refine VD.one rfl ?_
 obtain ⟨yU,EC,hS⟩:=aO hS
 refine VL.dK (HX aA EC) rfl (by decide) ?_
 rintro qS rfl
 try dsimp only
 refine jS [(2,aA.aY.val),(1,ptr jN 1),(0,ptr jN 0)] (aI.cons rfl (aL nN rfl rfl) (aI.cons rfl (aB rO rfl) (aI.cons rfl (aB eO rfl) aI.nil))) ?_
 refine VD.one rfl ?_
 obtain ⟨E7,R2,hS⟩:=aO hS
 refine VL.dK (aBi qS R2) rfl (by decide) ?_
 rintro xB rfl
 try dsimp only
 refine jS [(2,aA.aY.val),(1,ptr jN 1),(0,ptr jN 0)] (aI.cons rfl (aL nN rfl rfl) (aI.cons rfl (aB rO rfl) (aI.cons rfl (aB eO rfl) aI.nil))) ?_
 obtain ⟨XG,aAD,hS⟩:=aO hS
 refine Zw rfl (cH (UX aA.aY xB aAD) rfl (fun _ _=>rfl)) ?_
 refine Zw rfl (gI rfl) ?_
 refine VD.to (fun _ _ h=>h) ?_
 cases hS
 exact Ze
theorem vU (mQ:Sv (Sv Int)) (eC:Sv Int) {r:List Bool} (hS:Sh.sF (mQ.l.map Sv.l) eC.l=some r) :
 Ct Tryz.prog 359 [mQ.val,eC.val] (mQ.ok.and eC.ok) (Ow.emp) (X:=Sv Bool) (fun x=>x.val) (fun x=>r=x.l) (fun x=>Mo.tt) (fun x=>Sv.own x 4):=by
 refine Zo Tryz.func359 Tryz.ntmps359 fun c => ?_
 unfold Sh.sF at hS
 refine Zq (Zr (Zy ?_))
 refine Zq (Zr (Zm (Zu (qN Sv.l (s:=mQ) Tryz.underlying366 rfl) ?_)))
 obtain ⟨b10,hS⟩:=bU hS
 refine Zu (cR rfl rfl b10) ?_
 obtain ⟨b11,hS⟩:=bU hS
 refine VL.make (α:=Bool) (z:=false) Tryz.underlying24 a6w (by decide) rfl rfl b11.1 (Int.le_refl _) (by omega) (by omega) (by decide) (fun V7 R8 => ?_)
 replace hS:=bW R8 hS
 refine Zy ?_
 refine Zq (Zr (Zm ?_))
 obtain ⟨B7,RQ,hS⟩:=aO hS
 refine VL.bL (DU eC RQ) rfl (by decide) ?_
 rintro LW rfl
 try dsimp only
 refine Zy ?_
 refine VC.keep (ρ':=[(0,mQ.val),(5,V7.val),(6,LW.val)]) [0,5,6] rfl ?_
 refine Zq (Zb ?_)
 refine VC.iter (S:=Sv Bool×Sv Int) (fun sg=>(sg.1.l,sg.2.l)) (fun sg=>[(0,mQ.val),(5,sg.1.val),(6,sg.2.val)]) (fun sg=>Mo.tt) (fun sg=>Ow.star (Sv.own sg.1 4) (Ow.star (Sv.own sg.2 3) (Ow.emp))) (V7,LW) [0,5,6] hS rfl ?_
 clear hS
 rintro ⟨jT,qY⟩ m1 y1 hS hK1
 refine Zq (Zq (Zr (Zm (Zu (eB (s:=qY) Tryz.underlying83 rfl) (Zu (lE rfl rfl) ?_)))))
 refine Zl ?_
 refine Zc hS (fun h16 hS => ?_) (fun h16 hS => ?_)
 ·
  refine Zk ?_
  refine Zb (Zq (Zr (Zy ?_)))
  refine Zu (eB (s:=qY) Tryz.underlying83 rfl) ?_
  obtain ⟨b20,hS⟩:=bU hS
  refine Zu (zI rfl rfl b20) ?_
  obtain ⟨JS,aQl,aQJ,hS⟩:=fA hS
  refine Zu (lN (s:=qY) Tryz.underlying83 DE rfl rfl aQl (bH aQl aQJ)) (Zu (AO (s:=qY) 3 fL rfl aQJ rfl) (Zy ?_))
  refine VC.keep (ρ':=[(0,mQ.val),(5,jT.val),(6,qY.val),(7,i64 JS)]) [0,5,6,7] rfl ?_
  refine Zq (Zr (Zy ?_))
  refine Zu (eB (s:=qY) Tryz.underlying83 rfl) ?_
  obtain ⟨b26,hS⟩:=bU hS
  refine Zu (zI rfl rfl b26) ?_
  obtain ⟨b27,hS⟩:=bU hS
  refine VL.a7C (s:=qY) Tryz.underlying83 DE rfl rfl b27.1 b27.2 Fo.out (by decide) fun OP aJs => ?_
  replace hS:=bW aJs hS
  refine Zy ?_
  refine Zq (Zq (Zr (Zm (Zu (dW rfl rfl) (Zm ?_)))))
  refine o4 30 hS (fun h30 hS => ?_) (fun h30 hS => ?_)
  ·
   refine VL.runs 11 [(41,some true)] (by kernel_rfl) ?_
   refine Zl ?_
   refine VC.keep (ρ':=[(0,mQ.val),(5,jT.val),(6,OP.val),(7,i64 JS),(41,.bool true)]) [0,5,6,7,41] rfl ?_
   refine VC.RM rfl ?_
   refine VC.aDD (jT,OP) [0,5,6] (fun _ _ h=>h) (go2 hS hK1) rfl
  refine Zy ?_
  refine Zh (qN Sv.l (s:=mQ) Tryz.underlying366 rfl) ?_
  refine Zh (lE rfl rfl) ?_
  refine Zy ?_
  refine o4 36 hS (fun h36 hS => ?_) (fun h36 hS => ?_)
  ·
   refine VL.runs 5 [(41,some true)] (by kernel_rfl) ?_
   refine Zl ?_
   refine VC.keep (ρ':=[(0,mQ.val),(5,jT.val),(6,OP.val),(7,i64 JS),(41,.bool true)]) [0,5,6,7,41] rfl ?_
   refine VC.RM rfl ?_
   refine VC.aDD (jT,OP) [0,5,6] (fun _ _ h=>h) (go2 hS hK1) rfl
  refine Zy ?_
  obtain ⟨aP8,aQy,aQU,hS⟩:=fA hS
  refine Zh (lN (s:=jT) Tryz.underlying24 qV rfl rfl aQy (bH aQy aQU)) ?_
  refine Zh (AO (s:=jT) 4 lK rfl aQU rfl) ?_
  refine Zy ?_
  refine VC.keep (ρ':=[(0,mQ.val),(5,jT.val),(6,OP.val),(7,i64 JS),(41,.bool aP8)]) [0,5,6,7,41] rfl ?_
  refine gR hS (fun h41 hS => ?_) (fun h41 hS => ?_)
  ·
   refine VC.aDD (jT,OP) [0,5,6] (fun _ _ h=>h) (go2 hS hK1) rfl
  refine Zk ?_
  refine Zq (Zr (Zy ?_))
  obtain ⟨a4V,aM8,aLs,hS⟩:=fA hS
  refine Zu (lN (s:=jT) Tryz.underlying24 qV rfl rfl aM8 (bH aM8 aLs)) ?_
  refine VL.wJ (s:=jT) (T:=4) (j:=0) (vc:=[.bool true]) (true:Bool) (by decide) rfl rfl aLs rfl qV rfl rfl (Nat.le_of_ble_eq_true rfl) rfl (fun w11 hw11 haw11 hcw11 hvw11 hbw11 how11 => ?_)
  rw [← hvw11]
  replace hS:=bW hw11 hS
  refine Zl ?_
  refine Zr (Zy ?_)
  obtain ⟨b48,hS⟩:=bU hS
  refine Zu (zI rfl rfl b48) ?_
  obtain ⟨aCh,aMb,aGA,hS⟩:=EB hS
  refine VL.deep aCh.ok aGA (fun _ q=>q) ?_
  refine Zu (eZ (s:=mQ) Tryz.underlying366 aJn rfl rfl aMb (bH aMb aGA)) (Zu (zW (s:=mQ) HR rfl aGA rfl) ?_)
  obtain ⟨b51,hS⟩:=bU hS
  refine VL.app (s:=OP) (r:=aCh) Tryz.underlying83 aFd (by decide) rfl Fo.out (wM b51) (wN b51 (by decide)) (by decide) (fun a3L aXK => ?_)
  replace hS:=bW aXK hS
  refine Za ?_
  refine VL.jU (w11,a3L) [0,5,6] (fun _ _ h=>h) (go2 hS hK1) rfl
 replace hS:=iJ hS hK1
 refine Zx ?_
 refine Zq (Zr (Zy ?_))
 cases hS
 exact VC.ret (Z1 jT)
theorem LJ (mQ:Sv (Sv Int)) (a_1:Int) (c_2:Int) {r:Bool} (hS:Sh.DZ (mQ.l.map Sv.l) a_1 c_2=some r) :
 Cp Tryz.prog 305 [mQ.val,i64 a_1,i64 c_2] mQ.ok (.bool r):=by
 refine Zo Tryz.func305 Tryz.ntmps305 fun c => ?_
 unfold Sh.DZ at hS
 refine Zq (Zr (Zy ?_))
 refine Zq (Zr (Zm (Zu (vC rfl rfl) (Zm ?_))))
 refine o4 9 hS (fun h9 hS => ?_) (fun h9 hS => ?_)
 ·
  refine Zy ?_
  refine Zh (qN Sv.l (s:=mQ) Tryz.underlying366 rfl) ?_
  refine Zh (L8 rfl rfl) ?_
  refine Zy ?_
  refine o4 15 hS (fun h15 hS => ?_) (fun h15 hS => ?_)
  ·
   refine Zy ?_
   refine VL.guard rfl rfl ?_
   refine VL.lit (α:=Int) (xs:=[.tmp 17]) (vs:=[i64 c_2]) [c_2] Tryz.underlying83 oS (by decide) rfl rfl rfl rfl (by decide) (fun _ _ _ _=>trivial) (by decide) (fun a6F a1c => ?_) (by decide)
   replace hS:=bW a1c hS
   refine VL.guard rfl rfl ?_
   obtain ⟨GY,aBN,hS⟩:=aO hS
   refine VL.bL (vU mQ a6F aBN) rfl (by decide) ?_
   rintro VO rfl
   try dsimp only
   refine Zg ?_
   obtain ⟨aHS,aBw,aBb,hS⟩:=fA hS
   refine Zh (lN (s:=VO) Tryz.underlying24 qV rfl rfl aBw (bH aBw aBb)) ?_
   refine Zh (AO (s:=VO) 4 lK rfl aBb rfl) ?_
   refine Zy ?_
   refine VC.keep (ρ':=[(6,.bool aHS)]) [6] rfl ?_
   cases hS
   exact Ze
  refine VL.runs 9 [(6,some false)] (by kernel_rfl) ?_
  refine Zl ?_
  refine VC.keep (ρ':=[(6,.bool false)]) [6] rfl ?_
  cases hS
  exact Ze
 refine VL.runs 15 [(6,some false)] (by kernel_rfl) ?_
 refine Zl ?_
 cases hS
 exact Ze
theorem aH5 (fF:Sv Bool) {r:List Int} (hS:Sh.aAE fF.l=some r) :
 Ct Tryz.prog 380 [fF.val] fF.ok (Ow.emp) (X:=Sv Int) (fun x=>x.val) (fun x=>r=x.l) (fun x=>x.ok) (fun x=>Ow.emp):=by
 refine Zo Tryz.func380 Tryz.ntmps380 fun c => ?_
 unfold Sh.aAE at hS
 refine Zq (Zr (Zy ?_))
 refine Zq (Zr (Zy ?_))
 refine Zq (Zq (Zr (Zm (Zu (eB (s:=fF) Tryz.underlying24 rfl) (Zy ?_)))))
 refine Zb ?_
 refine VC.nU (⟨none,0,[]⟩:Sv Int) 3 ⟨rfl,rfl⟩ ?_
 refine VC.iter (S:=Sv Int×Int) (fun sg=>(sg.1.l,sg.2)) (fun sg=>[(3,sg.1.val),(6,fF.val),(7,i64 (fF.l.length:Int)),(8,i64 sg.2)]) (fun sg=>Mo.tt) (fun sg=>Ow.star (Sv.own sg.1 3) (Ow.emp)) (⟨none,0,[]⟩,0) [3,6,7,8] hS rfl ?_
 clear hS
 rintro ⟨nD,sM⟩ m1 y1 hS hK1
 refine Zq (Zr (Zu (dW rfl rfl) ?_))
 refine Zl ?_
 refine Zq ?_
 refine Zc hS (fun h9 hS => ?_) (fun h9 hS => ?_)
 ·
  refine Zk ?_
  refine Zq (Zb (Zq (Zr (Zm ?_))))
  obtain ⟨A5,NH,M7,hS⟩:=fA hS
  refine Zu (eZ (s:=fF) Tryz.underlying24 qV rfl rfl NH (bH NH M7)) (Zu (zW (s:=fF) lK rfl M7 rfl) (Zy ?_))
  refine Zq (Zr (Zy ?_))
  refine gR hS (fun h13 hS => ?_) (fun h13 hS => ?_)
  ·
   refine Zr (Zy ?_)
   refine VL.lit (α:=Int) (xs:=[.tmp 15]) (vs:=[i64 sM]) [sM] Tryz.underlying83 oS (by decide) rfl rfl rfl rfl (by decide) (fun _ _ _ _=>trivial) (by decide) (fun a6D a19 => ?_) (by decide)
   replace hS:=bW a19 hS
   obtain ⟨b17,hS⟩:=bU hS
   refine VL.app (s:=nD) (r:=a6D) Tryz.underlying83 aFd (by decide) rfl Fo.out (wM b17) (wN b17 (by decide)) (by decide) (fun aY9 a1b => ?_)
   replace hS:=bW a1b hS
   refine Zy ?_
   refine VC.keep (ρ':=[(3,aY9.val),(6,fF.val),(7,i64 (fF.l.length:Int)),(8,i64 sM)]) [3,6,7,8] rfl ?_
   refine Zr ?_
   obtain ⟨b18,hS⟩:=bU hS
   refine Zu (cR rfl rfl b18) (Zm ?_)
   refine VL.jU (aY9,(sM+1)) [3,6,7,8] (fun _ _ h=>h) (go2 hS hK1) rfl
  refine Zk ?_
  refine VC.keep (ρ':=[(3,nD.val),(6,fF.val),(7,i64 (fF.l.length:Int)),(8,i64 sM)]) [3,6,7,8] rfl ?_
  refine Zr ?_
  obtain ⟨b18,hS⟩:=bU hS
  refine Zu (cR rfl rfl b18) (Zm ?_)
  refine VL.jU (nD,(sM+1)) [3,6,7,8] (fun _ _ h=>h) (go2 hS hK1) rfl
 replace hS:=iJ hS hK1
 refine Zx ?_
 refine Zq (Zr (Zm ?_))
 refine VL.shut nD 3 (fun _ _ _ _=>trivial) ?_
 obtain ⟨rX,J6,hS⟩:=aO hS
 refine VL.dK (yE nD J6) rfl (by decide) ?_
 rintro x5 rfl
 try dsimp only
 refine Zy ?_
 cases hS
 exact VC.ret (Z1 x5)
theorem T4 (mQ:Sv (Sv Int)) (a_1:Int) (b_2:Int) {r:List Int} (hS:Sh.EF (mQ.l.map Sv.l) a_1 b_2=some r) :
 Ct Tryz.prog 360 [mQ.val,i64 a_1,i64 b_2] mQ.ok (Ow.emp) (X:=Sv Int) (fun x=>x.val) (fun x=>r=x.l) (fun x=>x.ok) (fun x=>Ow.emp):=by
 refine Zo Tryz.func360 Tryz.ntmps360 fun c => ?_
 unfold Sh.EF at hS
 refine Zq (Zr (Zy ?_))
 refine Zq (Zr (Zy ?_))
 refine VL.lit (α:=Int) (xs:=[.tmp 14]) (vs:=[i64 a_1]) [a_1] Tryz.underlying83 oS (by decide) rfl rfl rfl rfl (by decide) (fun _ _ _ _=>trivial) (by decide) (fun a5z a15 => ?_) (by decide)
 replace hS:=bW a15 hS
 obtain ⟨iA,rG,hS⟩:=aO hS
 refine VL.bL (vU mQ a5z rG) rfl (by decide) ?_
 rintro IV rfl
 try dsimp only
 refine Zy ?_
 refine VL.lit (α:=Int) (xs:=[.tmp 18]) (vs:=[i64 b_2]) [b_2] Tryz.underlying83 oS (by decide) rfl rfl rfl rfl (by decide) (fun _ _ _ _=>trivial) (by decide) (fun aGh aB8 => ?_) (by decide)
 replace hS:=bW aB8 hS
 obtain ⟨aHE,a0G,hS⟩:=aO hS
 refine VL.bL (vU mQ aGh a0G) rfl (by decide) ?_
 rintro IW rfl
 try dsimp only
 refine Zy ?_
 refine VC.keep (ρ':=[(0,mQ.val),(7,IV.val),(8,IW.val)]) [0,7,8] rfl ?_
 refine Zq (Zr (Zy ?_))
 refine Zq (Zq (Zr (Zm (Zu (eB (s:=IV) Tryz.underlying24 rfl) (Zy ?_)))))
 refine Zb ?_
 refine VC.nU (⟨none,0,[]⟩:Sv Int) 3 ⟨rfl,rfl⟩ ?_
 refine VC.iter (S:=Sv Bool×Sv Int×Int) (fun sg=>(sg.1.l,sg.2.1.l,sg.2.2)) (fun sg=>[(0,mQ.val),(7,sg.1.val),(8,IW.val),(9,sg.2.1.val),(22,i64 (IV.l.length:Int)),(23,i64 sg.2.2)]) (fun sg=>Mo.tt) (fun sg=>Ow.star (Sv.own IW 4) (Ow.star (Sv.own sg.1 4) (Ow.star (Sv.own sg.2.1 3) (Ow.emp)))) (IV,⟨none,0,[]⟩,0) [0,7,8,9,22,23] hS rfl ?_
 clear hS
 rintro ⟨E6,tD,yR⟩ m1 y1 hS hK1
 refine Zq (Zr (Zu (dW rfl rfl) ?_))
 refine Zl ?_
 refine Zq ?_
 refine Zc hS (fun h24 hS => ?_) (fun h24 hS => ?_)
 ·
  refine Zk ?_
  refine Zq (Zb (Zq (Zr (Zy ?_))))
  refine VC.gN (S:=Sv Bool) (fun (C7:Sv Bool)=>C7.l) (fun (C7:Sv Bool)=>[(0,mQ.val),(7,C7.val),(8,IW.val),(9,tD.val),(10,i64 yR),(22,i64 (IV.l.length:Int)),(23,i64 yR)]) (fun (C7:Sv Bool)=>Mo.tt) (fun (C7:Sv Bool)=>Ow.star (Sv.own IW 4) (Ow.star (Sv.own tD 3) (Ow.star (Sv.own C7 4) (Ow.emp)))) hS ?_ ?_
  ·
   clear hS
   intro k11 hS
   refine Zr (Zy ?_)
   obtain ⟨aS2,aM0,aLl,hS⟩:=fA hS
   refine Zu (lN (s:=E6) Tryz.underlying24 qV rfl rfl aM0 (bH aM0 aLl)) (Zu (AO (s:=E6) 4 lK rfl aLl rfl) (Zm ?_))
   refine xJ 32 hS (fun h32 hS => ?_) (fun h32 hS => ?_)
   ·
    refine Zy ?_
    obtain ⟨aEn,aM2,aLm,hS⟩:=fA hS
    refine Zh (lN (s:=IW) Tryz.underlying24 qV rfl rfl aM2 (bH aM2 aLm)) ?_
    refine Zh (AO (s:=IW) 4 lK rfl aLm rfl) ?_
    refine Zt ?_
    obtain ⟨a4T,aM4,aLo,hS⟩:=fA hS
    refine Zu (lN (s:=E6) Tryz.underlying24 qV rfl rfl aM4 (bH aM4 aLo)) ?_
    refine VL.wJ (s:=E6) (T:=4) (j:=0) (vc:=[.bool aEn]) (aEn:Bool) (by decide) rfl rfl aLo rfl qV rfl rfl (Nat.le_of_ble_eq_true rfl) rfl (fun w15 hw15 haw15 hcw15 hvw15 hbw15 how15 => ?_)
    rw [← hvw15]
    replace hS:=bW hw15 hS
    refine VL.mt w15 [0,7,8,9,10,22,23] (fun _ _ h=>h) hS rfl
   refine VL.runs 5 [(37,some false)] (by kernel_rfl) ?_
   obtain ⟨a4U,aM5,aLp,hS⟩:=fA hS
   refine Zu (lN (s:=E6) Tryz.underlying24 qV rfl rfl aM5 (bH aM5 aLp)) ?_
   refine VL.wJ (s:=E6) (T:=4) (j:=0) (vc:=[.bool false]) (false:Bool) (by decide) rfl rfl aLp rfl qV rfl rfl (Nat.le_of_ble_eq_true rfl) rfl (fun w18 hw18 haw18 hcw18 hvw18 hbw18 how18 => ?_)
   rw [← hvw18]
   replace hS:=bW hw18 hS
   refine VL.mt w18 [0,7,8,9,10,22,23] (fun _ _ h=>h) hS rfl
  clear hS
  rintro C7 hS
  refine Zq (Zr (Zy ?_))
  obtain ⟨aS3,aM7,aLr,hS⟩:=fA hS
  refine Zu (lN (s:=C7) Tryz.underlying24 qV rfl rfl aM7 (bH aM7 aLr)) (Zu (AO (s:=C7) 4 lK rfl aLr rfl) ?_)
  refine Zl ?_
  refine gR hS (fun h42 hS => ?_) (fun h42 hS => ?_)
  ·
   refine Zr (Zy ?_)
   obtain ⟨b46,hS⟩:=bU hS
   refine Zu (zI rfl rfl b46) ?_
   obtain ⟨aCg,aM9,aFz,hS⟩:=EB hS
   refine VL.deep aCg.ok aFz (fun _ q=>q) ?_
   refine Zu (eZ (s:=mQ) Tryz.underlying366 aJn rfl rfl aM9 (bH aM9 aFz)) (Zu (zW (s:=mQ) HR rfl aFz rfl) ?_)
   obtain ⟨b49,hS⟩:=bU hS
   refine VL.app (s:=tD) (r:=aCg) Tryz.underlying83 aFd (by decide) rfl Fo.out (wM b49) (wN b49 (by decide)) (by decide) (fun aRS aXJ => ?_)
   replace hS:=bW aXJ hS
   refine Zy ?_
   refine VC.keep (ρ':=[(0,mQ.val),(7,C7.val),(8,IW.val),(9,aRS.val),(22,i64 (IV.l.length:Int)),(23,i64 yR)]) [0,7,8,9,22,23] rfl ?_
   refine Zr ?_
   obtain ⟨b50,hS⟩:=bU hS
   refine Zu (cR rfl rfl b50) (Zm ?_)
   refine VL.jU (C7,aRS,(yR+1)) [0,7,8,9,22,23] (fun _ _ h=>h) (go2 hS hK1) rfl
  refine Zk ?_
  refine Zr ?_
  obtain ⟨b50,hS⟩:=bU hS
  refine Zu (cR rfl rfl b50) (Zm ?_)
  refine VL.jU (C7,tD,(yR+1)) [0,7,8,9,22,23] (fun _ _ h=>h) (go2 hS hK1) rfl
 replace hS:=iJ hS hK1
 refine Zx ?_
 refine Zq (Zr (Zy ?_))
 obtain ⟨aRx,aV6,hS⟩:=aO hS
 refine VL.aJF (vU mQ tD aV6) rfl (by decide) ?_
 rintro HE rfl
 try dsimp only
 refine Zy ?_
 refine VC.keep (ρ':=[(7,E6.val),(11,HE.val)]) [7,11] rfl ?_
 refine Zq (Zq (Zr (Zm (Zu (eB (s:=E6) Tryz.underlying24 rfl) (Zy ?_)))))
 refine Zb ?_
 refine VC.iter (S:=Sv Bool×Int) (fun sg=>(sg.1.l,sg.2)) (fun sg=>[(7,sg.1.val),(11,HE.val),(55,i64 (E6.l.length:Int)),(56,i64 sg.2)]) (fun sg=>Mo.tt) (fun sg=>Ow.star (Sv.own HE 4) (Ow.star (Sv.own sg.1 4) (Ow.emp))) (E6,0) [7,11,55,56] hS rfl ?_
 clear hS
 rintro ⟨EV,xH⟩ m1 y1 hS hK1
 refine Zq (Zr (Zu (dW rfl rfl) ?_))
 refine Zl ?_
 refine Zq ?_
 refine Zc hS (fun h57 hS => ?_) (fun h57 hS => ?_)
 ·
  refine Zk ?_
  refine Zq (Zb (Zq (Zr (Zy ?_))))
  refine Zr (Zy ?_)
  obtain ⟨aS6,aMj,aMA,hS⟩:=fA hS
  refine Zu (lN (s:=EV) Tryz.underlying24 qV rfl rfl aMj (bH aMj aMA)) (Zu (AO (s:=EV) 4 lK rfl aMA rfl) (Zm ?_))
  refine xJ 65 hS (fun h65 hS => ?_) (fun h65 hS => ?_)
  ·
   refine Zy ?_
   obtain ⟨aEo,aMl,aMB,hS⟩:=fA hS
   refine Zh (lN (s:=HE) Tryz.underlying24 qV rfl rfl aMl (bH aMl aMB)) ?_
   refine Zh (AO (s:=HE) 4 lK rfl aMB rfl) ?_
   refine Zh (jE rfl) ?_
   refine Zt ?_
   obtain ⟨a4Y,aMo,aME,hS⟩:=fA hS
   refine Zu (lN (s:=EV) Tryz.underlying24 qV rfl rfl aMo (bH aMo aME)) ?_
   refine VL.wJ (s:=EV) (T:=4) (j:=0) (vc:=[.bool (!aEo)]) ((!aEo):Bool) (by decide) rfl rfl aME rfl qV rfl rfl (Nat.le_of_ble_eq_true rfl) rfl (fun w30 hw30 haw30 hcw30 hvw30 hbw30 how30 => ?_)
   rw [← hvw30]
   replace hS:=bW hw30 hS
   refine Zl ?_
   refine VC.keep (ρ':=[(7,w30.val),(11,HE.val),(55,i64 (E6.l.length:Int)),(56,i64 xH)]) [7,11,55,56] rfl ?_
   refine Zr ?_
   obtain ⟨b73,hS⟩:=bU hS
   refine Zu (cR rfl rfl b73) (Zm ?_)
   refine VL.jU (w30,(xH+1)) [7,11,55,56] (fun _ _ h=>h) (go2 hS hK1) rfl
  refine VL.runs 6 [(71,some false)] (by kernel_rfl) ?_
  obtain ⟨a4Z,aMp,aMF,hS⟩:=fA hS
  refine Zu (lN (s:=EV) Tryz.underlying24 qV rfl rfl aMp (bH aMp aMF)) ?_
  refine VL.wJ (s:=EV) (T:=4) (j:=0) (vc:=[.bool false]) (false:Bool) (by decide) rfl rfl aMF rfl qV rfl rfl (Nat.le_of_ble_eq_true rfl) rfl (fun w33 hw33 haw33 hcw33 hvw33 hbw33 how33 => ?_)
  rw [← hvw33]
  replace hS:=bW hw33 hS
  refine Zl ?_
  refine VC.keep (ρ':=[(7,w33.val),(11,HE.val),(55,i64 (E6.l.length:Int)),(56,i64 xH)]) [7,11,55,56] rfl ?_
  refine Zr ?_
  obtain ⟨b73,hS⟩:=bU hS
  refine Zu (cR rfl rfl b73) (Zm ?_)
  refine VL.jU (w33,(xH+1)) [7,11,55,56] (fun _ _ h=>h) (go2 hS hK1) rfl
 replace hS:=iJ hS hK1
 refine Zx ?_
 refine Zq (Zr (Zm ?_))
 refine VL.shut EV 4 (fun _ _ _ _=>trivial) ?_
 obtain ⟨aSQ,aVx,hS⟩:=aO hS
 refine VL.dK (aH5 EV aVx) rfl (by decide) ?_
 rintro aUD rfl
 try dsimp only
 refine Zy ?_
 cases hS
 exact VC.ret (Z1 aUD)
theorem IK (mQ:Sv (Sv Int)) (a_1:Int) (b_2:Int) {r:Int} (hS:Sh.F3 (mQ.l.map Sv.l) a_1 b_2=some r) :
 Cp Tryz.prog 306 [mQ.val,i64 a_1,i64 b_2] mQ.ok (i64 r):=by
 refine Zo Tryz.func306 Tryz.ntmps306 fun c => ?_
 unfold Sh.F3 at hS
 refine Zq (Zr (Zy ?_))
 refine Zq (Zr (Zy ?_))
 obtain ⟨iW,CE,hS⟩:=aO hS
 refine VL.dK (T4 mQ a_1 b_2 CE) rfl (by decide) ?_
 rintro oV rfl
 try dsimp only
 refine Zy ?_
 refine Zq (Zq (Zr (Zm (Zu (eB (s:=oV) Tryz.underlying83 rfl) (Zu (iI rfl rfl) ?_)))))
 refine Zl ?_
 refine VC.keep (ρ':=[(7,oV.val),(14,.bool (decide ((oV.l.length:Int)=0)))]) [7,14] rfl ?_
 refine Zc hS (fun h14 hS => ?_) (fun h14 hS => ?_)
 ·
  refine Zq ?_
  cases hS
 refine Zk ?_
 refine Zq (Zr (Zy ?_))
 refine Zu (eB (s:=oV) Tryz.underlying83 rfl) ?_
 obtain ⟨b18,hS⟩:=bU hS
 refine Zu (zI rfl rfl b18) ?_
 obtain ⟨aZc,aQd,aQB,hS⟩:=fA hS
 refine Zu (eZ (s:=oV) Tryz.underlying83 DE rfl rfl aQd (bH aQd aQB)) (Zu (zW (s:=oV) fL rfl aQB rfl) (Zy ?_))
 cases hS
 exact Ze
theorem O4 (dD:Sv aC) (p_1:aK) {r:QW} (hS:Sh.MH dD.l p_1=some r) :
 Cp Tryz.prog 384 [dD.val,str p_1] dD.ok (.agg #[str r.dZ,i64 r.cN,str r.dQ,.bool r.is]):=by
 refine Zo Tryz.func384 Tryz.ntmps384 fun c => ?_
 unfold Sh.MH at hS
 refine Zq (Zr ?_)
 refine gV [str [],i64 0,str [],.bool false] fun tL => ?_
 refine Zl ?_
 refine Zq (Zr (Zy ?_))
 obtain ⟨gD,FQ,hS⟩:=aO hS
 refine Zu (cH (lT dD p_1 FQ) rfl (fun _ _=>rfl)) ?_
 refine Zm (Zu (aV rfl rfl) (Zu (aV rfl rfl) ?_))
 refine gV [str [],i64 0,str []] fun UB => ?_
 refine Zv (cs':=[str gD.1.path,i64 gD.1.mode,str gD.1.data]) rfl fC ?_
 refine Zy ?_
 refine VC.keep (ρ':=[(4,ptr tL 0),(5,ptr UB 0),(6,.bool gD.2)]) [4,5,6] rfl ?_
 refine Zq (Zr (Zu (cJ kI rfl rfl) (Zm ?_)))
 refine Zu (fR (vs:=[(0,.agg #[str gD.1.path,i64 gD.1.mode,str gD.1.data]),(1,.bool gD.2)]) (cs := #[str gD.1.path,i64 gD.1.mode,str gD.1.data,.bool gD.2]) rfl (by kernel_rfl)) ?_
 refine Zv (cs':=[str gD.1.path,i64 gD.1.mode,str gD.1.data,.bool gD.2]) rfl aE8 ?_
 refine Zl ?_
 cases hS
 exact VC.ret (Z3 () [.agg #[str gD.1.path,i64 gD.1.mode,str gD.1.data,.bool gD.2]] (fI.cell LG rfl rfl Rd.blk (fI.nil)))
theorem aGq (zT:aK) (CA:Sv aC) (XZ:Sv aC) (KT:Sv aC) (a_4:aK) (b_5:aK) {r:aC×Bool×Bool} (hS:Sh.WK zT CA.l XZ.l KT.l a_4 b_5=some r) :
 Cp Tryz.prog 374 [str zT,CA.val,XZ.val,KT.val,str a_4,str b_5] (CA.ok.and (XZ.ok.and KT.ok)) (.tuple #[.agg #[str r.1.path,i64 r.1.mode,str r.1.data],.bool r.2.1,.bool r.2.2]):=by
 refine Zo Tryz.func374 Tryz.ntmps374 fun c => ?_
 unfold Sh.WK at hS
 refine Zq (Zr ?_)
 refine gV [str [],i64 0,str []] fun ZD => ?_
 refine Zy ?_
 refine Zq (Zr (Zy ?_))
 obtain ⟨oK,a0E,hS⟩:=aO hS
 refine Zu (cH (O4 CA zT a0E) rfl (fun _ _=>rfl)) ?_
 refine Zy ?_
 obtain ⟨lB,a0O,hS⟩:=aO hS
 refine Zu (cH (O4 XZ zT a0O) rfl (fun _ _=>rfl)) ?_
 refine Zy ?_
 obtain ⟨gH,RY,hS⟩:=aO hS
 refine Zu (cH (O4 KT zT RY) rfl (fun _ _=>rfl)) ?_
 refine gV [str [],i64 0,str [],.bool false] fun aEx => ?_
 refine gV [str [],i64 0,str [],.bool false] fun aCn => ?_
 refine gV [str [],i64 0,str [],.bool false] fun aCo => ?_
 refine Zv (cs':=[str oK.dZ,i64 oK.cN,str oK.dQ,.bool oK.is]) rfl aE8 ?_
 refine Zv (cs':=[str lB.dZ,i64 lB.cN,str lB.dQ,.bool lB.is]) rfl aE8 ?_
 refine Zv (cs':=[str gH.dZ,i64 gH.cN,str gH.dQ,.bool gH.is]) rfl aE8 ?_
 refine Zl ?_
 refine VC.keep (ρ':=[(4,str a_4),(5,str b_5),(12,ptr ZD 0),(15,ptr aEx 0),(16,ptr aCn 0),(17,ptr aCo 0)]) [4,5,12,15,16,17] rfl ?_
 refine Zq (Zb ?_)
 refine VC.gN (S:=Bool) (fun (WY:Bool)=>WY) (fun (WY:Bool)=>[(4,str a_4),(5,str b_5),(12,ptr ZD 0),(15,ptr aEx 0),(16,ptr aCn 0),(17,ptr aCo 0),(27,.bool WY)]) (fun (WY:Bool)=>Mo.tt) (fun (WY:Bool)=>Ow.star (bE aCo [str gH.dZ,i64 gH.cN,str gH.dQ,.bool gH.is] 439) (Ow.star (bE aCn [str lB.dZ,i64 lB.cN,str lB.dQ,.bool lB.is] 439) (Ow.star (bE aEx [str oK.dZ,i64 oK.cN,str oK.dQ,.bool oK.is] 439) (Ow.star (bE ZD [str [],i64 0,str []] 32) (Ow.emp))))) hS ?_ ?_
 ·
  clear hS
  intro k9 hS
  refine Zr (Zu (cJ LG rfl rfl) (Zu (cJ LG rfl rfl) (Zu (VZ aFg (aFi lB.dZ lB.cN lB.dQ lB.is gH.dZ gH.cN gH.dQ gH.is) rfl rfl) (Zm ?_))))
  refine o4 31 hS (fun h31 hS => ?_) (fun h31 hS => ?_)
  ·
   refine VL.runs 5 [(27,some true)] (by kernel_rfl) ?_
   refine VL.mt true [4,5,12,15,16,17,27] (fun _ _ h=>h) hS rfl
  refine Zh (cJ LG rfl rfl) ?_
  refine Zh (cJ LG rfl rfl) ?_
  refine Zh (VZ aFg (aFi oK.dZ oK.cN oK.dQ oK.is gH.dZ gH.cN gH.dQ gH.is) rfl rfl) ?_
  refine Zy ?_
  refine VL.mt (decide (oK.dZ=gH.dZ∧oK.cN=gH.cN∧oK.dQ=gH.dQ∧oK.is=gH.is)) [4,5,12,15,16,17,27] (fun _ _ h=>h) hS rfl
 clear hS
 rintro WY hS
 refine gR hS (fun h27 hS => ?_) (fun h27 hS => ?_)
 ·
  refine Zq ?_
  refine l9 [(0,true),(1,true),(2,true),(3,true),(4,false),(5,true),(6,true)] ?_
  refine Zw rfl (aB aIB rfl) ?_
  refine Zw rfl (ON (j:=0) (n:=3) kI rfl rfl rfl) ?_
  refine Zw rfl (aB HA rfl) ?_
  refine Zw rfl (aL lK rfl rfl) ?_
  refine VD.one rfl ?_
  refine Zv (cs':=[str lB.dZ,i64 lB.cN,str lB.dQ]) rfl fC ?_
  refine jS [(3,.bool lB.is),(2,ptr aCn 3)] (aI.cons rfl (aL lK rfl rfl) (aI.cons rfl (aB HA rfl) aI.nil)) ?_
  refine Zw rfl (gI rfl) ?_
  refine Zw rfl (gI rfl) ?_
  refine VD.to (fun _ _ h=>h) ?_
  refine VC.keep (ρ':=[(12,ptr ZD 0),(13,.bool lB.is),(14,.bool false)]) [12,13,14] rfl ?_
  cases hS
  exact VC.ret (Z3 () [.agg #[str lB.dZ,i64 lB.cN,str lB.dQ],.bool lB.is,.bool false] (fI.cell kI rfl rfl Rd.blk (fI.tmp rfl (fI.tmp rfl (fI.nil)))))
 refine Zq (Zr (Zu (cJ LG rfl rfl) (Zu (cJ LG rfl rfl) (Zu (VZ aFg (aFi oK.dZ oK.cN oK.dQ oK.is lB.dZ lB.cN lB.dQ lB.is) rfl rfl) (Zy ?_)))))
 refine Zc hS (fun h40 hS => ?_) (fun h40 hS => ?_)
 ·
  refine Zq ?_
  refine l9 [(0,true),(1,true),(2,true),(3,true),(4,false),(5,true),(6,true)] ?_
  refine Zw rfl (aB aIB rfl) ?_
  refine Zw rfl (ON (j:=0) (n:=3) kI rfl rfl rfl) ?_
  refine Zw rfl (aB HA rfl) ?_
  refine Zw rfl (aL lK rfl rfl) ?_
  refine VD.one rfl ?_
  refine Zv (cs':=[str gH.dZ,i64 gH.cN,str gH.dQ]) rfl fC ?_
  refine jS [(3,.bool gH.is),(2,ptr aCo 3)] (aI.cons rfl (aL lK rfl rfl) (aI.cons rfl (aB HA rfl) aI.nil)) ?_
  refine Zw rfl (gI rfl) ?_
  refine Zw rfl (gI rfl) ?_
  refine VD.to (fun _ _ h=>h) ?_
  refine VC.keep (ρ':=[(12,ptr ZD 0),(13,.bool gH.is),(14,.bool false)]) [12,13,14] rfl ?_
  cases hS
  exact VC.ret (Z3 () [.agg #[str gH.dZ,i64 gH.cN,str gH.dQ],.bool gH.is,.bool false] (fI.cell kI rfl rfl Rd.blk (fI.tmp rfl (fI.tmp rfl (fI.nil)))))
 refine VC.gN (S:=Bool) (fun (NZ:Bool)=>NZ) (fun (NZ:Bool)=>[(4,str a_4),(5,str b_5),(12,ptr ZD 0),(15,ptr aEx 0),(16,ptr aCn 0),(17,ptr aCo 0),(48,.bool NZ)]) (fun (NZ:Bool)=>Mo.tt) (fun (NZ:Bool)=>Ow.star (bE aCo [str gH.dZ,i64 gH.cN,str gH.dQ,.bool gH.is] 439) (Ow.star (bE aCn [str lB.dZ,i64 lB.cN,str lB.dQ,.bool lB.is] 439) (Ow.star (bE aEx [str oK.dZ,i64 oK.cN,str oK.dQ,.bool oK.is] 439) (Ow.star (bE ZD [str [],i64 0,str []] 32) (Ow.emp))))) hS ?_ ?_
 ·
  clear hS
  intro k11 hS
  refine Zr (Zu (aB HA rfl) (Zu (aL lK rfl rfl) (Zm ?_)))
  refine xJ 51 hS (fun h51 hS => ?_) (fun h51 hS => ?_)
  ·
   refine Zh (aB HA rfl) ?_
   refine Zh (aL lK rfl rfl) ?_
   refine Zy ?_
   refine VL.mt gH.is [4,5,12,15,16,17,48] (fun _ _ h=>h) hS rfl
  refine VL.runs 4 [(48,some false)] (by kernel_rfl) ?_
  refine VL.mt false [4,5,12,15,16,17,48] (fun _ _ h=>h) hS rfl
 clear hS
 rintro NZ hS
 refine gR hS (fun h48 hS => ?_) (fun h48 hS => ?_)
 ·
  refine Zq ?_
  cases hS
 refine Zq (Zr (Zu (aB HA rfl) (Zu (aL lK rfl rfl) (Zy ?_))))
 refine gR hS (fun h66 hS => ?_) (fun h66 hS => ?_)
 ·
  refine Zq ?_
  cases hS
 refine Zk ?_
 refine Zq ?_
 cases hS
theorem aAd (mQ:aC) (jA:Nat) (a_1:aC) {r:Bool} (hS:Sh.JI mQ a_1=some r) :
 Cp Tryz.prog 386 [.agg #[str mQ.path,i64 mQ.mode,str mQ.data],ptr jA 0] (Cells jA 0 [str a_1.path,i64 a_1.mode,str a_1.data]) (.bool r):=by
 refine Zo Tryz.func386 Tryz.ntmps386 fun c => ?_
 unfold Sh.JI at hS
 refine Zq (Zr ?_)
 refine kQ [str mQ.path,i64 mQ.mode,str mQ.data] fun fJ => ?_
 refine Zy ?_
 refine Zq (Zr (Zu (aB kU rfl) (Zu (aL cQ rfl rfl) (Zu (aB kU rfl) (Zu (VW cQ rfl rfl) ?_)))))
 obtain ⟨lR,y9,hS⟩:=aO hS
 refine Zu (cH (rQ mQ.path a_1.path y9) rfl (fun _ _=>rfl)) ?_
 refine Zy ?_
 cases hS
 exact Ze
theorem yI (aA:Sv aC) (eF:Nat) (fD:aC) {r:Int} (hS:Sh.mK aA.l fD=some r) :
 Cp Tryz.prog 120 [aA.val,.func (.func 386) #[] #[ptr eF 0]] (aA.ok.and (Cells eF 0 [str fD.path,i64 fD.mode,str fD.data])) (i64 r):=by
 refine Zo Tryz.func120 Tryz.ntmps120 fun c => ?_
 unfold Sh.mK at hS
 refine Zq (Zr (Zy ?_))
 refine Zq (Zq (Zr (Zm (Zu (eB (s:=aA) Tryz.underlying23 rfl) (Zy ?_)))))
 refine Zb ?_
 refine VC.iter (S:=Int) (fun (cV:Int)=>cV) (fun (cV:Int)=>[(0,aA.val),(1,.func (.func 386) #[] #[ptr eF 0]),(7,i64 (aA.l.length:Int)),(8,i64 cV)]) (fun (cV:Int)=>Mo.tt) (fun (cV:Int)=>Ow.emp) 0 [0,1,7,8] hS rfl ?_
 clear hS
 rintro cV m1 y1 hS hK1
 refine Zq (Zr (Zu (dW rfl rfl) ?_))
 refine Zl ?_
 refine Zq ?_
 refine Zc hS (fun h9 hS => ?_) (fun h9 hS => ?_)
 ·
  refine Zk ?_
  refine Zq (Zb (Zq (Zr (Zy ?_))))
  refine Zq (Zr (Zy ?_))
  obtain ⟨eV,nC,lU,hS⟩:=fA hS
  refine Zu (eZ (s:=aA) Tryz.underlying23 fC rfl rfl nC (bH nC lU)) (Zu (nX (s:=aA) kI rfl rfl lU) ?_)
  obtain ⟨iA,rG,hS⟩:=aO hS
  refine Zu (tJ (vs:=[.agg #[str eV.path,i64 eV.mode,str eV.data]]) (caps:=[ptr eF 0]) (aAd eV eF fD rG) rfl rfl (fun _ _=>rfl)) ?_
  refine Zl ?_
  refine VC.keep (ρ':=[(0,aA.val),(1,.func (.func 386) #[] #[ptr eF 0]),(7,i64 (aA.l.length:Int)),(8,i64 cV),(5,i64 cV),(16,.bool iA)]) [0,1,7,8,5,16] rfl ?_
  refine gR hS (fun h16 hS => ?_) (fun h16 hS => ?_)
  ·
   refine Zq (Zr (Zy ?_))
   replace hS:=iJ hS hK1
   cases hS
   exact Ze
  refine Zk ?_
  refine Zr ?_
  obtain ⟨b18,hS⟩:=bU hS
  refine Zu (cR rfl rfl b18) (Zm ?_)
  refine VL.jU (cV+1) [0,1,7,8] (fun _ _ h=>h) (go2 hS hK1) rfl
 replace hS:=iJ hS hK1
 refine Zx ?_
 refine Zq (Zr (Zy ?_))
 cases hS
 exact Ze
theorem wD (aA:Sv aC) (eF:Nat) (fD:aC) {r:Bool} (hS:Sh.lQ aA.l fD=some r) :
 Cp Tryz.prog 61 [aA.val,.func (.func 386) #[] #[ptr eF 0]] (aA.ok.and (Cells eF 0 [str fD.path,i64 fD.mode,str fD.data])) (.bool r):=by
 refine Zo Tryz.func61 Tryz.ntmps61 fun c => ?_
 unfold Sh.lQ at hS
 refine Zq (Zr (Zy ?_))
 refine Zq (Zr (Zy ?_))
 obtain ⟨jO,mD,hS⟩:=aO hS
 refine Zu (rT (yI aA eF fD mD) rfl (fun _ _=>rfl)) ?_
 refine Zu (vC rfl rfl) (Zy ?_)
 cases hS
 exact Ze
theorem aDm (dD:Sv aC) {r:kH} (hS:Sh.O3 dD.l=some r) :
 Ct Tryz.prog 376 [dD.val] dD.ok (Ow.emp) (X:=Er) (fun x=>x.val) (fun x=>r=x.pl) (fun x=>x.ok) (fun x=>Ow.emp):=by
 refine Zo Tryz.func376 Tryz.ntmps376 fun c => ?_
 unfold Sh.O3 at hS
 refine Zq (Zr (Zy ?_))
 refine Zq (Zq (Zr (Zm (Zu (eB (s:=dD) Tryz.underlying23 rfl) (Zu (lE rfl rfl) ?_)))))
 refine Zl ?_
 refine Zc hS (fun h7 hS => ?_) (fun h7 hS => ?_)
 ·
  refine Zq ?_
  cases hS
 refine Zk ?_
 refine Zq (Zq (Zr (Zm (Zu (eB (s:=dD) Tryz.underlying23 rfl) (Zy ?_)))))
 refine Zb ?_
 refine VC.iter (S:=Int) (fun (rW:Int)=>rW) (fun (rW:Int)=>[(0,dD.val),(12,dD.val),(13,i64 (dD.l.length:Int)),(14,i64 rW)]) (fun (rW:Int)=>Mo.tt) (fun (rW:Int)=>Ow.emp) 0 [0,12,13,14] hS rfl ?_
 clear hS
 rintro rW m1 y1 hS hK1
 refine Zq (Zr (Zu (dW rfl rfl) ?_))
 refine Zl ?_
 refine Zq ?_
 refine Zc hS (fun h15 hS => ?_) (fun h15 hS => ?_)
 ·
  refine Zk ?_
  refine Zq (Zb (Zq (Zr (Zm ?_))))
  obtain ⟨sW,aQa,aB9,hS⟩:=fA hS
  refine Zu (eZ (s:=dD) Tryz.underlying23 fC rfl rfl aQa (bH aQa aB9)) (Zu (nX (s:=dD) kI rfl rfl aB9) ?_)
  refine gV [str [],i64 0,str []] fun o6 => ?_
  refine Za ?_
  refine Zv (cs':=[str sW.path,i64 sW.mode,str sW.data]) rfl fC ?_
  refine Zl ?_
  refine Zq (Zr (Zy ?_))
  obtain ⟨b21,hS⟩:=bU hS
  refine VL.sto Tryz.underlying23 fC rfl rfl b21.1 (b21.2) (by decide) fun a6J a1i => ?_
  replace hS:=bW a1i hS
  refine Zu (sJ rfl) ?_
  obtain ⟨HO,RW,hS⟩:=aO hS
  refine Zu (rT (wD a6J o6 sW RW) rfl (fun _ _=>rfl)) ?_
  refine Zl ?_
  refine VC.keep (ρ':=[(0,dD.val),(12,dD.val),(13,i64 (dD.l.length:Int)),(14,i64 rW),(3,i64 rW),(23,.bool HO)]) [0,12,13,14,3,23] rfl ?_
  refine gR hS (fun h23 hS => ?_) (fun h23 hS => ?_)
  ·
   refine Zq ?_
   cases hS
  refine Zk ?_
  refine Zr ?_
  obtain ⟨b29,hS⟩:=bU hS
  refine Zu (cR rfl rfl b29) (Zm ?_)
  refine VL.jU (rW+1) [0,12,13,14] (fun _ _ h=>h) (go2 hS hK1) rfl
 replace hS:=iJ hS hK1
 refine Zx ?_
 refine Zq (Zr (Zy ?_))
 cases hS
 exact VC.ret (Z1 .nil)
theorem wC (aA:Sv aK) {r:List aK} (hS:Sh.oM aA.l=some r) :
 Ct Tryz.prog 71 [aA.val] aA.ok (Ow.emp) (X:=Sv aK) (fun x=>x.val) (fun x=>r=x.l) (fun x=>x.ok) (fun x=>Ow.emp):=by
 refine Zo Tryz.func71 Tryz.ntmps71 fun c => ?_
 unfold Sh.oM at hS
 refine Zq (Zr (Zy ?_))
 refine Zq (Zr (Zy ?_))
 refine Zu (eB (s:=aA) Tryz.underlying39 rfl) (Zm (Zu (eB (s:=aA) Tryz.underlying39 rfl) ?_))
 obtain ⟨b8,hS⟩:=bU hS
 refine VL.WG Tryz.underlying39 pU rfl rfl rfl b8.1 (b8.2) (by decide) fun BY tU => ?_
 replace hS:=bW tU hS
 refine Zy ?_
 cases hS
 exact VC.ret (Z1 BY)
theorem aDl (sA:Sv aC) (sG:Sv aC) (j5:Sv aC) (a_3:aK) (b_4:aK) {r:eA×kH} (hS:Sh.O2 sA.l sG.l j5.l a_3 b_4=some r) :
 Ct Tryz.prog 346 [sA.val,sG.val,j5.val,str a_3,str b_4] (sA.ok.and (sG.ok.and j5.ok)) (Ow.emp) (X:=jL×Er) (fun x => .tuple #[.agg (bM.enc x.1).toArray,x.2.val]) (fun x=>r=(x.1.pl,x.2.pl)) (fun x=>(x.1.m.and x.2.ok)) (fun x=>Ow.emp):=by
 refine Zo Tryz.func346 Tryz.ntmps346 fun c => ?_
 unfold Sh.O2 at hS
 refine Zq (Zr ?_)
 refine gV [.slice none 0 0,.slice none 0 0,.slice none 0 0] fun FB => ?_
 refine Zy ?_
 refine Zq (Zq (Zr (Zy ?_)))
 refine VL.lit (α:=Sv aC) (xs:=[.tmp 22,.tmp 23,.tmp 24]) (vs:=[sA.val,sG.val,j5.val]) [sA,sG,j5] Tryz.underlying156 aE5 (by decide) rfl rfl rfl rfl (by decide) (fun h m=>List.forall_mem_cons.2 ⟨fQ.out (X:=sA.ok) h m,List.forall_mem_cons.2 ⟨fQ.out (X:=sG.ok) h m,List.forall_mem_cons.2 ⟨fQ.out (X:=j5.ok) h m,fun _ h=>by cases h⟩⟩⟩) (by decide) (fun aA8 a1n => ?_) (by decide)
 replace hS:=bW (congrArg (List.map Sv.l) a1n) hS
 refine Zu (qN Sv.l (s:=aA8) Tryz.underlying156 rfl) (Zy ?_)
 refine Zb ?_
 refine VC.iter (S:=Int) (fun (HK:Int)=>HK) (fun (HK:Int)=>[(0,sA.val),(1,sG.val),(2,j5.val),(3,str a_3),(4,str b_4),(10,ptr FB 0),(25,aA8.val),(26,i64 ((aA8.l.map Sv.l).length:Int)),(27,i64 HK)]) (fun (HK:Int)=>Mo.tt) (fun (HK:Int)=>Ow.star (bE FB [.slice none 0 0,.slice none 0 0,.slice none 0 0] 41) (Ow.emp)) 0 [0,1,2,3,4,10,25,26,27] hS rfl ?_
 clear hS
 rintro HK m1 y1 hS hK1
 refine Zq (Zr (Zu (dW rfl rfl) ?_))
 refine Zl ?_
 refine Zq ?_
 refine Zc hS (fun h28 hS => ?_) (fun h28 hS => ?_)
 ·
  refine Zk ?_
  refine Zq (Zb (Zq (Zr ?_)))
  obtain ⟨aKw,aQs,aKA,hS⟩:=EB hS
  refine VL.deep aKw.ok aKA (fun _ q=>q) ?_
  refine Zu (eZ (s:=aA8) Tryz.underlying156 aDG rfl rfl aQs (bH aQs aKA)) (Zu (zW (s:=aA8) kO rfl aKA rfl) (Zy ?_))
  refine Zq (Zr (Zm ?_))
  obtain ⟨XC,aJa,hS⟩:=aO hS
  refine VL.dK (sY aKw aJa) rfl (by decide) ?_
  rintro L4 rfl
  try dsimp only
  refine Zy ?_
  refine Zq (Zr (Zm (Zu (o5 Tryz.underlying27 rfl) ?_)))
  refine Zl ?_
  refine VC.keep (ρ':=[(0,sA.val),(1,sG.val),(2,j5.val),(3,str a_3),(4,str b_4),(10,ptr FB 0),(25,aA8.val),(26,i64 ((aA8.l.map Sv.l).length:Int)),(27,i64 HK),(14,L4.val),(34,.bool (!decide (L4.pl.isNil=true)))]) [0,1,2,3,4,10,25,26,27,14,34] rfl ?_
  refine o3 hS (fun h34 hS => ?_) (fun h34 hS => ?_)
  ·
   refine Zq ?_
   cases hS
  refine Zk ?_
  refine Zr ?_
  obtain ⟨b37,hS⟩:=bU hS
  refine Zu (cR rfl rfl b37) (Zm ?_)
  refine VL.jU (HK+1) [0,1,2,3,4,10,25,26,27] (fun _ _ h=>h) (go2 hS hK1) rfl
 replace hS:=iJ hS hK1
 refine Zx ?_
 refine Zq (Zr ?_)
 refine gV [.slice none 0 0,.slice none 0 0,.slice none 0 0] fun K1 => ?_
 refine Zl ?_
 refine Zq (Zq (Zr (Zy ?_)))
 refine VL.lit (α:=Sv aC) (xs:=[.tmp 38,.tmp 39,.tmp 40]) (vs:=[sA.val,sG.val,j5.val]) [sA,sG,j5] Tryz.underlying156 aE5 (by decide) rfl rfl rfl rfl (by decide) (fun h m=>List.forall_mem_cons.2 ⟨fQ.out (X:=sA.ok) h m,List.forall_mem_cons.2 ⟨fQ.out (X:=sG.ok) h m,List.forall_mem_cons.2 ⟨fQ.out (X:=j5.ok) h m,fun _ h=>by cases h⟩⟩⟩) (by decide) (fun a6U a1x => ?_) (by decide)
 replace hS:=bW (congrArg (List.map Sv.l) a1x) hS
 obtain ⟨aKg,aVN,hS⟩:=aO hS
 refine VL.bL (JB a6U aVN) rfl (by decide) ?_
 rintro tI rfl
 try dsimp only
 refine Zu (eB (s:=tI) Tryz.underlying39 rfl) (Zy ?_)
 refine VC.keep (ρ':=[(0,sA.val),(1,sG.val),(2,j5.val),(3,str a_3),(4,str b_4),(10,ptr FB 0),(15,ptr K1 0),(42,tI.val),(43,i64 (tI.l.length:Int)),(44,i64 0)]) [0,1,2,3,4,10,15,42,43,44] rfl ?_
 refine Zb ?_
 refine VC.nU (⟨none,0,[]⟩:Sv aC) 32 ⟨rfl,rfl⟩ ?_
 refine VC.SI K1 (cs':=[(⟨none,0,[]⟩:Sv aC).val,.slice none 0 0,.slice none 0 0]) rfl ?_
 refine VC.iter (S:=Int×Sv aC) (fun sg=>(sg.1,sg.2.l)) (fun sg=>[(0,sA.val),(1,sG.val),(2,j5.val),(3,str a_3),(4,str b_4),(10,ptr FB 0),(15,ptr K1 0),(42,tI.val),(43,i64 (tI.l.length:Int)),(44,i64 sg.1)]) (fun sg=>Mo.tt) (fun sg=>Ow.star (bE K1 [sg.2.val,.slice none 0 0,.slice none 0 0] 41) (Ow.star (bE FB [.slice none 0 0,.slice none 0 0,.slice none 0 0] 41) (Ow.star (Sv.own tI 9) (Ow.star (Sv.own sg.2 32) (Ow.emp))))) (0,(⟨none,0,[]⟩:Sv aC)) [0,1,2,3,4,10,15,42,43,44] hS rfl ?_
 clear hS
 rintro ⟨NW,K3⟩ m1 y1 hS hK1
 refine Zq (Zr (Zu (dW rfl rfl) ?_))
 refine Zl ?_
 refine Zq ?_
 refine Zc hS (fun h45 hS => ?_) (fun h45 hS => ?_)
 ·
  refine Zk ?_
  refine Zq (Zb (Zq (Zr ?_)))
  obtain ⟨wL,U8,PW,hS⟩:=fA hS
  refine Zu (lN (s:=tI) Tryz.underlying39 pU rfl rfl U8 (bH U8 PW)) (Zu (AO (s:=tI) 9 cQ rfl PW rfl) (Zy ?_))
  refine Zq (Zr (Zy ?_))
  obtain ⟨pP,aF5,hS⟩:=aO hS
  refine Zu (cH (aGq wL sA sG j5 a_3 b_4 aF5) rfl (fun _ _=>rfl)) ?_
  refine Zm (Zu (aV rfl rfl) (Zu (aV rfl rfl) (Zu (aV rfl rfl) ?_)))
  refine gV [str [],i64 0,str []] fun aPb => ?_
  refine Zv (cs':=[str pP.1.path,i64 pP.1.mode,str pP.1.data]) rfl fC ?_
  refine Zy ?_
  refine VC.keep (ρ':=[(0,sA.val),(1,sG.val),(2,j5.val),(3,str a_3),(4,str b_4),(10,ptr FB 0),(15,ptr K1 0),(42,tI.val),(43,i64 (tI.l.length:Int)),(44,i64 NW),(17,str wL),(18,ptr aPb 0),(19,.bool pP.2.1),(20,.bool pP.2.2)]) [0,1,2,3,4,10,15,42,43,44,17,18,19,20] rfl ?_
  refine VC.gN (S:=Sv aC) (fun (N7:Sv aC)=>N7.l) (fun (N7:Sv aC)=>[(0,sA.val),(1,sG.val),(2,j5.val),(3,str a_3),(4,str b_4),(10,ptr FB 0),(15,ptr K1 0),(17,str wL),(20,.bool pP.2.2),(42,tI.val),(43,i64 (tI.l.length:Int)),(44,i64 NW)]) (fun (N7:Sv aC)=>Mo.tt) (fun (N7:Sv aC)=>Ow.star (bE aPb [str pP.1.path,i64 pP.1.mode,str pP.1.data] 32) (Ow.star (bE K1 [N7.val,.slice none 0 0,.slice none 0 0] 41) (Ow.star (bE FB [.slice none 0 0,.slice none 0 0,.slice none 0 0] 41) (Ow.star (Sv.own tI 9) (Ow.star (Sv.own N7 32) (Ow.emp)))))) hS ?_ ?_
  ·
   clear hS
   intro k17 hS
   refine Zq (Zr (Zy ?_))
   refine gR hS (fun h59 hS => ?_) (fun h59 hS => ?_)
   ·
    refine Zr (Zu (aB xP rfl) (Zu (aL kO rfl rfl) (Zu (cJ kI rfl rfl) ?_)))
    refine VL.lit (α:=aC) (xs:=[.tmp 62]) (vs:=[.agg #[str pP.1.path,i64 pP.1.mode,str pP.1.data]]) [⟨pP.1.path,pP.1.mode,pP.1.data⟩] Tryz.underlying23 aB4 (by decide) rfl rfl rfl rfl (by decide) (fun _ _ _ _=>trivial) (by decide) (fun a3P aXR => ?_) (by decide)
    replace hS:=bW aXR hS
    obtain ⟨b64,hS⟩:=bU hS
    refine VL.app (s:=K3) (r:=a3P) Tryz.underlying23 XN (by decide) rfl Fo.out (wM b64) (wN b64 (by decide)) (by decide) (fun aRV aXS => ?_)
    replace hS:=bW aXS hS
    refine Zu (aB xP rfl) ?_
    refine Zv (cs':=[aRV.val,.slice none 0 0,.slice none 0 0]) rfl aDG ?_
    refine VL.mt aRV [0,1,2,3,4,10,15,17,20,42,43,44] (fun _ _ h=>h) hS rfl
   refine VC.iV K3 [0,1,2,3,4,10,15,17,20,42,43,44] (fun _ _ h=>h) hS rfl
  clear hS
  rintro N7 hS
  refine Zq (Zr (Zy ?_))
  refine gR hS (fun h66 hS => ?_) (fun h66 hS => ?_)
  ·
   refine Zq ?_
   cases hS
  refine Zk ?_
  refine Zr ?_
  obtain ⟨b83,hS⟩:=bU hS
  refine Zu (cR rfl rfl b83) (Zm ?_)
  refine VL.jU ((NW+1),N7) [0,1,2,3,4,10,15,42,43,44] (fun _ _ h=>h) (go2 hS hK1) rfl
 replace hS:=iJ hS hK1
 refine Zx ?_
 refine VC.keep (ρ':=[(10,ptr FB 0),(15,ptr K1 0)]) [10,15] rfl ?_
 refine Zq (Zq (Zr (Zu (aB xP rfl) (Zu (aL kO rfl rfl) ?_))))
 refine VL.shut K3 32 (fun _ _ _ _=>trivial) ?_
 obtain ⟨aSY,aWE,hS⟩:=aO hS
 refine VL.dK (aDm K3 aWE) rfl (by decide) ?_
 rintro a6h rfl
 try dsimp only
 refine Zy ?_
 refine Zq (Zr (Zm (Zu (o5 Tryz.underlying27 rfl) ?_)))
 refine Zl ?_
 refine o3 hS (fun h88 hS => ?_) (fun h88 hS => ?_)
 ·
  refine Zq ?_
  cases hS
 refine Zk ?_
 refine Zq ?_
 refine l9 [(0,true),(1,true),(3,true),(4,true),(6,true),(7,true),(2,false),(5,false),(8,false),(9,true),(10,false),(11,true)] ?_
 refine Zw rfl (aB xP rfl) ?_
 refine Zw rfl (aL kO rfl rfl) ?_
 refine Zw rfl (aB aFk rfl) ?_
 refine Zw rfl (aL nN rfl rfl) ?_
 refine Zw rfl (aB IF rfl) ?_
 refine Zw rfl (aL zC rfl rfl) ?_
 refine VD.one rfl ?_
 obtain ⟨aSZ,aWG,hS⟩:=aO hS
 refine VL.dK (eU K3 aWG) rfl (by decide) ?_
 rintro QJ rfl
 try dsimp only
 refine jS [(7,.slice none 0 0),(6,ptr K1 2),(4,.slice none 0 0),(3,ptr K1 1)] (aI.cons rfl (aL zC rfl rfl) (aI.cons rfl (aB IF rfl) (aI.cons rfl (aL nN rfl rfl) (aI.cons rfl (aB aFk rfl) aI.nil)))) ?_
 refine VD.one rfl ?_
 obtain ⟨aS0,aWH,hS⟩:=aO hS
 refine VL.dK (gC ⟨none,0,[]⟩ aWH) rfl (by decide) ?_
 rintro QK rfl
 try dsimp only
 refine jS [(7,.slice none 0 0),(6,ptr K1 2)] (aI.cons rfl (aL zC rfl rfl) (aI.cons rfl (aB IF rfl) aI.nil)) ?_
 refine VD.one rfl ?_
 obtain ⟨aS1,aWI,hS⟩:=aO hS
 refine VL.dK (wC ⟨none,0,[]⟩ aWI) rfl (by decide) ?_
 rintro QL rfl
 try dsimp only
 refine jH ?_
 refine Zw rfl (fR (vs:=[(0,QJ.val),(1,QK.val),(2,QL.val)]) (cs := #[QJ.val,QK.val,QL.val]) rfl (by kernel_rfl)) ?_
 refine VD.one rfl ?_
 refine Zv (cs':=[QJ.val,QK.val,QL.val]) rfl aDI ?_
 refine jH ?_
 refine Zw rfl (gI rfl) ?_
 refine VD.to (fun _ _ h=>h) ?_
 refine VC.keep (ρ':=[(10,ptr FB 0),(11,.nilIface)]) [10,11] rfl ?_
 cases hS
 exact VC.ret (Z3 (⟨QJ,QK,QL⟩,.nil) [.agg #[QJ.val,QK.val,QL.val],.nilIface] (fI.cell FZ rfl rfl Rd.blk (fI.tmp rfl (fI.nil))))
theorem JF (aA:cF) (CA:Sv aC) (j5:Sv aC) (name_3:aK) {r:bQ×eA×kH} (hS:Sh.SP aA.pl CA.l j5.l name_3=some r) :
 Ct Tryz.prog 288 [.agg (aJ aA).toArray,CA.val,j5.val,str name_3] (aA.bG.ok.and (aA.aY.ok.and (aA.bP.ok.and (aA.aP.ok.and (aA.aT.ok.and (aA.aQ.ok.and (aA.aU.ok.and (aA.bC.ok.and (aA.bD.ok.and (aA.bS.ok.and (aA.bJ.ok.and (CA.ok.and j5.ok)))))))))))) (Ow.emp) (X:=cF×jL×Er) (fun x => .tuple #[.agg (bM.enc x.1).toArray,.agg (bM.enc x.2.1).toArray,x.2.2.val]) (fun x=>r=(x.1.pl,x.2.1.pl,x.2.2.pl)) (fun x=>(x.1.m.and (x.2.1.m.and x.2.2.ok))) (fun x=>Ow.emp):=by
 refine Zo Tryz.func288 Tryz.ntmps288 fun c => ?_
 unfold Sh.SP at hS
 refine Zq (Zr ?_)
 refine kQ (aJ aA) fun tL => ?_
 refine gV [.slice none 0 0,.slice none 0 0,.slice none 0 0,str [],i64 0,str [],i64 0,str [],.slice none 0 0,.slice none 0 0,i64 0,str [],str [],i64 0,.slice none 0 0,.slice none 0 0,.slice none 0 0,.slice none 0 0,.slice none 0 0,.slice none 0 0,i64 0] fun H6 => ?_
 refine gV [.slice none 0 0,.slice none 0 0,.slice none 0 0] fun aAv => ?_
 refine Zy ?_
 refine Zq (Zr (Zm (Zu (cJ cI rfl rfl) ?_)))
 obtain ⟨JN,aBK,hS⟩:=aO hS
 refine VL.dK (HX aA aBK) rfl (by decide) ?_
 rintro zU rfl
 try dsimp only
 refine Zy ?_
 obtain ⟨pE,aJ1,hS⟩:=aO hS
 refine VL.dK (aDl CA zU j5 [72,69,65,68] name_3 aJ1) rfl (by decide) ?_
 rintro ⟨dR,aGY⟩ rfl
 try dsimp only
 refine Zm (Zu (aV rfl rfl) (Zu (aV rfl rfl) ?_))
 refine gV [.slice none 0 0,.slice none 0 0,.slice none 0 0] fun aUX => ?_
 refine Zv (cs':=[dR.files.val,dR.entries.val,dR.conflicts.val]) rfl aDI ?_
 refine Zy ?_
 refine VC.keep (ρ':=[(4,ptr tL 0),(8,ptr H6 0),(9,ptr aAv 0),(11,ptr aUX 0),(12,aGY.val)]) [4,8,9,11,12] rfl ?_
 refine Zq (Zq (Zr (Zm (Zu (o5 Tryz.underlying27 rfl) ?_))))
 refine Zl ?_
 refine o3 hS (fun h24 hS => ?_) (fun h24 hS => ?_)
 ·
  refine Zq ?_
  cases hS
 refine Zk ?_
 refine Zq (Zr (Zu (cJ cI rfl rfl) (Zu (cJ FZ rfl rfl) ?_)))
 obtain ⟨aPT,a09,hS⟩:=aO hS
 refine VL.dK (Y6 aA dR a09) rfl (by decide) ?_
 rintro ⟨aCL,aG0⟩ rfl
 try dsimp only
 refine Zm (Zu (aV rfl rfl) (Zu (aV rfl rfl) ?_))
 refine gV [.slice none 0 0,.slice none 0 0,.slice none 0 0,str [],i64 0,str [],i64 0,str [],.slice none 0 0,.slice none 0 0,i64 0,str [],str [],i64 0,.slice none 0 0,.slice none 0 0,.slice none 0 0,.slice none 0 0,.slice none 0 0,.slice none 0 0,i64 0] fun a4o => ?_
 refine Zv (cs':=(aJ aCL)) rfl gP ?_
 refine Zy ?_
 refine VC.keep (ρ':=[(8,ptr H6 0),(9,ptr aAv 0),(11,ptr aUX 0),(12,aG0.val),(13,ptr a4o 0)]) [8,9,11,12,13] rfl ?_
 refine Zq ?_
 refine l9 [(0,true),(1,true),(2,true),(3,false),(4,false),(5,true)] ?_
 refine Zw rfl (cJ cI rfl rfl) ?_
 refine Zw rfl (cJ FZ rfl rfl) ?_
 refine Zw rfl (bB rfl) ?_
 refine VD.one rfl ?_
 refine Zv (cs':=(aJ aCL)) rfl gP ?_
 refine jS [(1,.agg #[dR.files.val,dR.entries.val,dR.conflicts.val])] (aI.cons rfl (cJ FZ rfl rfl) aI.nil) ?_
 refine VD.one rfl ?_
 refine Zv (cs':=[dR.files.val,dR.entries.val,dR.conflicts.val]) rfl aDI ?_
 refine jH ?_
 refine Zw rfl (gI rfl) ?_
 refine VD.to (fun _ _ h=>h) ?_
 cases hS
 exact VC.ret (Z3 (aCL,⟨dR.files,dR.entries,dR.conflicts⟩,aG0) [.agg (aJ aCL).toArray,.agg #[dR.files.val,dR.entries.val,dR.conflicts.val],aG0.val] (fI.cell cI rfl rfl Rd.blk (fI.cell FZ rfl rfl Rd.blk (fI.tmp rfl (fI.nil)))))
end Go.Proofs.YtedhnpjkoeblnaaGreatDoor
end

section
set_option linter.unusedVariables false
namespace Go.Proofs.YtedhnpjkoeblnaaGreatDoor
set_option maxHeartbeats 40000000
set_option maxRecDepth 100000
set_option synthInstance.maxSize 2000
set_option synthInstance.maxHeartbeats 1000000
open Go.RowKit Go.V
open Go.S hiding aK
theorem aGa (aA:cF) (fU:aK) {r:bQ×Bool×kH} (hS:Sh.V5 aA.pl fU=some r) :
 Ct Tryz.prog 232 [.agg (aJ aA).toArray,str fU] (aA.bG.ok.and (aA.aY.ok.and (aA.bP.ok.and (aA.aP.ok.and (aA.aT.ok.and (aA.aQ.ok.and (aA.aU.ok.and (aA.bC.ok.and (aA.bD.ok.and (aA.bS.ok.and aA.bJ.ok)))))))))) (Ow.emp) (X:=cF×Bool×Er) (fun x => .tuple #[.agg (bM.enc x.1).toArray,.bool x.2.1,x.2.2.val]) (fun x=>r=(x.1.pl,x.2.1,x.2.2.pl)) (fun x=>(x.1.m.and x.2.2.ok)) (fun x=>Ow.emp):=by
 refine Zo Tryz.func232 Tryz.ntmps232 fun c => ?_
 unfold Sh.V5 at hS
 refine Zq (Zr ?_)
 refine kQ (aJ aA) fun fJ => ?_
 refine gV [.slice none 0 0,.slice none 0 0,.slice none 0 0,str [],i64 0,str [],i64 0,str [],.slice none 0 0,.slice none 0 0,i64 0,str [],str [],i64 0,.slice none 0 0,.slice none 0 0,.slice none 0 0,.slice none 0 0,.slice none 0 0,.slice none 0 0,i64 0] fun pF => ?_
 refine Zy ?_
 refine Zq (Zr (Zu (cJ cI rfl rfl) (Zm ?_)))
 obtain ⟨B8,XL,hS⟩:=aO hS
 refine Zu (cH (DQ aA fU XL) rfl (fun _ _=>rfl)) ?_
 refine Zm (Zu (aV rfl rfl) (Zu (aV rfl rfl) (Zy ?_)))
 refine VC.keep (ρ':=[(1,str fU),(2,ptr fJ 0),(4,ptr pF 0),(7,i64 B8.1),(8,.bool B8.2)]) [1,2,4,7,8] rfl ?_
 refine Zq ?_
 refine l9 [(0,true),(1,true),(2,true),(3,true),(4,true),(5,false),(6,true),(7,true)] ?_
 refine Zw rfl (aB eO rfl) ?_
 refine Zw rfl (aB p4 rfl) ?_
 refine Zw rfl (aB F1 rfl) ?_
 refine Zw rfl (aL fL rfl rfl) ?_
 refine Zw rfl (cJ cI rfl rfl) ?_
 refine VD.one rfl ?_
 obtain ⟨gH,RY,hS⟩:=aO hS
 refine VL.dK (aEU aA RY) rfl (by decide) ?_
 rintro gQ rfl
 try dsimp only
 refine jS [(3,i64 aA.aH),(2,ptr fJ 4),(1,ptr fJ 3),(0,ptr fJ 0)] (aI.cons rfl (aL fL rfl rfl) (aI.cons rfl (aB F1 rfl) (aI.cons rfl (aB p4 rfl) (aI.cons rfl (aB eO rfl) aI.nil)))) ?_
 refine Zw rfl (gI rfl) ?_
 refine Zw rfl (gI rfl) ?_
 refine VD.to (fun _ _ h=>h) ?_
 refine Zq (Zb (Zq (Zr (Zm (Zu (jE rfl) (Zy ?_))))))
 refine VC.keep (ρ':=[(1,str fU),(2,ptr fJ 0),(4,ptr pF 0),(7,i64 B8.1),(9,i64 aA.aH),(10,gQ.val),(27,.bool (!B8.2))]) [1,2,4,7,9,10,27] rfl ?_
 refine gR hS (fun h27 hS => ?_) (fun h27 hS => ?_)
 ·
  refine Zq ?_
  cases hS
 refine Zq (Zr (Zm (Zu (iI rfl rfl) (Zy ?_))))
 refine Zc hS (fun h32 hS => ?_) (fun h32 hS => ?_)
 ·
  refine Zq ?_
  cases hS
 refine Zq (Zr (Zu (cJ cI rfl rfl) ?_))
 obtain ⟨aPV,a0i,hS⟩:=aO hS
 refine Zu (cH (aG8 aA a0i) rfl (fun _ _=>rfl)) ?_
 refine Zu (jE rfl) (Zy ?_)
 refine VC.keep (ρ':=[(1,str fU),(2,ptr fJ 0),(4,ptr pF 0),(7,i64 B8.1),(9,i64 aA.aH),(10,gQ.val),(37,.bool (!aPV))]) [1,2,4,7,9,10,37] rfl ?_
 refine gR hS (fun h37 hS => ?_) (fun h37 hS => ?_)
 ·
  refine Zq ?_
  cases hS
 refine Zk ?_
 refine Zq (Zr (Zu (aB eO rfl) (Zu (aB lX rfl) (Zu (aL vT rfl rfl) (Zm ?_)))))
 obtain ⟨sX,aRB,aQX,hS⟩:=fA hS
 refine Zu (eZ (s:=aA.bP) Tryz.underlying63 p5 rfl rfl aRB (bH aRB aQX)) (Zu (aB XR rfl) (Zu (pQ (s:=aA.bP) fL rfl aQX rfl) (Zy ?_)))
 refine VC.keep (ρ':=[(1,str fU),(2,ptr fJ 0),(4,ptr pF 0),(9,i64 aA.aH),(10,gQ.val),(11,i64 sX.dX)]) [1,2,4,9,10,11] rfl ?_
 refine Zq (Zq (Zr (Zy ?_)))
 obtain ⟨aZ3,a1A,hS⟩:=aO hS
 refine Zu (cH (LJ gQ sX.dX aA.aH a1A) rfl (fun _ _=>rfl)) ?_
 refine Zl ?_
 refine gR hS (fun h53 hS => ?_) (fun h53 hS => ?_)
 ·
  refine Zq ?_
  cases hS
 refine Zk ?_
 refine Zq (Zr (Zu (cJ cI rfl rfl) (Zm ?_)))
 obtain ⟨aZ4,a1B,hS⟩:=aO hS
 refine VL.dK (B0 aA sX.dX a1B) rfl (by decide) ?_
 rintro aCM rfl
 try dsimp only
 refine Zy ?_
 refine VC.keep (ρ':=[(1,str fU),(2,ptr fJ 0),(4,ptr pF 0),(9,i64 aA.aH),(10,gQ.val),(11,i64 sX.dX),(12,aCM.val)]) [1,2,4,9,10,11,12] rfl ?_
 refine Zq (Zq (Zr (Zy ?_)))
 obtain ⟨aZ5,a1C,hS⟩:=aO hS
 refine Zu (cH (LJ gQ aA.aH sX.dX a1C) rfl (fun _ _=>rfl)) ?_
 refine Zl ?_
 refine gR hS (fun h62 hS => ?_) (fun h62 hS => ?_)
 ·
  refine Zq (Zq ?_)
  cases hS
 refine Zk ?_
 refine Zq ?_
 refine VC.aJO (n:=10) (listed := #[true,true,true,true,true,true,false,true,true,false,false,false,false,false,false,false,false,false]) [(0,true),(1,true),(2,true),(3,true),(4,true),(5,true),(7,true),(8,true)] mixed (by kernel_rfl) (by kernel_rfl) (by kernel_rfl) (by kernel_rfl) ?_
 refine VD.q rfl (cJ cI rfl rfl) (by decide) ?_
 refine VD.q rfl (cJ cI rfl rfl) (by decide) ?_
 refine VD.q rfl (bB rfl) (by decide) ?_
 refine VD.q rfl (bB rfl) (by decide) ?_
 refine VD.q rfl (bB rfl) (by decide) ?_
 obtain ⟨aCd,aLW,hS⟩:=aO hS
 refine VD.q rfl (cH (IK gQ aA.aH sX.dX aLW) rfl (fun _ _=>rfl)) (by decide) ?_
 refine VD.q rfl (bB rfl) (by decide) ?_
 refine VD.q rfl (bB rfl) (by decide) ?_
 obtain ⟨aSW,aLX,hS⟩:=aO hS
 obtain ⟨YK,aF7,hS⟩:=aO hS
 refine VD.toG fun hcl => ?_
 refine VG.fork (l:=[6,14]) (n:=9) (by kernel_rfl) rfl fun i hi => ?_
 obtain rfl | rfl:i=6∨i=14:=by simpa using hi
 ·
  refine UA.of rfl ?_
  refine VL.dK (B0 aA aCd aLX) rfl (by decide) ?_
  rintro NK rfl
  try dsimp only
  refine VL.FC (D':=[(0,.agg (aJ aA).toArray)]) (listed' := #[true,true,true,true,true,true,true,true,true,false,false,false,false,false,false,false,false,false]) (aI.cons rfl (cJ cI rfl rfl) (aI.nil)) (by kernel_rfl) (by kernel_rfl) ?_
  refine VG.fork (l:=[9,14]) (n:=8) (by kernel_rfl) rfl fun i hi => ?_
  obtain rfl | rfl:i=9∨i=14:=by simpa using hi
  ·
   refine UA.of rfl ?_
   refine VL.dK (JF aA NK aCM fU aF7) rfl (by decide) ?_
   rintro ⟨pL,fP,pM⟩ rfl
   try dsimp only
   refine VL.FC (D':=[]) (listed' := #[true,true,true,true,true,true,true,true,true,true,false,false,false,false,false,false,false,false]) (aI.nil) (by kernel_rfl) (by kernel_rfl) ?_
   refine VG.ord [(10,true),(11,true),(12,true),(13,true),(14,false),(15,false),(16,false),(17,true)] (by kernel_rfl) (tM (by kernel_rfl)) (by kernel_rfl) ?_
   refine Zw rfl (bB rfl) ?_
   refine Zw rfl (aV rfl rfl) ?_
   refine Zw rfl (aV rfl rfl) ?_
   refine Zw rfl (aV rfl rfl) ?_
   refine VD.one rfl ?_
   refine gV [.slice none 0 0,.slice none 0 0,.slice none 0 0] fun EY => ?_
   refine jS [(13,pM.val),(12,.agg #[fP.files.val,fP.entries.val,fP.conflicts.val]),(11,.agg (aJ pL).toArray),(10,.tuple #[.agg (aJ pL).toArray,.agg #[fP.files.val,fP.entries.val,fP.conflicts.val],pM.val])] (aI.cons rfl (aV rfl rfl) (aI.cons rfl (aV rfl rfl) (aI.cons rfl (aV rfl rfl) (aI.cons rfl (bB rfl) aI.nil)))) ?_
   refine VD.one rfl ?_
   refine Zv (cs':=(aJ pL)) rfl gP ?_
   refine jS [(13,pM.val),(12,.agg #[fP.files.val,fP.entries.val,fP.conflicts.val])] (aI.cons rfl (aV rfl rfl) (aI.cons rfl (aV rfl rfl) aI.nil)) ?_
   refine VD.one rfl ?_
   refine Zv (cs':=[fP.files.val,fP.entries.val,fP.conflicts.val]) rfl aDI ?_
   refine jS [(13,pM.val)] (aI.cons rfl (aV rfl rfl) aI.nil) ?_
   refine Zw rfl (gI rfl) ?_
   refine VD.to (fun _ _ h=>h) ?_
   refine VC.keep (ρ':=[(1,str fU),(2,ptr fJ 0),(4,ptr pF 0),(9,i64 aA.aH),(11,i64 sX.dX),(13,ptr EY 0),(6,pM.val)]) [1,2,4,9,11,13,6] rfl ?_
   refine Zq (Zr (Zm ?_))
   obtain ⟨b92,hS⟩:=bU hS
   obtain ⟨HZ,UL,hS⟩:=wV hS
   refine Zu (HW rfl rfl b92 UL) (Zy ?_)
   refine Zq (Zb (Zq (Zr (Zm (Zu (o5 Tryz.underlying27 rfl) (Zy ?_))))))
   refine o3 hS (fun h93 hS => ?_) (fun h93 hS => ?_)
   ·
    refine Zq ?_
    cases hS
   refine Zq (Zr (Zu (aB IF rfl) (Zu (aL zC rfl rfl) (Zu (eB (s:=fP.conflicts) Tryz.underlying39 rfl) (Zu (lE rfl rfl) (Zy ?_))))))
   refine VC.keep (ρ':=[(2,ptr fJ 0),(4,ptr pF 0),(9,i64 aA.aH),(11,i64 sX.dX),(13,ptr EY 0),(14,str HZ),(98,.bool (decide (0 < (fP.conflicts.l.length:Int))))]) [2,4,9,11,13,14,98] rfl ?_
   refine Zc hS (fun h98 hS => ?_) (fun h98 hS => ?_)
   ·
    refine Zq ?_
    cases hS
   refine Zq (Zr (Zu (cJ cI rfl rfl) ?_))
   obtain ⟨aC3,PM,hS⟩:=aO hS
   refine Zu (cH (HY pL PM) rfl (fun _ _=>rfl)) ?_
   refine Zu (jE rfl) (Zy ?_)
   refine gR hS (fun h111 hS => ?_) (fun h111 hS => ?_)
   ·
    refine Zq ?_
    cases hS
   refine Zk ?_
   refine Zq (Zr (Zu (cJ cI rfl rfl) (Zu (aB xP rfl) (Zu (aL kO rfl rfl) (Zy ?_)))))
   refine VL.lit (α:=Int) (xs:=[.tmp 120,.tmp 121]) (vs:=[i64 aA.aH,i64 sX.dX]) [aA.aH,sX.dX] Tryz.underlying83 oS (by decide) rfl rfl rfl rfl (by decide) (fun _ _ _ _=>trivial) (by decide) (fun V8 PV => ?_) (by decide)
   replace hS:=bW PV hS
   refine Zm ?_
   obtain ⟨aC4,PN,hS⟩:=aO hS
   refine VL.dK (AL pL fP.files V8 HZ PN) rfl (by decide) ?_
   rintro tX rfl
   try dsimp only
   refine Zv (cs':=(aJ tX)) rfl gP ?_
   refine Zy ?_
   refine VC.keep (ρ':=[(4,ptr pF 0),(5,.bool false),(6,.nilIface)]) [4,5,6] rfl ?_
   cases hS
   exact VC.ret (Z3 (tX,false,.nil) [.agg (aJ tX).toArray,.bool false,.nilIface] (fI.cell cI rfl rfl Rd.blk (fI.tmp rfl (fI.tmp rfl (fI.nil)))))
  refine UA.of rfl ?_
  refine gV [.slice none 0 0,.slice none 0 0,.slice none 0 0] fun EY => ?_
  refine VL.FC (D':=[(0,.agg (aJ aA).toArray)]) (listed' := #[true,true,true,true,true,true,true,true,true,false,false,false,false,false,true,false,false,false]) (aI.cons rfl (cJ cI rfl rfl) (aI.nil)) (by kernel_rfl) (by kernel_rfl) ?_
  refine VG.ord [(9,false),(10,true),(11,true),(12,true),(13,true),(15,false),(16,false),(17,true)] (by kernel_rfl) (tM (by kernel_rfl)) (by kernel_rfl) ?_
  refine VD.one rfl ?_
  refine VL.dK (JF aA NK aCM fU aF7) rfl (by decide) ?_
  rintro ⟨pL,fP,pM⟩ rfl
  try dsimp only
  refine jH ?_
  refine Zw rfl (bB rfl) ?_
  refine Zw rfl (aV rfl rfl) ?_
  refine Zw rfl (aV rfl rfl) ?_
  refine Zw rfl (aV rfl rfl) ?_
  refine VD.one rfl ?_
  refine Zv (cs':=(aJ pL)) rfl gP ?_
  refine jS [(13,pM.val),(12,.agg #[fP.files.val,fP.entries.val,fP.conflicts.val])] (aI.cons rfl (aV rfl rfl) (aI.cons rfl (aV rfl rfl) aI.nil)) ?_
  refine VD.one rfl ?_
  refine Zv (cs':=[fP.files.val,fP.entries.val,fP.conflicts.val]) rfl aDI ?_
  refine jS [(13,pM.val)] (aI.cons rfl (aV rfl rfl) aI.nil) ?_
  refine Zw rfl (gI rfl) ?_
  refine VD.to (fun _ _ h=>h) ?_
  refine VC.keep (ρ':=[(1,str fU),(2,ptr fJ 0),(4,ptr pF 0),(9,i64 aA.aH),(11,i64 sX.dX),(13,ptr EY 0),(6,pM.val)]) [1,2,4,9,11,13,6] rfl ?_
  refine Zq (Zr (Zm ?_))
  obtain ⟨b92,hS⟩:=bU hS
  obtain ⟨HZ,UL,hS⟩:=wV hS
  refine Zu (HW rfl rfl b92 UL) (Zy ?_)
  refine Zq (Zb (Zq (Zr (Zm (Zu (o5 Tryz.underlying27 rfl) (Zy ?_))))))
  refine o3 hS (fun h93 hS => ?_) (fun h93 hS => ?_)
  ·
   refine Zq ?_
   cases hS
  refine Zq (Zr (Zu (aB IF rfl) (Zu (aL zC rfl rfl) (Zu (eB (s:=fP.conflicts) Tryz.underlying39 rfl) (Zu (lE rfl rfl) (Zy ?_))))))
  refine VC.keep (ρ':=[(2,ptr fJ 0),(4,ptr pF 0),(9,i64 aA.aH),(11,i64 sX.dX),(13,ptr EY 0),(14,str HZ),(98,.bool (decide (0 < (fP.conflicts.l.length:Int))))]) [2,4,9,11,13,14,98] rfl ?_
  refine Zc hS (fun h98 hS => ?_) (fun h98 hS => ?_)
  ·
   refine Zq ?_
   cases hS
  refine Zq (Zr (Zu (cJ cI rfl rfl) ?_))
  obtain ⟨aC3,PM,hS⟩:=aO hS
  refine Zu (cH (HY pL PM) rfl (fun _ _=>rfl)) ?_
  refine Zu (jE rfl) (Zy ?_)
  refine gR hS (fun h111 hS => ?_) (fun h111 hS => ?_)
  ·
   refine Zq ?_
   cases hS
  refine Zk ?_
  refine Zq (Zr (Zu (cJ cI rfl rfl) (Zu (aB xP rfl) (Zu (aL kO rfl rfl) (Zy ?_)))))
  refine VL.lit (α:=Int) (xs:=[.tmp 120,.tmp 121]) (vs:=[i64 aA.aH,i64 sX.dX]) [aA.aH,sX.dX] Tryz.underlying83 oS (by decide) rfl rfl rfl rfl (by decide) (fun _ _ _ _=>trivial) (by decide) (fun V8 PV => ?_) (by decide)
  replace hS:=bW PV hS
  refine Zm ?_
  obtain ⟨aC4,PN,hS⟩:=aO hS
  refine VL.dK (AL pL fP.files V8 HZ PN) rfl (by decide) ?_
  rintro tX rfl
  try dsimp only
  refine Zv (cs':=(aJ tX)) rfl gP ?_
  refine Zy ?_
  refine VC.keep (ρ':=[(4,ptr pF 0),(5,.bool false),(6,.nilIface)]) [4,5,6] rfl ?_
  cases hS
  exact VC.ret (Z3 (tX,false,.nil) [.agg (aJ tX).toArray,.bool false,.nilIface] (fI.cell cI rfl rfl Rd.blk (fI.tmp rfl (fI.tmp rfl (fI.nil)))))
 refine UA.of rfl ?_
 refine gV [.slice none 0 0,.slice none 0 0,.slice none 0 0] fun EY => ?_
 refine VL.FC (D':=[(5,i64 aCd),(1,.agg (aJ aA).toArray),(0,.agg (aJ aA).toArray)]) (listed' := #[true,true,true,true,true,true,false,true,true,false,false,false,false,false,true,false,false,false]) (aI.cons rfl (cH (IK gQ aA.aH sX.dX aLW) rfl (fun _ _=>rfl)) (aI.cons rfl (cJ cI rfl rfl) (aI.cons rfl (cJ cI rfl rfl) (aI.nil)))) (by kernel_rfl) (by kernel_rfl) ?_
 refine VG.ord [(6,false),(9,false),(10,true),(11,true),(12,true),(13,true),(15,false),(16,false),(17,true)] (by kernel_rfl) (tM (by kernel_rfl)) (by kernel_rfl) ?_
 refine VD.one rfl ?_
 refine VL.dK (B0 aA aCd aLX) rfl (by decide) ?_
 rintro NK rfl
 try dsimp only
 refine jS [(0,.agg (aJ aA).toArray)] (aI.cons rfl (cJ cI rfl rfl) aI.nil) ?_
 refine VD.one rfl ?_
 refine VL.dK (JF aA NK aCM fU aF7) rfl (by decide) ?_
 rintro ⟨pL,fP,pM⟩ rfl
 try dsimp only
 refine jH ?_
 refine Zw rfl (bB rfl) ?_
 refine Zw rfl (aV rfl rfl) ?_
 refine Zw rfl (aV rfl rfl) ?_
 refine Zw rfl (aV rfl rfl) ?_
 refine VD.one rfl ?_
 refine Zv (cs':=(aJ pL)) rfl gP ?_
 refine jS [(13,pM.val),(12,.agg #[fP.files.val,fP.entries.val,fP.conflicts.val])] (aI.cons rfl (aV rfl rfl) (aI.cons rfl (aV rfl rfl) aI.nil)) ?_
 refine VD.one rfl ?_
 refine Zv (cs':=[fP.files.val,fP.entries.val,fP.conflicts.val]) rfl aDI ?_
 refine jS [(13,pM.val)] (aI.cons rfl (aV rfl rfl) aI.nil) ?_
 refine Zw rfl (gI rfl) ?_
 refine VD.to (fun _ _ h=>h) ?_
 refine VC.keep (ρ':=[(1,str fU),(2,ptr fJ 0),(4,ptr pF 0),(9,i64 aA.aH),(11,i64 sX.dX),(13,ptr EY 0),(6,pM.val)]) [1,2,4,9,11,13,6] rfl ?_
 refine Zq (Zr (Zm ?_))
 obtain ⟨b92,hS⟩:=bU hS
 obtain ⟨HZ,UL,hS⟩:=wV hS
 refine Zu (HW rfl rfl b92 UL) (Zy ?_)
 refine Zq (Zb (Zq (Zr (Zm (Zu (o5 Tryz.underlying27 rfl) (Zy ?_))))))
 refine o3 hS (fun h93 hS => ?_) (fun h93 hS => ?_)
 ·
  refine Zq ?_
  cases hS
 refine Zq (Zr (Zu (aB IF rfl) (Zu (aL zC rfl rfl) (Zu (eB (s:=fP.conflicts) Tryz.underlying39 rfl) (Zu (lE rfl rfl) (Zy ?_))))))
 refine VC.keep (ρ':=[(2,ptr fJ 0),(4,ptr pF 0),(9,i64 aA.aH),(11,i64 sX.dX),(13,ptr EY 0),(14,str HZ),(98,.bool (decide (0 < (fP.conflicts.l.length:Int))))]) [2,4,9,11,13,14,98] rfl ?_
 refine Zc hS (fun h98 hS => ?_) (fun h98 hS => ?_)
 ·
  refine Zq ?_
  cases hS
 refine Zq (Zr (Zu (cJ cI rfl rfl) ?_))
 obtain ⟨aC3,PM,hS⟩:=aO hS
 refine Zu (cH (HY pL PM) rfl (fun _ _=>rfl)) ?_
 refine Zu (jE rfl) (Zy ?_)
 refine gR hS (fun h111 hS => ?_) (fun h111 hS => ?_)
 ·
  refine Zq ?_
  cases hS
 refine Zk ?_
 refine Zq (Zr (Zu (cJ cI rfl rfl) (Zu (aB xP rfl) (Zu (aL kO rfl rfl) (Zy ?_)))))
 refine VL.lit (α:=Int) (xs:=[.tmp 120,.tmp 121]) (vs:=[i64 aA.aH,i64 sX.dX]) [aA.aH,sX.dX] Tryz.underlying83 oS (by decide) rfl rfl rfl rfl (by decide) (fun _ _ _ _=>trivial) (by decide) (fun V8 PV => ?_) (by decide)
 replace hS:=bW PV hS
 refine Zm ?_
 obtain ⟨aC4,PN,hS⟩:=aO hS
 refine VL.dK (AL pL fP.files V8 HZ PN) rfl (by decide) ?_
 rintro tX rfl
 try dsimp only
 refine Zv (cs':=(aJ tX)) rfl gP ?_
 refine Zy ?_
 refine VC.keep (ρ':=[(4,ptr pF 0),(5,.bool false),(6,.nilIface)]) [4,5,6] rfl ?_
 cases hS
 exact VC.ret (Z3 (tX,false,.nil) [.agg (aJ tX).toArray,.bool false,.nilIface] (fI.cell cI rfl rfl Rd.blk (fI.tmp rfl (fI.tmp rfl (fI.nil)))))
theorem aHf (aA:cF) (eC:r9) {r:bQ×Bool×kH} (hS:Sh.aA3 aA.pl eC.pl=some r) :
 Ct Tryz.prog 165 [.agg (aJ aA).toArray,.agg #[str eC.verb,str eC.name,i64 eC.n,str eC.text,.bool eC.force,eC.todo.val]] (aA.bG.ok.and (aA.aY.ok.and (aA.bP.ok.and (aA.aP.ok.and (aA.aT.ok.and (aA.aQ.ok.and (aA.aU.ok.and (aA.bC.ok.and (aA.bD.ok.and (aA.bS.ok.and (aA.bJ.ok.and eC.todo.ok))))))))))) (Ow.emp) (X:=cF×Bool×Er) (fun x => .tuple #[.agg (bM.enc x.1).toArray,.bool x.2.1,x.2.2.val]) (fun x=>r=(x.1.pl,x.2.1,x.2.2.pl)) (fun x=>(x.1.m.and x.2.2.ok)) (fun x=>Ow.emp):=by
 refine Zo Tryz.func165 Tryz.ntmps165 fun c => ?_
 unfold Sh.aA3 at hS
 refine Zq (Zr ?_)
 refine kQ (aJ aA) fun fJ => ?_
 refine kQ [str eC.verb,str eC.name,i64 eC.n,str eC.text,.bool eC.force,eC.todo.val] fun lI => ?_
 refine gV [.slice none 0 0,.slice none 0 0,.slice none 0 0,str [],i64 0,str [],i64 0,str [],.slice none 0 0,.slice none 0 0,i64 0,str [],str [],i64 0,.slice none 0 0,.slice none 0 0,.slice none 0 0,.slice none 0 0,.slice none 0 0,.slice none 0 0,i64 0] fun o6 => ?_
 refine Zy ?_
 refine VC.gN (S:=Er×Sv aC×Sv aE×Sv fH×aK×Int×aK×Int×aK×Sv dB×Sv dB×Int×aK×aK×Int×Sv aE×Sv aC×Sv eN×Sv cG×Sv aK×Sv aK×Int) (fun sg=>(sg.1.pl,sg.2.1.l,sg.2.2.1.l,sg.2.2.2.1.l,sg.2.2.2.2.1,sg.2.2.2.2.2.1,sg.2.2.2.2.2.2.1,sg.2.2.2.2.2.2.2.1,sg.2.2.2.2.2.2.2.2.1,sg.2.2.2.2.2.2.2.2.2.1.l,sg.2.2.2.2.2.2.2.2.2.2.1.l,sg.2.2.2.2.2.2.2.2.2.2.2.1,sg.2.2.2.2.2.2.2.2.2.2.2.2.1,sg.2.2.2.2.2.2.2.2.2.2.2.2.2.1,sg.2.2.2.2.2.2.2.2.2.2.2.2.2.2.1,sg.2.2.2.2.2.2.2.2.2.2.2.2.2.2.2.1.l,sg.2.2.2.2.2.2.2.2.2.2.2.2.2.2.2.2.1.l,(sg.2.2.2.2.2.2.2.2.2.2.2.2.2.2.2.2.2.1.l.map eN.pl),(sg.2.2.2.2.2.2.2.2.2.2.2.2.2.2.2.2.2.2.1.l.map cG.pl),sg.2.2.2.2.2.2.2.2.2.2.2.2.2.2.2.2.2.2.2.1.l,sg.2.2.2.2.2.2.2.2.2.2.2.2.2.2.2.2.2.2.2.2.1.l,sg.2.2.2.2.2.2.2.2.2.2.2.2.2.2.2.2.2.2.2.2.2)) (fun sg=>[(4,ptr o6 0),(6,sg.1.val)]) (fun sg=>(sg.1.ok.and (sg.2.1.ok.and (sg.2.2.1.ok.and (sg.2.2.2.1.ok.and (sg.2.2.2.2.2.2.2.2.2.1.ok.and (sg.2.2.2.2.2.2.2.2.2.2.1.ok.and (sg.2.2.2.2.2.2.2.2.2.2.2.2.2.2.2.1.ok.and (sg.2.2.2.2.2.2.2.2.2.2.2.2.2.2.2.2.1.ok.and (sg.2.2.2.2.2.2.2.2.2.2.2.2.2.2.2.2.2.1.ok.and (sg.2.2.2.2.2.2.2.2.2.2.2.2.2.2.2.2.2.2.1.ok.and (sg.2.2.2.2.2.2.2.2.2.2.2.2.2.2.2.2.2.2.2.1.ok.and sg.2.2.2.2.2.2.2.2.2.2.2.2.2.2.2.2.2.2.2.2.1.ok)))))))))))) (fun sg=>Ow.star (bE o6 [sg.2.1.val,sg.2.2.1.val,sg.2.2.2.1.val,str sg.2.2.2.2.1,i64 sg.2.2.2.2.2.1,str sg.2.2.2.2.2.2.1,i64 sg.2.2.2.2.2.2.2.1,str sg.2.2.2.2.2.2.2.2.1,sg.2.2.2.2.2.2.2.2.2.1.val,sg.2.2.2.2.2.2.2.2.2.2.1.val,i64 sg.2.2.2.2.2.2.2.2.2.2.2.1,str sg.2.2.2.2.2.2.2.2.2.2.2.2.1,str sg.2.2.2.2.2.2.2.2.2.2.2.2.2.1,i64 sg.2.2.2.2.2.2.2.2.2.2.2.2.2.2.1,sg.2.2.2.2.2.2.2.2.2.2.2.2.2.2.2.1.val,sg.2.2.2.2.2.2.2.2.2.2.2.2.2.2.2.2.1.val,sg.2.2.2.2.2.2.2.2.2.2.2.2.2.2.2.2.2.1.val,sg.2.2.2.2.2.2.2.2.2.2.2.2.2.2.2.2.2.2.1.val,sg.2.2.2.2.2.2.2.2.2.2.2.2.2.2.2.2.2.2.2.1.val,sg.2.2.2.2.2.2.2.2.2.2.2.2.2.2.2.2.2.2.2.2.1.val,i64 sg.2.2.2.2.2.2.2.2.2.2.2.2.2.2.2.2.2.2.2.2.2] 77) (Ow.star (bE lI [str eC.verb,str eC.name,i64 eC.n,str eC.text,.bool eC.force,eC.todo.val] 133) (Ow.star (bE fJ (aJ aA) 77) (Ow.emp)))) hS ?_ ?_
 ·
  clear hS
  intro k26 hS
  refine Zq (Zr (Zu (aB sD rfl) (Zu (aL cQ rfl rfl) ?_)))
  refine Zl ?_
  refine Zb (Zq (Zb ?_))
  refine VC.gN (S:=Unit) (fun (_:Unit)=>()) (fun (_:Unit)=>[(2,ptr fJ 0),(3,ptr lI 0),(4,ptr o6 0)]) (fun (_:Unit)=>Mo.tt) (fun (_:Unit)=>Ow.star (bE o6 [.slice none 0 0,.slice none 0 0,.slice none 0 0,str [],i64 0,str [],i64 0,str [],.slice none 0 0,.slice none 0 0,i64 0,str [],str [],i64 0,.slice none 0 0,.slice none 0 0,.slice none 0 0,.slice none 0 0,.slice none 0 0,.slice none 0 0,i64 0] 77) (Ow.star (bE lI [str eC.verb,str eC.name,i64 eC.n,str eC.text,.bool eC.force,eC.todo.val] 133) (Ow.star (bE fJ (aJ aA) 77) (Ow.emp)))) hS ?_ ?_
  ·
   clear hS
   intro k27 hS
   refine Zb (Zb ?_)
   refine VC.gN (S:=Unit) (fun (_:Unit)=>()) (fun (_:Unit)=>[(2,ptr fJ 0),(3,ptr lI 0),(4,ptr o6 0)]) (fun (_:Unit)=>Mo.tt) (fun (_:Unit)=>Ow.star (bE o6 [.slice none 0 0,.slice none 0 0,.slice none 0 0,str [],i64 0,str [],i64 0,str [],.slice none 0 0,.slice none 0 0,i64 0,str [],str [],i64 0,.slice none 0 0,.slice none 0 0,.slice none 0 0,.slice none 0 0,.slice none 0 0,.slice none 0 0,i64 0] 77) (Ow.star (bE lI [str eC.verb,str eC.name,i64 eC.n,str eC.text,.bool eC.force,eC.todo.val] 133) (Ow.star (bE fJ (aJ aA) 77) (Ow.emp)))) hS ?_ ?_
   ·
    clear hS
    intro k28 hS
    refine Zb (Zb (Zq (Zb (Zq (Zb (Zq (Zb (Zq (Zb (Zq (Zb (Zq (Zb (Zq (Zb (Zq (Zq (Zq (Zr (Zy ?_))))))))))))))))))))
    refine Zc hS (fun h9 hS => ?_) (fun h9 hS => ?_)
    ·
     refine Zx ?_
     refine VC.keep (ρ':=[(2,ptr fJ 0),(3,ptr lI 0),(4,ptr o6 0)]) [2,3,4] rfl ?_
     refine Zq (Zr (Zu (cJ cI rfl rfl) (Zu (aB qK rfl) (Zu (aL cQ rfl rfl) ?_))))
     obtain ⟨qF,aVB,hS⟩:=aO hS
     refine VL.dK (aEN aA eC.name aVB) rfl (by decide) ?_
     rintro ⟨l6,aIa⟩ rfl
     try dsimp only
     refine Zm (Zu (aV rfl rfl) (Zu (aV rfl rfl) ?_))
     refine Zv (cs':=(aJ l6)) rfl gP ?_
     refine Zy ?_
     refine VC.keep (ρ':=[(4,ptr o6 0),(6,aIa.val)]) [4,6] rfl ?_
     refine VC.fM (aIa,l6.bG,l6.aY,l6.bP,l6.aS,l6.aH,l6.bK,l6.bI,l6.bO,l6.aP,l6.aT,l6.bN,l6.aZ,l6.aM,l6.aN,l6.aQ,l6.aU,l6.bC,l6.bD,l6.bS,l6.bJ,l6.time) [4,6] (fun _ _ h=>h) hS rfl
    refine Zk ?_
    refine VC.keep (ρ':=[(2,ptr fJ 0),(3,ptr lI 0),(4,ptr o6 0),(8,str eC.verb)]) [2,3,4,8] rfl ?_
    refine Zq (Zq (Zr (Zy ?_)))
    refine Zc hS (fun h11 hS => ?_) (fun h11 hS => ?_)
    ·
     refine Zx ?_
     refine Zq ?_
     cases hS
    refine Zk ?_
    refine Zq (Zq (Zr (Zy ?_)))
    refine Zc hS (fun h13 hS => ?_) (fun h13 hS => ?_)
    ·
     refine Zx ?_
     refine Zq (Zr (Zu (cJ cI rfl rfl) (Zu (cJ rN rfl rfl) ?_)))
     obtain ⟨kK,aF1,hS⟩:=aO hS
     refine VL.dK (aEO aA eC aF1) rfl (by decide) ?_
     rintro ⟨kT,sI⟩ rfl
     try dsimp only
     refine Zm (Zu (aV rfl rfl) (Zu (aV rfl rfl) ?_))
     refine Zv (cs':=(aJ kT)) rfl gP ?_
     refine Zy ?_
     refine VC.keep (ρ':=[(4,ptr o6 0),(6,sI.val)]) [4,6] rfl ?_
     refine VC.fM (sI,kT.bG,kT.aY,kT.bP,kT.aS,kT.aH,kT.bK,kT.bI,kT.bO,kT.aP,kT.aT,kT.bN,kT.aZ,kT.aM,kT.aN,kT.aQ,kT.aU,kT.bC,kT.bD,kT.bS,kT.bJ,kT.time) [4,6] (fun _ _ h=>h) hS rfl
    refine Zk ?_
    refine Zq (Zq (Zr (Zy ?_)))
    refine Zc hS (fun h15 hS => ?_) (fun h15 hS => ?_)
    ·
     refine Zx ?_
     refine Zq ?_
     cases hS
    refine Zk ?_
    refine Zq (Zq (Zr (Zy ?_)))
    refine VC.keep (ρ':=[(2,ptr fJ 0),(3,ptr lI 0),(4,ptr o6 0),(8,str eC.verb),(17,.bool (decide (eC.verb=[115,116,97,115,104])))]) [2,3,4,8,17] rfl ?_
    refine Zc hS (fun h17 hS => ?_) (fun h17 hS => ?_)
    ·
     refine Zx ?_
     refine Zq ?_
     cases hS
    refine Zk ?_
    refine Zq (Zq (Zr (Zy ?_)))
    refine Zc hS (fun h19 hS => ?_) (fun h19 hS => ?_)
    ·
     refine Zx ?_
     refine Zq ?_
     cases hS
    refine Zk ?_
    refine Zq (Zq (Zr (Zy ?_)))
    refine Zc hS (fun h21 hS => ?_) (fun h21 hS => ?_)
    ·
     refine Zx ?_
     refine Zq (Zq (Zr (Zu (cJ cI rfl rfl) (Zu (aB qK rfl) (Zu (aL cQ rfl rfl) ?_)))))
     obtain ⟨aEl,aVw,hS⟩:=aO hS
     refine VL.dK (aGa aA eC.name aVw) rfl (by decide) ?_
     rintro ⟨aD9,aDa,aDb⟩ rfl
     try dsimp only
     refine Zu (aV rfl rfl) (Zu (aV rfl rfl) (Zu (aV rfl rfl) ?_))
     refine Zv (cs':=(aJ aD9)) rfl gP ?_
     refine Zy ?_
     refine VC.keep (ρ':=[(4,ptr o6 0),(5,.bool aDa),(6,aDb.val)]) [4,5,6] rfl ?_
     cases hS
     exact VC.ret (Z3 (aD9,aDa,aDb) [.agg (aJ aD9).toArray,.bool aDa,aDb.val] (fI.cell cI rfl rfl Rd.blk (fI.tmp rfl (fI.tmp rfl (fI.nil)))))
    refine Zk ?_
    refine Zq (Zq (Zr (Zy ?_)))
    refine Zc hS (fun h23 hS => ?_) (fun h23 hS => ?_)
    ·
     refine VC.fM () [2,3,4] (fun _ _ h=>h) hS rfl
    refine Zk ?_
    refine VC.keep (ρ':=[(2,ptr fJ 0),(3,ptr lI 0),(4,ptr o6 0),(8,str eC.verb)]) [2,3,4,8] rfl ?_
    refine Zq (Zq (Zr (Zy ?_)))
    refine Zc hS (fun h25 hS => ?_) (fun h25 hS => ?_)
    ·
     refine VC.fM () [2,3,4] (fun _ _ h=>h) hS rfl
    refine Zk ?_
    refine Zq (Zq (Zr (Zy ?_)))
    refine Zc hS (fun h27 hS => ?_) (fun h27 hS => ?_)
    ·
     refine VC.fM () [2,3,4] (fun _ _ h=>h) hS rfl
    refine Zk ?_
    refine Zq (Zr (Zy ?_))
    refine Zc hS (fun h29 hS => ?_) (fun h29 hS => ?_)
    ·
     refine VC.fM () [2,3,4] (fun _ _ h=>h) hS rfl
    refine Zk ?_
    refine Zx ?_
    refine Zq (Zq ?_)
    cases hS
   clear hS
   rintro _ hS
   refine Zq (Zq ?_)
   cases hS
  clear hS
  rintro _ hS
  refine Zq (Zq ?_)
  cases hS
 clear hS
 rintro ⟨J2,fO,iE,iF,UE,UF,K5,K6,K7,K8,K9,FD,FE,FF,FG,FH,FI,FJ,FK,FL,FM,FN⟩ hS
 refine Zq (Zr (Zu (cJ cI rfl rfl) (Zm ?_)))
 refine Zv (cs':=[fO.val,iE.val,iF.val,str UE,i64 UF,str K5,i64 K6,str K7,K8.val,K9.val,i64 FD,str FE,str FF,i64 FG,FH.val,FI.val,FJ.val,FK.val,FL.val,FM.val,i64 FN]) rfl gP ?_
 refine Zy ?_
 cases hS
 exact VC.ret (Z3 (⟨fO,iE,iF,UE,UF,K5,K6,K7,K8,K9,FD,FE,FF,FG,FH,FI,FJ,FK,FL,FM,FN⟩,false,J2) [.agg #[fO.val,iE.val,iF.val,str UE,i64 UF,str K5,i64 K6,str K7,K8.val,K9.val,i64 FD,str FE,str FF,i64 FG,FH.val,FI.val,FJ.val,FK.val,FL.val,FM.val,i64 FN],.bool false,J2.val] (fI.cell cI rfl rfl Rd.blk (fI.tmp rfl (fI.tmp rfl (fI.nil)))))
theorem aKZ (aA:cF) (eC:r9) {r:bQ×Bool×kH} (hS:Sh.aDe aA.pl eC.pl=some r) :
 Ct Tryz.prog 112 [.agg (aJ aA).toArray,.agg #[str eC.verb,str eC.name,i64 eC.n,str eC.text,.bool eC.force,eC.todo.val]] (aA.bG.ok.and (aA.aY.ok.and (aA.bP.ok.and (aA.aP.ok.and (aA.aT.ok.and (aA.aQ.ok.and (aA.aU.ok.and (aA.bC.ok.and (aA.bD.ok.and (aA.bS.ok.and (aA.bJ.ok.and eC.todo.ok))))))))))) (Ow.emp) (X:=cF×Bool×Er) (fun x => .tuple #[.agg (bM.enc x.1).toArray,.bool x.2.1,x.2.2.val]) (fun x=>r=(x.1.pl,x.2.1,x.2.2.pl)) (fun x=>(x.1.m.and x.2.2.ok)) (fun x=>Ow.emp):=by
 refine Zo Tryz.func112 Tryz.ntmps112 fun c => ?_
 unfold Sh.aDe at hS
 refine Zq (Zr ?_)
 refine kQ (aJ aA) fun fJ => ?_
 refine kQ [str eC.verb,str eC.name,i64 eC.n,str eC.text,.bool eC.force,eC.todo.val] fun lI => ?_
 refine gV [.slice none 0 0,.slice none 0 0,.slice none 0 0,str [],i64 0,str [],i64 0,str [],.slice none 0 0,.slice none 0 0,i64 0,str [],str [],i64 0,.slice none 0 0,.slice none 0 0,.slice none 0 0,.slice none 0 0,.slice none 0 0,.slice none 0 0,i64 0] fun o6 => ?_
 refine Zy ?_
 refine VC.gN (S:=Er×Sv aC×Sv aE×Sv fH×aK×Int×aK×Int×aK×Sv dB×Sv dB×Int×aK×aK×Int×Sv aE×Sv aC×Sv eN×Sv cG×Sv aK×Sv aK×Int) (fun sg=>(sg.1.pl,sg.2.1.l,sg.2.2.1.l,sg.2.2.2.1.l,sg.2.2.2.2.1,sg.2.2.2.2.2.1,sg.2.2.2.2.2.2.1,sg.2.2.2.2.2.2.2.1,sg.2.2.2.2.2.2.2.2.1,sg.2.2.2.2.2.2.2.2.2.1.l,sg.2.2.2.2.2.2.2.2.2.2.1.l,sg.2.2.2.2.2.2.2.2.2.2.2.1,sg.2.2.2.2.2.2.2.2.2.2.2.2.1,sg.2.2.2.2.2.2.2.2.2.2.2.2.2.1,sg.2.2.2.2.2.2.2.2.2.2.2.2.2.2.1,sg.2.2.2.2.2.2.2.2.2.2.2.2.2.2.2.1.l,sg.2.2.2.2.2.2.2.2.2.2.2.2.2.2.2.2.1.l,(sg.2.2.2.2.2.2.2.2.2.2.2.2.2.2.2.2.2.1.l.map eN.pl),(sg.2.2.2.2.2.2.2.2.2.2.2.2.2.2.2.2.2.2.1.l.map cG.pl),sg.2.2.2.2.2.2.2.2.2.2.2.2.2.2.2.2.2.2.2.1.l,sg.2.2.2.2.2.2.2.2.2.2.2.2.2.2.2.2.2.2.2.2.1.l,sg.2.2.2.2.2.2.2.2.2.2.2.2.2.2.2.2.2.2.2.2.2)) (fun sg=>[(4,ptr o6 0),(6,sg.1.val)]) (fun sg=>(sg.1.ok.and (sg.2.1.ok.and (sg.2.2.1.ok.and (sg.2.2.2.1.ok.and (sg.2.2.2.2.2.2.2.2.2.1.ok.and (sg.2.2.2.2.2.2.2.2.2.2.1.ok.and (sg.2.2.2.2.2.2.2.2.2.2.2.2.2.2.2.1.ok.and (sg.2.2.2.2.2.2.2.2.2.2.2.2.2.2.2.2.1.ok.and (sg.2.2.2.2.2.2.2.2.2.2.2.2.2.2.2.2.2.1.ok.and (sg.2.2.2.2.2.2.2.2.2.2.2.2.2.2.2.2.2.2.1.ok.and (sg.2.2.2.2.2.2.2.2.2.2.2.2.2.2.2.2.2.2.2.1.ok.and sg.2.2.2.2.2.2.2.2.2.2.2.2.2.2.2.2.2.2.2.2.1.ok)))))))))))) (fun sg=>Ow.star (bE o6 [sg.2.1.val,sg.2.2.1.val,sg.2.2.2.1.val,str sg.2.2.2.2.1,i64 sg.2.2.2.2.2.1,str sg.2.2.2.2.2.2.1,i64 sg.2.2.2.2.2.2.2.1,str sg.2.2.2.2.2.2.2.2.1,sg.2.2.2.2.2.2.2.2.2.1.val,sg.2.2.2.2.2.2.2.2.2.2.1.val,i64 sg.2.2.2.2.2.2.2.2.2.2.2.1,str sg.2.2.2.2.2.2.2.2.2.2.2.2.1,str sg.2.2.2.2.2.2.2.2.2.2.2.2.2.1,i64 sg.2.2.2.2.2.2.2.2.2.2.2.2.2.2.1,sg.2.2.2.2.2.2.2.2.2.2.2.2.2.2.2.1.val,sg.2.2.2.2.2.2.2.2.2.2.2.2.2.2.2.2.1.val,sg.2.2.2.2.2.2.2.2.2.2.2.2.2.2.2.2.2.1.val,sg.2.2.2.2.2.2.2.2.2.2.2.2.2.2.2.2.2.2.1.val,sg.2.2.2.2.2.2.2.2.2.2.2.2.2.2.2.2.2.2.2.1.val,sg.2.2.2.2.2.2.2.2.2.2.2.2.2.2.2.2.2.2.2.2.1.val,i64 sg.2.2.2.2.2.2.2.2.2.2.2.2.2.2.2.2.2.2.2.2.2] 77) (Ow.star (bE lI [str eC.verb,str eC.name,i64 eC.n,str eC.text,.bool eC.force,eC.todo.val] 133) (Ow.star (bE fJ (aJ aA) 77) (Ow.emp)))) hS ?_ ?_
 ·
  clear hS
  intro k26 hS
  refine Zq (Zr (Zu (aB sD rfl) (Zu (aL cQ rfl rfl) ?_)))
  refine Zl ?_
  refine Zb (Zq (Zr (Zy ?_)))
  refine Zc hS (fun h22 hS => ?_) (fun h22 hS => ?_)
  ·
   refine Zr (Zu (cJ cI rfl rfl) (Zu (aB qK rfl) (Zu (aL cQ rfl rfl) ?_)))
   obtain ⟨qE,aUn,hS⟩:=aO hS
   refine VL.dK (aKY aA eC.name aUn) rfl (by decide) ?_
   rintro ⟨l5,aT2⟩ rfl
   try dsimp only
   refine Zm (Zu (aV rfl rfl) (Zu (aV rfl rfl) ?_))
   refine Zv (cs':=(aJ l5)) rfl gP ?_
   refine Za ?_
   refine VL.mt (aT2,l5.bG,l5.aY,l5.bP,l5.aS,l5.aH,l5.bK,l5.bI,l5.bO,l5.aP,l5.aT,l5.bN,l5.aZ,l5.aM,l5.aN,l5.aQ,l5.aU,l5.bC,l5.bD,l5.bS,l5.bJ,l5.time) [4,6] (fun _ _ h=>h) hS rfl
  refine Zq (Zr (Zy ?_))
  refine VC.keep (ρ':=[(2,ptr fJ 0),(3,ptr lI 0),(4,ptr o6 0),(8,str eC.verb),(31,.bool (decide (eC.verb=[114,109])))]) [2,3,4,8,31] rfl ?_
  refine Zc hS (fun h31 hS => ?_) (fun h31 hS => ?_)
  ·
   cases hS
  refine Zq (Zr (Zy ?_))
  refine Zc hS (fun h39 hS => ?_) (fun h39 hS => ?_)
  ·
   refine Zr (Zu (cJ cI rfl rfl) (Zu (aB aDF rfl) (Zu (aL cQ rfl rfl) ?_)))
   obtain ⟨qG,aVU,hS⟩:=aO hS
   refine VL.dK (aEP aA eC.text aVU) rfl (by decide) ?_
   rintro ⟨l7,aTp⟩ rfl
   try dsimp only
   refine Zm (Zu (aV rfl rfl) (Zu (aV rfl rfl) ?_))
   refine Zv (cs':=(aJ l7)) rfl gP ?_
   refine Za ?_
   refine VL.mt (aTp,l7.bG,l7.aY,l7.bP,l7.aS,l7.aH,l7.bK,l7.bI,l7.bO,l7.aP,l7.aT,l7.bN,l7.aZ,l7.aM,l7.aN,l7.aQ,l7.aU,l7.bC,l7.bD,l7.bS,l7.bJ,l7.time) [4,6] (fun _ _ h=>h) hS rfl
  refine Zq (Zr (Zy ?_))
  refine Zc hS (fun h48 hS => ?_) (fun h48 hS => ?_)
  ·
   refine Zq ?_
   cases hS
  refine Zq (Zr (Zy ?_))
  refine Zc hS (fun h55 hS => ?_) (fun h55 hS => ?_)
  ·
   refine Zq ?_
   cases hS
  refine Zq (Zr (Zy ?_))
  refine VC.keep (ρ':=[(2,ptr fJ 0),(3,ptr lI 0),(4,ptr o6 0),(8,str eC.verb),(62,.bool (decide (eC.verb=[97,98,111,114,116])))]) [2,3,4,8,62] rfl ?_
  refine Zc hS (fun h62 hS => ?_) (fun h62 hS => ?_)
  ·
   cases hS
  refine Zq (Zr (Zy ?_))
  refine Zc hS (fun h69 hS => ?_) (fun h69 hS => ?_)
  ·
   cases hS
  refine Zq (Zr (Zy ?_))
  refine Zc hS (fun h76 hS => ?_) (fun h76 hS => ?_)
  ·
   cases hS
  refine Zq (Zq (Zr (Zu (aB eO rfl) (Zu (aB tQ rfl) (Zu (aB IG rfl) (Zu (aL cQ rfl rfl) (Zu (vD rfl rfl) ?_)))))))
  refine Zl ?_
  refine VC.keep (ρ':=[(2,ptr fJ 0),(3,ptr lI 0),(4,ptr o6 0),(13,.bool (!decide (aA.bK=[])))]) [2,3,4,13] rfl ?_
  refine o3 hS (fun h13 hS => ?_) (fun h13 hS => ?_)
  ·
   refine Zq ?_
   cases hS
  refine Zk ?_
  refine Zq (Zr (Zu (cJ cI rfl rfl) (Zu (cJ rN rfl rfl) ?_)))
  obtain ⟨aEg,aUg,hS⟩:=aO hS
  refine VL.dK (aHf aA eC aUg) rfl (by decide) ?_
  rintro ⟨aDW,aDX,aDY⟩ rfl
  try dsimp only
  refine Zu (aV rfl rfl) (Zu (aV rfl rfl) (Zu (aV rfl rfl) ?_))
  refine Zv (cs':=(aJ aDW)) rfl gP ?_
  refine Zy ?_
  refine VC.keep (ρ':=[(4,ptr o6 0),(5,.bool aDX),(6,aDY.val)]) [4,5,6] rfl ?_
  cases hS
  exact VC.ret (Z3 (aDW,aDX,aDY) [.agg (aJ aDW).toArray,.bool aDX,aDY.val] (fI.cell cI rfl rfl Rd.blk (fI.tmp rfl (fI.tmp rfl (fI.nil)))))
 clear hS
 rintro ⟨J2,fO,iE,iF,UE,UF,K5,K6,K7,K8,K9,FD,FE,FF,FG,FH,FI,FJ,FK,FL,FM,FN⟩ hS
 refine Zq (Zr (Zu (cJ cI rfl rfl) (Zm ?_)))
 refine Zv (cs':=[fO.val,iE.val,iF.val,str UE,i64 UF,str K5,i64 K6,str K7,K8.val,K9.val,i64 FD,str FE,str FF,i64 FG,FH.val,FI.val,FJ.val,FK.val,FL.val,FM.val,i64 FN]) rfl gP ?_
 refine Zy ?_
 cases hS
 exact VC.ret (Z3 (⟨fO,iE,iF,UE,UF,K5,K6,K7,K8,K9,FD,FE,FF,FG,FH,FI,FJ,FK,FL,FM,FN⟩,false,J2) [.agg #[fO.val,iE.val,iF.val,str UE,i64 UF,str K5,i64 K6,str K7,K8.val,K9.val,i64 FD,str FE,str FF,i64 FG,FH.val,FI.val,FJ.val,FK.val,FL.val,FM.val,i64 FN],.bool false,J2.val] (fI.cell cI rfl rfl Rd.blk (fI.tmp rfl (fI.tmp rfl (fI.nil)))))
theorem aGo (SC:kP) {r:aK} (hS:Sh.WB SC.pl=some r) :
 Cp Tryz.prog 116 [.agg (nA SC).toArray] (SC.work.ok.and (SC.index.ok.and (SC.refs.ok.and (SC.iC.ok.and (SC.jF.ok.and (SC.iD.ok.and (SC.jG.ok.and SC.fZ.ok))))))) (str r):=by
 refine Zo Tryz.func116 Tryz.ntmps116 fun c => ?_
 unfold Sh.WB at hS
 refine Zq (Zr ?_)
 refine kQ (nA SC) fun jN => ?_
 refine Zy ?_
 refine Zq (Zr ?_)
 refine gV [.slice none 0 0] fun lI => ?_
 refine Zl ?_
 refine Zq (Zr (Zu (cJ J7 rfl rfl) ?_))
 refine VL.nU (⟨none,0,[]⟩:Sv UInt8) 5 ⟨rfl,rfl⟩ ?_
 refine VL.SI lI (cs':=[(⟨none,0,[]⟩:Sv UInt8).val]) rfl ?_
 obtain ⟨uK,UK,hS⟩:=aO hS
 refine VL.bL (I1 lI (⟨(⟨none,0,[]⟩:Sv UInt8)⟩:eW) SC UK) rfl (by decide) ?_
 rintro eX rfl
 try dsimp only
 refine Zl ?_
 refine Zq (Zr (Zu (aB eR rfl) ?_))
 obtain ⟨y7,aAC,hS⟩:=aO hS
 refine VL.bL (JU lI eX aAC) rfl (by decide) ?_
 rintro aKV rfl
 try dsimp only
 refine Zu (aOr (s:=aKV) Tryz.underlying35 Tryz.underlying5 Tryz.underlying9 rfl) (Zy ?_)
 cases hS
 exact Ze
theorem HH (aA:Sv aK) {r:List aK} (hS:Sh.s9 aA.l=some r) :
 Ct Tryz.prog 236 [aA.val] aA.ok (Ow.emp) (X:=Sv aK) (fun x=>x.val) (fun x=>r=x.l) (fun x=>Mo.tt) (fun x=>Sv.own x 9):=by
 refine Zo Tryz.func236 Tryz.ntmps236 fun c => ?_
 unfold Sh.s9 at hS
 refine Zq (Zr (Zy ?_))
 refine Zq (Zq (Zr (Zm (Zu (IZ (s:=aA) Tryz.underlying39 rfl) ?_))))
 refine Zl ?_
 refine VC.slnil (s:=aA) rfl (fun h4 => ?_) ?_
 ·
  have hS:(some [])=some r:=by
    simp [lt,gd,h4] at hS ⊢
    try exact hS
  refine Zq (Zr (Zy ?_))
  refine VC.nU (⟨none,0,[]⟩:Sv aK) 9 ⟨rfl,rfl⟩ ?_
  cases hS
  exact VC.ret (Z1 ⟨none,0,[]⟩)
 refine Zk ?_
 refine Zq (Zr ?_)
 refine VL.aEE (α:=aK) Tryz.underlying39 a5N (by decide) (fun BX s6 zE => ?_)
 refine VL.nU BX 9 ⟨zE,s6⟩ ?_
 replace hS:=bW s6 hS
 refine Zm ?_
 obtain ⟨b7,hS⟩:=bU hS
 refine VL.app (s:=BX) (r:=aA) Tryz.underlying39 R6 (by decide) rfl Fo.out (wM b7) (wN b7 (by decide)) (by decide) (fun MB CY => ?_)
 replace hS:=bW CY hS
 refine Zy ?_
 cases hS
 exact VC.ret (Z1 MB)
theorem aGO (fF:Sv aK) (s_1:aK) {r:List aK} (hS:Sh.VA fF.l s_1=some r) :
 Ct Tryz.prog 166 [fF.val,str s_1] fF.ok (Ow.emp) (X:=Sv aK) (fun x=>x.val) (fun x=>r=x.l) (fun x=>x.ok) (fun x=>Ow.emp):=by
 refine Zo Tryz.func166 Tryz.ntmps166 fun c => ?_
 unfold Sh.VA at hS
 refine Zq (Zr (Zy ?_))
 refine Zq (Zr (Zm ?_))
 obtain ⟨jO,mD,hS⟩:=aO hS
 refine VL.bL (HH fF mD) rfl (by decide) ?_
 rintro lJ rfl
 try dsimp only
 refine Zm ?_
 refine VL.lit (α:=aK) (xs:=[.tmp 8]) (vs:=[str s_1]) [s_1] Tryz.underlying39 xQ (by decide) rfl rfl rfl rfl (by decide) (fun _ _ _ _=>trivial) (by decide) (fun aNS aFu => ?_) (by decide)
 replace hS:=bW aFu hS
 obtain ⟨b10,hS⟩:=bU hS
 refine VL.app (s:=lJ) (r:=aNS) Tryz.underlying39 R6 (by decide) rfl Fo.out (wM b10) (wN b10 (by decide)) (by decide) (fun aY8 a1Z => ?_)
 replace hS:=bW a1Z hS
 refine Zy ?_
 refine Zq (Zr (Zy ?_))
 refine Zu (eB (s:=aY8) Tryz.underlying39 rfl) ?_
 obtain ⟨b14,hS⟩:=bU hS
 refine Zu (zI rfl rfl b14) (Zu (a5p rfl) ?_)
 refine VL.shut aY8 9 (fun _ _ _ _=>trivial) ?_
 obtain ⟨b16,hS⟩:=bU hS
 refine VL.a6X Tryz.underlying39 pU rfl rfl b16.1 (b16.2) (by decide) fun a6E a1a => ?_
 replace hS:=bW a1a hS
 obtain ⟨aAg,aJY,hS⟩:=aO hS
 refine VL.dK (wC a6E aJY) rfl (by decide) ?_
 rintro BU rfl
 try dsimp only
 refine Zy ?_
 refine VC.keep (ρ':=[(4,BU.val)]) [4] rfl ?_
 cases hS
 exact VC.ret (Z1 BU)
theorem aDV (fF:B9) (aGM:aK) {r:KW} (hS:Sh.OM fF.pl aGM=some r) :
 Ct Tryz.prog 115 [.agg #[fF.back.val,fF.OB.val],str aGM] (fF.back.ok.and fF.OB.ok) (Ow.emp) (X:=B9) (fun x => .agg (bM.enc x).toArray) (fun x=>r=x.pl) (fun x=>x.m) (fun x=>Ow.emp):=by
 refine Zo Tryz.func115 Tryz.ntmps115 fun c => ?_
 unfold Sh.OM at hS
 refine Zq (Zr ?_)
 refine kQ [fF.back.val,fF.OB.val] fun fJ => ?_
 refine gV [.slice none 0 0,.slice none 0 0] fun pF => ?_
 refine Zl ?_
 refine Zq (Zr (Zu (aB aL6 rfl) (Zu (aL zC rfl rfl) (Zm ?_))))
 obtain ⟨E7,R2,hS⟩:=aO hS
 refine VL.dK (aGO fF.back aGM R2) rfl (by decide) ?_
 rintro xB rfl
 try dsimp only
 refine Zu (fR (vs:=[(0,xB.val)]) (cs := #[xB.val,.slice none 0 0]) rfl (by kernel_rfl)) ?_
 refine Zv (cs':=[xB.val,.slice none 0 0]) rfl aO2 ?_
 refine Zl ?_
 cases hS
 exact VC.ret (Z3 ⟨xB,⟨none,0,[]⟩⟩ [.agg #[xB.val,.slice none 0 0]] (fI.cell aPm rfl rfl Rd.blk (fI.nil)))
theorem aNN (aA:cF) (eC:r9) {r:bQ×kH} (hS:Sh.aG6 aA.pl eC.pl=some r) :
 Ct Tryz.prog 58 [.agg (aJ aA).toArray,.agg #[str eC.verb,str eC.name,i64 eC.n,str eC.text,.bool eC.force,eC.todo.val]] (aA.bG.ok.and (aA.aY.ok.and (aA.bP.ok.and (aA.aP.ok.and (aA.aT.ok.and (aA.aQ.ok.and (aA.aU.ok.and (aA.bC.ok.and (aA.bD.ok.and (aA.bS.ok.and (aA.bJ.ok.and eC.todo.ok))))))))))) (Ow.emp) (X:=cF×Er) (fun x => .tuple #[.agg (bM.enc x.1).toArray,x.2.val]) (fun x=>r=(x.1.pl,x.2.pl)) (fun x=>(x.1.m.and x.2.ok)) (fun x=>Ow.emp):=by
 refine Zo Tryz.func58 Tryz.ntmps58 fun c => ?_
 unfold Sh.aG6 at hS
 refine Zq (Zr ?_)
 refine kQ (aJ aA) fun fJ => ?_
 refine kQ [str eC.verb,str eC.name,i64 eC.n,str eC.text,.bool eC.force,eC.todo.val] fun lI => ?_
 refine gV [.slice none 0 0,.slice none 0 0,.slice none 0 0,str [],i64 0,str [],i64 0,str [],.slice none 0 0,.slice none 0 0,i64 0,str [],str [],i64 0,.slice none 0 0,.slice none 0 0,.slice none 0 0,.slice none 0 0,.slice none 0 0,.slice none 0 0,i64 0] fun o6 => ?_
 refine Zy ?_
 refine Zq (Zq (Zr (Zu (cJ rN rfl rfl) ?_)))
 obtain ⟨JM,M4,hS⟩:=aO hS
 refine VL.dK (YY eC M4) rfl (by decide) ?_
 rintro VF rfl
 try dsimp only
 refine Zy ?_
 refine Zq (Zr (Zm (Zu (o5 Tryz.underlying27 rfl) ?_)))
 refine Zl ?_
 refine o3 hS (fun h13 hS => ?_) (fun h13 hS => ?_)
 ·
  refine Zq ?_
  cases hS
 refine Zk ?_
 refine VC.keep (ρ':=[(2,ptr fJ 0),(3,ptr lI 0),(4,ptr o6 0)]) [2,3,4] rfl ?_
 refine Zq (Zr (Zu (cJ cI rfl rfl) (Zu (cJ rN rfl rfl) ?_)))
 obtain ⟨pE,aJ1,hS⟩:=aO hS
 refine VL.dK (aKZ aA eC aJ1) rfl (by decide) ?_
 rintro ⟨dR,aGY,VP⟩ rfl
 try dsimp only
 refine Zm (Zu (aV rfl rfl) (Zu (aV rfl rfl) (Zu (aV rfl rfl) ?_)))
 refine gV [.slice none 0 0,.slice none 0 0,.slice none 0 0,str [],i64 0,str [],i64 0,str [],.slice none 0 0,.slice none 0 0,i64 0,str [],str [],i64 0,.slice none 0 0,.slice none 0 0,.slice none 0 0,.slice none 0 0,.slice none 0 0,.slice none 0 0,i64 0] fun aDz => ?_
 refine Zv (cs':=(aJ dR)) rfl gP ?_
 refine Zy ?_
 refine VC.keep (ρ':=[(2,ptr fJ 0),(3,ptr lI 0),(4,ptr o6 0),(7,ptr aDz 0),(8,.bool aGY),(9,VP.val)]) [2,3,4,7,8,9] rfl ?_
 refine Zq (Zq (Zr (Zm (Zu (o5 Tryz.underlying27 rfl) ?_))))
 refine Zl ?_
 refine o3 hS (fun h25 hS => ?_) (fun h25 hS => ?_)
 ·
  refine Zq ?_
  cases hS
 refine Zk ?_
 refine VC.gN (S:=Sv aK×Sv aK) (fun sg=>(sg.1.l,sg.2.l)) (fun sg=>[(4,ptr o6 0),(7,ptr aDz 0),(9,VP.val)]) (fun sg=>(sg.1.ok.and sg.2.ok)) (fun sg=>Ow.star (bE aDz [dR.bG.val,dR.aY.val,dR.bP.val,str dR.aS,i64 dR.aH,str dR.bK,i64 dR.bI,str dR.bO,dR.aP.val,dR.aT.val,i64 dR.bN,str dR.aZ,str dR.aM,i64 dR.aN,dR.aQ.val,dR.aU.val,dR.bC.val,dR.bD.val,sg.1.val,sg.2.val,i64 dR.time] 77) (Ow.star (bE o6 [.slice none 0 0,.slice none 0 0,.slice none 0 0,str [],i64 0,str [],i64 0,str [],.slice none 0 0,.slice none 0 0,i64 0,str [],str [],i64 0,.slice none 0 0,.slice none 0 0,.slice none 0 0,.slice none 0 0,.slice none 0 0,.slice none 0 0,i64 0] 77) (Ow.star (bE lI [str eC.verb,str eC.name,i64 eC.n,str eC.text,.bool eC.force,eC.todo.val] 133) (Ow.star (bE fJ (aJ aA) 77) (Ow.emp))))) hS ?_ ?_
 ·
  clear hS
  intro k9 hS
  refine VC.gN (S:=Bool) (fun (NX:Bool)=>NX) (fun (NX:Bool)=>[(2,ptr fJ 0),(4,ptr o6 0),(7,ptr aDz 0),(9,VP.val),(46,.bool NX)]) (fun (NX:Bool)=>Mo.tt) (fun (NX:Bool)=>Ow.star (bE aDz (aJ dR) 77) (Ow.star (bE o6 [.slice none 0 0,.slice none 0 0,.slice none 0 0,str [],i64 0,str [],i64 0,str [],.slice none 0 0,.slice none 0 0,i64 0,str [],str [],i64 0,.slice none 0 0,.slice none 0 0,.slice none 0 0,.slice none 0 0,.slice none 0 0,.slice none 0 0,i64 0] 77) (Ow.star (bE lI [str eC.verb,str eC.name,i64 eC.n,str eC.text,.bool eC.force,eC.todo.val] 133) (Ow.star (bE fJ (aJ aA) 77) (Ow.emp))))) hS ?_ ?_
  ·
   clear hS
   intro k11 hS
   refine Zr (Zu (aB sD rfl) (Zu (aL cQ rfl rfl) (Zu (vD rfl rfl) (Zm ?_))))
   refine MW 42 hS (fun h42 hS => ?_) (fun h42 hS => ?_)
   ·
    refine Zh (aB sD rfl) ?_
    refine Zh (aL cQ rfl rfl) ?_
    refine Zh (vD rfl rfl) ?_
    refine Zt ?_
    refine VL.mt (!decide (eC.verb=[114,101,100,111])) [2,4,7,9,46] (fun _ _ h=>h) hS rfl
   refine VL.runs 4 [(46,some false)] (by kernel_rfl) ?_
   refine VL.mt false [2,4,7,9,46] (fun _ _ h=>h) hS rfl
  clear hS
  rintro NX hS
  refine gR hS (fun h46 hS => ?_) (fun h46 hS => ?_)
  ·
   refine l9 [(0,true),(1,true),(2,true),(3,true),(4,true),(5,false),(6,true),(7,false)] ?_
   refine Zw rfl (aB US rfl) ?_
   refine Zw rfl (ON (j:=18) (n:=2) aPm rfl rfl rfl) ?_
   refine Zw rfl (aB eO rfl) ?_
   refine Zw rfl (ON (j:=0) (n:=17) J7 rfl rfl rfl) ?_
   obtain ⟨YG,aF4,hS⟩:=aO hS
   refine Zw rfl (cH (aGo (⟨aA.bG,aA.aY,aA.bP,aA.aS,aA.aH,aA.bK,aA.bI,aA.bO,aA.aP,aA.aT,aA.bN,aA.aZ,aA.aM,aA.aN,aA.aQ,aA.aU,aA.bC⟩:kP) aF4) rfl (fun _ _=>rfl)) ?_
   refine VD.one rfl ?_
   obtain ⟨aKk,aV2,hS⟩:=aO hS
   refine VL.dK (aDV (⟨aA.bS,aA.bJ⟩:B9) YG aV2) rfl (by decide) ?_
   rintro X2 rfl
   try dsimp only
   refine jH ?_
   refine Zw rfl (aB US rfl) ?_
   refine VD.one rfl ?_
   refine Zv (cs':=[dR.bG.val,dR.aY.val,dR.bP.val,str dR.aS,i64 dR.aH,str dR.bK,i64 dR.bI,str dR.bO,dR.aP.val,dR.aT.val,i64 dR.bN,str dR.aZ,str dR.aM,i64 dR.aN,dR.aQ.val,dR.aU.val,dR.bC.val,dR.bD.val,X2.back.val,X2.OB.val,i64 dR.time]) rfl aO2 ?_
   refine jH ?_
   refine VD.mt (X2.back,X2.OB) [4,7,9] (fun _ _ h=>h) hS rfl
  refine VC.iV (dR.bS,dR.bJ) [4,7,9] (fun _ _ h=>h) hS rfl
 clear hS
 rintro ⟨aNl,aNm⟩ hS
 refine Zq (Zr (Zu (cJ cI rfl rfl) ?_))
 obtain ⟨pP,aF5,hS⟩:=aO hS
 refine VL.dK (V2 (⟨dR.bG,dR.aY,dR.bP,dR.aS,dR.aH,dR.bK,dR.bI,dR.bO,dR.aP,dR.aT,dR.bN,dR.aZ,dR.aM,dR.aN,dR.aQ,dR.aU,dR.bC,dR.bD,aNl,aNm,dR.time⟩:cF) aF5) rfl (by decide) ?_
 rintro aD7 rfl
 try dsimp only
 refine Zm ?_
 refine Zv (cs':=(aJ aD7)) rfl gP ?_
 refine Zy ?_
 cases hS
 exact VC.ret (Z3 (aD7,VP) [.agg (aJ aD7).toArray,VP.val] (fI.cell cI rfl rfl Rd.blk (fI.tmp rfl (fI.nil))))
theorem x8 (aA:cF) (aBs:aK) {r:bQ×kH} (hS:Sh.wR aA.pl aBs=some r) :
 Ct Tryz.prog 21 [.agg (aJ aA).toArray,str aBs] (aA.bG.ok.and (aA.aY.ok.and (aA.bP.ok.and (aA.aP.ok.and (aA.aT.ok.and (aA.aQ.ok.and (aA.aU.ok.and (aA.bC.ok.and (aA.bD.ok.and (aA.bS.ok.and aA.bJ.ok)))))))))) (Ow.emp) (X:=cF×Er) (fun x => .tuple #[.agg (bM.enc x.1).toArray,x.2.val]) (fun x=>r=(x.1.pl,x.2.pl)) (fun x=>(x.1.m.and x.2.ok)) (fun x=>Ow.emp):=by
 refine Zo Tryz.func21 Tryz.ntmps21 fun c => ?_
 unfold Sh.wR at hS
 refine Zq (Zr ?_)
 refine kQ (aJ aA) fun fJ => ?_
 refine gV [.slice none 0 0,.slice none 0 0,.slice none 0 0,str [],i64 0,str [],i64 0,str [],.slice none 0 0,.slice none 0 0,i64 0,str [],str [],i64 0,.slice none 0 0,.slice none 0 0,.slice none 0 0,.slice none 0 0,.slice none 0 0,.slice none 0 0,i64 0] fun pF => ?_
 refine Zy ?_
 refine Zq (Zr (Zm ?_))
 obtain ⟨tC,J3,hS⟩:=aO hS
 refine VL.dK (aH0 aBs J3) rfl (by decide) ?_
 rintro ⟨lY,aXw⟩ rfl
 try dsimp only
 refine Zm (Zu (aV rfl rfl) (Zu (aV rfl rfl) ?_))
 refine gV [str [],str [],i64 0,str [],.bool false,.slice none 0 0] fun a6m => ?_
 refine Zv (cs':=[str lY.verb,str lY.name,i64 lY.n,str lY.text,.bool lY.force,lY.todo.val]) rfl R7 ?_
 refine Zy ?_
 refine VC.keep (ρ':=[(2,ptr fJ 0),(4,ptr pF 0),(6,ptr a6m 0),(7,aXw.val)]) [2,4,6,7] rfl ?_
 refine Zq (Zq (Zr (Zm (Zu (o5 Tryz.underlying27 rfl) ?_))))
 refine Zl ?_
 refine o3 hS (fun h14 hS => ?_) (fun h14 hS => ?_)
 ·
  refine Zq ?_
  cases hS
 refine Zk ?_
 refine Zq (Zr (Zu (cJ cI rfl rfl) (Zu (cJ rN rfl rfl) ?_)))
 obtain ⟨nL,RV,hS⟩:=aO hS
 refine VL.dK (aNN aA lY RV) rfl (by decide) ?_
 rintro ⟨rR,zV⟩ rfl
 try dsimp only
 refine Zu (aV rfl rfl) (Zu (aV rfl rfl) ?_)
 refine Zv (cs':=(aJ rR)) rfl gP ?_
 refine Zy ?_
 refine VC.keep (ρ':=[(4,ptr pF 0),(5,zV.val)]) [4,5] rfl ?_
 cases hS
 exact VC.ret (Z3 (rR,zV) [.agg (aJ rR).toArray,zV.val] (fI.cell cI rfl rfl Rd.blk (fI.tmp rfl (fI.nil))))
theorem EN (aA:cF) (p_1:aK) (data_2:aK) (sL:aK) {r:bQ} (hS:Sh.zX aA.pl p_1 data_2 sL=some r) :
 Ct Tryz.prog 19 [.agg (aJ aA).toArray,str p_1,str data_2,str sL] (aA.bG.ok.and (aA.aY.ok.and (aA.bP.ok.and (aA.aP.ok.and (aA.aT.ok.and (aA.aQ.ok.and (aA.aU.ok.and (aA.bC.ok.and (aA.bD.ok.and (aA.bS.ok.and aA.bJ.ok)))))))))) (Ow.emp) (X:=cF) (fun x => .agg (bM.enc x).toArray) (fun x=>r=x.pl) (fun x=>x.m) (fun x=>Ow.emp):=by
 refine Zo Tryz.func19 Tryz.ntmps19 fun c => ?_
 unfold Sh.zX at hS
 refine Zq (Zr ?_)
 refine kQ (aJ aA) fun tL => ?_
 refine gV [.slice none 0 0,.slice none 0 0,.slice none 0 0,str [],i64 0,str [],i64 0,str [],.slice none 0 0,.slice none 0 0,i64 0,str [],str [],i64 0,.slice none 0 0,.slice none 0 0,.slice none 0 0,.slice none 0 0,.slice none 0 0,.slice none 0 0,i64 0] fun H6 => ?_
 refine Zl ?_
 refine Zq (Zr (Zu (cJ cI rfl rfl) (Zy ?_)))
 obtain ⟨mL,vR,hS⟩:=aO hS
 refine VL.dK (aA2 aA p_1 data_2 vR) rfl (by decide) ?_
 rintro iG rfl
 try dsimp only
 refine Zv (cs':=(aJ iG)) rfl gP ?_
 refine Zl ?_
 refine Zq (Zr (Zu (cJ cI rfl rfl) (Zm ?_)))
 obtain ⟨b16,hS⟩:=bU hS
 obtain ⟨pT,J5,hS⟩:=wV hS
 refine Zu (HW rfl rfl b16 J5) ?_
 obtain ⟨HM,RU,hS⟩:=aO hS
 refine VL.dK (x8 iG pT RU) rfl (by decide) ?_
 rintro ⟨LZ,a7G⟩ rfl
 try dsimp only
 refine Zm (Zu (aV rfl rfl) (Zu (aV rfl rfl) ?_))
 refine Zv (cs':=(aJ LZ)) rfl gP ?_
 refine Zl ?_
 refine VC.keep (ρ':=[(3,str sL),(4,ptr tL 0),(8,ptr H6 0)]) [3,4,8] rfl ?_
 refine Zq (Zr (Zu (cJ cI rfl rfl) (Zm ?_)))
 obtain ⟨b23,hS⟩:=bU hS
 obtain ⟨HO,RW,hS⟩:=wV hS
 refine Zu (HW rfl rfl b23 RW) ?_
 obtain ⟨zO,aJ5,hS⟩:=aO hS
 refine VL.dK (x8 LZ HO aJ5) rfl (by decide) ?_
 rintro ⟨aCI,a7H⟩ rfl
 try dsimp only
 refine Zm (Zu (aV rfl rfl) (Zu (aV rfl rfl) ?_))
 refine Zv (cs':=(aJ aCI)) rfl gP ?_
 refine Zl ?_
 refine Zq (Zr (Zu (cJ cI rfl rfl) ?_))
 refine Zv (cs':=(aJ aCI)) rfl gP ?_
 refine Zl ?_
 refine VC.keep (ρ':=[(8,ptr H6 0)]) [8] rfl ?_
 cases hS
 exact VC.ret (Z3 aCI [.agg (aJ aCI).toArray] (fI.cell cI rfl rfl Rd.blk (fI.nil)))
theorem NL (aA:cF) (p_1:aK) {r:aK} (hS:Sh.GI aA.pl p_1=some r) :
 Cp Tryz.prog 22 [.agg (aJ aA).toArray,str p_1] (aA.bG.ok.and (aA.aY.ok.and (aA.bP.ok.and (aA.aP.ok.and (aA.aT.ok.and (aA.aQ.ok.and (aA.aU.ok.and (aA.bC.ok.and (aA.bD.ok.and (aA.bS.ok.and aA.bJ.ok)))))))))) (str r):=by
 refine Zo Tryz.func22 Tryz.ntmps22 fun c => ?_
 unfold Sh.GI at hS
 refine Zq (Zr ?_)
 refine kQ (aJ aA) fun fJ => ?_
 refine Zy ?_
 refine Zq (Zr (Zu (aB eO rfl) (Zu (aB tP rfl) (Zu (aL kO rfl rfl) (Zm ?_)))))
 obtain ⟨gU,J4,hS⟩:=aO hS
 refine Zu (cH (lT aA.bG p_1 J4) rfl (fun _ _=>rfl)) ?_
 refine Zm (Zu (aV rfl rfl) (Zu (aV rfl rfl) ?_))
 refine gV [str [],i64 0,str []] fun UB => ?_
 refine Zv (cs':=[str gU.1.path,i64 gU.1.mode,str gU.1.data]) rfl fC ?_
 refine Zy ?_
 refine VC.keep (ρ':=[(5,ptr UB 0),(6,.bool gU.2)]) [5,6] rfl ?_
 refine Zq (Zq (Zr (Zm (Zu (jE rfl) ?_))))
 refine Zl ?_
 refine gR hS (fun h16 hS => ?_) (fun h16 hS => ?_)
 ·
  refine Zq (Zr (Zy ?_))
  cases hS
  exact Ze
 refine Zk ?_
 refine Zq (Zr (Zu (aB DD rfl) (Zu (aL cQ rfl rfl) (Zy ?_))))
 cases hS
 exact Ze
theorem aA1  {r:Bool} (hS:Sh.D1=some r) :
 Cp Tryz.prog 4 [] Mo.tt (.bool r):=by
 refine Zo Tryz.func4 Tryz.ntmps4 fun c => ?_
 unfold Sh.D1 at hS
 refine Zq (Zr (Zy ?_))
 refine Zq (Zr ?_)
 obtain ⟨aEI,aF6,hS⟩:=aO hS
 refine Zu (cH (aHj aF6) rfl (fun _ _=>rfl)) ?_
 obtain ⟨yU,EC,hS⟩:=aO hS
 refine VL.dK (EN (⟨⟨none,0,[]⟩,⟨none,0,[]⟩,⟨none,0,[]⟩,[109,97,105,110],0,[],0,[],⟨none,0,[]⟩,⟨none,0,[]⟩,0,[],[],0,⟨none,0,[]⟩,⟨none,0,[]⟩,⟨none,0,[]⟩,⟨none,0,[]⟩,⟨none,0,[]⟩,⟨none,0,[]⟩,0⟩:cF) [97] [120,10] [111,110,101] EC) rfl (by decide) ?_
 rintro qS rfl
 try dsimp only
 refine gV [.slice none 0 0,.slice none 0 0,.slice none 0 0,str [],i64 0,str [],i64 0,str [],.slice none 0 0,.slice none 0 0,i64 0,str [],str [],i64 0,.slice none 0 0,.slice none 0 0,.slice none 0 0,.slice none 0 0,.slice none 0 0,.slice none 0 0,i64 0] fun aUY => ?_
 refine Zv (cs':=(aJ qS)) rfl gP ?_
 refine Zl ?_
 refine Zq (Zr (Zu (cJ cI rfl rfl) ?_))
 obtain ⟨S7,aBF,hS⟩:=aO hS
 refine VL.dK (x8 qS [98,114,97,110,99,104,32,100,101,118] aBF) rfl (by decide) ?_
 rintro ⟨QB,aGQ⟩ rfl
 try dsimp only
 refine Zm (Zu (aV rfl rfl) (Zu (aV rfl rfl) ?_))
 refine Zv (cs':=(aJ QB)) rfl gP ?_
 refine Zy ?_
 refine Zq (Zr (Zu (cJ cI rfl rfl) ?_))
 obtain ⟨aZB,aZu,hS⟩:=aO hS
 refine VL.dK (EN QB [98] [121,10] [116,119,111] aZu) rfl (by decide) ?_
 rintro aMx rfl
 try dsimp only
 refine Zv (cs':=(aJ aMx)) rfl gP ?_
 refine Zl ?_
 refine VC.keep (ρ':=[(1,ptr aUY 0),(2,aGQ.val)]) [1,2] rfl ?_
 refine Zq (Zr (Zu (cJ cI rfl rfl) ?_))
 obtain ⟨aDs,a0A,hS⟩:=aO hS
 refine VL.dK (x8 aMx [115,119,105,116,99,104,32,100,101,118] a0A) rfl (by decide) ?_
 rintro ⟨aGU,aMz⟩ rfl
 try dsimp only
 refine Zm (Zu (aV rfl rfl) (Zu (aV rfl rfl) ?_))
 refine Zv (cs':=(aJ aGU)) rfl gP ?_
 refine Zy ?_
 refine Zq (Zr (Zu (cJ cI rfl rfl) ?_))
 obtain ⟨aDu,a0K,hS⟩:=aO hS
 refine Zu (cH (NL aGU [98] a0K) rfl (fun _ _=>rfl)) ?_
 refine Zy ?_
 refine VC.keep (ρ':=[(1,ptr aUY 0),(2,aGQ.val),(3,aMz.val),(4,str aDu)]) [1,2,3,4] rfl ?_
 refine Zq (Zr (Zu (cJ cI rfl rfl) ?_))
 obtain ⟨aDv,a0Q,hS⟩:=aO hS
 refine VL.dK (EN aGU [99] [122,10] [116,104,114,101,101] a0Q) rfl (by decide) ?_
 rintro aNC rfl
 try dsimp only
 refine Zv (cs':=(aJ aNC)) rfl gP ?_
 refine Zl ?_
 refine Zq (Zr (Zu (cJ cI rfl rfl) ?_))
 obtain ⟨aHI,a0Y,hS⟩:=aO hS
 refine VL.dK (x8 aNC [109,101,114,103,101,32,109,97,105,110] a0Y) rfl (by decide) ?_
 rintro ⟨VT,aYM⟩ rfl
 try dsimp only
 refine Zm (Zu (aV rfl rfl) (Zu (aV rfl rfl) ?_))
 refine Zv (cs':=(aJ VT)) rfl gP ?_
 refine Zy ?_
 refine VC.keep (ρ':=[(1,ptr aUY 0),(2,aGQ.val),(3,aMz.val),(4,str aDu),(5,aYM.val)]) [1,2,3,4,5] rfl ?_
 refine Zq (Zr (Zm (Zu (GG Tryz.underlying27 rfl) (Zm ?_))))
 refine o4 31 hS (fun h31 hS => ?_) (fun h31 hS => ?_)
 ·
  refine Zg ?_
  refine Zh (GG Tryz.underlying27 rfl) ?_
  refine Zy ?_
  refine o4 35 hS (fun h35 hS => ?_) (fun h35 hS => ?_)
  ·
   refine Zg ?_
   refine Zh (GG Tryz.underlying27 rfl) ?_
   refine Zy ?_
   refine o4 39 hS (fun h39 hS => ?_) (fun h39 hS => ?_)
   ·
    refine Zg ?_
    refine Zh (EM rfl rfl) ?_
    refine Zy ?_
    refine o4 43 hS (fun h43 hS => ?_) (fun h43 hS => ?_)
    ·
     refine Zh (cJ cI rfl rfl) ?_
     obtain ⟨aRq,aVT,hS⟩:=aO hS
     refine Zh (cH (NL VT [98] aVT) rfl (fun _ _=>rfl)) ?_
     refine Zh (EM rfl rfl) ?_
     refine Zy ?_
     refine o4 48 hS (fun h48 hS => ?_) (fun h48 hS => ?_)
     ·
      refine Zh (aB nT rfl) ?_
      refine Zh (aL s5 rfl rfl) ?_
      refine Zh (qN cG.pl (s:=VT.bD) Tryz.underlying73 rfl) ?_
      refine Zh (iI rfl rfl) ?_
      refine Zy ?_
      refine o4 54 hS (fun h54 hS => ?_) (fun h54 hS => ?_)
      ·
       refine Zh (aB nT rfl) ?_
       refine Zh (aL s5 rfl rfl) ?_
       obtain ⟨aCj,aMf,aGB,hS⟩:=EB hS
       refine VL.deep aCj.m aGB (fun _ q=>q) ?_
       refine Zh (eZ (s:=VT.bD) Tryz.underlying73 aAI rfl rfl aMf (bH aMf aGB)) ?_
       refine Zh (aB aB2 rfl) ?_
       refine Zh (pQ (s:=VT.bD) HR rfl aGB rfl) ?_
       refine Zh (eB (s:=aCj.parents) Tryz.underlying83 rfl) ?_
       refine Zh (iI rfl rfl) ?_
       refine Zy ?_
       refine VC.keep (ρ':=[(0,.bool (decide ((aCj.parents.l.length:Int)=2)))]) [0] rfl ?_
       cases hS
       exact Ze
      refine VL.runs 9 [(0,some false)] (by kernel_rfl) ?_
      refine Zl ?_
      refine VC.keep (ρ':=[(0,.bool false)]) [0] rfl ?_
      cases hS
      exact Ze
     refine VL.runs 15 [(0,some false)] (by kernel_rfl) ?_
     refine Zl ?_
     refine VC.keep (ρ':=[(0,.bool false)]) [0] rfl ?_
     cases hS
     exact Ze
    refine VL.runs 20 [(0,some false)] (by kernel_rfl) ?_
    refine Zl ?_
    refine VC.keep (ρ':=[(0,.bool false)]) [0] rfl ?_
    cases hS
    exact Ze
   refine VL.runs 24 [(0,some false)] (by kernel_rfl) ?_
   refine Zl ?_
   refine VC.keep (ρ':=[(0,.bool false)]) [0] rfl ?_
   cases hS
   exact Ze
  refine VL.runs 28 [(0,some false)] (by kernel_rfl) ?_
  refine Zl ?_
  refine VC.keep (ρ':=[(0,.bool false)]) [0] rfl ?_
  cases hS
  exact Ze
 refine VL.runs 32 [(0,some false)] (by kernel_rfl) ?_
 refine Zl ?_
 cases hS
 exact Ze
theorem aHi (GH:Int) {r:cB} (hS:Sh.SW GH=some r) :
 Ct Tryz.prog 6 [i64 GH] Mo.tt (Ow.emp) (X:=Nat×eL) (fun x=>ptr x.1 0) (fun x=>r=x.2.pl) (fun x=>((jX x.2.kept.l).and ((jX x.2.files.l).and ((mH x.2.pending.l).and x.2.keep.ok)))) (fun x=>Ow.star (bE x.1 [.map (some x.2.kept.b),.map (some x.2.files.b),x.2.pending.val,i64 x.2.cK,i64 x.2.now,i64 x.2.bX,i64 x.2.ops,.bool x.2.off,.bool x.2.cS,i64 x.2.left,x.2.keep.val] 93) (Ow.star (eP Tryz.prog 9 x.2.kept.b x.2.kept.l) (Ow.star (eP Tryz.prog 9 x.2.files.b x.2.files.l) (Sv.own x.2.pending 98)))):=by
 refine Zo Tryz.func6 Tryz.ntmps6 fun c => ?_
 unfold Sh.SW at hS
 refine Zq (Zr (Zy ?_))
 refine Zq (Zr ?_)
 refine VL.aQ3 (β:=cU) (k:=9) (by decide) fun aMO => ?_
 refine VL.aQ3 (β:=cU) (k:=9) (by decide) fun aMP => ?_
 refine Zm ?_
 refine Zu (fR (vs:=[(0,.map (some aMO)),(1,.map (some aMP)),(3,i64 GH)]) (cs := #[.map (some aMO),.map (some aMP),.slice none 0 0,i64 GH,i64 0,i64 0,i64 0,.bool false,.bool false,i64 0,.slice none 0 0]) rfl (by kernel_rfl)) ?_
 refine kQ [.map (some aMO),.map (some aMP),.slice none 0 0,i64 GH,i64 0,i64 0,i64 0,.bool false,.bool false,i64 0,.slice none 0 0] fun aAu => ?_
 refine Zy ?_
 refine VC.nU (⟨none,0,[]⟩:Sv gM) 98 ⟨rfl,rfl⟩ ?_
 refine VC.JD (s:=(⟨none,0,[]⟩:Sv gM)) rfl ?_
 refine VC.SI aAu (cs':=[.map (some aMO),.map (some aMP),(⟨none,0,[]⟩:Sv gM).val,i64 GH,i64 0,i64 0,i64 0,.bool false,.bool false,i64 0,(⟨none,0,[]⟩:Sv Bool).val]) rfl ?_
 cases hS
 exact VC.ret (Z1 (aAu,⟨(Mh.mk aMO []),(Mh.mk aMP []),(⟨none,0,[]⟩:Sv gM),GH,0,0,0,false,false,0,(⟨none,0,[]⟩:Sv Bool)⟩))
theorem D3 (fF:Mh cU) (p_1:aK) (aCq:aK) {r:Bool} (hS:Sh.wB (IP cU.pl fF.l) p_1 aCq=some r) :
 Ct Tryz.prog 64 [.map (some fF.b),str p_1,str aCq] (jX fF.l) (eP Tryz.prog 9 fF.b fF.l) (X:=Unit) (fun _ => .bool r) (fun _=>True) (fun _=>Mo.tt) (fun _=>eP Tryz.prog 9 fF.b fF.l):=by
 refine Zo Tryz.func64 Tryz.ntmps64 fun c => ?_
 unfold Sh.wB at hS
 refine Zq (Zr (Zy ?_))
 refine Zq (Zq (Zr (Zm ?_)))
 obtain ⟨aQY,a4z,hS⟩:=wV hS
 refine VL.aRK (b:=fF.b) (l:=fF.l) (ks:=aQY) (Maps.string_keyed Tryz.underlying9) Tryz.underlying9 Tryz.underlying90 Fo.out ((aMW _ _).symm.trans a4z) rfl (by decide) fun aIm aDC aCr => ?_
 refine Zl ?_
 refine Zb ?_
 refine VC.OI (S:=List aK) (fun (BF:List aK)=>BF) (fun (BF:List aK)=>[(1,str p_1),(2,str aCq),(9,ptr aIm 0)]) (fun (BF:List aK)=>Mo.tt) (fun (BF:List aK)=>Ow.star (ItE fF.b aIm aDC aCr BF) (Ow.star (QU Tryz.prog 9 fF.b aDC aCr fF.l) (Ow.emp))) aQY [1,2,9] hS rfl ?_
 clear hS
 rintro BF m1 hS
 refine Zq (Zr ?_)
 refine VL.aXi (r:=aIm) (b:=fF.b) (l:=fF.l) (es:=aDC) (clock:=aCr) (ks:=BF) (Maps.string_keyed Tryz.underlying9) Tryz.underlying9 rfl (by decide) fun aAW aGH a1X => ?_
 obtain ⟨y1,hS,hK1⟩:=hS _ _ a1X
 refine Zu (a4e rfl) ?_
 refine Zl ?_
 refine Zq ?_
 refine gR hS (fun h11 hS => ?_) (fun h11 hS => ?_)
 ·
  refine Zk ?_
  refine Zb (Zq (Zr ?_))
  refine Zu (aNK (r:=aIm) (b:=fF.b) (l:=fF.l) (es:=aDC) (clock:=aCr) (ks:=aGH) (o:=aAW) (Maps.string_keyed Tryz.underlying9) Tryz.underlying9 (by assumption) rfl) ?_
  refine Zu (aV rfl rfl) (Zy ?_)
  refine VC.gN (S:=Bool) (fun (B6:Bool)=>B6) (fun (B6:Bool)=>[(1,str p_1),(2,str aCq),(9,ptr aIm 0),(21,.bool B6)]) (fun (B6:Bool)=>Mo.tt) (fun (B6:Bool)=>Ow.star (ItC fF.b aIm aDC aCr aGH aAW) (Ow.star (QU Tryz.prog 9 fF.b aDC aCr fF.l) (Ow.emp))) hS ?_ ?_
  ·
   clear hS
   intro k6 hS
   refine Zr (Zy ?_)
   refine Zu (vD rfl rfl) (Zm ?_)
   refine MW 17 hS (fun h17 hS => ?_) (fun h17 hS => ?_)
   ·
    refine Zy ?_
    obtain ⟨aAh,a0H,hS⟩:=aO hS
    refine Zh (cH (rQ p_1 (aAW.getD []) a0H) rfl (fun _ _=>rfl)) ?_
    refine Zt ?_
    refine VL.mt aAh [1,2,9,21] (fun _ _ h=>h) hS rfl
   refine VL.runs 4 [(21,some false)] (by kernel_rfl) ?_
   refine VL.mt false [1,2,9,21] (fun _ _ h=>h) hS rfl
  clear hS
  rintro B6 hS
  refine gR hS (fun h21 hS => ?_) (fun h21 hS => ?_)
  ·
   refine Zq ?_
   cases hS
  refine VC.aGm aGH [1,2,9] (fun _ _ h=>h) (aW7 hS hK1) rfl
 replace hS:=a4g hS hK1
 refine Zx ?_
 refine Zq (Zr (Zy ?_))
 cases hS
 exact VC.ret (Z1 ())
theorem Y8 (fF:Mh cU) {r:Int} (hS:Sh.SX (IP cU.pl fF.l)=some r) :
 Ct Tryz.prog 121 [.map (some fF.b)] (jX fF.l) (eP Tryz.prog 9 fF.b fF.l) (X:=Unit) (fun _=>i64 r) (fun _=>True) (fun _=>Mo.tt) (fun _=>eP Tryz.prog 9 fF.b fF.l):=by
 refine Zo Tryz.func121 Tryz.ntmps121 fun c => ?_
 unfold Sh.SX at hS
 refine Zq (Zr (Zy ?_))
 refine Zq ?_
 cases hS
theorem aCY (bV:Nat) (aD:eL) (p_1:aK) (n_2:Int) {r:Bool} (hS:Sh.BZ aD.pl p_1 n_2=some r) :
 Ct Tryz.prog 65 [ptr bV 0,str p_1,i64 n_2] ((jX aD.kept.l).and ((jX aD.files.l).and ((mH aD.pending.l).and aD.keep.ok))) (Ow.star (eP Tryz.prog 9 aD.kept.b aD.kept.l) (Ow.star (eP Tryz.prog 9 aD.files.b aD.files.l) (Ow.star (Sv.own aD.pending 98) (bE bV [.map (some aD.kept.b),.map (some aD.files.b),aD.pending.val,i64 aD.cK,i64 aD.now,i64 aD.bX,i64 aD.ops,.bool aD.off,.bool aD.cS,i64 aD.left,aD.keep.val] 93)))) (X:=Unit) (fun _ => .bool r) (fun _=>True) (fun _=>Mo.tt) (fun _=>Ow.star (bE bV [.map (some aD.kept.b),.map (some aD.files.b),aD.pending.val,i64 aD.cK,i64 aD.now,i64 aD.bX,i64 aD.ops,.bool aD.off,.bool aD.cS,i64 aD.left,aD.keep.val] 93) (Ow.star (eP Tryz.prog 9 aD.kept.b aD.kept.l) (Ow.star (eP Tryz.prog 9 aD.files.b aD.files.l) (Sv.own aD.pending 98)))):=by
 refine Zo Tryz.func65 Tryz.ntmps65 fun c => ?_
 unfold Sh.BZ at hS
 refine Zq (Zr (Zy ?_))
 refine Zq (Zr (Zm (Zu (aF rfl) (Zu (aB tT rfl) (Zu (aL zD rfl rfl) (Zm ?_))))))
 obtain ⟨b15,hS⟩:=bU hS
 obtain ⟨qP,aO8,aPx,hS⟩:=aDS (g:=cU.pl) (z0:=(⟨0,0,0,(⟨none,0,[]⟩:Sv UInt8)⟩:cU)) hS
 refine VL.aDT qP.b.ok aPx (fun h=>fQ.out (M:=Mo.tt) (X:=((⟨none,0,[]⟩:Sv UInt8).ok)) h trivial) (fun _ q=>q) ?_
 refine Zu (KS (b:=aD.files.b) (l:=aD.files.l) (a0:=p_1) (v := .agg #[i64 qP.mode,i64 qP.time,i64 qP.mI,qP.b.val]) (⟨0,0,0,(⟨none,0,[]⟩:Sv UInt8)⟩:cU) (Maps.string_keyed Tryz.underlying9) Tryz.underlying90 aDL rfl rfl (NB Tryz.underlying9 b15) aPx rfl) ?_
 refine Zm (Zu (aV rfl rfl) (Zu (aV rfl rfl) ?_))
 refine gV [i64 0,i64 0,i64 0,.slice none 0 0] fun aHp => ?_
 refine Zv (cs':=[i64 qP.mode,i64 qP.time,i64 qP.mI,qP.b.val]) rfl OD ?_
 refine Zy ?_
 refine VC.keep (ρ':=[(0,ptr bV 0),(2,i64 n_2),(7,ptr aHp 0),(8,.bool aO8)]) [0,2,7,8] rfl ?_
 refine Zq ?_
 refine l9 [(0,true),(1,true),(2,true),(3,true),(4,true),(5,true),(6,true),(7,true),(8,true),(9,true),(10,true),(11,true),(12,true),(13,true),(14,true),(15,true),(16,true),(17,true),(18,true),(19,true),(20,true),(21,true),(22,true),(23,true),(25,true),(26,true),(27,true),(29,true),(31,true),(32,true),(33,true),(34,true),(24,false),(28,true),(30,true),(35,true),(36,true),(37,true)] ?_
 refine Zw rfl (bB rfl) ?_
 refine Zw rfl (aF rfl) ?_
 refine Zw rfl (aB UT rfl) ?_
 refine Zw rfl (aL fL rfl rfl) ?_
 refine Zw rfl (L8 rfl rfl) ?_
 refine Zw rfl (bB rfl) ?_
 refine VD.rC 23 rfl (fun h23 => ?_) (fun h23 => ?_)
 ·
  replace hS:=EZ h23 hS
  refine Zd ?_
  refine Zd ?_
  refine Zw rfl (gS rfl rfl) ?_
  refine Zw rfl (bB rfl) ?_
  refine Zd ?_
  refine Zd ?_
  refine VD.gu rfl rfl rfl (by decide) ?_
  refine VD.gu rfl rfl rfl (by decide) ?_
  refine VD.gu rfl rfl rfl (by decide) ?_
  refine VD.gu rfl rfl rfl (by decide) ?_
  refine VD.gu rfl rfl rfl (by decide) ?_
  refine Zd ?_
  refine Zw rfl (gS rfl rfl) ?_
  refine Zw rfl (bB rfl) ?_
  refine Zd ?_
  refine Zd ?_
  refine Zd ?_
  refine Zd ?_
  refine Zd ?_
  refine Zd ?_
  refine Zd ?_
  refine Zd ?_
  refine Zd ?_
  refine Zd ?_
  refine Zd ?_
  refine Zd ?_
  refine VD.Y4 (D':=[(34,undef),(33,undef),(32,undef),(31,undef),(29,undef),(27,undef),(26,undef),(25,undef)]) rfl rfl rfl (by decide) (by decide) (by kernel_rfl) (aI.jZ rfl rfl rfl rfl (aI.jZ rfl rfl rfl rfl (aI.jZ rfl rfl rfl rfl (aI.jZ rfl rfl rfl rfl (aI.jZ rfl rfl rfl rfl (aI.jZ rfl rfl rfl rfl (aI.jZ rfl rfl rfl rfl (aI.jZ rfl rfl rfl rfl (aI.nil))))))))) ?_
  refine Zd ?_
  refine Zd ?_
  refine Zd ?_
  refine Zw rfl (gS rfl rfl) ?_
  refine Zw rfl (gI rfl) ?_
  refine VD.to (fun _ _ h=>h) ?_
  refine VC.keep (ρ':=[(6,.bool true)]) [6] rfl ?_
  cases hS
  exact VC.ret (Z1 ())
 replace hS:=JW h23 hS
 refine Zi rfl (bB rfl) ?_
 refine Zi rfl (iI rfl rfl) ?_
 refine Zw rfl (gL rfl rfl) ?_
 refine Zw rfl (bB rfl) ?_
 refine VD.rC 27 rfl (fun h27 => ?_) (fun h27 => ?_)
 ·
  replace hS:=EZ h27 hS
  refine Zd ?_
  refine Zd ?_
  refine VD.gu rfl rfl rfl (by decide) ?_
  refine VD.gu rfl rfl rfl (by decide) ?_
  refine VD.gu rfl rfl rfl (by decide) ?_
  refine VD.gu rfl rfl rfl (by decide) ?_
  refine VD.gu rfl rfl rfl (by decide) ?_
  refine Zd ?_
  refine Zw rfl (gS rfl rfl) ?_
  refine Zw rfl (bB rfl) ?_
  refine Zd ?_
  refine Zd ?_
  refine Zd ?_
  refine Zd ?_
  refine Zd ?_
  refine Zd ?_
  refine Zd ?_
  refine Zd ?_
  refine Zd ?_
  refine Zd ?_
  refine Zd ?_
  refine Zd ?_
  refine VD.Y4 (D':=[(34,undef),(33,undef),(32,undef),(31,undef),(29,undef),(27,undef),(26,undef),(25,undef)]) rfl rfl rfl (by decide) (by decide) (by kernel_rfl) (aI.jZ rfl rfl rfl rfl (aI.jZ rfl rfl rfl rfl (aI.jZ rfl rfl rfl rfl (aI.jZ rfl rfl rfl rfl (aI.jZ rfl rfl rfl rfl (aI.jZ rfl rfl rfl rfl (aI.jZ rfl rfl rfl rfl (aI.jZ rfl rfl rfl rfl (aI.nil))))))))) ?_
  refine Zd ?_
  refine Zd ?_
  refine Zd ?_
  refine Zw rfl (gS rfl rfl) ?_
  refine Zw rfl (gI rfl) ?_
  refine VD.to (fun _ _ h=>h) ?_
  refine VC.keep (ρ':=[(6,.bool true)]) [6] rfl ?_
  cases hS
  exact VC.ret (Z1 ())
 replace hS:=JW h27 hS
 refine Zi rfl (bB rfl) ?_
 refine Zi rfl (bB rfl) ?_
 refine VD.split 29 rfl (fun h29 => ?_) (fun h29 => ?_)
 ·
  replace hS:=EZ h29 hS
  refine Zi rfl (bB rfl) ?_
  refine Zi rfl (aB LH rfl) ?_
  refine Zi rfl (aL qR rfl rfl) ?_
  refine Zi rfl (eB (s:=qP.b) Tryz.underlying35 rfl) ?_
  refine Zi rfl (L8 rfl rfl) ?_
  refine Zi rfl (gS rfl rfl) ?_
  refine Zw rfl (gL rfl rfl) ?_
  refine Zw rfl (bB rfl) ?_
  refine VD.rC 37 rfl (fun h37 => ?_) (fun h37 => ?_)
  ·
   replace hS:=EZ h37 hS
   refine Zd ?_
   refine Zd ?_
   refine Zd ?_
   refine Zd ?_
   refine Zd ?_
   refine Zd ?_
   refine Zd ?_
   refine Zd ?_
   refine Zd ?_
   refine Zd ?_
   refine Zd ?_
   refine Zd ?_
   refine VD.Y4 (D':=[(34,undef),(33,undef),(32,undef),(31,undef),(29,undef),(27,undef),(26,undef),(25,undef)]) rfl rfl rfl (by decide) (by decide) (by kernel_rfl) (aI.jZ rfl rfl rfl rfl (aI.jZ rfl rfl rfl rfl (aI.jZ rfl rfl rfl rfl (aI.jZ rfl rfl rfl rfl (aI.jZ rfl rfl rfl rfl (aI.jZ rfl rfl rfl rfl (aI.jZ rfl rfl rfl rfl (aI.jZ rfl rfl rfl rfl (aI.nil))))))))) ?_
   refine Zd ?_
   refine Zd ?_
   refine Zd ?_
   refine Zw rfl (gS rfl rfl) ?_
   refine Zw rfl (gI rfl) ?_
   refine VD.to (fun _ _ h=>h) ?_
   refine VC.keep (ρ':=[(6,.bool true)]) [6] rfl ?_
   cases hS
   exact VC.ret (Z1 ())
  replace hS:=JW h37 hS
  refine Zi rfl (bB rfl) ?_
  refine Zi rfl (aF rfl) ?_
  refine Zi rfl (aB tT rfl) ?_
  refine Zi rfl (aL zD rfl rfl) ?_
  refine Zi rfl (aB LH rfl) ?_
  refine Zi rfl (aL qR rfl rfl) ?_
  refine Zi rfl (eB (s:=qP.b) Tryz.underlying35 rfl) ?_
  refine Zi rfl (bB rfl) ?_
  refine Zi rfl (bB rfl) ?_
  refine Zi rfl (aF rfl) ?_
  refine Zi rfl (aB UT rfl) ?_
  refine Zi rfl (aL fL rfl rfl) ?_
  refine VD.aEF rfl rfl rfl ?_
  refine VL.guard rfl rfl ?_
  obtain ⟨aHM,a0p,hS⟩:=aO hS
  refine VL.bL (Y8 aD.files a0p) rfl (by decide) ?_
  rintro _ _
  try dsimp only
  refine jS [(34,i64 aD.cK),(33,ptr bV 3),(32,ptr bV 0),(31,ptr bV 0),(29,i64 n_2),(27,i64 (qP.b.l.length:Int)),(26,qP.b.val),(25,ptr aHp 3)] (aI.mB rfl rfl rfl (aL fL rfl rfl) (aI.mB rfl rfl rfl (aB UT rfl) (aI.mB rfl rfl rfl (aF rfl) (aI.mB rfl rfl rfl (bB rfl) (aI.mB rfl rfl rfl (bB rfl) (aI.mB rfl rfl rfl (eB (s:=qP.b) Tryz.underlying35 rfl) (aI.mB rfl rfl rfl (aL qR rfl rfl) (aI.mB rfl rfl rfl (aB LH rfl) aI.nil)))))))) ?_
  obtain ⟨b46,hS⟩:=bU hS
  refine Zi rfl (zI rfl rfl b46) ?_
  obtain ⟨b48,hS⟩:=bU hS
  refine Zi rfl (cR rfl rfl b48) ?_
  refine Zi rfl (L8 rfl rfl) ?_
  refine Zw rfl (gL rfl rfl) ?_
  refine Zw rfl (gI rfl) ?_
  refine VD.to (fun _ _ h=>h) ?_
  refine VC.keep (ρ':=[(6,.bool (decide (((aHM - (qP.b.l.length:Int))+n_2)≤aD.cK)))]) [6] rfl ?_
  cases hS
  exact VC.ret (Z1 ())
 replace hS:=a4c h29 hS
 refine Zd ?_
 refine Zd ?_
 refine Zd ?_
 refine Zd ?_
 refine Zd ?_
 refine Zi rfl (gL rfl rfl) ?_
 refine Zw rfl (gL rfl rfl) ?_
 refine Zw rfl (bB rfl) ?_
 refine Zi rfl (bB rfl) ?_
 refine Zi rfl (aF rfl) ?_
 refine Zi rfl (aB tT rfl) ?_
 refine Zi rfl (aL zD rfl rfl) ?_
 refine Zi rfl (aB LH rfl) ?_
 refine Zi rfl (aL qR rfl rfl) ?_
 refine Zi rfl (eB (s:=qP.b) Tryz.underlying35 rfl) ?_
 refine Zi rfl (bB rfl) ?_
 refine Zi rfl (bB rfl) ?_
 refine Zi rfl (aF rfl) ?_
 refine Zi rfl (aB UT rfl) ?_
 refine Zi rfl (aL fL rfl rfl) ?_
 refine VD.aEF rfl rfl rfl ?_
 refine VL.guard rfl rfl ?_
 obtain ⟨aHN,a0q,hS⟩:=aO hS
 refine VL.bL (Y8 aD.files a0q) rfl (by decide) ?_
 rintro _ _
 try dsimp only
 refine jS [(34,i64 aD.cK),(33,ptr bV 3),(32,ptr bV 0),(31,ptr bV 0),(29,i64 n_2),(27,i64 (qP.b.l.length:Int)),(26,qP.b.val),(25,ptr aHp 3)] (aI.mB rfl rfl rfl (aL fL rfl rfl) (aI.mB rfl rfl rfl (aB UT rfl) (aI.mB rfl rfl rfl (aF rfl) (aI.mB rfl rfl rfl (bB rfl) (aI.mB rfl rfl rfl (bB rfl) (aI.mB rfl rfl rfl (eB (s:=qP.b) Tryz.underlying35 rfl) (aI.mB rfl rfl rfl (aL qR rfl rfl) (aI.mB rfl rfl rfl (aB LH rfl) aI.nil)))))))) ?_
 obtain ⟨b46,hS⟩:=bU hS
 refine Zi rfl (zI rfl rfl b46) ?_
 obtain ⟨b48,hS⟩:=bU hS
 refine Zi rfl (cR rfl rfl b48) ?_
 refine Zi rfl (L8 rfl rfl) ?_
 refine Zw rfl (gL rfl rfl) ?_
 refine Zw rfl (gI rfl) ?_
 refine VD.to (fun _ _ h=>h) ?_
 refine VC.keep (ρ':=[(6,.bool (decide (((aHN - (qP.b.l.length:Int))+n_2)≤aD.cK)))]) [6] rfl ?_
 cases hS
 exact VC.ret (Z1 ())
theorem QO (bV:Nat) (aD:eL) (p_1:aK) (gK:Int) (wW:Sv UInt8) {r:Int} (hS:Sh.AM aD.pl p_1 gK wW.l=some r) :
 Ct Tryz.prog 24 [ptr bV 0,str p_1,i64 gK,wW.val] ((jX aD.kept.l).and ((jX aD.files.l).and ((mH aD.pending.l).and (aD.keep.ok.and wW.ok)))) (Ow.star (eP Tryz.prog 9 aD.kept.b aD.kept.l) (Ow.star (eP Tryz.prog 9 aD.files.b aD.files.l) (Ow.star (Sv.own aD.pending 98) (bE bV [.map (some aD.kept.b),.map (some aD.files.b),aD.pending.val,i64 aD.cK,i64 aD.now,i64 aD.bX,i64 aD.ops,.bool aD.off,.bool aD.cS,i64 aD.left,aD.keep.val] 93)))) (X:=Unit) (fun _=>i64 r) (fun _=>True) (fun _=>Mo.tt) (fun _=>Ow.star (bE bV [.map (some aD.kept.b),.map (some aD.files.b),aD.pending.val,i64 aD.cK,i64 aD.now,i64 aD.bX,i64 aD.ops,.bool aD.off,.bool aD.cS,i64 aD.left,aD.keep.val] 93) (Ow.star (eP Tryz.prog 9 aD.kept.b aD.kept.l) (Ow.star (eP Tryz.prog 9 aD.files.b aD.files.l) (Sv.own aD.pending 98)))):=by
 refine Zo Tryz.func24 Tryz.ntmps24 fun c => ?_
 unfold Sh.AM at hS
 refine Zq (Zr (Zy ?_))
 refine Zq (Zq (Zr (Zm (Zu (aF rfl) (Zu (aB II rfl) (Zu (aL lK rfl rfl) ?_))))))
 refine Zl ?_
 refine gR hS (fun h13 hS => ?_) (fun h13 hS => ?_)
 ·
  refine Zq ?_
  cases hS
 refine Zk ?_
 refine Zq (Zq (Zr (Zm ?_)))
 obtain ⟨S8,aJV,hS⟩:=aO hS
 refine Zu (cH (xV p_1 aJV) rfl (fun _ _=>rfl)) ?_
 refine Zy ?_
 refine VC.keep (ρ':=[(0,ptr bV 0),(1,str p_1),(2,i64 gK),(3,wW.val),(9,i64 S8)]) [0,1,2,3,9] rfl ?_
 refine Zq (Zr (Zm (Zu (lF rfl rfl) ?_)))
 refine Zl ?_
 refine o3 hS (fun h17 hS => ?_) (fun h17 hS => ?_)
 ·
  refine Zq ?_
  cases hS
 refine Zk ?_
 refine Zq (Zb (Zq (Zr (Zm (Zu (eB (s:=wW) Tryz.underlying35 rfl) (Zu (lE rfl rfl) (Zy ?_)))))))
 refine Zc hS (fun h19 hS => ?_) (fun h19 hS => ?_)
 ·
  refine Zq ?_
  cases hS
 refine VC.gN (S:=Bool) (fun (WU:Bool)=>WU) (fun (WU:Bool)=>[(0,ptr bV 0),(1,str p_1),(3,wW.val),(23,.bool WU)]) (fun (WU:Bool)=>Mo.tt) (fun (WU:Bool)=>Ow.star (bE bV [.map (some aD.kept.b),.map (some aD.files.b),aD.pending.val,i64 aD.cK,i64 aD.now,i64 aD.bX,i64 aD.ops,.bool aD.off,.bool aD.cS,i64 aD.left,aD.keep.val] 93) (Ow.star (eP Tryz.prog 9 aD.kept.b aD.kept.l) (Ow.star (eP Tryz.prog 9 aD.files.b aD.files.l) (Ow.star (Sv.own aD.pending 98) (Ow.emp))))) hS ?_ ?_
 ·
  clear hS
  intro k3 hS
  refine Zr (Zm (Zu (lF rfl rfl) (Zm ?_)))
  refine MW 26 hS (fun h26 hS => ?_) (fun h26 hS => ?_)
  ·
   refine Zg ?_
   refine Zh (lF rfl rfl) ?_
   refine Zy ?_
   refine VL.mt (!decide (gK=2)) [0,1,3,23] (fun _ _ h=>h) hS rfl
  refine VL.runs 4 [(23,some false)] (by kernel_rfl) ?_
  refine VL.mt false [0,1,3,23] (fun _ _ h=>h) hS rfl
 clear hS
 rintro WU hS
 refine gR hS (fun h23 hS => ?_) (fun h23 hS => ?_)
 ·
  refine Zq ?_
  cases hS
 refine Zq (Zr (Zm (Zu (aF rfl) (Zu (aB tT rfl) (Zu (aL zD rfl rfl) (Zm ?_))))))
 obtain ⟨aDx,aJb,hS⟩:=aO hS
 refine VL.bL (D3 aD.files p_1 [] aJb) rfl (by decide) ?_
 rintro _ _
 try dsimp only
 refine Zy ?_
 refine VC.keep (ρ':=[(0,ptr bV 0),(1,str p_1),(3,wW.val),(30,.bool aDx)]) [0,1,3,30] rfl ?_
 refine gR hS (fun h30 hS => ?_) (fun h30 hS => ?_)
 ·
  refine Zq ?_
  cases hS
 refine Zq (Zr (Zy ?_))
 refine Zu (eB (s:=wW) Tryz.underlying35 rfl) ?_
 obtain ⟨aPY,a0r,hS⟩:=aO hS
 refine VL.bL (aCY bV aD p_1 (wW.l.length:Int) a0r) rfl (by decide) ?_
 rintro _ _
 try dsimp only
 refine Zu (jE rfl) (Zy ?_)
 refine VC.keep (ρ':=[(37,.bool (!aPY))]) [37] rfl ?_
 refine gR hS (fun h37 hS => ?_) (fun h37 hS => ?_)
 ·
  refine Zq ?_
  cases hS
 refine Zk ?_
 refine Zq (Zr (Zy ?_))
 cases hS
 exact VC.ret (Z1 ())
theorem QS (bV:Nat) (aD:eL) (p_1:aK) (gK:Int) (wW:Sv UInt8) {r:mN×cB} (hS:Sh.AN aD.pl p_1 gK wW.l=some r) :
 Ct Tryz.prog 26 [ptr bV 0,str p_1,i64 gK,wW.val] ((jX aD.kept.l).and ((jX aD.files.l).and ((mH aD.pending.l).and (aD.keep.ok.and wW.ok)))) (Ow.star (eP Tryz.prog 9 aD.kept.b aD.kept.l) (Ow.star (eP Tryz.prog 9 aD.files.b aD.files.l) (Ow.star (Sv.own aD.pending 98) (bE bV [.map (some aD.kept.b),.map (some aD.files.b),aD.pending.val,i64 aD.cK,i64 aD.now,i64 aD.bX,i64 aD.ops,.bool aD.off,.bool aD.cS,i64 aD.left,aD.keep.val] 93)))) (X:=gM×eL) (fun x => .agg (bM.enc x.1).toArray) (fun x=>r=(x.1.pl,x.2.pl)) (fun x=>(x.1.m.and ((mH x.2.pending.l).and x.2.keep.ok))) (fun x=>Ow.star (bE bV [.map (some aD.kept.b),.map (some aD.files.b),x.2.pending.val,i64 x.2.cK,i64 x.2.now,i64 x.2.bX,i64 x.2.ops,.bool x.2.off,.bool x.2.cS,i64 x.2.left,x.2.keep.val] 93) (Ow.star (eP Tryz.prog 9 aD.kept.b aD.kept.l) (Ow.star (eP Tryz.prog 9 aD.files.b aD.files.l) (Sv.own x.2.pending 98)))):=by
 refine Zo Tryz.func26 Tryz.ntmps26 fun c => ?_
 unfold Sh.AN at hS
 refine Zq (Zr ?_)
 refine gV [i64 0,str [],str [],i64 0,i64 0,i64 0,.slice none 0 0] fun K2 => ?_
 refine Zl ?_
 refine Zq (Zr (Zm (Zu (aF rfl) (Zu (aB tT rfl) (Zu (aL zD rfl rfl) (Zm ?_))))))
 obtain ⟨b17,hS⟩:=bU hS
 obtain ⟨sW,aO9,aB9,hS⟩:=aDS (g:=cU.pl) (z0:=(⟨0,0,0,(⟨none,0,[]⟩:Sv UInt8)⟩:cU)) hS
 refine VL.aDT sW.b.ok aB9 (fun h=>fQ.out (M:=Mo.tt) (X:=((⟨none,0,[]⟩:Sv UInt8).ok)) h trivial) (fun _ q=>q) ?_
 refine Zu (KS (b:=aD.files.b) (l:=aD.files.l) (a0:=p_1) (v := .agg #[i64 sW.mode,i64 sW.time,i64 sW.mI,sW.b.val]) (⟨0,0,0,(⟨none,0,[]⟩:Sv UInt8)⟩:cU) (Maps.string_keyed Tryz.underlying9) Tryz.underlying90 aDL rfl rfl (NB Tryz.underlying9 b17) aB9 rfl) ?_
 refine Zm (Zu (aV rfl rfl) (Zu (aV rfl rfl) ?_))
 refine gV [i64 0,i64 0,i64 0,.slice none 0 0] fun aAv => ?_
 refine Zv (cs':=[i64 sW.mode,i64 sW.time,i64 sW.mI,sW.b.val]) rfl OD ?_
 refine Zy ?_
 refine VC.keep (ρ':=[(0,ptr bV 0),(1,str p_1),(2,i64 gK),(3,wW.val),(8,ptr K2 0),(9,ptr aAv 0),(10,.bool aO9)]) [0,1,2,3,8,9,10] rfl ?_
 refine VC.gN (S:=Int×Int) (fun sg=>(sg.1,sg.2)) (fun sg=>[(0,ptr bV 0),(1,str p_1),(2,i64 gK),(3,wW.val),(8,ptr K2 0),(9,ptr aAv 0)]) (fun sg=>Mo.tt) (fun sg=>Ow.star (bE aAv [i64 sW.mode,i64 sW.time,i64 sg.1,sW.b.val] 96) (Ow.star (bE K2 [i64 0,str [],str [],i64 0,i64 0,i64 0,.slice none 0 0] 98) (Ow.star (bE bV [.map (some aD.kept.b),.map (some aD.files.b),aD.pending.val,i64 aD.cK,i64 aD.now,i64 sg.2,i64 aD.ops,.bool aD.off,.bool aD.cS,i64 aD.left,aD.keep.val] 93) (Ow.star (eP Tryz.prog 9 aD.kept.b aD.kept.l) (Ow.star (eP Tryz.prog 9 aD.files.b aD.files.l) (Ow.star (Sv.own aD.pending 98) (Ow.emp))))))) hS ?_ ?_
 ·
  clear hS
  intro k6 hS
  refine Zq (Zr (Zm (Zu (jE rfl) ?_)))
  refine Zl ?_
  refine gR hS (fun h21 hS => ?_) (fun h21 hS => ?_)
  ·
   refine Zq (Zr (Zm (Zu (aF rfl) (Zu (aB aFl rfl) (Zu (aL fL rfl rfl) ?_)))))
   obtain ⟨b26,hS⟩:=bU hS
   refine Zu (cR rfl rfl b26) (Zu (aF rfl) (Zu (aB aFl rfl) ?_))
   refine Zv (cs':=[.map (some aD.kept.b),.map (some aD.files.b),aD.pending.val,i64 aD.cK,i64 aD.now,i64 (aD.bX+1),i64 aD.ops,.bool aD.off,.bool aD.cS,i64 aD.left,aD.keep.val]) rfl DE ?_
   refine Zl ?_
   refine VC.keep (ρ':=[(0,ptr bV 0),(1,str p_1),(2,i64 gK),(3,wW.val),(8,ptr K2 0),(9,ptr aAv 0)]) [0,1,2,3,8,9] rfl ?_
   refine Zr (Zm (Zu (aF rfl) (Zu (aB aFl rfl) (Zu (aL fL rfl rfl) (Zu (aB aB3 rfl) ?_)))))
   refine Zv (cs':=[i64 sW.mode,i64 sW.time,i64 (aD.bX+1),sW.b.val]) rfl DE ?_
   refine VL.mt ((aD.bX+1),(aD.bX+1)) [0,1,2,3,8,9] (fun _ _ h=>h) hS rfl
  refine VC.iV (sW.mI,aD.bX) [0,1,2,3,8,9] (fun _ _ h=>h) hS rfl
 clear hS
 rintro ⟨YX,aU4⟩ hS
 refine Zq ?_
 refine l9 [(0,true),(1,true),(2,true),(3,true),(4,true),(5,true),(6,true),(7,true),(8,true),(9,false),(10,true),(11,true),(12,false)] ?_
 refine Zw rfl (bB rfl) ?_
 refine Zw rfl (bB rfl) ?_
 refine Zw rfl (bB rfl) ?_
 refine Zw rfl (aF rfl) ?_
 refine Zw rfl (aB aL9 rfl) ?_
 refine Zw rfl (aL fL rfl rfl) ?_
 refine Zw rfl (aB aB3 rfl) ?_
 refine Zw rfl (aL fL rfl rfl) ?_
 refine Zw rfl (bB rfl) ?_
 refine VD.one rfl ?_
 obtain ⟨aZY,a0t,hS⟩:=aO hS
 refine VL.bL (nZ wW a0t) rfl (by decide) ?_
 rintro IY rfl
 try dsimp only
 refine jS [(7,i64 YX),(6,ptr aAv 2),(5,i64 aD.now),(4,ptr bV 4),(3,ptr bV 0)] (aI.cons rfl (aL fL rfl rfl) (aI.cons rfl (aB aB3 rfl) (aI.cons rfl (aL fL rfl rfl) (aI.cons rfl (aB aL9 rfl) (aI.cons rfl (aF rfl) aI.nil))))) ?_
 refine Zw rfl (fR (vs:=[(0,i64 gK),(1,i64 aD.now),(2,i64 YX),(3,IY.val)]) (cs := #[i64 gK,i64 aD.now,i64 YX,IY.val]) rfl (by kernel_rfl)) ?_
 refine Zw rfl (fR (vs:=[(0,i64 1),(1,str p_1),(3,.agg #[i64 gK,i64 aD.now,i64 YX,IY.val])]) (cs := #[i64 1,str p_1,str [],i64 gK,i64 aD.now,i64 YX,IY.val]) rfl (by kernel_rfl)) ?_
 refine VD.one rfl ?_
 refine Zv (cs':=[i64 1,str p_1,str [],i64 gK,i64 aD.now,i64 YX,IY.val]) rfl aO4 ?_
 refine jH ?_
 refine VD.to (fun _ _ h=>h) ?_
 refine VC.keep (ρ':=[(8,ptr K2 0)]) [8] rfl ?_
 refine VC.shut IY 5 (fun _ _ _ _=>trivial) ?_
 cases hS
 exact VC.ret (Z3 (⟨1,p_1,[],gK,aD.now,YX,IY⟩,⟨aD.kept,aD.files,aD.pending,aD.cK,aD.now,aU4,aD.ops,aD.off,aD.cS,aD.left,aD.keep⟩) [.agg #[i64 1,str p_1,str [],i64 gK,i64 aD.now,i64 YX,IY.val]] (fI.cell aE2 rfl rfl Rd.blk (fI.nil)))
theorem TZ (fF:Mh cU) (jJ:gM) {r:Bool×(List (aK×Option fS))} (hS:Sh.rK (IP cU.pl fF.l) jJ.pl=some r) :
 Ct Tryz.prog 25 [.map (some fF.b),.agg #[i64 jJ.kind,str jJ.path,str jJ.O5,i64 jJ.cN,i64 jJ.oF,i64 jJ.mW,jJ.rH.val]] ((jX fF.l).and jJ.rH.ok) (eP Tryz.prog 9 fF.b fF.l) (X:=Bool×(List (aK×Option cU))) (fun x => .bool x.1) (fun x=>r=(x.1,(IP cU.pl x.2))) (fun x=>(jX x.2)) (fun x=>eP Tryz.prog 9 fF.b x.2):=by
 refine Zo Tryz.func25 Tryz.ntmps25 fun c => ?_
 unfold Sh.rK at hS
 refine Zq (Zr ?_)
 refine kQ [i64 jJ.kind,str jJ.path,str jJ.O5,i64 jJ.cN,i64 jJ.oF,i64 jJ.mW,jJ.rH.val] fun jC => ?_
 refine Zy ?_
 refine Zq (Zr (Zm (Zu (aB UU rfl) (Zu (aL cQ rfl rfl) ?_))))
 obtain ⟨b11,hS⟩:=bU hS
 obtain ⟨rF,OE,aPu,hS⟩:=aDS (g:=cU.pl) (z0:=(⟨0,0,0,(⟨none,0,[]⟩:Sv UInt8)⟩:cU)) hS
 refine VL.aDT rF.b.ok aPu (fun h=>fQ.out (M:=Mo.tt) (X:=((⟨none,0,[]⟩:Sv UInt8).ok)) h trivial) (fun _ q=>q) ?_
 refine Zu (KS (b:=fF.b) (l:=fF.l) (a0:=jJ.path) (v := .agg #[i64 rF.mode,i64 rF.time,i64 rF.mI,rF.b.val]) (⟨0,0,0,(⟨none,0,[]⟩:Sv UInt8)⟩:cU) (Maps.string_keyed Tryz.underlying9) Tryz.underlying90 aDL rfl rfl (NB Tryz.underlying9 b11) aPu rfl) ?_
 refine Zm (Zu (aV rfl rfl) (Zu (aV rfl rfl) ?_))
 refine gV [i64 0,i64 0,i64 0,.slice none 0 0] fun UB => ?_
 refine Zv (cs':=[i64 rF.mode,i64 rF.time,i64 rF.mI,rF.b.val]) rfl OD ?_
 refine Zy ?_
 refine VC.keep (ρ':=[(0,.map (some fF.b)),(3,ptr jC 0),(5,ptr UB 0),(6,.bool OE)]) [0,3,5,6] rfl ?_
 refine Zq (Zq (Zr (Zu (aB aW1 rfl) (Zu (aL fL rfl rfl) ?_))))
 refine Zl ?_
 refine Zb ?_
 refine VC.gN (S:=(List (aK×Option cU))) (fun (Y2:List (aK×Option cU))=>(IP cU.pl Y2)) (fun (Y2:List (aK×Option cU))=>[(0,.map (some fF.b)),(3,ptr jC 0),(6,.bool OE)]) (fun (Y2:List (aK×Option cU))=>(jX Y2)) (fun (Y2:List (aK×Option cU))=>Ow.star (bE UB [i64 rF.mode,i64 rF.time,i64 rF.mI,rF.b.val] 96) (Ow.star (bE jC [i64 jJ.kind,str jJ.path,str jJ.O5,i64 jJ.cN,i64 jJ.oF,i64 jJ.mW,jJ.rH.val] 98) (Ow.star (eP Tryz.prog 9 fF.b Y2) (Ow.emp)))) hS ?_ ?_
 ·
  clear hS
  intro k5 hS
  refine Zb (Zq (Zb (Zq (Zb (Zq (Zq (Zq (Zr (Zu (iI rfl rfl) (Zy ?_))))))))))
  refine Zc hS (fun h16 hS => ?_) (fun h16 hS => ?_)
  ·
   refine Zx ?_
   refine Zq (Zq (Zq (Zr (Zm (Zu (aB UU rfl) (Zu (aL cQ rfl rfl) ?_))))))
   obtain ⟨aPN,a0U,hS⟩:=aO hS
   refine VL.bL (D3 fF jJ.path [] a0U) rfl (by decide) ?_
   rintro _ _
   try dsimp only
   refine Zl ?_
   refine VC.keep (ρ':=[(0,.map (some fF.b)),(3,ptr jC 0),(25,.bool aPN)]) [0,3,25] rfl ?_
   refine gR hS (fun h25 hS => ?_) (fun h25 hS => ?_)
   ·
    refine Zq ?_
    cases hS
   refine Zk ?_
   refine Zq (Zr (Zm (Zu (aB UU rfl) (Zu (aL cQ rfl rfl) (Zu (aB aW2 rfl) (Zu (ON (j:=3) (n:=4) aBY rfl rfl rfl) ?_))))))
   obtain ⟨bs5,hS⟩:=bU hS
   refine VL.aDh (b:=fF.b) (l:=fF.l) (a0:=jJ.path) (y0:=(⟨jJ.cN,jJ.oF,jJ.mW,jJ.rH⟩:cU)) (.inl rfl) (Maps.string_keyed Tryz.underlying9) Tryz.underlying90 Fo.out rfl rfl rfl (NB Tryz.underlying9 bs5.2) (aXg bs5.1) (fun h m=>fQ.out (X:=jJ.rH.ok) h m) fun a58 a1V => ?_
   replace hS:=bW (aOg (g:=cU.pl) a1V) hS
   refine Zl ?_
   refine Zq (Zr (Zy ?_))
   cases hS
   exact VC.ret (Z1 (true,a58))
  refine Zk ?_
  refine Zq (Zq (Zr (Zu (iI rfl rfl) (Zy ?_))))
  refine Zc hS (fun h18 hS => ?_) (fun h18 hS => ?_)
  ·
   refine Zx ?_
   refine Zq ?_
   refine VC.gN (S:=Bool) (fun (W7:Bool)=>W7) (fun (W7:Bool)=>[(0,.map (some fF.b)),(3,ptr jC 0),(5,ptr UB 0),(6,.bool OE),(40,.bool W7)]) (fun (W7:Bool)=>Mo.tt) (fun (W7:Bool)=>Ow.star (bE UB [i64 rF.mode,i64 rF.time,i64 rF.mI,rF.b.val] 96) (Ow.star (bE jC [i64 jJ.kind,str jJ.path,str jJ.O5,i64 jJ.cN,i64 jJ.oF,i64 jJ.mW,jJ.rH.val] 98) (Ow.star (eP Tryz.prog 9 fF.b fF.l) (Ow.emp)))) hS ?_ ?_
   ·
    clear hS
    intro k10 hS
    refine Zr (Zm (Zu (jE rfl) (Zm ?_)))
    refine xJ 33 hS (fun h33 hS => ?_) (fun h33 hS => ?_)
    ·
     refine VL.runs 7 [(40,some true)] (by kernel_rfl) ?_
     refine VL.mt true [0,3,5,6,40] (fun _ _ h=>h) hS rfl
    refine Zg ?_
    refine Zh (aB aLc rfl) ?_
    refine Zh (aL cQ rfl rfl) ?_
    refine Zh (aB UU rfl) ?_
    refine Zh (aL cQ rfl rfl) ?_
    refine VL.guard rfl rfl ?_
    obtain ⟨YF,aFY,hS⟩:=aO hS
    refine VL.bL (D3 fF jJ.O5 jJ.path aFY) rfl (by decide) ?_
    rintro _ _
    try dsimp only
    refine Zf ?_
    refine VL.mt YF [0,3,5,6,40] (fun _ _ h=>h) hS rfl
   clear hS
   rintro W7 hS
   refine gR hS (fun h40 hS => ?_) (fun h40 hS => ?_)
   ·
    refine Zq ?_
    cases hS
   refine Zk ?_
   refine Zr (Zm (Zu (aB aLc rfl) (Zu (aL cQ rfl rfl) (Zu (cJ aBY rfl rfl) ?_))))
   obtain ⟨bs4,hS⟩:=bU hS
   refine VL.aDh (b:=fF.b) (l:=fF.l) (a0:=jJ.O5) (y0:=(⟨rF.mode,rF.time,rF.mI,rF.b⟩:cU)) (.inl rfl) (Maps.string_keyed Tryz.underlying9) Tryz.underlying90 Fo.out rfl rfl rfl (NB Tryz.underlying9 bs4.2) (aXg bs4.1) (fun h m=>fQ.out (X:=rF.b.ok) h m) fun a2O aWj => ?_
   replace hS:=bW (aOg (g:=cU.pl) aWj) hS
   refine VL.mt a2O [0,3,6] (fun _ _ h=>h) hS rfl
  refine Zk ?_
  refine Zq (Zr (Zu (iI rfl rfl) (Zy ?_)))
  refine VC.keep (ρ':=[(0,.map (some fF.b)),(3,ptr jC 0),(6,.bool OE),(20,.bool (decide (jJ.kind=3)))]) [0,3,6,20] rfl ?_
  refine Zc hS (fun h20 hS => ?_) (fun h20 hS => ?_)
  ·
   refine VC.fM fF.l [0,3,6] (fun _ _ h=>h) hS rfl
  refine Zk ?_
  refine Zx ?_
  refine Zq (Zr (Zy ?_))
  cases hS
  exact VC.ret (Z1 (OE,fF.l))
 clear hS
 rintro Y2 hS
 refine Zq (Zr (Zm (Zu (aB UU rfl) (Zu (aL cQ rfl rfl) ?_))))
 obtain ⟨bs3,hS⟩:=bU hS
 refine VL.aZm (b:=fF.b) (l:=Y2) (a0:=jJ.path) (Maps.string_keyed Tryz.underlying9) Tryz.underlying90 Fo.out rfl (NB Tryz.underlying9 bs3) fun a2M aWh => ?_
 replace hS:=bW (aOg (g:=cU.pl) aWh) hS
 refine Zl ?_
 refine Zx ?_
 refine Zq (Zr (Zy ?_))
 cases hS
 exact VC.ret (Z1 (OE,a2M))
theorem NR (bV:Nat) (aD:eL) {r:cB} (hS:Sh.yD aD.pl=some r) :
 Ct Tryz.prog 27 [ptr bV 0] ((jX aD.kept.l).and ((jX aD.files.l).and ((mH aD.pending.l).and aD.keep.ok))) (Ow.star (eP Tryz.prog 9 aD.kept.b aD.kept.l) (Ow.star (eP Tryz.prog 9 aD.files.b aD.files.l) (Ow.star (Sv.own aD.pending 98) (bE bV [.map (some aD.kept.b),.map (some aD.files.b),aD.pending.val,i64 aD.cK,i64 aD.now,i64 aD.bX,i64 aD.ops,.bool aD.off,.bool aD.cS,i64 aD.left,aD.keep.val] 93)))) (X:=eL) (fun x => .tuple #[]) (fun x=>r=x.pl) (fun x=>((jX x.kept.l).and ((mH x.pending.l).and x.keep.ok))) (fun x=>Ow.star (bE bV [.map (some x.kept.b),.map (some aD.files.b),x.pending.val,i64 x.cK,i64 x.now,i64 x.bX,i64 x.ops,.bool x.off,.bool x.cS,i64 x.left,x.keep.val] 93) (Ow.star (eP Tryz.prog 9 x.kept.b x.kept.l) (Ow.star (eP Tryz.prog 9 aD.files.b aD.files.l) (Sv.own x.pending 98)))):=by
 refine Zo Tryz.func27 Tryz.ntmps27 fun c => ?_
 unfold Sh.yD at hS
 refine Zr (Zy ?_)
 refine Zu (aF rfl) (Zu (aB tT rfl) (Zu (aL zD rfl rfl) ?_))
 refine VL.bL (Ct.aLO (β:=cU) (k:=9) (b:=aD.files.b) (l:=aD.files.l) (AB Tryz.func49 rfl (by kernel_rfl)) Tryz.Y3) rfl (by decide) ?_
 intro B8_1 _
 try dsimp only
 refine Zu (aF rfl) (Zu (aB aL8 rfl) ?_)
 refine Zv (cs':=[.map (some B8_1),.map (some aD.files.b),aD.pending.val,i64 aD.cK,i64 aD.now,i64 aD.bX,i64 aD.ops,.bool aD.off,.bool aD.cS,i64 aD.left,aD.keep.val]) rfl aWb ?_
 refine Zu (aF rfl) (Zu (aB PT rfl) ?_)
 refine Zv (cs':=[.map (some B8_1),.map (some aD.files.b),.slice none 0 0,i64 aD.cK,i64 aD.now,i64 aD.bX,i64 aD.ops,.bool aD.off,.bool aD.cS,i64 aD.left,aD.keep.val]) rfl aO3 ?_
 refine VL.nU (⟨none,0,[]⟩:Sv gM) 98 ⟨rfl,rfl⟩ ?_
 refine VL.JD (s:=(⟨none,0,[]⟩:Sv gM)) rfl ?_
 refine VL.SI bV (cs':=[.map (some B8_1),.map (some aD.files.b),(⟨none,0,[]⟩:Sv gM).val,i64 aD.cK,i64 aD.now,i64 aD.bX,i64 aD.ops,.bool aD.off,.bool aD.cS,i64 aD.left,aD.keep.val]) rfl ?_
 cases hS
 exact VL.nil (pZ (.inl rfl) rfl ⟨(Mh.mk B8_1 aD.files.l),aD.files,(⟨none,0,[]⟩:Sv gM),aD.cK,aD.now,aD.bX,aD.ops,aD.off,aD.cS,aD.left,aD.keep⟩ rfl rfl (by (try dsimp only); exact fQ.out) (by (try dsimp only); exact iY.out))
theorem NN (bV:Nat) (aD:eL) (p_1:aK) (gK:Int) (wW:Sv UInt8) {r:Int×cB} (hS:Sh.uA aD.pl p_1 gK wW.l=some r) :
 Ct Tryz.prog 7 [ptr bV 0,str p_1,i64 gK,wW.val] ((jX aD.kept.l).and ((jX aD.files.l).and ((mH aD.pending.l).and (aD.keep.ok.and wW.ok)))) (Ow.star (eP Tryz.prog 9 aD.kept.b aD.kept.l) (Ow.star (eP Tryz.prog 9 aD.files.b aD.files.l) (Ow.star (Sv.own aD.pending 98) (bE bV [.map (some aD.kept.b),.map (some aD.files.b),aD.pending.val,i64 aD.cK,i64 aD.now,i64 aD.bX,i64 aD.ops,.bool aD.off,.bool aD.cS,i64 aD.left,aD.keep.val] 93)))) (X:=Int×eL) (fun x=>i64 x.1) (fun x=>r=(x.1,x.2.pl)) (fun x=>((jX x.2.kept.l).and ((jX x.2.files.l).and ((mH x.2.pending.l).and x.2.keep.ok)))) (fun x=>Ow.star (bE bV [.map (some x.2.kept.b),.map (some x.2.files.b),x.2.pending.val,i64 x.2.cK,i64 x.2.now,i64 x.2.bX,i64 x.2.ops,.bool x.2.off,.bool x.2.cS,i64 x.2.left,x.2.keep.val] 93) (Ow.star (eP Tryz.prog 9 x.2.kept.b x.2.kept.l) (Ow.star (eP Tryz.prog 9 x.2.files.b x.2.files.l) (Sv.own x.2.pending 98)))):=by
 refine Zo Tryz.func7 Tryz.ntmps7 fun c => ?_
 unfold Sh.uA at hS
 refine Zq (Zr (Zy ?_))
 refine Zq (Zq (Zr (Zy ?_)))
 obtain ⟨C8,RR,hS⟩:=aO hS
 refine VL.bL (QO bV aD p_1 gK wW RR) rfl (by decide) ?_
 rintro _ _
 try dsimp only
 refine Zy ?_
 refine Zq (Zr (Zm (Zu (lF rfl rfl) ?_)))
 refine Zl ?_
 refine VC.keep (ρ':=[(0,ptr bV 0),(1,str p_1),(2,i64 gK),(3,wW.val),(9,i64 C8),(16,.bool (!decide (C8=0)))]) [0,1,2,3,9,16] rfl ?_
 refine o3 hS (fun h16 hS => ?_) (fun h16 hS => ?_)
 ·
  refine Zq ?_
  cases hS
 refine Zk ?_
 refine Zq ?_
 refine l9 [(0,true),(1,true),(2,true),(3,true),(4,true),(5,true),(6,true),(7,true),(8,false),(9,false)] ?_
 refine Zw rfl (bB rfl) ?_
 refine Zw rfl (aF rfl) ?_
 refine Zw rfl (aB tT rfl) ?_
 refine Zw rfl (aL zD rfl rfl) ?_
 refine Zw rfl (bB rfl) ?_
 refine Zw rfl (bB rfl) ?_
 refine Zw rfl (bB rfl) ?_
 refine Zw rfl (bB rfl) ?_
 refine VD.one rfl ?_
 obtain ⟨MS,a0V,hS⟩:=aO hS
 refine VL.bL (QS bV aD p_1 gK wW a0V) rfl (by decide) ?_
 rintro ⟨aYK,GF⟩ rfl
 try dsimp only
 refine jS [(3,.map (some aD.files.b)),(2,ptr bV 1),(1,ptr bV 0)] (aI.cons rfl (aL zD rfl rfl) (aI.cons rfl (aB tT rfl) (aI.cons rfl (aF rfl) aI.nil))) ?_
 refine VD.one rfl ?_
 obtain ⟨TD,aBR,hS⟩:=aO hS
 refine VL.bL (TZ aD.files aYK aBR) rfl (by decide) ?_
 rintro ⟨QF,aND⟩ rfl
 try dsimp only
 refine jH ?_
 refine VD.to (fun _ _ h=>h) ?_
 refine VC.keep (ρ':=[(0,ptr bV 0)]) [0] rfl ?_
 refine Zq (Zr (Zm ?_))
 obtain ⟨MT,a03,hS⟩:=aO hS
 refine VL.bL (NR bV (⟨aD.kept,(Mh.mk aD.files.b aND),GF.pending,GF.cK,GF.now,GF.bX,GF.ops,GF.off,GF.cS,GF.left,GF.keep⟩:eL) a03) rfl (by decide) ?_
 rintro DL rfl
 try dsimp only
 refine Zl ?_
 refine Zq (Zr (Zy ?_))
 cases hS
 exact VC.ret (Z1 (0,⟨DL.kept,(Mh.mk aD.files.b aND),DL.pending,DL.cK,DL.now,DL.bX,DL.ops,DL.off,DL.cS,DL.left,DL.keep⟩))
theorem BD (aA:Sv iO) {r:List iO} (hS:Sh.jR aA.l=some r) :
 Ct Tryz.prog 41 [aA.val] aA.ok (Ow.emp) (X:=Sv iO) (fun x=>x.val) (fun x=>r=x.l) (fun x=>x.ok) (fun x=>Ow.emp):=by
 refine Zo Tryz.func41 Tryz.ntmps41 fun c => ?_
 unfold Sh.jR at hS
 refine Zq (Zr (Zy ?_))
 refine Zq (Zr (Zy ?_))
 refine Zu (eB (s:=aA) Tryz.underlying45 rfl) (Zm (Zu (eB (s:=aA) Tryz.underlying45 rfl) ?_))
 obtain ⟨b8,hS⟩:=bU hS
 refine VL.WG Tryz.underlying45 aAF rfl rfl rfl b8.1 (b8.2) (by decide) fun BY tU => ?_
 replace hS:=bW tU hS
 refine Zy ?_
 cases hS
 exact VC.ret (Z1 BY)
theorem aF8 (bZ:Sv aC) (b_1:Sv aC) {r:List iO} (hS:Sh.IC bZ.l b_1.l=some r) :
 Ct Tryz.prog 11 [bZ.val,b_1.val] (bZ.ok.and b_1.ok) (Ow.emp) (X:=Sv iO) (fun x=>x.val) (fun x=>r=x.l) (fun x=>x.ok) (fun x=>Ow.emp):=by
 refine Zo Tryz.func11 Tryz.ntmps11 fun c => ?_
 unfold Sh.IC at hS
 refine Zq (Zr (Zy ?_))
 refine Zq (Zr (Zy ?_))
 refine Zq (Zq (Zr (Zy ?_)))
 refine VL.lit (α:=Sv aC) (xs:=[.tmp 12,.tmp 13]) (vs:=[bZ.val,b_1.val]) [bZ,b_1] Tryz.underlying156 aE5 (by decide) rfl rfl rfl rfl (by decide) (fun h m=>List.forall_mem_cons.2 ⟨fQ.out (X:=bZ.ok) h m,List.forall_mem_cons.2 ⟨fQ.out (X:=b_1.ok) h m,fun _ h=>by cases h⟩⟩) (by decide) (fun a5y a14 => ?_) (by decide)
 replace hS:=bW (congrArg (List.map Sv.l) a14) hS
 obtain ⟨XB,aJW,hS⟩:=aO hS
 refine VL.bL (JB a5y aJW) rfl (by decide) ?_
 rintro pJ rfl
 try dsimp only
 refine Zu (eB (s:=pJ) Tryz.underlying39 rfl) (Zy ?_)
 refine Zb ?_
 refine VC.nU (⟨none,0,[]⟩:Sv iO) 50 ⟨rfl,rfl⟩ ?_
 refine VC.iter (S:=Sv iO×Int) (fun sg=>(sg.1.l,sg.2)) (fun sg=>[(0,bZ.val),(1,b_1.val),(5,sg.1.val),(15,pJ.val),(16,i64 (pJ.l.length:Int)),(17,i64 sg.2)]) (fun sg=>Mo.tt) (fun sg=>Ow.star (Sv.own pJ 9) (Ow.star (Sv.own sg.1 50) (Ow.emp))) (⟨none,0,[]⟩,0) [0,1,5,15,16,17] hS rfl ?_
 clear hS
 rintro ⟨jT,qD⟩ m1 y1 hS hK1
 refine Zq (Zr (Zu (dW rfl rfl) ?_))
 refine Zl ?_
 refine Zq ?_
 refine Zc hS (fun h18 hS => ?_) (fun h18 hS => ?_)
 ·
  refine Zk ?_
  refine Zq (Zb (Zq (Zr ?_)))
  obtain ⟨uN,aQg,aQE,hS⟩:=fA hS
  refine Zu (lN (s:=pJ) Tryz.underlying39 pU rfl rfl aQg (bH aQg aQE)) (Zu (AO (s:=pJ) 9 cQ rfl aQE rfl) (Zy ?_))
  refine Zq (Zr (Zy ?_))
  obtain ⟨zO,aJ5,hS⟩:=aO hS
  refine Zu (cH (lT bZ uN aJ5) rfl (fun _ _=>rfl)) ?_
  refine Zm (Zu (aV rfl rfl) (Zu (aV rfl rfl) ?_))
  refine gV [str [],i64 0,str []] fun a47 => ?_
  refine Zv (cs':=[str zO.1.path,i64 zO.1.mode,str zO.1.data]) rfl fC ?_
  refine Zy ?_
  refine VC.keep (ρ':=[(0,bZ.val),(1,b_1.val),(5,jT.val),(15,pJ.val),(16,i64 (pJ.l.length:Int)),(17,i64 qD),(7,str uN),(8,ptr a47 0),(9,.bool zO.2)]) [0,1,5,15,16,17,7,8,9] rfl ?_
  refine Zq (Zr (Zy ?_))
  obtain ⟨mZ,y8,hS⟩:=aO hS
  refine Zu (cH (lT b_1 uN y8) rfl (fun _ _=>rfl)) ?_
  refine Zm (Zu (aV rfl rfl) (Zu (aV rfl rfl) ?_))
  refine gV [str [],i64 0,str []] fun aZg => ?_
  refine Zv (cs':=[str mZ.1.path,i64 mZ.1.mode,str mZ.1.data]) rfl fC ?_
  refine Zy ?_
  refine Zb (Zq (Zr (Zm (Zu (jE rfl) (Zy ?_)))))
  refine VC.keep (ρ':=[(0,bZ.val),(1,b_1.val),(5,jT.val),(15,pJ.val),(16,i64 (pJ.l.length:Int)),(17,i64 qD),(7,str uN),(8,ptr a47 0),(10,ptr aZg 0),(11,.bool mZ.2),(33,.bool (!zO.2))]) [0,1,5,15,16,17,7,8,10,11,33] rfl ?_
  refine gR hS (fun h33 hS => ?_) (fun h33 hS => ?_)
  ·
   refine Zr (Zy ?_)
   refine Zu (fR (vs:=[(0,str uN),(1,str [65])]) (cs := #[str uN,str [65]]) rfl (by kernel_rfl)) ?_
   refine VL.lit (α:=iO) (xs:=[.tmp 38]) (vs:=[.agg #[str uN,str [65]]]) [⟨uN,[65]⟩] Tryz.underlying45 aJh (by decide) rfl rfl rfl rfl (by decide) (fun _ _ _ _=>trivial) (by decide) (fun a3D aWz => ?_) (by decide)
   replace hS:=bW aWz hS
   obtain ⟨b40,hS⟩:=bU hS
   refine VL.app (s:=jT) (r:=a3D) Tryz.underlying45 aJf (by decide) rfl Fo.out (wM b40) (wN b40 (by decide)) (by decide) (fun aRQ aXA => ?_)
   replace hS:=bW aXA hS
   refine Zy ?_
   refine VC.keep (ρ':=[(0,bZ.val),(1,b_1.val),(5,aRQ.val),(15,pJ.val),(16,i64 (pJ.l.length:Int)),(17,i64 qD)]) [0,1,5,15,16,17] rfl ?_
   refine Zr ?_
   obtain ⟨b58,hS⟩:=bU hS
   refine Zu (cR rfl rfl b58) (Zm ?_)
   refine VL.jU (aRQ,(qD+1)) [0,1,5,15,16,17] (fun _ _ h=>h) (go2 hS hK1) rfl
  refine Zq (Zr (Zm (Zu (jE rfl) (Zy ?_))))
  refine gR hS (fun h41 hS => ?_) (fun h41 hS => ?_)
  ·
   refine Zr (Zy ?_)
   refine Zu (fR (vs:=[(0,str uN),(1,str [68])]) (cs := #[str uN,str [68]]) rfl (by kernel_rfl)) ?_
   refine VL.lit (α:=iO) (xs:=[.tmp 46]) (vs:=[.agg #[str uN,str [68]]]) [⟨uN,[68]⟩] Tryz.underlying45 aJh (by decide) rfl rfl rfl rfl (by decide) (fun _ _ _ _=>trivial) (by decide) (fun a3H aXE => ?_) (by decide)
   replace hS:=bW aXE hS
   obtain ⟨b48,hS⟩:=bU hS
   refine VL.app (s:=jT) (r:=a3H) Tryz.underlying45 aJf (by decide) rfl Fo.out (wM b48) (wN b48 (by decide)) (by decide) (fun aRR aXG => ?_)
   replace hS:=bW aXG hS
   refine Zy ?_
   refine VC.keep (ρ':=[(0,bZ.val),(1,b_1.val),(5,aRR.val),(15,pJ.val),(16,i64 (pJ.l.length:Int)),(17,i64 qD)]) [0,1,5,15,16,17] rfl ?_
   refine Zr ?_
   obtain ⟨b58,hS⟩:=bU hS
   refine Zu (cR rfl rfl b58) (Zm ?_)
   refine VL.jU (aRR,(qD+1)) [0,1,5,15,16,17] (fun _ _ h=>h) (go2 hS hK1) rfl
  refine Zq (Zr (Zu (cJ kI rfl rfl) (Zu (cJ kI rfl rfl) (Zu (aG3 aPo (aPp zO.1.path zO.1.mode zO.1.data mZ.1.path mZ.1.mode mZ.1.data) rfl rfl) (Zy ?_)))))
  refine VC.keep (ρ':=[(0,bZ.val),(1,b_1.val),(5,jT.val),(15,pJ.val),(16,i64 (pJ.l.length:Int)),(17,i64 qD),(7,str uN),(49,.bool (!decide (zO.1.path=mZ.1.path∧zO.1.mode=mZ.1.mode∧zO.1.data=mZ.1.data)))]) [0,1,5,15,16,17,7,49] rfl ?_
  refine o3 hS (fun h49 hS => ?_) (fun h49 hS => ?_)
  ·
   refine Zr (Zy ?_)
   refine Zu (fR (vs:=[(0,str uN),(1,str [77])]) (cs := #[str uN,str [77]]) rfl (by kernel_rfl)) ?_
   refine VL.lit (α:=iO) (xs:=[.tmp 55]) (vs:=[.agg #[str uN,str [77]]]) [⟨uN,[77]⟩] Tryz.underlying45 aJh (by decide) rfl rfl rfl rfl (by decide) (fun _ _ _ _=>trivial) (by decide) (fun a3O aXO => ?_) (by decide)
   replace hS:=bW aXO hS
   obtain ⟨b57,hS⟩:=bU hS
   refine VL.app (s:=jT) (r:=a3O) Tryz.underlying45 aJf (by decide) rfl Fo.out (wM b57) (wN b57 (by decide)) (by decide) (fun aRT aXP => ?_)
   replace hS:=bW aXP hS
   refine Zy ?_
   refine VC.keep (ρ':=[(0,bZ.val),(1,b_1.val),(5,aRT.val),(15,pJ.val),(16,i64 (pJ.l.length:Int)),(17,i64 qD)]) [0,1,5,15,16,17] rfl ?_
   refine Zr ?_
   obtain ⟨b58,hS⟩:=bU hS
   refine Zu (cR rfl rfl b58) (Zm ?_)
   refine VL.jU (aRT,(qD+1)) [0,1,5,15,16,17] (fun _ _ h=>h) (go2 hS hK1) rfl
  refine Zk ?_
  refine Zr ?_
  obtain ⟨b58,hS⟩:=bU hS
  refine Zu (cR rfl rfl b58) (Zm ?_)
  refine VL.jU (jT,(qD+1)) [0,1,5,15,16,17] (fun _ _ h=>h) (go2 hS hK1) rfl
 replace hS:=iJ hS hK1
 refine Zx ?_
 refine Zq (Zr (Zm ?_))
 refine VL.shut jT 50 (fun _ _ _ _=>trivial) ?_
 obtain ⟨aSF,aVh,hS⟩:=aO hS
 refine VL.dK (BD jT aVh) rfl (by decide) ?_
 rintro aTy rfl
 try dsimp only
 refine Zy ?_
 cases hS
 exact VC.ret (Z1 aTy)
end Go.Proofs.YtedhnpjkoeblnaaGreatDoor
end
