/- Part of the proofs of: the law StateChecks (second form: where what is read is of bulk at most 1048576) -/
import Derived.Test.YthbccdlpalenlaaGreatDoorCE
set_option linter.unusedVariables false
set_option linter.unusedSimpArgs false
set_option linter.unusedSectionVars false
section
set_option linter.unusedVariables false
namespace Go.Proofs.YthbccdlpalenlaaGreatDoor
set_option maxHeartbeats 4000000
set_option maxRecDepth 100000
set_option synthInstance.maxSize 2000
set_option synthInstance.maxHeartbeats 1000000
open Go.RowKit Go.V
open Go.S hiding bN
theorem aDO (aD:Sv bR) {r:List oW} (hS:Sh.G7 (aD.l.map bR.pl)=some r) :
 Ct Tryz.prog 151 [aD.val] aD.ok (Ow.emp) (X:=Sv fS) (fun x=>x.val) (fun x=>r=(x.l.map fS.pl)) (fun x=>x.ok) (fun x=>Ow.emp):=by
 refine Zo Tryz.func151 Tryz.ntmps151 fun c => ?_
 unfold Sh.G7 at hS
 refine Zq (Zr ?_)
 refine Zy ?_
 refine Zq (Zr ?_)
 refine Zy ?_
 refine Zq (Zq (Zr ?_))
 refine Zy ?_
 refine Zb ?_
 refine VC.qU (⟨none,0,[]⟩:Sv fS) 209 ⟨rfl,rfl⟩ ?_
 refine VC.G9 (s:=(⟨none,0,[]⟩:Sv fS)) rfl ?_
 refine VC.iter (S:=Sv fS×Int) (fun sg=>((sg.1.l.map fS.pl),sg.2)) (fun sg=>[(0,aD.val),(3,sg.1.val),(4,i64 sg.2)]) (fun sg=>(wL sg.1.l)) (fun sg=>Ow.star (Sv.own sg.1 209) (Ow.emp)) (⟨none,0,[]⟩,0) [0,3,4] hS rfl ?_
 clear hS
 rintro ⟨kH,gT⟩ m1 y1 hS hK1
 refine Zq (Zq (Zr ?_))
 refine Zy ?_
 refine Zu (iT bR.pl (s:=aD) Tryz.underlying59 rfl) ?_
 refine Zu (dA rfl rfl) ?_
 refine Zl ?_
 refine Zc hS (fun h8 hS => ?_) (fun h8 hS => ?_)
 ·
  refine Zk ?_
  refine Zq (Zb ?_)
  refine VC.draw [(0,true),(1,true),(2,true),(3,true),(4,true),(5,true),(6,true),(7,true),(8,true),(9,true),(10,true),(12,true),(13,true),(14,true),(15,true),(16,true),(18,true),(19,true),(20,true),(21,true),(22,true),(11,false),(17,false),(23,true),(24,false),(25,false),(26,true)] mixed (by kernel_rfl) (by kernel_rfl) (by kernel_rfl) ?_
  refine Zw rfl (bI rfl) ?_
  refine Zw rfl (bI rfl) ?_
  refine Zw rfl (bI rfl) ?_
  obtain ⟨fP,qV,qC,hS⟩:=kQ hS
  refine VD.deep fP.m qC (fun _ q=>q) ?_
  refine Zw rfl (dH (s:=aD) Tryz.underlying59 pR rfl rfl qV (bC qV qC)) ?_
  refine Zw rfl (aB C3 rfl) ?_
  refine Zw rfl (jK (s:=aD) cN rfl qC rfl) ?_
  refine Zw rfl (bI rfl) ?_
  refine Zw rfl (bI rfl) ?_
  obtain ⟨lQ,uM,sY,hS⟩:=kQ hS
  refine VD.deep lQ.m sY (fun _ q=>q) ?_
  refine Zw rfl (dH (s:=aD) Tryz.underlying59 pR rfl rfl uM (bC uM sY)) ?_
  refine Zw rfl (aB GI rfl) ?_
  refine Zw rfl (jK (s:=aD) iQ rfl sY rfl) ?_
  refine Zw rfl (bI rfl) ?_
  refine Zw rfl (bI rfl) ?_
  obtain ⟨aDG,ZX,UQ,hS⟩:=kQ hS
  refine VD.deep aDG.m UQ (fun _ q=>q) ?_
  refine Zw rfl (dH (s:=aD) Tryz.underlying59 pR rfl rfl ZX (bC ZX UQ)) ?_
  refine Zw rfl (aB C4 rfl) ?_
  refine Zw rfl (jK (s:=aD) iQ rfl UQ rfl) ?_
  refine Zw rfl (bI rfl) ?_
  refine Zw rfl (bI rfl) ?_
  obtain ⟨NF,QY,MG,hS⟩:=kQ hS
  refine VD.deep NF.m MG (fun _ q=>q) ?_
  refine Zw rfl (dH (s:=aD) Tryz.underlying59 pR rfl rfl QY (bC QY MG)) ?_
  refine Zw rfl (aB GJ rfl) ?_
  refine Zw rfl (jK (s:=aD) cD rfl MG rfl) ?_
  refine VD.one rfl ?_
  obtain ⟨aUl,aVs,hS⟩:=bF hS
  refine VL.cT (DC lQ.index aVs) rfl (by decide) ?_
  rintro KX rfl
  try dsimp only
  refine VL.back (D':=[(22,str NF.text),(21,ptr aD.b (aD.o+(gT).toNat*cS.sz bR+3)),(20,ptr aD.b (aD.o+(gT).toNat*cS.sz bR+0)),(16,aDG.work.val),(15,ptr aD.b (aD.o+(gT).toNat*cS.sz bR+2)),(14,ptr aD.b (aD.o+(gT).toNat*cS.sz bR+0)),(5,i64 fP.base),(4,ptr aD.b (aD.o+(gT).toNat*cS.sz bR+0)),(3,ptr aD.b (aD.o+(gT).toNat*cS.sz bR+0))]) (by kernel_rfl) (aF.cons rfl (jK (s:=aD) cD rfl MG rfl) (aF.cons rfl (aB GJ rfl) (aF.cons rfl (dH (s:=aD) Tryz.underlying59 pR rfl rfl QY (bC QY MG)) (aF.cons rfl (jK (s:=aD) iQ rfl UQ rfl) (aF.cons rfl (aB C4 rfl) (aF.cons rfl (dH (s:=aD) Tryz.underlying59 pR rfl rfl ZX (bC ZX UQ)) (aF.cons rfl (jK (s:=aD) cN rfl qC rfl) (aF.cons rfl (aB C3 rfl) (aF.cons rfl (dH (s:=aD) Tryz.underlying59 pR rfl rfl qV (bC qV qC)) (aF.nil)))))))))) ?_
  refine VD.one rfl ?_
  obtain ⟨YZ,aEo,hS⟩:=bF hS
  refine VL.cT (DC aDG.work aEo) rfl (by decide) ?_
  rintro K1 rfl
  try dsimp only
  refine VL.back (D':=[(22,str NF.text),(21,ptr aD.b (aD.o+(gT).toNat*cS.sz bR+3)),(20,ptr aD.b (aD.o+(gT).toNat*cS.sz bR+0)),(5,i64 fP.base),(4,ptr aD.b (aD.o+(gT).toNat*cS.sz bR+0)),(3,ptr aD.b (aD.o+(gT).toNat*cS.sz bR+0))]) (by kernel_rfl) (aF.cons rfl (jK (s:=aD) cD rfl MG rfl) (aF.cons rfl (aB GJ rfl) (aF.cons rfl (dH (s:=aD) Tryz.underlying59 pR rfl rfl QY (bC QY MG)) (aF.cons rfl (jK (s:=aD) cN rfl qC rfl) (aF.cons rfl (aB C3 rfl) (aF.cons rfl (dH (s:=aD) Tryz.underlying59 pR rfl rfl qV (bC qV qC)) (aF.nil))))))) ?_
  refine Zw rfl (eO (vs:=[(0,i64 fP.base),(1,KX.val),(2,K1.val),(3,str NF.text)]) (cs := #[i64 fP.base,KX.val,K1.val,str NF.text]) rfl (by kernel_rfl)) ?_
  refine VD.one rfl ?_
  refine VL.shut KX 184 (fun _ _ _ _=>trivial) ?_
  refine VL.shut K1 184 (fun _ _ _ _=>trivial) ?_
  refine VL.lit (α:=fS) (xs:=[.tmp 34]) (vs:=[.agg #[i64 fP.base,KX.val,K1.val,str NF.text]]) [⟨fP.base,KX,K1,NF.text⟩] Tryz.underlying80 aSC (by decide) rfl rfl rfl rfl (by decide) (fun h m=>List.forall_mem_cons.2 ⟨dQ.out (X:=(KX.ok.and K1.ok)) h m,fun _ h=>by cases h⟩) (by decide) (fun aBp aFP => ?_) (by decide)
  replace hS:=dL (congrArg (List.map fS.pl) aFP) hS
  refine VL.back (D':=[]) (by kernel_rfl) (aF.nil) ?_
  refine VD.one rfl ?_
  obtain ⟨b36,hS⟩:=bQ hS
  refine VL.app (s:=kH) (r:=aBp) Tryz.underlying80 aRk (by decide) rfl Fo.out (CW (TH b36)) (CX (TH b36) (by decide)) (by decide) (fun Z0 UL => ?_)
  replace hS:=dL ((congrArg (List.map fS.pl) UL).trans List.map_append) hS
  refine VL.SU UL ?_
  refine VL.back (D':=[]) (by kernel_rfl) (aF.nil) ?_
  refine Zw rfl (iG rfl) ?_
  refine VD.to (fun _ _ h=>h) ?_
  refine VC.keep (ρ':=[(0,aD.val),(3,Z0.val),(4,i64 gT)]) [0,3,4] rfl ?_
  refine Zr ?_
  refine Zm ?_
  obtain ⟨b10,hS⟩:=bQ hS
  refine Zu (dZ rfl rfl b10) ?_
  refine Za ?_
  refine VL.kE (Z0,(gT+1)) [0,3,4] (fun _ _ h=>h) (go2 hS hK1) rfl
 replace hS:=fF hS hK1
 refine Zx ?_
 refine Zq (Zr ?_)
 refine Zy ?_
 refine VC.shut kH 209 (fun h m=>dQ.out (X:=wL kH.l) h m) ?_
 cases hS
 exact VC.ret (iU (.inr rfl) rfl rfl kH rfl rfl (by (try dsimp only); exact dQ.out) (fun _ _=>trivial))
theorem aBS (eV:Sv cA) {r:List iC} (hS:Sh.QW eV.l=some r) :
 Ct Tryz.prog 152 [eV.val] eV.ok (Ow.emp) (X:=Sv iC) (fun x=>x.val) (fun x=>r=x.l) (fun x=>Mo.tt) (fun x=>Sv.own x 316):=by
 refine Zo Tryz.func152 Tryz.ntmps152 fun c => ?_
 unfold Sh.QW at hS
 refine Zq (Zr ?_)
 refine Zy ?_
 refine Zq (Zr ?_)
 refine Zy ?_
 refine Zq (Zq (Zr ?_))
 refine Zy ?_
 refine Zb ?_
 refine VC.qU (⟨none,0,[]⟩:Sv iC) 316 ⟨rfl,rfl⟩ ?_
 refine VC.iter (S:=Sv iC×Int) (fun sg=>(sg.1.l,sg.2)) (fun sg=>[(0,eV.val),(3,sg.1.val),(4,i64 sg.2)]) (fun sg=>Mo.tt) (fun sg=>Ow.star (Sv.own sg.1 316) (Ow.emp)) (⟨none,0,[]⟩,0) [0,3,4] hS rfl ?_
 clear hS
 rintro ⟨kH,gT⟩ m1 y1 hS hK1
 refine Zq (Zq (Zr ?_))
 refine Zy ?_
 refine Zu (fH (s:=eV) Tryz.underlying55 rfl) ?_
 refine Zu (dA rfl rfl) ?_
 refine Zl ?_
 refine Zc hS (fun h8 hS => ?_) (fun h8 hS => ?_)
 ·
  refine Zk ?_
  refine Zq (Zb ?_)
  refine VC.draw [(0,true),(1,true),(2,true),(3,true),(4,true),(5,true),(6,true),(7,true),(8,true),(9,true),(10,true),(11,true),(12,true),(13,true),(14,true),(15,true),(16,true),(17,false),(18,false),(19,true)] mixed (by kernel_rfl) (by kernel_rfl) (by kernel_rfl) ?_
  refine Zw rfl (bI rfl) ?_
  refine Zw rfl (bI rfl) ?_
  refine Zw rfl (bI rfl) ?_
  obtain ⟨fP,qV,qC,hS⟩:=eW hS
  refine Zw rfl (dH (s:=eV) Tryz.underlying55 z7 rfl rfl qV (bC qV qC)) ?_
  refine Zw rfl (aB aDg rfl) ?_
  refine Zw rfl (jK (s:=eV) cD rfl qC rfl) ?_
  refine Zw rfl (bI rfl) ?_
  refine Zw rfl (bI rfl) ?_
  obtain ⟨lQ,uM,sY,hS⟩:=eW hS
  refine Zw rfl (dH (s:=eV) Tryz.underlying55 z7 rfl rfl uM (bC uM sY)) ?_
  refine Zw rfl (aB aDh rfl) ?_
  refine Zw rfl (jK (s:=eV) cN rfl sY rfl) ?_
  refine Zw rfl (bI rfl) ?_
  refine Zw rfl (bI rfl) ?_
  obtain ⟨DT,VH,UP,hS⟩:=eW hS
  refine Zw rfl (dH (s:=eV) Tryz.underlying55 z7 rfl rfl VH (bC VH UP)) ?_
  refine Zw rfl (aB aDi rfl) ?_
  refine Zw rfl (jK (s:=eV) cD rfl UP rfl) ?_
  refine Zw rfl (eO (vs:=[(0,str fP.verb),(1,i64 lQ.cB),(2,str DT.text)]) (cs := #[str fP.verb,i64 lQ.cB,str DT.text]) rfl (by kernel_rfl)) ?_
  refine VD.one rfl ?_
  refine VL.lit (α:=iC) (xs:=[.tmp 27]) (vs:=[.agg #[str fP.verb,i64 lQ.cB,str DT.text]]) [⟨fP.verb,lQ.cB,DT.text⟩] Tryz.underlying77 aSH (by decide) rfl rfl rfl rfl (by decide) (fun _ _ _ _=>trivial) (by decide) (fun aKP aFN => ?_) (by decide)
  replace hS:=dL aFN hS
  refine VL.back (D':=[]) (by kernel_rfl) (aF.nil) ?_
  refine VD.one rfl ?_
  obtain ⟨b29,hS⟩:=bQ hS
  refine VL.app (s:=kH) (r:=aKP) Tryz.underlying77 aRo (by decide) rfl Fo.out (CW b29) (CX b29 (by decide)) (by decide) (fun S1 UK => ?_)
  replace hS:=dL UK hS
  refine VL.back (D':=[]) (by kernel_rfl) (aF.nil) ?_
  refine Zw rfl (iG rfl) ?_
  refine VD.to (fun _ _ h=>h) ?_
  refine VC.keep (ρ':=[(0,eV.val),(3,S1.val),(4,i64 gT)]) [0,3,4] rfl ?_
  refine Zr ?_
  refine Zm ?_
  obtain ⟨b10,hS⟩:=bQ hS
  refine Zu (dZ rfl rfl b10) ?_
  refine Za ?_
  refine VL.kE (S1,(gT+1)) [0,3,4] (fun _ _ h=>h) (go2 hS hK1) rfl
 replace hS:=fF hS hK1
 refine Zx ?_
 refine Zq (Zr ?_)
 refine Zy ?_
 cases hS
 exact VC.ret (iU (.inr rfl) rfl rfl kH rfl rfl (by (try dsimp only); exact dQ.out) (by (try dsimp only); exact fL.out))
theorem OK (bE:eK) {r:oA} (hS:Sh.EM bE.pl=some r) :
 Ct Tryz.prog 69 [.agg #[bE.work.val,bE.index.val,bE.refs.val,str bE.aG,i64 bE.aH,str bE.aW,i64 bE.aS,str bE.aV,bE.aN.val,bE.aT.val,i64 bE.aY,str bE.aM,str bE.aC,i64 bE.aE,bE.aO.val,bE.aU.val,bE.bJ.val]] (bE.work.ok.and (bE.index.ok.and (bE.refs.ok.and (bE.aN.ok.and (bE.aT.ok.and (bE.aO.ok.and (bE.aU.ok.and bE.bJ.ok))))))) (Ow.emp) (X:=fU) (fun x => .agg (cS.enc x).toArray) (fun x=>r=x.pl) (fun x=>x.m) (fun x=>Ow.emp):=by
 refine Zo Tryz.func69 Tryz.ntmps69 fun c => ?_
 unfold Sh.EM at hS
 refine Zq (Zr ?_)
 refine VL.box (cs:=[bE.work.val,bE.index.val,bE.refs.val,str bE.aG,i64 bE.aH,str bE.aW,i64 bE.aS,str bE.aV,bE.aN.val,bE.aT.val,i64 bE.aY,str bE.aM,str bE.aC,i64 bE.aE,bE.aO.val,bE.aU.val,bE.bJ.val]) rfl rfl (by decide) fun cM => ?_
 refine VL.alloc (cs:=[.slice none 0 0,.slice none 0 0,.slice none 0 0,str [],i64 0,str [],i64 0,str [],.slice none 0 0,.slice none 0 0,i64 0,str [],str [],i64 0,.slice none 0 0,.slice none 0 0,.slice none 0 0]) (by kernel_rfl) (by decide) fun iL => ?_
 refine Zl ?_
 refine Zq (Zr ?_)
 refine Zu (aB sF rfl) ?_
 refine Zu (sL (j:=5) (n:=11) QJ rfl rfl rfl) ?_
 refine VL.alloc (cs:=[str [],i64 0,str [],.slice none 0 0,.slice none 0 0,i64 0,str [],str [],i64 0,.slice none 0 0,.slice none 0 0]) (by kernel_rfl) (by decide) fun eJ => ?_
 refine Zv (vc:=[str bE.aW,i64 bE.aS,str bE.aV,bE.aN.val,bE.aT.val,i64 bE.aY,str bE.aM,str bE.aC,i64 bE.aE,bE.aO.val,bE.aU.val]) (cs':=[str bE.aW,i64 bE.aS,str bE.aV,bE.aN.val,bE.aT.val,i64 bE.aY,str bE.aM,str bE.aC,i64 bE.aE,bE.aO.val,bE.aU.val]) rfl XO ?_
 refine Zl ?_
 refine Zq ?_
 refine VC.draw [(0,true),(1,true),(3,true),(4,true),(6,true),(7,true),(9,true),(10,true),(11,true),(12,true),(13,true),(14,true),(15,true),(16,true),(17,true),(19,true),(20,true),(21,true),(22,true),(23,true),(24,true),(25,true),(26,true),(28,true),(29,true),(31,true),(32,true),(33,true),(34,true),(35,true),(36,true),(37,true),(38,true),(39,true),(40,true),(41,true),(42,true),(43,true),(45,true),(46,true),(2,false),(5,false),(8,false),(18,false),(27,false),(30,false),(44,false),(47,false),(48,true),(49,true),(50,false)] mixed (by kernel_rfl) (by kernel_rfl) (by kernel_rfl) ?_
 refine Zw rfl (aB EJ rfl) ?_
 refine Zw rfl (aI iQ rfl rfl) ?_
 refine Zw rfl (aB zQ rfl) ?_
 refine Zw rfl (aI lW rfl rfl) ?_
 refine Zw rfl (aB lK rfl) ?_
 refine Zw rfl (aI qS rfl rfl) ?_
 refine Zw rfl (aB jU rfl) ?_
 refine Zw rfl (aB lD rfl) ?_
 refine Zw rfl (aI cD rfl rfl) ?_
 refine Zw rfl (aB jU rfl) ?_
 refine Zw rfl (aB nK rfl) ?_
 refine Zw rfl (aI cN rfl rfl) ?_
 refine Zw rfl (eO (vs:=[(0,str bE.aG),(1,i64 bE.aH)]) (cs := #[str bE.aG,i64 bE.aH]) rfl (by kernel_rfl)) ?_
 refine Zw rfl (aB j8 rfl) ?_
 refine Zw rfl (aI nD rfl rfl) ?_
 refine Zw rfl (aB sE rfl) ?_
 refine Zw rfl (aI cD rfl rfl) ?_
 refine Zw rfl (aB wD rfl) ?_
 refine Zw rfl (aI cN rfl rfl) ?_
 refine Zw rfl (aB tD rfl) ?_
 refine Zw rfl (aI cD rfl rfl) ?_
 refine Zw rfl (aB zP rfl) ?_
 refine Zw rfl (aI mG rfl rfl) ?_
 refine Zw rfl (aB xH rfl) ?_
 refine Zw rfl (aI mG rfl rfl) ?_
 refine Zw rfl (aB wE rfl) ?_
 refine Zw rfl (aI cN rfl rfl) ?_
 refine Zw rfl (aB uX rfl) ?_
 refine Zw rfl (aI cD rfl rfl) ?_
 refine Zw rfl (aB nL rfl) ?_
 refine Zw rfl (aB lD rfl) ?_
 refine Zw rfl (aI cD rfl rfl) ?_
 refine Zw rfl (aB nL rfl) ?_
 refine Zw rfl (aB nK rfl) ?_
 refine Zw rfl (aI cN rfl rfl) ?_
 refine Zw rfl (eO (vs:=[(0,str bE.aC),(1,i64 bE.aE)]) (cs := #[str bE.aC,i64 bE.aE]) rfl (by kernel_rfl)) ?_
 refine Zw rfl (aB wF rfl) ?_
 refine Zw rfl (aI lW rfl rfl) ?_
 refine Zw rfl (aB uY rfl) ?_
 refine Zw rfl (aI iQ rfl rfl) ?_
 refine VD.one rfl ?_
 obtain ⟨E6,G0,hS⟩:=bF hS
 refine VL.cT (DC bE.work G0) rfl (by decide) ?_
 rintro vS rfl
 try dsimp only
 refine VL.back (D':=[(46,bE.aU.val),(45,ptr eJ 10),(43,bE.aO.val),(42,ptr eJ 9),(41,.agg #[str bE.aC,i64 bE.aE]),(40,i64 bE.aE),(39,ptr eJ 8),(38,ptr eJ 7),(37,str bE.aC),(36,ptr eJ 7),(35,ptr eJ 7),(34,str bE.aM),(33,ptr eJ 6),(32,i64 bE.aY),(31,ptr eJ 5),(29,bE.aT.val),(28,ptr eJ 4),(26,bE.aN.val),(25,ptr eJ 3),(24,str bE.aV),(23,ptr eJ 2),(22,i64 bE.aS),(21,ptr eJ 1),(20,str bE.aW),(19,ptr eJ 0),(17,bE.bJ.val),(16,ptr cM 16),(15,.agg #[str bE.aG,i64 bE.aH]),(14,i64 bE.aH),(13,ptr cM 4),(12,ptr cM 3),(11,str bE.aG),(10,ptr cM 3),(9,ptr cM 3),(7,bE.refs.val),(6,ptr cM 2),(4,bE.index.val),(3,ptr cM 1)]) (by kernel_rfl) (aF.cons rfl (aI iQ rfl rfl) (aF.cons rfl (aB uY rfl) (aF.cons rfl (aI lW rfl rfl) (aF.cons rfl (aB wF rfl) (aF.cons rfl (eO (vs:=[(0,str bE.aC),(1,i64 bE.aE)]) (cs := #[str bE.aC,i64 bE.aE]) rfl (by kernel_rfl)) (aF.cons rfl (aI cN rfl rfl) (aF.cons rfl (aB nK rfl) (aF.cons rfl (aB nL rfl) (aF.cons rfl (aI cD rfl rfl) (aF.cons rfl (aB lD rfl) (aF.cons rfl (aB nL rfl) (aF.cons rfl (aI cD rfl rfl) (aF.cons rfl (aB uX rfl) (aF.cons rfl (aI cN rfl rfl) (aF.cons rfl (aB wE rfl) (aF.cons rfl (aI mG rfl rfl) (aF.cons rfl (aB xH rfl) (aF.cons rfl (aI mG rfl rfl) (aF.cons rfl (aB zP rfl) (aF.cons rfl (aI cD rfl rfl) (aF.cons rfl (aB tD rfl) (aF.cons rfl (aI cN rfl rfl) (aF.cons rfl (aB wD rfl) (aF.cons rfl (aI cD rfl rfl) (aF.cons rfl (aB sE rfl) (aF.cons rfl (aI nD rfl rfl) (aF.cons rfl (aB j8 rfl) (aF.cons rfl (eO (vs:=[(0,str bE.aG),(1,i64 bE.aH)]) (cs := #[str bE.aG,i64 bE.aH]) rfl (by kernel_rfl)) (aF.cons rfl (aI cN rfl rfl) (aF.cons rfl (aB nK rfl) (aF.cons rfl (aB jU rfl) (aF.cons rfl (aI cD rfl rfl) (aF.cons rfl (aB lD rfl) (aF.cons rfl (aB jU rfl) (aF.cons rfl (aI qS rfl rfl) (aF.cons rfl (aB lK rfl) (aF.cons rfl (aI lW rfl rfl) (aF.cons rfl (aB zQ rfl) (aF.nil))))))))))))))))))))))))))))))))))))))) ?_
 refine VD.one rfl ?_
 obtain ⟨zK,FT,hS⟩:=bF hS
 refine VL.cT (aBR bE.index FT) rfl (by decide) ?_
 rintro u7 rfl
 try dsimp only
 refine VL.back (D':=[(46,bE.aU.val),(45,ptr eJ 10),(43,bE.aO.val),(42,ptr eJ 9),(41,.agg #[str bE.aC,i64 bE.aE]),(40,i64 bE.aE),(39,ptr eJ 8),(38,ptr eJ 7),(37,str bE.aC),(36,ptr eJ 7),(35,ptr eJ 7),(34,str bE.aM),(33,ptr eJ 6),(32,i64 bE.aY),(31,ptr eJ 5),(29,bE.aT.val),(28,ptr eJ 4),(26,bE.aN.val),(25,ptr eJ 3),(24,str bE.aV),(23,ptr eJ 2),(22,i64 bE.aS),(21,ptr eJ 1),(20,str bE.aW),(19,ptr eJ 0),(17,bE.bJ.val),(16,ptr cM 16),(15,.agg #[str bE.aG,i64 bE.aH]),(14,i64 bE.aH),(13,ptr cM 4),(12,ptr cM 3),(11,str bE.aG),(10,ptr cM 3),(9,ptr cM 3),(7,bE.refs.val),(6,ptr cM 2)]) (by kernel_rfl) (aF.cons rfl (aI iQ rfl rfl) (aF.cons rfl (aB uY rfl) (aF.cons rfl (aI lW rfl rfl) (aF.cons rfl (aB wF rfl) (aF.cons rfl (eO (vs:=[(0,str bE.aC),(1,i64 bE.aE)]) (cs := #[str bE.aC,i64 bE.aE]) rfl (by kernel_rfl)) (aF.cons rfl (aI cN rfl rfl) (aF.cons rfl (aB nK rfl) (aF.cons rfl (aB nL rfl) (aF.cons rfl (aI cD rfl rfl) (aF.cons rfl (aB lD rfl) (aF.cons rfl (aB nL rfl) (aF.cons rfl (aI cD rfl rfl) (aF.cons rfl (aB uX rfl) (aF.cons rfl (aI cN rfl rfl) (aF.cons rfl (aB wE rfl) (aF.cons rfl (aI mG rfl rfl) (aF.cons rfl (aB xH rfl) (aF.cons rfl (aI mG rfl rfl) (aF.cons rfl (aB zP rfl) (aF.cons rfl (aI cD rfl rfl) (aF.cons rfl (aB tD rfl) (aF.cons rfl (aI cN rfl rfl) (aF.cons rfl (aB wD rfl) (aF.cons rfl (aI cD rfl rfl) (aF.cons rfl (aB sE rfl) (aF.cons rfl (aI nD rfl rfl) (aF.cons rfl (aB j8 rfl) (aF.cons rfl (eO (vs:=[(0,str bE.aG),(1,i64 bE.aH)]) (cs := #[str bE.aG,i64 bE.aH]) rfl (by kernel_rfl)) (aF.cons rfl (aI cN rfl rfl) (aF.cons rfl (aB nK rfl) (aF.cons rfl (aB jU rfl) (aF.cons rfl (aI cD rfl rfl) (aF.cons rfl (aB lD rfl) (aF.cons rfl (aB jU rfl) (aF.cons rfl (aI qS rfl rfl) (aF.cons rfl (aB lK rfl) (aF.nil))))))))))))))))))))))))))))))))))))) ?_
 refine VD.one rfl ?_
 obtain ⟨YS,aEg,hS⟩:=bF hS
 refine VL.cT (aFY bE.refs aEg) rfl (by decide) ?_
 rintro xQ rfl
 try dsimp only
 refine VL.back (D':=[(46,bE.aU.val),(45,ptr eJ 10),(43,bE.aO.val),(42,ptr eJ 9),(41,.agg #[str bE.aC,i64 bE.aE]),(40,i64 bE.aE),(39,ptr eJ 8),(38,ptr eJ 7),(37,str bE.aC),(36,ptr eJ 7),(35,ptr eJ 7),(34,str bE.aM),(33,ptr eJ 6),(32,i64 bE.aY),(31,ptr eJ 5),(29,bE.aT.val),(28,ptr eJ 4),(26,bE.aN.val),(25,ptr eJ 3),(24,str bE.aV),(23,ptr eJ 2),(22,i64 bE.aS),(21,ptr eJ 1),(20,str bE.aW),(19,ptr eJ 0),(17,bE.bJ.val),(16,ptr cM 16),(15,.agg #[str bE.aG,i64 bE.aH]),(14,i64 bE.aH),(13,ptr cM 4),(12,ptr cM 3),(11,str bE.aG),(10,ptr cM 3),(9,ptr cM 3)]) (by kernel_rfl) (aF.cons rfl (aI iQ rfl rfl) (aF.cons rfl (aB uY rfl) (aF.cons rfl (aI lW rfl rfl) (aF.cons rfl (aB wF rfl) (aF.cons rfl (eO (vs:=[(0,str bE.aC),(1,i64 bE.aE)]) (cs := #[str bE.aC,i64 bE.aE]) rfl (by kernel_rfl)) (aF.cons rfl (aI cN rfl rfl) (aF.cons rfl (aB nK rfl) (aF.cons rfl (aB nL rfl) (aF.cons rfl (aI cD rfl rfl) (aF.cons rfl (aB lD rfl) (aF.cons rfl (aB nL rfl) (aF.cons rfl (aI cD rfl rfl) (aF.cons rfl (aB uX rfl) (aF.cons rfl (aI cN rfl rfl) (aF.cons rfl (aB wE rfl) (aF.cons rfl (aI mG rfl rfl) (aF.cons rfl (aB xH rfl) (aF.cons rfl (aI mG rfl rfl) (aF.cons rfl (aB zP rfl) (aF.cons rfl (aI cD rfl rfl) (aF.cons rfl (aB tD rfl) (aF.cons rfl (aI cN rfl rfl) (aF.cons rfl (aB wD rfl) (aF.cons rfl (aI cD rfl rfl) (aF.cons rfl (aB sE rfl) (aF.cons rfl (aI nD rfl rfl) (aF.cons rfl (aB j8 rfl) (aF.cons rfl (eO (vs:=[(0,str bE.aG),(1,i64 bE.aH)]) (cs := #[str bE.aG,i64 bE.aH]) rfl (by kernel_rfl)) (aF.cons rfl (aI cN rfl rfl) (aF.cons rfl (aB nK rfl) (aF.cons rfl (aB jU rfl) (aF.cons rfl (aI cD rfl rfl) (aF.cons rfl (aB lD rfl) (aF.cons rfl (aB jU rfl) (aF.nil))))))))))))))))))))))))))))))))))) ?_
 refine VD.one rfl ?_
 obtain ⟨aUn,aVx,hS⟩:=bF hS
 refine VL.gI (aDO bE.bJ aVx) rfl (by decide) ?_
 rintro KY rfl
 try dsimp only
 refine VL.back (D':=[(46,bE.aU.val),(45,ptr eJ 10),(43,bE.aO.val),(42,ptr eJ 9),(41,.agg #[str bE.aC,i64 bE.aE]),(40,i64 bE.aE),(39,ptr eJ 8),(38,ptr eJ 7),(37,str bE.aC),(36,ptr eJ 7),(35,ptr eJ 7),(34,str bE.aM),(33,ptr eJ 6),(32,i64 bE.aY),(31,ptr eJ 5),(29,bE.aT.val),(28,ptr eJ 4),(26,bE.aN.val),(25,ptr eJ 3),(24,str bE.aV),(23,ptr eJ 2),(22,i64 bE.aS),(21,ptr eJ 1),(20,str bE.aW),(19,ptr eJ 0),(15,.agg #[str bE.aG,i64 bE.aH]),(14,i64 bE.aH),(13,ptr cM 4),(12,ptr cM 3),(11,str bE.aG),(10,ptr cM 3),(9,ptr cM 3)]) (by kernel_rfl) (aF.cons rfl (aI iQ rfl rfl) (aF.cons rfl (aB uY rfl) (aF.cons rfl (aI lW rfl rfl) (aF.cons rfl (aB wF rfl) (aF.cons rfl (eO (vs:=[(0,str bE.aC),(1,i64 bE.aE)]) (cs := #[str bE.aC,i64 bE.aE]) rfl (by kernel_rfl)) (aF.cons rfl (aI cN rfl rfl) (aF.cons rfl (aB nK rfl) (aF.cons rfl (aB nL rfl) (aF.cons rfl (aI cD rfl rfl) (aF.cons rfl (aB lD rfl) (aF.cons rfl (aB nL rfl) (aF.cons rfl (aI cD rfl rfl) (aF.cons rfl (aB uX rfl) (aF.cons rfl (aI cN rfl rfl) (aF.cons rfl (aB wE rfl) (aF.cons rfl (aI mG rfl rfl) (aF.cons rfl (aB xH rfl) (aF.cons rfl (aI mG rfl rfl) (aF.cons rfl (aB zP rfl) (aF.cons rfl (aI cD rfl rfl) (aF.cons rfl (aB tD rfl) (aF.cons rfl (aI cN rfl rfl) (aF.cons rfl (aB wD rfl) (aF.cons rfl (aI cD rfl rfl) (aF.cons rfl (aB sE rfl) (aF.cons rfl (eO (vs:=[(0,str bE.aG),(1,i64 bE.aH)]) (cs := #[str bE.aG,i64 bE.aH]) rfl (by kernel_rfl)) (aF.cons rfl (aI cN rfl rfl) (aF.cons rfl (aB nK rfl) (aF.cons rfl (aB jU rfl) (aF.cons rfl (aI cD rfl rfl) (aF.cons rfl (aB lD rfl) (aF.cons rfl (aB jU rfl) (aF.nil))))))))))))))))))))))))))))))))) ?_
 refine VD.one rfl ?_
 obtain ⟨Y3,T8,hS⟩:=bF hS
 refine VL.cT (aBS bE.aN T8) rfl (by decide) ?_
 rintro mW rfl
 try dsimp only
 refine VL.back (D':=[(46,bE.aU.val),(45,ptr eJ 10),(43,bE.aO.val),(42,ptr eJ 9),(41,.agg #[str bE.aC,i64 bE.aE]),(40,i64 bE.aE),(39,ptr eJ 8),(38,ptr eJ 7),(37,str bE.aC),(36,ptr eJ 7),(35,ptr eJ 7),(34,str bE.aM),(33,ptr eJ 6),(32,i64 bE.aY),(31,ptr eJ 5),(29,bE.aT.val),(28,ptr eJ 4),(24,str bE.aV),(23,ptr eJ 2),(22,i64 bE.aS),(21,ptr eJ 1),(20,str bE.aW),(19,ptr eJ 0),(15,.agg #[str bE.aG,i64 bE.aH]),(14,i64 bE.aH),(13,ptr cM 4),(12,ptr cM 3),(11,str bE.aG),(10,ptr cM 3),(9,ptr cM 3)]) (by kernel_rfl) (aF.cons rfl (aI iQ rfl rfl) (aF.cons rfl (aB uY rfl) (aF.cons rfl (aI lW rfl rfl) (aF.cons rfl (aB wF rfl) (aF.cons rfl (eO (vs:=[(0,str bE.aC),(1,i64 bE.aE)]) (cs := #[str bE.aC,i64 bE.aE]) rfl (by kernel_rfl)) (aF.cons rfl (aI cN rfl rfl) (aF.cons rfl (aB nK rfl) (aF.cons rfl (aB nL rfl) (aF.cons rfl (aI cD rfl rfl) (aF.cons rfl (aB lD rfl) (aF.cons rfl (aB nL rfl) (aF.cons rfl (aI cD rfl rfl) (aF.cons rfl (aB uX rfl) (aF.cons rfl (aI cN rfl rfl) (aF.cons rfl (aB wE rfl) (aF.cons rfl (aI mG rfl rfl) (aF.cons rfl (aB xH rfl) (aF.cons rfl (aI cD rfl rfl) (aF.cons rfl (aB tD rfl) (aF.cons rfl (aI cN rfl rfl) (aF.cons rfl (aB wD rfl) (aF.cons rfl (aI cD rfl rfl) (aF.cons rfl (aB sE rfl) (aF.cons rfl (eO (vs:=[(0,str bE.aG),(1,i64 bE.aH)]) (cs := #[str bE.aG,i64 bE.aH]) rfl (by kernel_rfl)) (aF.cons rfl (aI cN rfl rfl) (aF.cons rfl (aB nK rfl) (aF.cons rfl (aB jU rfl) (aF.cons rfl (aI cD rfl rfl) (aF.cons rfl (aB lD rfl) (aF.cons rfl (aB jU rfl) (aF.nil))))))))))))))))))))))))))))))) ?_
 refine VD.one rfl ?_
 obtain ⟨aUu,aWS,hS⟩:=bF hS
 refine VL.cT (aBS bE.aT aWS) rfl (by decide) ?_
 rintro BV rfl
 try dsimp only
 refine VL.back (D':=[(46,bE.aU.val),(45,ptr eJ 10),(43,bE.aO.val),(42,ptr eJ 9),(41,.agg #[str bE.aC,i64 bE.aE]),(40,i64 bE.aE),(39,ptr eJ 8),(38,ptr eJ 7),(37,str bE.aC),(36,ptr eJ 7),(35,ptr eJ 7),(34,str bE.aM),(33,ptr eJ 6),(32,i64 bE.aY),(31,ptr eJ 5),(24,str bE.aV),(23,ptr eJ 2),(22,i64 bE.aS),(21,ptr eJ 1),(20,str bE.aW),(19,ptr eJ 0),(15,.agg #[str bE.aG,i64 bE.aH]),(14,i64 bE.aH),(13,ptr cM 4),(12,ptr cM 3),(11,str bE.aG),(10,ptr cM 3),(9,ptr cM 3)]) (by kernel_rfl) (aF.cons rfl (aI iQ rfl rfl) (aF.cons rfl (aB uY rfl) (aF.cons rfl (aI lW rfl rfl) (aF.cons rfl (aB wF rfl) (aF.cons rfl (eO (vs:=[(0,str bE.aC),(1,i64 bE.aE)]) (cs := #[str bE.aC,i64 bE.aE]) rfl (by kernel_rfl)) (aF.cons rfl (aI cN rfl rfl) (aF.cons rfl (aB nK rfl) (aF.cons rfl (aB nL rfl) (aF.cons rfl (aI cD rfl rfl) (aF.cons rfl (aB lD rfl) (aF.cons rfl (aB nL rfl) (aF.cons rfl (aI cD rfl rfl) (aF.cons rfl (aB uX rfl) (aF.cons rfl (aI cN rfl rfl) (aF.cons rfl (aB wE rfl) (aF.cons rfl (aI cD rfl rfl) (aF.cons rfl (aB tD rfl) (aF.cons rfl (aI cN rfl rfl) (aF.cons rfl (aB wD rfl) (aF.cons rfl (aI cD rfl rfl) (aF.cons rfl (aB sE rfl) (aF.cons rfl (eO (vs:=[(0,str bE.aG),(1,i64 bE.aH)]) (cs := #[str bE.aG,i64 bE.aH]) rfl (by kernel_rfl)) (aF.cons rfl (aI cN rfl rfl) (aF.cons rfl (aB nK rfl) (aF.cons rfl (aB jU rfl) (aF.cons rfl (aI cD rfl rfl) (aF.cons rfl (aB lD rfl) (aF.cons rfl (aB jU rfl) (aF.nil))))))))))))))))))))))))))))) ?_
 refine VD.one rfl ?_
 obtain ⟨aNG,aQp,hS⟩:=bF hS
 refine VL.cT (aBR bE.aO aQp) rfl (by decide) ?_
 rintro yT rfl
 try dsimp only
 refine VL.back (D':=[(46,bE.aU.val),(45,ptr eJ 10),(41,.agg #[str bE.aC,i64 bE.aE]),(40,i64 bE.aE),(39,ptr eJ 8),(38,ptr eJ 7),(37,str bE.aC),(36,ptr eJ 7),(35,ptr eJ 7),(34,str bE.aM),(33,ptr eJ 6),(32,i64 bE.aY),(31,ptr eJ 5),(24,str bE.aV),(23,ptr eJ 2),(22,i64 bE.aS),(21,ptr eJ 1),(20,str bE.aW),(19,ptr eJ 0),(15,.agg #[str bE.aG,i64 bE.aH]),(14,i64 bE.aH),(13,ptr cM 4),(12,ptr cM 3),(11,str bE.aG),(10,ptr cM 3),(9,ptr cM 3)]) (by kernel_rfl) (aF.cons rfl (aI iQ rfl rfl) (aF.cons rfl (aB uY rfl) (aF.cons rfl (eO (vs:=[(0,str bE.aC),(1,i64 bE.aE)]) (cs := #[str bE.aC,i64 bE.aE]) rfl (by kernel_rfl)) (aF.cons rfl (aI cN rfl rfl) (aF.cons rfl (aB nK rfl) (aF.cons rfl (aB nL rfl) (aF.cons rfl (aI cD rfl rfl) (aF.cons rfl (aB lD rfl) (aF.cons rfl (aB nL rfl) (aF.cons rfl (aI cD rfl rfl) (aF.cons rfl (aB uX rfl) (aF.cons rfl (aI cN rfl rfl) (aF.cons rfl (aB wE rfl) (aF.cons rfl (aI cD rfl rfl) (aF.cons rfl (aB tD rfl) (aF.cons rfl (aI cN rfl rfl) (aF.cons rfl (aB wD rfl) (aF.cons rfl (aI cD rfl rfl) (aF.cons rfl (aB sE rfl) (aF.cons rfl (eO (vs:=[(0,str bE.aG),(1,i64 bE.aH)]) (cs := #[str bE.aG,i64 bE.aH]) rfl (by kernel_rfl)) (aF.cons rfl (aI cN rfl rfl) (aF.cons rfl (aB nK rfl) (aF.cons rfl (aB jU rfl) (aF.cons rfl (aI cD rfl rfl) (aF.cons rfl (aB lD rfl) (aF.cons rfl (aB jU rfl) (aF.nil))))))))))))))))))))))))))) ?_
 refine VD.one rfl ?_
 obtain ⟨Z5,aQs,hS⟩:=bF hS
 refine VL.cT (DC bE.aU aQs) rfl (by decide) ?_
 rintro yU rfl
 try dsimp only
 refine VL.back (D':=[(41,.agg #[str bE.aC,i64 bE.aE]),(40,i64 bE.aE),(39,ptr eJ 8),(38,ptr eJ 7),(37,str bE.aC),(36,ptr eJ 7),(35,ptr eJ 7),(34,str bE.aM),(33,ptr eJ 6),(32,i64 bE.aY),(31,ptr eJ 5),(24,str bE.aV),(23,ptr eJ 2),(22,i64 bE.aS),(21,ptr eJ 1),(20,str bE.aW),(19,ptr eJ 0),(15,.agg #[str bE.aG,i64 bE.aH]),(14,i64 bE.aH),(13,ptr cM 4),(12,ptr cM 3),(11,str bE.aG),(10,ptr cM 3),(9,ptr cM 3)]) (by kernel_rfl) (aF.cons rfl (eO (vs:=[(0,str bE.aC),(1,i64 bE.aE)]) (cs := #[str bE.aC,i64 bE.aE]) rfl (by kernel_rfl)) (aF.cons rfl (aI cN rfl rfl) (aF.cons rfl (aB nK rfl) (aF.cons rfl (aB nL rfl) (aF.cons rfl (aI cD rfl rfl) (aF.cons rfl (aB lD rfl) (aF.cons rfl (aB nL rfl) (aF.cons rfl (aI cD rfl rfl) (aF.cons rfl (aB uX rfl) (aF.cons rfl (aI cN rfl rfl) (aF.cons rfl (aB wE rfl) (aF.cons rfl (aI cD rfl rfl) (aF.cons rfl (aB tD rfl) (aF.cons rfl (aI cN rfl rfl) (aF.cons rfl (aB wD rfl) (aF.cons rfl (aI cD rfl rfl) (aF.cons rfl (aB sE rfl) (aF.cons rfl (eO (vs:=[(0,str bE.aG),(1,i64 bE.aH)]) (cs := #[str bE.aG,i64 bE.aH]) rfl (by kernel_rfl)) (aF.cons rfl (aI cN rfl rfl) (aF.cons rfl (aB nK rfl) (aF.cons rfl (aB jU rfl) (aF.cons rfl (aI cD rfl rfl) (aF.cons rfl (aB lD rfl) (aF.cons rfl (aB jU rfl) (aF.nil))))))))))))))))))))))))) ?_
 refine Zw rfl (eO (vs:=[(0,str bE.aW),(1,i64 bE.aS),(2,str bE.aV),(3,mW.val),(4,BV.val),(5,i64 bE.aY),(6,str bE.aM),(7,.agg #[str bE.aC,i64 bE.aE]),(8,yT.val),(9,yU.val)]) (cs := #[str bE.aW,i64 bE.aS,str bE.aV,mW.val,BV.val,i64 bE.aY,str bE.aM,str bE.aC,i64 bE.aE,yT.val,yU.val]) rfl (by kernel_rfl)) ?_
 refine Zw rfl (eO (vs:=[(0,vS.val),(1,u7.val),(2,xQ.val),(3,.agg #[str bE.aG,i64 bE.aH]),(5,KY.val),(4,.agg #[str bE.aW,i64 bE.aS,str bE.aV,mW.val,BV.val,i64 bE.aY,str bE.aM,str bE.aC,i64 bE.aE,yT.val,yU.val])]) (cs := #[vS.val,u7.val,xQ.val,str bE.aG,i64 bE.aH,str bE.aW,i64 bE.aS,str bE.aV,mW.val,BV.val,i64 bE.aY,str bE.aM,str bE.aC,i64 bE.aE,yT.val,yU.val,KY.val]) rfl (by kernel_rfl)) ?_
 refine VD.one rfl ?_
 refine Zv (vc:=[vS.val,u7.val,xQ.val,str bE.aG,i64 bE.aH,str bE.aW,i64 bE.aS,str bE.aV,mW.val,BV.val,i64 bE.aY,str bE.aM,str bE.aC,i64 bE.aE,yT.val,yU.val,KY.val]) (cs':=[vS.val,u7.val,xQ.val,str bE.aG,i64 bE.aH,str bE.aW,i64 bE.aS,str bE.aV,mW.val,BV.val,i64 bE.aY,str bE.aM,str bE.aC,i64 bE.aE,yT.val,yU.val,KY.val]) rfl aJt ?_
 refine VL.back (D':=[]) (by kernel_rfl) (aF.nil) ?_
 refine VD.to (fun _ _ h=>h) ?_
 refine VC.keep (ρ':=[(2,ptr iL 0)]) [2] rfl ?_
 refine VC.shut vS 184 (fun _ _ _ _=>trivial) ?_
 refine VC.shut u7 219 (fun _ _ _ _=>trivial) ?_
 refine VC.shut xQ 205 (fun _ _ _ _=>trivial) ?_
 refine VC.shut mW 316 (fun _ _ _ _=>trivial) ?_
 refine VC.shut BV 316 (fun _ _ _ _=>trivial) ?_
 refine VC.shut yT 219 (fun _ _ _ _=>trivial) ?_
 refine VC.shut yU 184 (fun _ _ _ _=>trivial) ?_
 cases hS
 exact VC.ret (oV (vs:=[.agg #[vS.val,u7.val,xQ.val,str bE.aG,i64 bE.aH,str bE.aW,i64 bE.aS,str bE.aV,mW.val,BV.val,i64 bE.aY,str bE.aM,str bE.aC,i64 bE.aE,yT.val,yU.val,KY.val]]) (.inr rfl) rfl (jY.cell aEx rfl rfl Rd.blk (jY.nil)) ⟨vS,u7,xQ,bE.aG,bE.aH,bE.aW,bE.aS,bE.aV,mW,BV,bE.aY,bE.aM,bE.aC,bE.aE,yT,yU,KY⟩ rfl rfl (by (try dsimp only); exact dQ.out) (fun _ _=>trivial))
theorem F1 (eV:Sv bN) {r:List oA×Bool} (hS:Sh.GM eV.l=some r) :
 Ct Tryz.prog 72 [eV.val] eV.ok (Ow.emp) (X:=Sv fU×Bool) (fun x => .tuple #[x.1.val,.bool x.2]) (fun x=>r=((x.1.l.map fU.pl),x.2)) (fun x=>x.1.ok) (fun x=>Ow.emp):=by
 refine Zo Tryz.func72 Tryz.ntmps72 fun c => ?_
 unfold Sh.GM at hS
 refine Zq (Zr ?_)
 refine Zy ?_
 refine Zq (Zr ?_)
 refine Zy ?_
 refine Zq (Zq (Zr ?_))
 refine Zy ?_
 refine Zb ?_
 refine VC.qU (⟨none,0,[]⟩:Sv fU) 82 ⟨rfl,rfl⟩ ?_
 refine VC.G9 (s:=(⟨none,0,[]⟩:Sv fU)) rfl ?_
 refine VC.iter (S:=Sv fU×Int) (fun sg=>((sg.1.l.map fU.pl),sg.2)) (fun sg=>[(0,eV.val),(4,sg.1.val),(5,i64 sg.2)]) (fun sg=>(wL sg.1.l)) (fun sg=>Ow.star (Sv.own sg.1 82) (Ow.emp)) (⟨none,0,[]⟩,0) [0,4,5] hS rfl ?_
 clear hS
 rintro ⟨F2,Y8⟩ m1 y1 hS hK1
 refine Zq (Zq (Zr ?_))
 refine Zy ?_
 refine Zu (fH (s:=eV) Tryz.underlying89 rfl) ?_
 refine Zu (dA rfl rfl) ?_
 refine Zl ?_
 refine Zc hS (fun h11 hS => ?_) (fun h11 hS => ?_)
 ·
  refine Zk ?_
  refine Zq (Zb (Zq (Zr ?_)))
  refine Zy ?_
  obtain ⟨aKx,aME,aLe,hS⟩:=eW hS
  refine Zu (dH (s:=eV) Tryz.underlying89 uG rfl rfl aME (bC aME aLe)) ?_
  refine Zu (qW (s:=eV) cD rfl aLe rfl) ?_
  obtain ⟨aKf,aVl,hS⟩:=bF hS
  refine VL.gI (DK aKx aVl) rfl (by decide) ?_
  rintro ⟨jH,aT6⟩ rfl
  try dsimp only
  refine Zm ?_
  refine Zu (gB rfl rfl) ?_
  refine Zu (gB rfl rfl) ?_
  refine VL.alloc (cs:=[.slice none 0 0,.slice none 0 0,.slice none 0 0,str [],i64 0,str [],i64 0,str [],.slice none 0 0,.slice none 0 0,i64 0,str [],str [],i64 0,.slice none 0 0,.slice none 0 0,.slice none 0 0]) (by kernel_rfl) (by decide) fun aYw => ?_
  refine Zv (vc:=[jH.work.val,jH.index.val,jH.refs.val,str jH.aG,i64 jH.aH,str jH.aW,i64 jH.aS,str jH.aV,jH.aN.val,jH.aT.val,i64 jH.aY,str jH.aM,str jH.aC,i64 jH.aE,jH.aO.val,jH.aU.val,jH.bJ.val]) (cs':=[jH.work.val,jH.index.val,jH.refs.val,str jH.aG,i64 jH.aH,str jH.aW,i64 jH.aS,str jH.aV,jH.aN.val,jH.aT.val,i64 jH.aY,str jH.aM,str jH.aC,i64 jH.aE,jH.aO.val,jH.aU.val,jH.bJ.val]) rfl zB ?_
  refine Zy ?_
  refine VC.keep (ρ':=[(0,eV.val),(4,F2.val),(5,i64 Y8),(6,ptr aYw 0),(7,aT6.val)]) [0,4,5,6,7] rfl ?_
  refine Zq (Zq (Zr ?_))
  refine Zm ?_
  refine Zu (z8 Tryz.underlying26 rfl) ?_
  refine Zl ?_
  refine uH hS (fun h23 hS => ?_) (fun h23 hS => ?_)
  ·
   refine Zq (Zr ?_)
   refine Zy ?_
   replace hS:=fF hS hK1
   cases hS
   exact VC.ret (KB (.inr rfl) rfl rfl rfl (⟨none,0,[]⟩,false) rfl rfl (by (try dsimp only); exact dQ.out) (fun _ _=>trivial))
  refine Zk ?_
  refine Zr ?_
  refine Zm ?_
  refine Zu (gZ oB rfl rfl) ?_
  obtain ⟨aUo,aWB,hS⟩:=bF hS
  refine VL.gI (OK (jH:eK) aWB) rfl (by decide) ?_
  rintro lS rfl
  try dsimp only
  refine VL.lit (α:=fU) (xs:=[.tmp 26]) (vs:=[.agg #[lS.work.val,lS.index.val,lS.refs.val,str lS.aG,i64 lS.aH,str lS.aW,i64 lS.aS,str lS.aV,lS.aN.val,lS.aT.val,i64 lS.aY,str lS.aM,str lS.aC,i64 lS.aE,lS.aO.val,lS.aU.val,lS.bJ.val]]) [lS] Tryz.underlying84 aWc (by decide) rfl rfl rfl rfl (by decide) (fun h m=>List.forall_mem_cons.2 ⟨dQ.out (X:=(lS.work.ok.and (lS.index.ok.and (lS.refs.ok.and (lS.aN.ok.and (lS.aT.ok.and (lS.aO.ok.and (lS.aU.ok.and lS.bJ.ok)))))))) h m,fun _ h=>by cases h⟩) (by decide) (fun a0c aWz => ?_) (by decide)
  replace hS:=dL (congrArg (List.map fU.pl) aWz) hS
  obtain ⟨b28,hS⟩:=bQ hS
  refine VL.app (s:=F2) (r:=a0c) Tryz.underlying84 aW9 (by decide) rfl Fo.out (CW (TH b28)) (CX (TH b28) (by decide)) (by decide) (fun aUM aL8 => ?_)
  replace hS:=dL ((congrArg (List.map fU.pl) aL8).trans List.map_append) hS
  refine VL.SU aL8 ?_
  refine Zy ?_
  refine VC.keep (ρ':=[(0,eV.val),(4,aUM.val),(5,i64 Y8)]) [0,4,5] rfl ?_
  refine Zr ?_
  refine Zm ?_
  obtain ⟨b13,hS⟩:=bQ hS
  refine Zu (dZ rfl rfl b13) ?_
  refine Za ?_
  refine VL.kE (aUM,(Y8+1)) [0,4,5] (fun _ _ h=>h) (go2 hS hK1) rfl
 replace hS:=fF hS hK1
 refine Zx ?_
 refine Zq (Zr ?_)
 refine Zy ?_
 refine VC.shut F2 82 (fun h m=>dQ.out (X:=wL F2.l) h m) ?_
 cases hS
 exact VC.ret (KB (.inr rfl) rfl rfl rfl (F2,true) rfl rfl (by (try dsimp only); exact dQ.out) (fun _ _=>trivial))
theorem aJz (aD:fY) {r:oX×Bool} (hS:Sh.UU aD.pl=some r) :
 Ct Tryz.prog 26 [.agg (cC aD).toArray] (aD.cJ.ok.and (aD.bV.ok.and (aD.bB.ok.and (aD.bW.ok.and (aD.cG.ok.and (aD.bX.ok.and (aD.cH.ok.and (aD.bL.ok.and (aD.aK.ok.and (aD.gC.ok.and aD.fA.ok)))))))))) (Ow.emp) (X:=lJ×Bool) (fun x => .tuple #[.agg (cS.enc x.1).toArray,.bool x.2]) (fun x=>r=(x.1.pl,x.2)) (fun x=>x.1.m) (fun x=>Ow.emp):=by
 refine Zo Tryz.func26 Tryz.ntmps26 fun c => ?_
 unfold Sh.UU at hS
 refine Zq (Zr ?_)
 refine VL.box (cs:=(cC aD)) rfl rfl (by decide) fun cM => ?_
 refine VL.alloc (cs:=[.slice none 0 0,.slice none 0 0,.slice none 0 0,str [],i64 0,str [],i64 0,str [],.slice none 0 0,.slice none 0 0,i64 0,str [],str [],i64 0,.slice none 0 0,.slice none 0 0,.slice none 0 0,.slice none 0 0,.slice none 0 0,.slice none 0 0,i64 0]) (by kernel_rfl) (by decide) fun iL => ?_
 refine Zy ?_
 refine Zq ?_
 refine VC.aQO (n:=4) (listed := #[true,true,false,true,true,false,false,false]) [(0,true),(1,true),(3,true),(4,true)] mixed (by kernel_rfl) (by kernel_rfl) (by kernel_rfl) (by kernel_rfl) ?_
 refine VD.q rfl (aB mF rfl) (by decide) ?_
 refine VD.q rfl (sL (j:=0) (n:=17) oB rfl rfl rfl) (by decide) ?_
 refine VD.q rfl (aB zS rfl) (by decide) ?_
 refine VD.q rfl (aI cN rfl rfl) (by decide) ?_
 obtain ⟨jQ,IL,hS⟩:=bF hS
 refine VD.toG fun hcl => ?_
 refine VG.fork (l:=[2,6]) (n:=3) (by kernel_rfl) rfl fun i hi => ?_
 obtain rfl | rfl:i=2∨i=6:=by simpa using hi
 ·
  refine VGo.of rfl ?_
  refine VL.gI (OK (⟨aD.cJ,aD.bV,aD.bB,aD.aR,aD.bA,aD.cI,aD.dB,aD.dP,aD.bW,aD.cG,aD.dK,aD.cY,aD.bU,aD.bS,aD.bX,aD.cH,aD.bL⟩:eK) IL) rfl (by decide) ?_
  rintro aA rfl
  try dsimp only
  refine VL.XC (D':=[(4,i64 aD.time),(3,ptr cM 20)]) (listed' := #[true,true,true,true,true,false,false,false]) (aF.cons rfl (aI cN rfl rfl) (aF.cons rfl (aB zS rfl) (aF.nil))) (by kernel_rfl) (by kernel_rfl) ?_
  refine VG.ord [(5,true),(6,false),(7,false)] (by kernel_rfl) (GY (by kernel_rfl)) (by kernel_rfl) ?_
  refine Zw rfl (eO (vs:=[(0,.agg #[aA.work.val,aA.index.val,aA.refs.val,str aA.aG,i64 aA.aH,str aA.aW,i64 aA.aS,str aA.aV,aA.aN.val,aA.aT.val,i64 aA.aY,str aA.aM,str aA.aC,i64 aA.aE,aA.aO.val,aA.aU.val,aA.bJ.val]),(4,i64 aD.time)]) (cs := #[aA.work.val,aA.index.val,aA.refs.val,str aA.aG,i64 aA.aH,str aA.aW,i64 aA.aS,str aA.aV,aA.aN.val,aA.aT.val,i64 aA.aY,str aA.aM,str aA.aC,i64 aA.aE,aA.aO.val,aA.aU.val,aA.bJ.val,.slice none 0 0,.slice none 0 0,.slice none 0 0,i64 aD.time]) rfl (by kernel_rfl)) ?_
  refine VD.one rfl ?_
  refine VL.alloc (cs:=[.slice none 0 0,.slice none 0 0,.slice none 0 0,str [],i64 0,str [],i64 0,str [],.slice none 0 0,.slice none 0 0,i64 0,str [],str [],i64 0,.slice none 0 0,.slice none 0 0,.slice none 0 0,.slice none 0 0,.slice none 0 0,.slice none 0 0,i64 0]) (by kernel_rfl) (by decide) fun nY => ?_
  refine VL.back (D':=[(5,.agg #[aA.work.val,aA.index.val,aA.refs.val,str aA.aG,i64 aA.aH,str aA.aW,i64 aA.aS,str aA.aV,aA.aN.val,aA.aT.val,i64 aA.aY,str aA.aM,str aA.aC,i64 aA.aE,aA.aO.val,aA.aU.val,aA.bJ.val,.slice none 0 0,.slice none 0 0,.slice none 0 0,i64 aD.time]),(4,i64 aD.time),(3,ptr cM 20)]) (by kernel_rfl) (aF.cons rfl (eO (vs:=[(0,.agg #[aA.work.val,aA.index.val,aA.refs.val,str aA.aG,i64 aA.aH,str aA.aW,i64 aA.aS,str aA.aV,aA.aN.val,aA.aT.val,i64 aA.aY,str aA.aM,str aA.aC,i64 aA.aE,aA.aO.val,aA.aU.val,aA.bJ.val]),(4,i64 aD.time)]) (cs := #[aA.work.val,aA.index.val,aA.refs.val,str aA.aG,i64 aA.aH,str aA.aW,i64 aA.aS,str aA.aV,aA.aN.val,aA.aT.val,i64 aA.aY,str aA.aM,str aA.aC,i64 aA.aE,aA.aO.val,aA.aU.val,aA.bJ.val,.slice none 0 0,.slice none 0 0,.slice none 0 0,i64 aD.time]) rfl (by kernel_rfl)) (aF.cons rfl (aI cN rfl rfl) (aF.cons rfl (aB zS rfl) (aF.nil)))) ?_
  refine VD.one rfl ?_
  refine Zv (vc:=[aA.work.val,aA.index.val,aA.refs.val,str aA.aG,i64 aA.aH,str aA.aW,i64 aA.aS,str aA.aV,aA.aN.val,aA.aT.val,i64 aA.aY,str aA.aM,str aA.aC,i64 aA.aE,aA.aO.val,aA.aU.val,aA.bJ.val,.slice none 0 0,.slice none 0 0,.slice none 0 0,i64 aD.time]) (cs':=[aA.work.val,aA.index.val,aA.refs.val,str aA.aG,i64 aA.aH,str aA.aW,i64 aA.aS,str aA.aV,aA.aN.val,aA.aT.val,i64 aA.aY,str aA.aM,str aA.aC,i64 aA.aE,aA.aO.val,aA.aU.val,aA.bJ.val,.slice none 0 0,.slice none 0 0,.slice none 0 0,i64 aD.time]) rfl SO ?_
  refine VL.back (D':=[]) (by kernel_rfl) (aF.nil) ?_
  refine VD.to (fun _ _ h=>h) ?_
  refine VC.keep (ρ':=[(1,ptr cM 0),(2,ptr iL 0),(4,ptr nY 0)]) [1,2,4] rfl ?_
  refine Zq (Zq (Zr ?_))
  refine Zy ?_
  refine Zb ?_
  refine VC.qU (⟨none,0,[]⟩:Sv dG) 115 ⟨rfl,rfl⟩ ?_
  refine VC.G9 (s:=(⟨none,0,[]⟩:Sv dG)) rfl ?_
  refine VC.RL nY (cs':=[aA.work.val,aA.index.val,aA.refs.val,str aA.aG,i64 aA.aH,str aA.aW,i64 aA.aS,str aA.aV,aA.aN.val,aA.aT.val,i64 aA.aY,str aA.aM,str aA.aC,i64 aA.aE,aA.aO.val,aA.aU.val,aA.bJ.val,(⟨none,0,[]⟩:Sv dG).val,.slice none 0 0,.slice none 0 0,i64 aD.time]) rfl ?_
  refine VC.iter (S:=Int×Sv dG) (fun sg=>(sg.1,(sg.2.l.map dG.pl))) (fun sg=>[(1,ptr cM 0),(2,ptr iL 0),(4,ptr nY 0),(5,i64 sg.1)]) (fun sg=>(wL sg.2.l)) (fun sg=>Ow.star (bT nY [aA.work.val,aA.index.val,aA.refs.val,str aA.aG,i64 aA.aH,str aA.aW,i64 aA.aS,str aA.aV,aA.aN.val,aA.aT.val,i64 aA.aY,str aA.aM,str aA.aC,i64 aA.aE,aA.aO.val,aA.aU.val,aA.bJ.val,sg.2.val,.slice none 0 0,.slice none 0 0,i64 aD.time] 86) (Ow.star (bT iL [.slice none 0 0,.slice none 0 0,.slice none 0 0,str [],i64 0,str [],i64 0,str [],.slice none 0 0,.slice none 0 0,i64 0,str [],str [],i64 0,.slice none 0 0,.slice none 0 0,.slice none 0 0,.slice none 0 0,.slice none 0 0,.slice none 0 0,i64 0] 86) (Ow.star (bT cM (cC aD) 93) (Ow.star (Sv.own sg.2 115) (Ow.emp))))) (0,(⟨none,0,[]⟩:Sv dG)) [1,2,4,5] hS rfl ?_
  clear hS
  rintro ⟨jV,lP⟩ m1 y1 hS hK1
  refine Zq (Zq (Zr ?_))
  refine Zm ?_
  refine Zu (aB sG rfl) ?_
  refine Zu (aI qT rfl rfl) ?_
  refine Zu (iT cL.pl (s:=aD.aK) Tryz.underlying68 rfl) ?_
  refine Zu (dA rfl rfl) ?_
  refine Zl ?_
  refine Zc hS (fun h21 hS => ?_) (fun h21 hS => ?_)
  ·
   refine Zk ?_
   refine Zq (Zb (Zq (Zr ?_)))
   refine Zu (aB sG rfl) ?_
   refine Zu (aI qT rfl rfl) ?_
   refine Zm ?_
   obtain ⟨iP,VI,ME,hS⟩:=kQ hS
   refine VL.deep iP.m ME (fun _ q=>q) ?_
   refine Zu (dH (s:=aD.aK) Tryz.underlying68 pQ rfl rfl VI (bC VI ME)) ?_
   refine Zu (jL (s:=aD.aK) xF rfl rfl ME) ?_
   refine VL.alloc (cs:=[.slice none 0 0,.slice none 0 0,i64 0,str []]) (by kernel_rfl) (by decide) fun TI => ?_
   refine Zv (vc:=[iP.tree.val,iP.parents.val,i64 iP.time,str iP.text]) (cs':=[iP.tree.val,iP.parents.val,i64 iP.time,str iP.text]) rfl pQ ?_
   refine Zl ?_
   refine VC.keep (ρ':=[(1,ptr cM 0),(2,ptr iL 0),(4,ptr nY 0),(5,i64 jV),(6,ptr TI 0)]) [1,2,4,5,6] rfl ?_
   refine VC.draw [(0,true),(1,true),(2,true),(3,true),(5,true),(6,true),(7,true),(8,true),(9,true),(10,true),(4,false),(11,true),(12,false),(13,false),(14,true),(15,false)] mixed (by kernel_rfl) (by kernel_rfl) (by kernel_rfl) ?_
   refine Zw rfl (aB pW rfl) ?_
   refine Zw rfl (aI uK rfl rfl) ?_
   refine Zw rfl (aB GH rfl) ?_
   refine Zw rfl (aI iQ rfl rfl) ?_
   refine Zw rfl (aB C1 rfl) ?_
   refine Zw rfl (aI tF rfl rfl) ?_
   refine Zw rfl (aB KC rfl) ?_
   refine Zw rfl (aI cN rfl rfl) ?_
   refine Zw rfl (aB yN rfl) ?_
   refine Zw rfl (aI cD rfl rfl) ?_
   refine VD.one rfl ?_
   obtain ⟨Y3,T8,hS⟩:=bF hS
   refine VL.cT (DC iP.tree T8) rfl (by decide) ?_
   rintro mW rfl
   try dsimp only
   refine VL.back (D':=[(10,str iP.text),(9,ptr TI 3),(8,i64 iP.time),(7,ptr TI 2),(6,iP.parents.val),(5,ptr TI 1),(1,lP.val),(0,ptr nY 17)]) (by kernel_rfl) (aF.cons rfl (aI cD rfl rfl) (aF.cons rfl (aB yN rfl) (aF.cons rfl (aI cN rfl rfl) (aF.cons rfl (aB KC rfl) (aF.cons rfl (aI tF rfl rfl) (aF.cons rfl (aB C1 rfl) (aF.cons rfl (aI uK rfl rfl) (aF.cons rfl (aB pW rfl) (aF.nil))))))))) ?_
   refine Zw rfl (eO (vs:=[(0,mW.val),(1,iP.parents.val),(2,i64 iP.time),(3,str iP.text)]) (cs := #[mW.val,iP.parents.val,i64 iP.time,str iP.text]) rfl (by kernel_rfl)) ?_
   refine VD.one rfl ?_
   refine VL.shut mW 184 (fun _ _ _ _=>trivial) ?_
   refine VL.lit (α:=dG) (xs:=[.tmp 40]) (vs:=[.agg #[mW.val,iP.parents.val,i64 iP.time,str iP.text]]) [⟨mW,iP.parents,iP.time,iP.text⟩] Tryz.underlying83 aHc (by decide) rfl rfl rfl rfl (by decide) (fun h m=>List.forall_mem_cons.2 ⟨dQ.out (X:=(mW.ok.and iP.parents.ok)) h m,fun _ h=>by cases h⟩) (by decide) (fun aKR aFQ => ?_) (by decide)
   replace hS:=dL (congrArg (List.map dG.pl) aFQ) hS
   refine VL.back (D':=[(1,lP.val),(0,ptr nY 17)]) (by kernel_rfl) (aF.cons rfl (aI uK rfl rfl) (aF.cons rfl (aB pW rfl) (aF.nil))) ?_
   refine VD.one rfl ?_
   obtain ⟨b42,hS⟩:=bQ hS
   refine VL.app (s:=lP) (r:=aKR) Tryz.underlying83 aH5 (by decide) rfl Fo.out (CW (TH b42)) (CX (TH b42) (by decide)) (by decide) (fun MQ OE => ?_)
   replace hS:=dL ((congrArg (List.map dG.pl) OE).trans List.map_append) hS
   refine VL.SU OE ?_
   refine VL.back (D':=[]) (by kernel_rfl) (aF.nil) ?_
   refine Zw rfl (aB pW rfl) ?_
   refine VD.one rfl ?_
   refine Zv (vc:=[MQ.val]) (cs':=[aA.work.val,aA.index.val,aA.refs.val,str aA.aG,i64 aA.aH,str aA.aW,i64 aA.aS,str aA.aV,aA.aN.val,aA.aT.val,i64 aA.aY,str aA.aM,str aA.aC,i64 aA.aE,aA.aO.val,aA.aU.val,aA.bJ.val,MQ.val,.slice none 0 0,.slice none 0 0,i64 aD.time]) rfl aSL ?_
   refine VL.back (D':=[]) (by kernel_rfl) (aF.nil) ?_
   refine VD.to (fun _ _ h=>h) ?_
   refine VC.keep (ρ':=[(1,ptr cM 0),(2,ptr iL 0),(4,ptr nY 0),(5,i64 jV)]) [1,2,4,5] rfl ?_
   refine Zr ?_
   refine Zm ?_
   obtain ⟨b23,hS⟩:=bQ hS
   refine Zu (dZ rfl rfl b23) ?_
   refine Za ?_
   refine VL.kE ((jV+1),MQ) [1,2,4,5] (fun _ _ h=>h) (go2 hS hK1) rfl
  replace hS:=fF hS hK1
  refine Zx ?_
  refine Zq (Zr ?_)
  refine Zu (aB nM rfl) ?_
  refine Zu (aB zR rfl) ?_
  refine Zu (aI oC rfl rfl) ?_
  obtain ⟨WY,aA8,hS⟩:=bF hS
  refine VL.gI (F1 aD.gC aA8) rfl (by decide) ?_
  rintro ⟨jZ,K3⟩ rfl
  try dsimp only
  refine Zm ?_
  refine Zu (gB rfl rfl) ?_
  refine Zu (gB rfl rfl) ?_
  refine Zy ?_
  refine VC.keep (ρ':=[(1,ptr cM 0),(2,ptr iL 0),(4,ptr nY 0),(7,jZ.val),(8,.bool K3)]) [1,2,4,7,8] rfl ?_
  refine Zq (Zr ?_)
  refine Zu (aB nM rfl) ?_
  refine Zu (aB xI rfl) ?_
  refine Zu (aI oC rfl rfl) ?_
  obtain ⟨W0,aAb,hS⟩:=bF hS
  refine VL.gI (F1 aD.fA aAb) rfl (by decide) ?_
  rintro ⟨lN,yV⟩ rfl
  try dsimp only
  refine Zm ?_
  refine Zu (gB rfl rfl) ?_
  refine Zu (gB rfl rfl) ?_
  refine Zy ?_
  refine VC.keep (ρ':=[(2,ptr iL 0),(4,ptr nY 0),(7,jZ.val),(8,.bool K3),(9,lN.val),(10,.bool yV)]) [2,4,7,8,9,10] rfl ?_
  refine Zq (Zr ?_)
  refine Zm ?_
  refine Zu (aB aAm rfl) ?_
  refine Zv (vc:=[jZ.val]) (cs':=[aA.work.val,aA.index.val,aA.refs.val,str aA.aG,i64 aA.aH,str aA.aW,i64 aA.aS,str aA.aV,aA.aN.val,aA.aT.val,i64 aA.aY,str aA.aM,str aA.aC,i64 aA.aE,aA.aO.val,aA.aU.val,aA.bJ.val,lP.val,jZ.val,.slice none 0 0,i64 aD.time]) rfl aFE ?_
  refine Zl ?_
  refine Zq (Zr ?_)
  refine Zm ?_
  refine Zu (aB aAn rfl) ?_
  refine Zv (vc:=[lN.val]) (cs':=[aA.work.val,aA.index.val,aA.refs.val,str aA.aG,i64 aA.aH,str aA.aW,i64 aA.aS,str aA.aV,aA.aN.val,aA.aT.val,i64 aA.aY,str aA.aM,str aA.aC,i64 aA.aE,aA.aO.val,aA.aU.val,aA.bJ.val,lP.val,jZ.val,lN.val,i64 aD.time]) rfl aFE ?_
  refine Zl ?_
  refine Zq (Zr ?_)
  refine Zu (gZ DV rfl rfl) ?_
  refine Zy ?_
  refine rC 64 hS (fun h64 hS => ?_) (fun h64 hS => ?_)
  ·
   refine Zy ?_
   refine Zv (vc:=[aA.work.val,aA.index.val,aA.refs.val,str aA.aG,i64 aA.aH,str aA.aW,i64 aA.aS,str aA.aV,aA.aN.val,aA.aT.val,i64 aA.aY,str aA.aM,str aA.aC,i64 aA.aE,aA.aO.val,aA.aU.val,aA.bJ.val,lP.val,jZ.val,lN.val,i64 aD.time]) (cs':=[aA.work.val,aA.index.val,aA.refs.val,str aA.aG,i64 aA.aH,str aA.aW,i64 aA.aS,str aA.aV,aA.aN.val,aA.aT.val,i64 aA.aY,str aA.aM,str aA.aC,i64 aA.aE,aA.aO.val,aA.aU.val,aA.bJ.val,lP.val,jZ.val,lN.val,i64 aD.time]) rfl SO ?_
   refine Zy ?_
   refine VC.keep (ρ':=[(2,ptr iL 0),(3,.bool yV)]) [2,3] rfl ?_
   refine VC.shut lP 115 (fun h m=>dQ.out (X:=wL lP.l) h m) ?_
   cases hS
   exact VC.ret (oV (vs:=[.agg #[aA.work.val,aA.index.val,aA.refs.val,str aA.aG,i64 aA.aH,str aA.aW,i64 aA.aS,str aA.aV,aA.aN.val,aA.aT.val,i64 aA.aY,str aA.aM,str aA.aC,i64 aA.aE,aA.aO.val,aA.aU.val,aA.bJ.val,lP.val,jZ.val,lN.val,i64 aD.time],.bool yV]) (.inr rfl) rfl (jY.cell DV rfl rfl Rd.blk (jY.tmp rfl (jY.nil))) (⟨aA.work,aA.index,aA.refs,aA.aG,aA.aH,aA.aW,aA.aS,aA.aV,aA.aN,aA.aT,aA.aY,aA.aM,aA.aC,aA.aE,aA.aO,aA.aU,aA.bJ,lP,jZ,lN,aD.time⟩,yV) rfl rfl (by (try dsimp only); exact dQ.out) (fun _ _=>trivial))
  refine Zy ?_
  refine Zv (vc:=[aA.work.val,aA.index.val,aA.refs.val,str aA.aG,i64 aA.aH,str aA.aW,i64 aA.aS,str aA.aV,aA.aN.val,aA.aT.val,i64 aA.aY,str aA.aM,str aA.aC,i64 aA.aE,aA.aO.val,aA.aU.val,aA.bJ.val,lP.val,jZ.val,lN.val,i64 aD.time]) (cs':=[aA.work.val,aA.index.val,aA.refs.val,str aA.aG,i64 aA.aH,str aA.aW,i64 aA.aS,str aA.aV,aA.aN.val,aA.aT.val,i64 aA.aY,str aA.aM,str aA.aC,i64 aA.aE,aA.aO.val,aA.aU.val,aA.bJ.val,lP.val,jZ.val,lN.val,i64 aD.time]) rfl SO ?_
  refine Zy ?_
  refine VC.keep (ρ':=[(2,ptr iL 0),(3,.bool false)]) [2,3] rfl ?_
  refine VC.shut lP 115 (fun h m=>dQ.out (X:=wL lP.l) h m) ?_
  cases hS
  exact VC.ret (oV (vs:=[.agg #[aA.work.val,aA.index.val,aA.refs.val,str aA.aG,i64 aA.aH,str aA.aW,i64 aA.aS,str aA.aV,aA.aN.val,aA.aT.val,i64 aA.aY,str aA.aM,str aA.aC,i64 aA.aE,aA.aO.val,aA.aU.val,aA.bJ.val,lP.val,jZ.val,lN.val,i64 aD.time],.bool false]) (.inr rfl) rfl (jY.cell DV rfl rfl Rd.blk (jY.tmp rfl (jY.nil))) (⟨aA.work,aA.index,aA.refs,aA.aG,aA.aH,aA.aW,aA.aS,aA.aV,aA.aN,aA.aT,aA.aY,aA.aM,aA.aC,aA.aE,aA.aO,aA.aU,aA.bJ,lP,jZ,lN,aD.time⟩,false) rfl rfl (by (try dsimp only); exact dQ.out) (fun _ _=>trivial))
 refine VGo.of rfl ?_
 refine VL.alloc (cs:=[.slice none 0 0,.slice none 0 0,.slice none 0 0,str [],i64 0,str [],i64 0,str [],.slice none 0 0,.slice none 0 0,i64 0,str [],str [],i64 0,.slice none 0 0,.slice none 0 0,.slice none 0 0,.slice none 0 0,.slice none 0 0,.slice none 0 0,i64 0]) (by kernel_rfl) (by decide) fun nY => ?_
 refine VL.XC (D':=[(4,i64 aD.time),(3,ptr cM 20),(1,.agg #[aD.cJ.val,aD.bV.val,aD.bB.val,str aD.aR,i64 aD.bA,str aD.cI,i64 aD.dB,str aD.dP,aD.bW.val,aD.cG.val,i64 aD.dK,str aD.cY,str aD.bU,i64 aD.bS,aD.bX.val,aD.cH.val,aD.bL.val]),(0,ptr cM 0)]) (listed' := #[true,true,false,true,true,false,true,false]) (aF.cons rfl (aI cN rfl rfl) (aF.cons rfl (aB zS rfl) (aF.cons rfl (sL (j:=0) (n:=17) oB rfl rfl rfl) (aF.cons rfl (aB mF rfl) (aF.nil))))) (by kernel_rfl) (by kernel_rfl) ?_
 refine VG.ord [(2,false),(5,true),(7,false)] (by kernel_rfl) (GY (by kernel_rfl)) (by kernel_rfl) ?_
 refine VD.one rfl ?_
 refine VL.gI (OK (⟨aD.cJ,aD.bV,aD.bB,aD.aR,aD.bA,aD.cI,aD.dB,aD.dP,aD.bW,aD.cG,aD.dK,aD.cY,aD.bU,aD.bS,aD.bX,aD.cH,aD.bL⟩:eK) IL) rfl (by decide) ?_
 rintro aA rfl
 try dsimp only
 refine VL.back (D':=[(4,i64 aD.time),(3,ptr cM 20)]) (by kernel_rfl) (aF.cons rfl (aI cN rfl rfl) (aF.cons rfl (aB zS rfl) (aF.nil))) ?_
 refine Zw rfl (eO (vs:=[(0,.agg #[aA.work.val,aA.index.val,aA.refs.val,str aA.aG,i64 aA.aH,str aA.aW,i64 aA.aS,str aA.aV,aA.aN.val,aA.aT.val,i64 aA.aY,str aA.aM,str aA.aC,i64 aA.aE,aA.aO.val,aA.aU.val,aA.bJ.val]),(4,i64 aD.time)]) (cs := #[aA.work.val,aA.index.val,aA.refs.val,str aA.aG,i64 aA.aH,str aA.aW,i64 aA.aS,str aA.aV,aA.aN.val,aA.aT.val,i64 aA.aY,str aA.aM,str aA.aC,i64 aA.aE,aA.aO.val,aA.aU.val,aA.bJ.val,.slice none 0 0,.slice none 0 0,.slice none 0 0,i64 aD.time]) rfl (by kernel_rfl)) ?_
 refine VD.one rfl ?_
 refine Zv (vc:=[aA.work.val,aA.index.val,aA.refs.val,str aA.aG,i64 aA.aH,str aA.aW,i64 aA.aS,str aA.aV,aA.aN.val,aA.aT.val,i64 aA.aY,str aA.aM,str aA.aC,i64 aA.aE,aA.aO.val,aA.aU.val,aA.bJ.val,.slice none 0 0,.slice none 0 0,.slice none 0 0,i64 aD.time]) (cs':=[aA.work.val,aA.index.val,aA.refs.val,str aA.aG,i64 aA.aH,str aA.aW,i64 aA.aS,str aA.aV,aA.aN.val,aA.aT.val,i64 aA.aY,str aA.aM,str aA.aC,i64 aA.aE,aA.aO.val,aA.aU.val,aA.bJ.val,.slice none 0 0,.slice none 0 0,.slice none 0 0,i64 aD.time]) rfl SO ?_
 refine VL.back (D':=[]) (by kernel_rfl) (aF.nil) ?_
 refine VD.to (fun _ _ h=>h) ?_
 refine VC.keep (ρ':=[(1,ptr cM 0),(2,ptr iL 0),(4,ptr nY 0)]) [1,2,4] rfl ?_
 refine Zq (Zq (Zr ?_))
 refine Zy ?_
 refine Zb ?_
 refine VC.qU (⟨none,0,[]⟩:Sv dG) 115 ⟨rfl,rfl⟩ ?_
 refine VC.G9 (s:=(⟨none,0,[]⟩:Sv dG)) rfl ?_
 refine VC.RL nY (cs':=[aA.work.val,aA.index.val,aA.refs.val,str aA.aG,i64 aA.aH,str aA.aW,i64 aA.aS,str aA.aV,aA.aN.val,aA.aT.val,i64 aA.aY,str aA.aM,str aA.aC,i64 aA.aE,aA.aO.val,aA.aU.val,aA.bJ.val,(⟨none,0,[]⟩:Sv dG).val,.slice none 0 0,.slice none 0 0,i64 aD.time]) rfl ?_
 refine VC.iter (S:=Int×Sv dG) (fun sg=>(sg.1,(sg.2.l.map dG.pl))) (fun sg=>[(1,ptr cM 0),(2,ptr iL 0),(4,ptr nY 0),(5,i64 sg.1)]) (fun sg=>(wL sg.2.l)) (fun sg=>Ow.star (bT nY [aA.work.val,aA.index.val,aA.refs.val,str aA.aG,i64 aA.aH,str aA.aW,i64 aA.aS,str aA.aV,aA.aN.val,aA.aT.val,i64 aA.aY,str aA.aM,str aA.aC,i64 aA.aE,aA.aO.val,aA.aU.val,aA.bJ.val,sg.2.val,.slice none 0 0,.slice none 0 0,i64 aD.time] 86) (Ow.star (bT iL [.slice none 0 0,.slice none 0 0,.slice none 0 0,str [],i64 0,str [],i64 0,str [],.slice none 0 0,.slice none 0 0,i64 0,str [],str [],i64 0,.slice none 0 0,.slice none 0 0,.slice none 0 0,.slice none 0 0,.slice none 0 0,.slice none 0 0,i64 0] 86) (Ow.star (bT cM (cC aD) 93) (Ow.star (Sv.own sg.2 115) (Ow.emp))))) (0,(⟨none,0,[]⟩:Sv dG)) [1,2,4,5] hS rfl ?_
 clear hS
 rintro ⟨jV,lP⟩ m1 y1 hS hK1
 refine Zq (Zq (Zr ?_))
 refine Zm ?_
 refine Zu (aB sG rfl) ?_
 refine Zu (aI qT rfl rfl) ?_
 refine Zu (iT cL.pl (s:=aD.aK) Tryz.underlying68 rfl) ?_
 refine Zu (dA rfl rfl) ?_
 refine Zl ?_
 refine Zc hS (fun h21 hS => ?_) (fun h21 hS => ?_)
 ·
  refine Zk ?_
  refine Zq (Zb (Zq (Zr ?_)))
  refine Zu (aB sG rfl) ?_
  refine Zu (aI qT rfl rfl) ?_
  refine Zm ?_
  obtain ⟨iP,VI,ME,hS⟩:=kQ hS
  refine VL.deep iP.m ME (fun _ q=>q) ?_
  refine Zu (dH (s:=aD.aK) Tryz.underlying68 pQ rfl rfl VI (bC VI ME)) ?_
  refine Zu (jL (s:=aD.aK) xF rfl rfl ME) ?_
  refine VL.alloc (cs:=[.slice none 0 0,.slice none 0 0,i64 0,str []]) (by kernel_rfl) (by decide) fun TI => ?_
  refine Zv (vc:=[iP.tree.val,iP.parents.val,i64 iP.time,str iP.text]) (cs':=[iP.tree.val,iP.parents.val,i64 iP.time,str iP.text]) rfl pQ ?_
  refine Zl ?_
  refine VC.keep (ρ':=[(1,ptr cM 0),(2,ptr iL 0),(4,ptr nY 0),(5,i64 jV),(6,ptr TI 0)]) [1,2,4,5,6] rfl ?_
  refine VC.draw [(0,true),(1,true),(2,true),(3,true),(5,true),(6,true),(7,true),(8,true),(9,true),(10,true),(4,false),(11,true),(12,false),(13,false),(14,true),(15,false)] mixed (by kernel_rfl) (by kernel_rfl) (by kernel_rfl) ?_
  refine Zw rfl (aB pW rfl) ?_
  refine Zw rfl (aI uK rfl rfl) ?_
  refine Zw rfl (aB GH rfl) ?_
  refine Zw rfl (aI iQ rfl rfl) ?_
  refine Zw rfl (aB C1 rfl) ?_
  refine Zw rfl (aI tF rfl rfl) ?_
  refine Zw rfl (aB KC rfl) ?_
  refine Zw rfl (aI cN rfl rfl) ?_
  refine Zw rfl (aB yN rfl) ?_
  refine Zw rfl (aI cD rfl rfl) ?_
  refine VD.one rfl ?_
  obtain ⟨Y3,T8,hS⟩:=bF hS
  refine VL.cT (DC iP.tree T8) rfl (by decide) ?_
  rintro mW rfl
  try dsimp only
  refine VL.back (D':=[(10,str iP.text),(9,ptr TI 3),(8,i64 iP.time),(7,ptr TI 2),(6,iP.parents.val),(5,ptr TI 1),(1,lP.val),(0,ptr nY 17)]) (by kernel_rfl) (aF.cons rfl (aI cD rfl rfl) (aF.cons rfl (aB yN rfl) (aF.cons rfl (aI cN rfl rfl) (aF.cons rfl (aB KC rfl) (aF.cons rfl (aI tF rfl rfl) (aF.cons rfl (aB C1 rfl) (aF.cons rfl (aI uK rfl rfl) (aF.cons rfl (aB pW rfl) (aF.nil))))))))) ?_
  refine Zw rfl (eO (vs:=[(0,mW.val),(1,iP.parents.val),(2,i64 iP.time),(3,str iP.text)]) (cs := #[mW.val,iP.parents.val,i64 iP.time,str iP.text]) rfl (by kernel_rfl)) ?_
  refine VD.one rfl ?_
  refine VL.shut mW 184 (fun _ _ _ _=>trivial) ?_
  refine VL.lit (α:=dG) (xs:=[.tmp 40]) (vs:=[.agg #[mW.val,iP.parents.val,i64 iP.time,str iP.text]]) [⟨mW,iP.parents,iP.time,iP.text⟩] Tryz.underlying83 aHc (by decide) rfl rfl rfl rfl (by decide) (fun h m=>List.forall_mem_cons.2 ⟨dQ.out (X:=(mW.ok.and iP.parents.ok)) h m,fun _ h=>by cases h⟩) (by decide) (fun aKR aFQ => ?_) (by decide)
  replace hS:=dL (congrArg (List.map dG.pl) aFQ) hS
  refine VL.back (D':=[(1,lP.val),(0,ptr nY 17)]) (by kernel_rfl) (aF.cons rfl (aI uK rfl rfl) (aF.cons rfl (aB pW rfl) (aF.nil))) ?_
  refine VD.one rfl ?_
  obtain ⟨b42,hS⟩:=bQ hS
  refine VL.app (s:=lP) (r:=aKR) Tryz.underlying83 aH5 (by decide) rfl Fo.out (CW (TH b42)) (CX (TH b42) (by decide)) (by decide) (fun MQ OE => ?_)
  replace hS:=dL ((congrArg (List.map dG.pl) OE).trans List.map_append) hS
  refine VL.SU OE ?_
  refine VL.back (D':=[]) (by kernel_rfl) (aF.nil) ?_
  refine Zw rfl (aB pW rfl) ?_
  refine VD.one rfl ?_
  refine Zv (vc:=[MQ.val]) (cs':=[aA.work.val,aA.index.val,aA.refs.val,str aA.aG,i64 aA.aH,str aA.aW,i64 aA.aS,str aA.aV,aA.aN.val,aA.aT.val,i64 aA.aY,str aA.aM,str aA.aC,i64 aA.aE,aA.aO.val,aA.aU.val,aA.bJ.val,MQ.val,.slice none 0 0,.slice none 0 0,i64 aD.time]) rfl aSL ?_
  refine VL.back (D':=[]) (by kernel_rfl) (aF.nil) ?_
  refine VD.to (fun _ _ h=>h) ?_
  refine VC.keep (ρ':=[(1,ptr cM 0),(2,ptr iL 0),(4,ptr nY 0),(5,i64 jV)]) [1,2,4,5] rfl ?_
  refine Zr ?_
  refine Zm ?_
  obtain ⟨b23,hS⟩:=bQ hS
  refine Zu (dZ rfl rfl b23) ?_
  refine Za ?_
  refine VL.kE ((jV+1),MQ) [1,2,4,5] (fun _ _ h=>h) (go2 hS hK1) rfl
 replace hS:=fF hS hK1
 refine Zx ?_
 refine Zq (Zr ?_)
 refine Zu (aB nM rfl) ?_
 refine Zu (aB zR rfl) ?_
 refine Zu (aI oC rfl rfl) ?_
 obtain ⟨WY,aA8,hS⟩:=bF hS
 refine VL.gI (F1 aD.gC aA8) rfl (by decide) ?_
 rintro ⟨jZ,K3⟩ rfl
 try dsimp only
 refine Zm ?_
 refine Zu (gB rfl rfl) ?_
 refine Zu (gB rfl rfl) ?_
 refine Zy ?_
 refine VC.keep (ρ':=[(1,ptr cM 0),(2,ptr iL 0),(4,ptr nY 0),(7,jZ.val),(8,.bool K3)]) [1,2,4,7,8] rfl ?_
 refine Zq (Zr ?_)
 refine Zu (aB nM rfl) ?_
 refine Zu (aB xI rfl) ?_
 refine Zu (aI oC rfl rfl) ?_
 obtain ⟨W0,aAb,hS⟩:=bF hS
 refine VL.gI (F1 aD.fA aAb) rfl (by decide) ?_
 rintro ⟨lN,yV⟩ rfl
 try dsimp only
 refine Zm ?_
 refine Zu (gB rfl rfl) ?_
 refine Zu (gB rfl rfl) ?_
 refine Zy ?_
 refine VC.keep (ρ':=[(2,ptr iL 0),(4,ptr nY 0),(7,jZ.val),(8,.bool K3),(9,lN.val),(10,.bool yV)]) [2,4,7,8,9,10] rfl ?_
 refine Zq (Zr ?_)
 refine Zm ?_
 refine Zu (aB aAm rfl) ?_
 refine Zv (vc:=[jZ.val]) (cs':=[aA.work.val,aA.index.val,aA.refs.val,str aA.aG,i64 aA.aH,str aA.aW,i64 aA.aS,str aA.aV,aA.aN.val,aA.aT.val,i64 aA.aY,str aA.aM,str aA.aC,i64 aA.aE,aA.aO.val,aA.aU.val,aA.bJ.val,lP.val,jZ.val,.slice none 0 0,i64 aD.time]) rfl aFE ?_
 refine Zl ?_
 refine Zq (Zr ?_)
 refine Zm ?_
 refine Zu (aB aAn rfl) ?_
 refine Zv (vc:=[lN.val]) (cs':=[aA.work.val,aA.index.val,aA.refs.val,str aA.aG,i64 aA.aH,str aA.aW,i64 aA.aS,str aA.aV,aA.aN.val,aA.aT.val,i64 aA.aY,str aA.aM,str aA.aC,i64 aA.aE,aA.aO.val,aA.aU.val,aA.bJ.val,lP.val,jZ.val,lN.val,i64 aD.time]) rfl aFE ?_
 refine Zl ?_
 refine Zq (Zr ?_)
 refine Zu (gZ DV rfl rfl) ?_
 refine Zy ?_
 refine rC 64 hS (fun h64 hS => ?_) (fun h64 hS => ?_)
 ·
  refine Zy ?_
  refine Zv (vc:=[aA.work.val,aA.index.val,aA.refs.val,str aA.aG,i64 aA.aH,str aA.aW,i64 aA.aS,str aA.aV,aA.aN.val,aA.aT.val,i64 aA.aY,str aA.aM,str aA.aC,i64 aA.aE,aA.aO.val,aA.aU.val,aA.bJ.val,lP.val,jZ.val,lN.val,i64 aD.time]) (cs':=[aA.work.val,aA.index.val,aA.refs.val,str aA.aG,i64 aA.aH,str aA.aW,i64 aA.aS,str aA.aV,aA.aN.val,aA.aT.val,i64 aA.aY,str aA.aM,str aA.aC,i64 aA.aE,aA.aO.val,aA.aU.val,aA.bJ.val,lP.val,jZ.val,lN.val,i64 aD.time]) rfl SO ?_
  refine Zy ?_
  refine VC.keep (ρ':=[(2,ptr iL 0),(3,.bool yV)]) [2,3] rfl ?_
  refine VC.shut lP 115 (fun h m=>dQ.out (X:=wL lP.l) h m) ?_
  cases hS
  exact VC.ret (oV (vs:=[.agg #[aA.work.val,aA.index.val,aA.refs.val,str aA.aG,i64 aA.aH,str aA.aW,i64 aA.aS,str aA.aV,aA.aN.val,aA.aT.val,i64 aA.aY,str aA.aM,str aA.aC,i64 aA.aE,aA.aO.val,aA.aU.val,aA.bJ.val,lP.val,jZ.val,lN.val,i64 aD.time],.bool yV]) (.inr rfl) rfl (jY.cell DV rfl rfl Rd.blk (jY.tmp rfl (jY.nil))) (⟨aA.work,aA.index,aA.refs,aA.aG,aA.aH,aA.aW,aA.aS,aA.aV,aA.aN,aA.aT,aA.aY,aA.aM,aA.aC,aA.aE,aA.aO,aA.aU,aA.bJ,lP,jZ,lN,aD.time⟩,yV) rfl rfl (by (try dsimp only); exact dQ.out) (fun _ _=>trivial))
 refine Zy ?_
 refine Zv (vc:=[aA.work.val,aA.index.val,aA.refs.val,str aA.aG,i64 aA.aH,str aA.aW,i64 aA.aS,str aA.aV,aA.aN.val,aA.aT.val,i64 aA.aY,str aA.aM,str aA.aC,i64 aA.aE,aA.aO.val,aA.aU.val,aA.bJ.val,lP.val,jZ.val,lN.val,i64 aD.time]) (cs':=[aA.work.val,aA.index.val,aA.refs.val,str aA.aG,i64 aA.aH,str aA.aW,i64 aA.aS,str aA.aV,aA.aN.val,aA.aT.val,i64 aA.aY,str aA.aM,str aA.aC,i64 aA.aE,aA.aO.val,aA.aU.val,aA.bJ.val,lP.val,jZ.val,lN.val,i64 aD.time]) rfl SO ?_
 refine Zy ?_
 refine VC.keep (ρ':=[(2,ptr iL 0),(3,.bool false)]) [2,3] rfl ?_
 refine VC.shut lP 115 (fun h m=>dQ.out (X:=wL lP.l) h m) ?_
 cases hS
 exact VC.ret (oV (vs:=[.agg #[aA.work.val,aA.index.val,aA.refs.val,str aA.aG,i64 aA.aH,str aA.aW,i64 aA.aS,str aA.aV,aA.aN.val,aA.aT.val,i64 aA.aY,str aA.aM,str aA.aC,i64 aA.aE,aA.aO.val,aA.aU.val,aA.bJ.val,lP.val,jZ.val,lN.val,i64 aD.time],.bool false]) (.inr rfl) rfl (jY.cell DV rfl rfl Rd.blk (jY.tmp rfl (jY.nil))) (⟨aA.work,aA.index,aA.refs,aA.aG,aA.aH,aA.aW,aA.aS,aA.aV,aA.aN,aA.aT,aA.aY,aA.aM,aA.aC,aA.aE,aA.aO,aA.aU,aA.bJ,lP,jZ,lN,aD.time⟩,false) rfl rfl (by (try dsimp only); exact dQ.out) (fun _ _=>trivial))
theorem qY (tV:bN) (uF:Int) (e_2:Int) {r:bZ} (hS:Sh.sN tV uF e_2=some r) :
 Ct Tryz.prog 59 [str tV,i64 uF,i64 e_2] Mo.tt (Ow.emp) (X:=jP) (fun x => .agg (cS.enc x).toArray) (fun x=>r=x.pl) (fun x=>x.m) (fun x=>Ow.emp):=by
 refine Zo Tryz.func59 Tryz.ntmps59 fun c => ?_
 unfold Sh.sN at hS
 refine Zq (Zr ?_)
 refine VL.alloc (cs:=[.slice none 0 0,i64 0]) (by kernel_rfl) (by decide) fun a1h => ?_
 refine Zl ?_
 refine Zq (Zr ?_)
 refine Zy ?_
 refine Zu (eO (vs:=[(0,str tV),(1,i64 uF)]) (cs := #[str tV,i64 uF]) rfl (by kernel_rfl)) ?_
 refine VL.lit (α:=iW) (xs:=[.tmp 9]) (vs:=[.agg #[str tV,i64 uF]]) [⟨tV,uF⟩] Tryz.underlying41 aHd (by decide) rfl rfl rfl rfl (by decide) (fun _ _ _ _=>trivial) (by decide) (fun YD aWi => ?_) (by decide)
 replace hS:=dL aWi hS
 refine Zm ?_
 refine Zu (eO (vs:=[(0,YD.val),(1,i64 e_2)]) (cs := #[YD.val,i64 e_2]) rfl (by kernel_rfl)) ?_
 refine Zv (vc:=[YD.val,i64 e_2]) (cs':=[YD.val,i64 e_2]) rfl pN ?_
 refine Zl ?_
 cases hS
 exact VC.ret (oV (vs:=[.agg #[YD.val,i64 e_2]]) (.inr rfl) rfl (jY.cell mP rfl rfl Rd.blk (jY.nil)) ⟨YD,e_2⟩ rfl rfl (by (try dsimp only); exact dQ.out) (fun _ _=>trivial))
theorem aFd (bO:bN) {r:List bN} (hS:Sh.K5 bO=some r) :
 Ct Tryz.prog 240 [str bO] Mo.tt (Ow.emp) (X:=Sv bN) (fun x=>x.val) (fun x=>r=x.l) (fun x=>Mo.tt) (fun x=>Sv.own x 9):=by
 refine Zo Tryz.func240 Tryz.ntmps240 fun c => ?_
 unfold Sh.K5 at hS
 refine Zq (Zr ?_)
 refine Zy ?_
 refine Zq (Zq (Zr ?_))
 refine Zy ?_
 refine Zc hS (fun h6 hS => ?_) (fun h6 hS => ?_)
 ·
  refine Zq (Zr ?_)
  refine Zy ?_
  refine VC.qU (⟨none,0,[]⟩:Sv bN) 9 ⟨rfl,rfl⟩ ?_
  cases hS
  exact VC.ret (iU (.inr rfl) rfl rfl ⟨none,0,[]⟩ rfl rfl (by (try dsimp only); exact dQ.out) (by (try dsimp only); exact fL.out))
 refine Zk ?_
 refine Zq (Zr ?_)
 refine VL.aZB (α:=bN) (xs:=[.const (str [])]) (vs:=[str []]) [[]] Tryz.underlying89 oZ (by decide) rfl rfl rfl rfl (by decide) (by decide) (fun a1X aZs => ?_) (by decide)
 replace hS:=dL aZs hS
 refine Zy ?_
 refine Zq (Zq (Zr ?_))
 refine Zy ?_
 refine Zb ?_
 refine VC.iter (S:=Sv bN×Int) (fun sg=>(sg.1.l,sg.2)) (fun sg=>[(0,str bO),(3,sg.1.val),(4,i64 sg.2)]) (fun sg=>Mo.tt) (fun sg=>Ow.star (Sv.own sg.1 9) (Ow.emp)) (a1X,0) [0,3,4] hS rfl ?_
 clear hS
 rintro ⟨qD,wV⟩ m1 y1 hS hK1
 refine Zq (Zq (Zr ?_))
 refine Zy ?_
 refine Zu (iH Tryz.underlying9 rfl) ?_
 refine Zu (dA rfl rfl) ?_
 refine Zl ?_
 refine Zc hS (fun h11 hS => ?_) (fun h11 hS => ?_)
 ·
  refine Zk ?_
  refine VC.j0 (S:=Sv bN) (fun (D3:Sv bN)=>D3.l) (fun (D3:Sv bN)=>[(0,str bO),(3,D3.val),(4,i64 wV)]) (fun (D3:Sv bN)=>Mo.tt) (fun (D3:Sv bN)=>Ow.star (Sv.own D3 9) (Ow.emp)) hS ?_ ?_
  ·
   clear hS
   intro k6 hS
   refine Zb (Zq (Zq (Zr ?_)))
   refine Zy ?_
   obtain ⟨aKw,aXY,aXM,hS⟩:=eW hS
   refine Zu (qX Tryz.underlying9 rfl rfl aXY aXM) ?_
   refine Zu (gJ rfl rfl) ?_
   refine Zl ?_
   refine VC.keep (ρ':=[(0,str bO),(3,qD.val),(4,i64 wV),(17,.bool (decide ((aKw.toNat:Int)=47)))]) [0,3,4,17] rfl ?_
   refine Zc hS (fun h17 hS => ?_) (fun h17 hS => ?_)
   ·
    refine Zq (Zr ?_)
    refine Zm ?_
    refine VL.lit (α:=bN) (xs:=[.const (str [])]) (vs:=[str []]) [[]] Tryz.underlying89 oZ (by decide) rfl rfl rfl rfl (by decide) (fun _ _ _ _=>trivial) (by decide) (fun a05 aWq => ?_) (by decide)
    replace hS:=dL aWq hS
    obtain ⟨b20,hS⟩:=bQ hS
    refine VL.app (s:=qD) (r:=a05) Tryz.underlying89 XH (by decide) rfl Fo.out (CW b20) (CX b20 (by decide)) (by decide) (fun aXu aSO => ?_)
    replace hS:=dL aSO hS
    refine Zy ?_
    refine VC.zN aXu [0,3,4] (fun _ _ h=>h) hS rfl
   refine Zk ?_
   refine VC.draw [(0,true),(1,true),(2,true),(3,true),(4,true),(5,true),(6,true),(7,true),(8,true),(9,true),(10,true),(11,true),(12,true),(13,true),(14,true),(15,true),(16,true),(17,false)] mixed (by kernel_rfl) (by kernel_rfl) (by kernel_rfl) ?_
   refine Zw rfl (bI rfl) ?_
   refine Zw rfl (bI rfl) ?_
   refine Zw rfl (fH (s:=qD) Tryz.underlying89 rfl) ?_
   obtain ⟨b24,hS⟩:=bQ hS
   refine Zw rfl (tW rfl rfl b24) ?_
   refine Zw rfl (bI rfl) ?_
   refine Zw rfl (bI rfl) ?_
   refine Zw rfl (fH (s:=qD) Tryz.underlying89 rfl) ?_
   obtain ⟨b28,hS⟩:=bQ hS
   refine Zw rfl (tW rfl rfl b28) ?_
   obtain ⟨aGk,aIR,aHh,hS⟩:=eW hS
   refine Zw rfl (DG (s:=qD) Tryz.underlying89 uG rfl rfl aIR (bC aIR aHh)) ?_
   refine Zw rfl (SW (s:=qD) 9 cD rfl aHh rfl) ?_
   refine Zw rfl (bI rfl) ?_
   refine Zw rfl (bI rfl) ?_
   refine Zw rfl (bI rfl) ?_
   obtain ⟨b34,hS⟩:=bQ hS
   refine Zw rfl (dZ rfl rfl b34) ?_
   obtain ⟨b35,hS⟩:=bQ hS
   obtain ⟨aGJ,aQ8,hS⟩:=gY hS
   refine Zw rfl (aTv Tryz.underlying9 rfl rfl rfl b35.1 b35.2.1 b35.2.2 aQ8) ?_
   obtain ⟨b36,hS⟩:=bQ hS
   obtain ⟨Z2,aQ9,hS⟩:=gY hS
   refine Zw rfl (fC rfl rfl b36 aQ9) ?_
   obtain ⟨aYn,aIV,aHk,hS⟩:=eW hS
   refine Zw rfl (DG (s:=qD) Tryz.underlying89 uG rfl rfl aIV (bC aIV aHk)) ?_
   refine VD.one rfl ?_
   refine VL.WI (s:=qD) (T:=9) (j:=0) (vc:=[str Z2]) (Z2:bN) (by decide) rfl rfl aHk rfl uG rfl rfl (Nat.le_of_ble_eq_true rfl) rfl (fun w16 hw16 haw16 hcw16 hvw16 hbw16 how16 => ?_)
   rw [← hvw16]
   replace hS:=dL hw16 hS
   refine VL.back (D':=[]) (by kernel_rfl) (aF.nil) ?_
   refine VD.mt w16 [0,3,4] (fun _ _ h=>h) hS rfl
  clear hS
  rintro D3 hS
  refine Zr ?_
  refine Zm ?_
  obtain ⟨b13,hS⟩:=bQ hS
  refine Zu (dZ rfl rfl b13) ?_
  refine Za ?_
  refine VL.kE (D3,(wV+1)) [0,3,4] (fun _ _ h=>h) (go2 hS hK1) rfl
 replace hS:=fF hS hK1
 refine Zx ?_
 refine Zq (Zr ?_)
 refine Zy ?_
 cases hS
 exact VC.ret (iU (.inr rfl) rfl rfl qD rfl rfl (by (try dsimp only); exact dQ.out) (by (try dsimp only); exact fL.out))
theorem aJI (uP:Int) {r:Bool} (hS:Sh.OZ uP=some r) :
 Ct Tryz.prog 241 [.int .u8 uP] Mo.tt (Ow.emp) (X:=Unit) (fun _ => .bool r) (fun _=>True) (fun _=>Mo.tt) (fun _=>Ow.emp):=by
 refine Zo Tryz.func241 Tryz.ntmps241 fun c => ?_
 unfold Sh.OZ at hS
 refine Zq (Zr ?_)
 refine Zy ?_
 refine Zq (Zr ?_)
 refine Zm ?_
 refine Zu (rQ rfl rfl) ?_
 refine Zm ?_
 refine jJ 5 hS (fun h5 hS => ?_) (fun h5 hS => ?_)
 ·
  refine Zg ?_
  refine Zh (OX rfl rfl) ?_
  refine Zy ?_
  refine jJ 9 hS (fun h9 hS => ?_) (fun h9 hS => ?_)
  ·
   refine VL.runs 20 [(2,some true)] (by kernel_rfl) ?_
   refine Zl ?_
   cases hS
   exact Ze
  refine Zg ?_
  refine Zh (rQ rfl rfl) ?_
  refine Zg ?_
  refine jJ 12 hS (fun h12 hS => ?_) (fun h12 hS => ?_)
  ·
   refine Zg ?_
   refine Zh (OX rfl rfl) ?_
   refine Zh (fB rfl rfl) ?_
   refine Zy ?_
   refine jJ 17 hS (fun h17 hS => ?_) (fun h17 hS => ?_)
   ·
    refine VL.runs 12 [(2,some true)] (by kernel_rfl) ?_
    refine Zl ?_
    refine VC.keep (ρ':=[(2,.bool true)]) [2] rfl ?_
    cases hS
    exact Ze
   refine Zg ?_
   refine Zh (gJ rfl rfl) ?_
   refine Zy ?_
   refine jJ 21 hS (fun h21 hS => ?_) (fun h21 hS => ?_)
   ·
    refine VL.runs 8 [(2,some true)] (by kernel_rfl) ?_
    refine Zl ?_
    refine VC.keep (ρ':=[(2,.bool true)]) [2] rfl ?_
    cases hS
    exact Ze
   refine Zg ?_
   refine Zh (gJ rfl rfl) ?_
   refine Zy ?_
   refine jJ 25 hS (fun h25 hS => ?_) (fun h25 hS => ?_)
   ·
    refine VL.runs 4 [(2,some true)] (by kernel_rfl) ?_
    refine Zl ?_
    refine VC.keep (ρ':=[(2,.bool true)]) [2] rfl ?_
    cases hS
    exact Ze
   refine Zg ?_
   refine Zh (gJ rfl rfl) ?_
   refine Zy ?_
   refine VC.keep (ρ':=[(2,.bool (decide (uP=95)))]) [2] rfl ?_
   cases hS
   exact Ze
  refine Zy ?_
  refine Zh (fE rfl rfl) ?_
  refine Zy ?_
  refine Zh (gJ rfl rfl) ?_
  refine Zy ?_
  refine jJ 21 hS (fun h21 hS => ?_) (fun h21 hS => ?_)
  ·
   refine VL.runs 8 [(2,some true)] (by kernel_rfl) ?_
   refine Zl ?_
   refine VC.keep (ρ':=[(2,.bool true)]) [2] rfl ?_
   cases hS
   exact Ze
  refine Zg ?_
  refine Zh (gJ rfl rfl) ?_
  refine Zy ?_
  refine jJ 25 hS (fun h25 hS => ?_) (fun h25 hS => ?_)
  ·
   refine VL.runs 4 [(2,some true)] (by kernel_rfl) ?_
   refine Zl ?_
   refine VC.keep (ρ':=[(2,.bool true)]) [2] rfl ?_
   cases hS
   exact Ze
  refine Zg ?_
  refine Zh (gJ rfl rfl) ?_
  refine Zy ?_
  refine VC.keep (ρ':=[(2,.bool (decide (uP=95)))]) [2] rfl ?_
  cases hS
  exact Ze
 refine VL.runs 4 [(9,some false)] (by kernel_rfl) ?_
 refine Zg ?_
 refine Zh (rQ rfl rfl) ?_
 refine Zg ?_
 refine jJ 12 hS (fun h12 hS => ?_) (fun h12 hS => ?_)
 ·
  refine Zg ?_
  refine Zh (OX rfl rfl) ?_
  refine Zh (fB rfl rfl) ?_
  refine Zy ?_
  refine jJ 17 hS (fun h17 hS => ?_) (fun h17 hS => ?_)
  ·
   refine VL.runs 12 [(2,some true)] (by kernel_rfl) ?_
   refine Zl ?_
   refine VC.keep (ρ':=[(2,.bool true)]) [2] rfl ?_
   cases hS
   exact Ze
  refine Zg ?_
  refine Zh (gJ rfl rfl) ?_
  refine Zy ?_
  refine jJ 21 hS (fun h21 hS => ?_) (fun h21 hS => ?_)
  ·
   refine VL.runs 8 [(2,some true)] (by kernel_rfl) ?_
   refine Zl ?_
   refine VC.keep (ρ':=[(2,.bool true)]) [2] rfl ?_
   cases hS
   exact Ze
  refine Zg ?_
  refine Zh (gJ rfl rfl) ?_
  refine Zy ?_
  refine jJ 25 hS (fun h25 hS => ?_) (fun h25 hS => ?_)
  ·
   refine VL.runs 4 [(2,some true)] (by kernel_rfl) ?_
   refine Zl ?_
   refine VC.keep (ρ':=[(2,.bool true)]) [2] rfl ?_
   cases hS
   exact Ze
  refine Zg ?_
  refine Zh (gJ rfl rfl) ?_
  refine Zy ?_
  refine VC.keep (ρ':=[(2,.bool (decide (uP=95)))]) [2] rfl ?_
  cases hS
  exact Ze
 refine Zy ?_
 refine Zh (fE rfl rfl) ?_
 refine Zy ?_
 refine Zh (gJ rfl rfl) ?_
 refine Zy ?_
 refine jJ 21 hS (fun h21 hS => ?_) (fun h21 hS => ?_)
 ·
  refine VL.runs 8 [(2,some true)] (by kernel_rfl) ?_
  refine Zl ?_
  refine VC.keep (ρ':=[(2,.bool true)]) [2] rfl ?_
  cases hS
  exact Ze
 refine Zg ?_
 refine Zh (gJ rfl rfl) ?_
 refine Zy ?_
 refine jJ 25 hS (fun h25 hS => ?_) (fun h25 hS => ?_)
 ·
  refine VL.runs 4 [(2,some true)] (by kernel_rfl) ?_
  refine Zl ?_
  refine VC.keep (ρ':=[(2,.bool true)]) [2] rfl ?_
  cases hS
  exact Ze
 refine Zg ?_
 refine Zh (gJ rfl rfl) ?_
 refine Zy ?_
 refine VC.keep (ρ':=[(2,.bool (decide (uP=95)))]) [2] rfl ?_
 cases hS
 exact Ze
theorem V4 (bO:bN) {r:Int} (hS:Sh.DI bO=some r) :
 Ct Tryz.prog 196 [str bO] Mo.tt (Ow.emp) (X:=Unit) (fun _=>i64 r) (fun _=>True) (fun _=>Mo.tt) (fun _=>Ow.emp):=by
 refine Zo Tryz.func196 Tryz.ntmps196 fun c => ?_
 unfold Sh.DI at hS
 refine Zq (Zr ?_)
 refine Zy ?_
 refine Zq (Zq (Zr ?_))
 refine Zm ?_
 refine Zu (iH Tryz.underlying9 rfl) ?_
 refine Zu (gQ rfl rfl) ?_
 refine Zl ?_
 refine Zc hS (fun h8 hS => ?_) (fun h8 hS => ?_)
 ·
  refine Zq (Zr ?_)
  refine Zy ?_
  cases hS
  exact Ze
 refine Zk ?_
 refine Zq (Zr ?_)
 refine Zm ?_
 obtain ⟨gS,tC,hS⟩:=bF hS
 refine VL.cT (aFd bO tC) rfl (by decide) ?_
 rintro eD rfl
 try dsimp only
 refine Zy ?_
 refine Zq (Zq (Zr ?_))
 refine Zm ?_
 refine Zu (fH (s:=eD) Tryz.underlying89 rfl) ?_
 refine Zu (gJ rfl rfl) ?_
 refine Zl ?_
 refine VC.keep (ρ':=[(3,eD.val),(13,.bool (decide ((eD.l.length:Int)=0)))]) [3,13] rfl ?_
 refine Zc hS (fun h13 hS => ?_) (fun h13 hS => ?_)
 ·
  refine Zq (Zr ?_)
  refine Zy ?_
  cases hS
  exact Ze
 refine Zk ?_
 refine Zq (Zq (Zr ?_))
 refine Zy ?_
 refine Zb ?_
 refine VC.iter (S:=Int) (fun (gT:Int)=>gT) (fun (gT:Int)=>[(3,eD.val),(4,i64 gT)]) (fun (gT:Int)=>Mo.tt) (fun (gT:Int)=>Ow.star (Sv.own eD 9) (Ow.emp)) 0 [3,4] hS rfl ?_
 clear hS
 rintro gT m1 y1 hS hK1
 refine Zq (Zq (Zr ?_))
 refine Zy ?_
 refine Zu (fH (s:=eD) Tryz.underlying89 rfl) ?_
 refine Zu (dA rfl rfl) ?_
 refine Zl ?_
 refine Zc hS (fun h17 hS => ?_) (fun h17 hS => ?_)
 ·
  refine Zk ?_
  refine VC.j0 (S:=Unit) (fun (_:Unit)=>()) (fun (_:Unit)=>[(3,eD.val),(4,i64 gT)]) (fun (_:Unit)=>Mo.tt) (fun (_:Unit)=>Ow.star (Sv.own eD 9) (Ow.emp)) hS ?_ ?_
  ·
   clear hS
   intro k3 hS
   refine Zb (Zq ?_)
   refine VC.j0 (S:=Bool) (fun (PY:Bool)=>PY) (fun (PY:Bool)=>[(3,eD.val),(4,i64 gT),(38,.bool PY)]) (fun (PY:Bool)=>Mo.tt) (fun (PY:Bool)=>Ow.star (Sv.own eD 9) (Ow.emp)) hS ?_ ?_
   ·
    clear hS
    intro k5 hS
    refine Zr ?_
    refine Zy ?_
    obtain ⟨aVE,aML,aLk,hS⟩:=eW hS
    refine Zu (DG (s:=eD) Tryz.underlying89 uG rfl rfl aML (bC aML aLk)) ?_
    refine Zu (SW (s:=eD) 9 cD rfl aLk rfl) ?_
    refine Zy ?_
    refine jJ 25 hS (fun h25 hS => ?_) (fun h25 hS => ?_)
    ·
     refine VL.runs 13 [(38,some true)] (by kernel_rfl) ?_
     refine VL.mt true [3,4,38] (fun _ _ h=>h) hS rfl
    refine Zy ?_
    obtain ⟨aVF,aMQ,aLn,hS⟩:=eW hS
    refine Zh (DG (s:=eD) Tryz.underlying89 uG rfl rfl aMQ (bC aMQ aLn)) ?_
    refine Zh (SW (s:=eD) 9 cD rfl aLn rfl) ?_
    refine Zh (sM rfl rfl) ?_
    refine Zy ?_
    refine jJ 32 hS (fun h32 hS => ?_) (fun h32 hS => ?_)
    ·
     refine VL.runs 6 [(38,some true)] (by kernel_rfl) ?_
     refine VL.mt true [3,4,38] (fun _ _ h=>h) hS rfl
    refine Zy ?_
    obtain ⟨aLF,aMW,aLs,hS⟩:=eW hS
    refine Zh (DG (s:=eD) Tryz.underlying89 uG rfl rfl aMW (bC aMW aLs)) ?_
    refine Zh (SW (s:=eD) 9 cD rfl aLs rfl) ?_
    refine Zh (sM rfl rfl) ?_
    refine Zf ?_
    refine VL.mt (decide (aLF=[46,46])) [3,4,38] (fun _ _ h=>h) hS rfl
   clear hS
   rintro PY hS
   refine mT hS (fun h38 hS => ?_) (fun h38 hS => ?_)
   ·
    refine Zq (Zr ?_)
    refine Zy ?_
    replace hS:=fF hS hK1
    cases hS
    exact Ze
   refine Zk ?_
   refine Zq (Zr ?_)
   refine Zy ?_
   refine Zb ?_
   refine VC.iter (S:=Int) (fun (KK:Int)=>KK) (fun (KK:Int)=>[(3,eD.val),(4,i64 gT),(5,i64 KK)]) (fun (KK:Int)=>Mo.tt) (fun (KK:Int)=>Ow.star (Sv.own eD 9) (Ow.emp)) 0 [3,4,5] hS rfl ?_
   clear hS
   rintro KK m2 y2 hS hK2
   refine Zq (Zq (Zr ?_))
   refine Zy ?_
   obtain ⟨oP,OO,OF,hS⟩:=eW hS
   refine Zu (DG (s:=eD) Tryz.underlying89 uG rfl rfl OO (bC OO OF)) ?_
   refine Zu (SW (s:=eD) 9 cD rfl OF rfl) ?_
   refine Zu (iH Tryz.underlying9 rfl) ?_
   refine Zu (dA rfl rfl) ?_
   refine Zl ?_
   refine Zc hS (fun h45 hS => ?_) (fun h45 hS => ?_)
   ·
    refine Zk ?_
    refine Zq (Zb (Zq (Zr ?_)))
    refine Zy ?_
    obtain ⟨aNZ,aI6,aHs,hS⟩:=eW hS
    refine Zu (DG (s:=eD) Tryz.underlying89 uG rfl rfl aI6 (bC aI6 aHs)) ?_
    refine Zu (SW (s:=eD) 9 cD rfl aHs rfl) ?_
    refine Zm ?_
    obtain ⟨NH,aBW,aBF,hS⟩:=eW hS
    refine Zu (qX Tryz.underlying9 rfl rfl aBW aBF) ?_
    obtain ⟨aGV,aQw,hS⟩:=bF hS
    refine Zu (cZ (aJI (NH.toNat:Int) aQw) rfl (fun _ _=>rfl)) ?_
    refine Zu (oS rfl) ?_
    refine Zl ?_
    refine VC.keep (ρ':=[(3,eD.val),(4,i64 gT),(5,i64 KK),(55,.bool (!aGV))]) [3,4,5,55] rfl ?_
    refine mT hS (fun h55 hS => ?_) (fun h55 hS => ?_)
    ·
     refine Zq (Zr ?_)
     refine Zy ?_
     replace hS:=fF hS hK2
     replace hS:=fF hS hK1
     cases hS
     exact Ze
    refine Zk ?_
    refine Zr ?_
    refine Zm ?_
    obtain ⟨b47,hS⟩:=bQ hS
    refine Zu (dZ rfl rfl b47) ?_
    refine Za ?_
    refine VL.kE (KK+1) [3,4,5] (fun _ _ h=>h) (go2 hS hK2) rfl
   replace hS:=fF hS hK2
   refine VC.zN () [3,4] (fun _ _ h=>h) hS rfl
  clear hS
  rintro _ hS
  refine Zr ?_
  refine Zm ?_
  obtain ⟨b19,hS⟩:=bQ hS
  refine Zu (dZ rfl rfl b19) ?_
  refine Za ?_
  refine VL.kE (gT+1) [3,4] (fun _ _ h=>h) (go2 hS hK1) rfl
 replace hS:=fF hS hK1
 refine Zx ?_
 refine Zq (Zr ?_)
 refine Zy ?_
 cases hS
 exact Ze
theorem V2 (m_0:Int) {r:Bool} (hS:Sh.AY m_0=some r) :
 Ct Tryz.prog 231 [i64 m_0] Mo.tt (Ow.emp) (X:=Unit) (fun _ => .bool r) (fun _=>True) (fun _=>Mo.tt) (fun _=>Ow.emp):=by
 refine Zo Tryz.func231 Tryz.ntmps231 fun c => ?_
 unfold Sh.AY at hS
 refine Zq (Zr ?_)
 refine Zy ?_
 refine Zq (Zr ?_)
 refine Zm ?_
 refine Zu (gJ rfl rfl) ?_
 refine Zm ?_
 refine jJ 5 hS (fun h5 hS => ?_) (fun h5 hS => ?_)
 ·
  refine VL.runs 4 [(2,some true)] (by kernel_rfl) ?_
  refine Zl ?_
  cases hS
  exact Ze
 refine Zg ?_
 refine Zh (gJ rfl rfl) ?_
 refine Zy ?_
 cases hS
 exact Ze
theorem aDU (xE:eC) {r:Int} (hS:Sh.DH xE=some r) :
 Ct Tryz.prog 185 [.agg #[str xE.path,i64 xE.mode,str xE.data]] Mo.tt (Ow.emp) (X:=Unit) (fun _=>i64 r) (fun _=>True) (fun _=>Mo.tt) (fun _=>Ow.emp):=by
 refine Zo Tryz.func185 Tryz.ntmps185 fun c => ?_
 unfold Sh.DH at hS
 refine Zq (Zr ?_)
 refine VL.box (cs:=[str xE.path,i64 xE.mode,str xE.data]) rfl rfl (by decide) fun cM => ?_
 refine Zy ?_
 refine Zq (Zr ?_)
 refine Zu (aB GK rfl) ?_
 refine Zu (aI cD rfl rfl) ?_
 obtain ⟨LD,aAc,hS⟩:=bF hS
 refine Zu (cZ (V4 xE.path aAc) rfl (fun _ _=>rfl)) ?_
 refine Zy ?_
 refine Zq (Zb (Zq (Zr ?_)))
 refine Zm ?_
 refine Zu (mC rfl rfl) ?_
 refine Zy ?_
 refine uH hS (fun h7 hS => ?_) (fun h7 hS => ?_)
 ·
  refine Zq (Zr ?_)
  refine Zy ?_
  refine VC.keep (ρ':=[(2,i64 LD)]) [2] rfl ?_
  cases hS
  exact Ze
 refine Zq (Zr ?_)
 refine Zu (aB aD9 rfl) ?_
 refine Zu (aI cN rfl rfl) ?_
 obtain ⟨FE,aEf,hS⟩:=bF hS
 refine Zu (cZ (V2 xE.mode aEf) rfl (fun _ _=>rfl)) ?_
 refine Zu (oS rfl) ?_
 refine Zy ?_
 refine VC.keep (ρ':=[(1,ptr cM 0),(11,.bool (!FE))]) [1,11] rfl ?_
 refine mT hS (fun h11 hS => ?_) (fun h11 hS => ?_)
 ·
  refine Zq (Zr ?_)
  refine Zy ?_
  cases hS
  exact Ze
 refine Zq (Zr ?_)
 refine Zu (aB aDa rfl) ?_
 refine Zu (aI cD rfl rfl) ?_
 refine Zu (iH Tryz.underlying9 rfl) ?_
 refine Zu (gQ rfl rfl) ?_
 refine Zy ?_
 refine Zc hS (fun h16 hS => ?_) (fun h16 hS => ?_)
 ·
  refine Zq (Zr ?_)
  refine Zy ?_
  cases hS
  exact Ze
 refine Zk ?_
 refine Zq (Zr ?_)
 refine Zy ?_
 cases hS
 exact Ze
theorem V6 (bO:bN) (uT:bN) {r:Bool} (hS:Sh.GR bO uT=some r) :
 Ct Tryz.prog 232 [str bO,str uT] Mo.tt (Ow.emp) (X:=Unit) (fun _ => .bool r) (fun _=>True) (fun _=>Mo.tt) (fun _=>Ow.emp):=by
 refine Zo Tryz.func232 Tryz.ntmps232 fun c => ?_
 unfold Sh.GR at hS
 refine Zq (Zr ?_)
 refine Zy ?_
 refine Zq (Zq (Zr ?_))
 refine Zy ?_
 refine Zc hS (fun h6 hS => ?_) (fun h6 hS => ?_)
 ·
  refine Zq (Zr ?_)
  refine Zm ?_
  refine Zu (BX rfl rfl) ?_
  refine Zy ?_
  cases hS
  exact Ze
 refine Zk ?_
 refine Zq (Zr ?_)
 refine Zm ?_
 refine Zu (iH Tryz.underlying9 rfl) ?_
 refine Zm ?_
 refine Zu (iH Tryz.underlying9 rfl) ?_
 obtain ⟨b13,hS⟩:=bQ hS
 refine Zu (dZ rfl rfl b13) ?_
 refine Zu (gQ rfl rfl) ?_
 refine Zm ?_
 refine jJ 15 hS (fun h15 hS => ?_) (fun h15 hS => ?_)
 ·
  refine Zy ?_
  refine Zh (iH Tryz.underlying9 rfl) ?_
  obtain ⟨b19,hS⟩:=bQ hS
  obtain ⟨aUh,aVj,hS⟩:=gY hS
  refine Zh (ZZ Tryz.underlying9 rfl rfl b19.1 b19.2 aVj) ?_
  refine Zg ?_
  refine Zh (sM rfl rfl) ?_
  refine Zy ?_
  refine jJ 23 hS (fun h23 hS => ?_) (fun h23 hS => ?_)
  ·
   refine Zy ?_
   refine Zh (iH Tryz.underlying9 rfl) ?_
   obtain ⟨aLD,aX0,aXO,hS⟩:=eW hS
   refine Zh (qX Tryz.underlying9 rfl rfl aX0 aXO) ?_
   refine Zh (gJ rfl rfl) ?_
   refine Zy ?_
   refine VC.keep (ρ':=[(4,.bool (decide ((aLD.toNat:Int)=47)))]) [4] rfl ?_
   cases hS
   exact Ze
  refine VL.runs 7 [(4,some false)] (by kernel_rfl) ?_
  refine Zl ?_
  refine VC.keep (ρ':=[(4,.bool false)]) [4] rfl ?_
  cases hS
  exact Ze
 refine VL.runs 15 [(4,some false)] (by kernel_rfl) ?_
 refine Zl ?_
 refine VC.keep (ρ':=[(4,.bool false)]) [4] rfl ?_
 cases hS
 exact Ze
theorem V5 (bM:bN) (b_1:bN) {r:Bool} (hS:Sh.A3 bM b_1=some r) :
 Ct Tryz.prog 186 [str bM,str b_1] Mo.tt (Ow.emp) (X:=Unit) (fun _ => .bool r) (fun _=>True) (fun _=>Mo.tt) (fun _=>Ow.emp):=by
 refine Zo Tryz.func186 Tryz.ntmps186 fun c => ?_
 unfold Sh.A3 at hS
 refine Zq (Zr ?_)
 refine Zy ?_
 refine Zq (Zr ?_)
 refine Zm ?_
 refine Zu (BX rfl rfl) ?_
 refine Zm ?_
 refine II 7 hS (fun h7 hS => ?_) (fun h7 hS => ?_)
 ·
  refine Zg ?_
  refine Zh (BX rfl rfl) ?_
  refine Zy ?_
  refine II 11 hS (fun h11 hS => ?_) (fun h11 hS => ?_)
  ·
   refine Zy ?_
   obtain ⟨M5,TT,hS⟩:=bF hS
   refine Zh (cZ (V6 bM b_1 TT) rfl (fun _ _=>rfl)) ?_
   refine Zg ?_
   refine rC 15 hS (fun h15 hS => ?_) (fun h15 hS => ?_)
   ·
    refine VL.runs 3 [(18,none)] (by kernel_rfl) ?_
    refine Zh (fB rfl rfl) ?_
    refine Zy ?_
    refine VC.keep (ρ':=[(4,.bool true)]) [4] rfl ?_
    cases hS
    exact Ze
   refine Zy ?_
   obtain ⟨H9,TX,hS⟩:=bF hS
   refine Zh (cZ (V6 b_1 bM TX) rfl (fun _ _=>rfl)) ?_
   refine Zh (fE rfl rfl) ?_
   refine Zy ?_
   refine VC.keep (ρ':=[(4,.bool H9)]) [4] rfl ?_
   cases hS
   exact Ze
  refine VL.runs 10 [(4,some false)] (by kernel_rfl) ?_
  refine Zl ?_
  cases hS
  exact Ze
 refine VL.runs 14 [(4,some false)] (by kernel_rfl) ?_
 refine Zl ?_
 cases hS
 exact Ze
theorem D6 (eL:Sv eC) {r:bZ} (hS:Sh.lX eL.l=some r) :
 Ct Tryz.prog 104 [eL.val] eL.ok (Ow.emp) (X:=jP) (fun x => .agg (cS.enc x).toArray) (fun x=>r=x.pl) (fun x=>x.m) (fun x=>Ow.emp):=by
 refine Zo Tryz.func104 Tryz.ntmps104 fun c => ?_
 unfold Sh.lX at hS
 refine Zq (Zr ?_)
 refine VL.alloc (cs:=[.slice none 0 0,i64 0]) (by kernel_rfl) (by decide) fun nA => ?_
 refine Zl ?_
 refine Zq (Zq (Zr ?_))
 refine Zm ?_
 refine Zu (fH (s:=eL) Tryz.underlying73 rfl) ?_
 refine Zu (gQ rfl rfl) ?_
 refine Zl ?_
 refine Zc hS (fun h8 hS => ?_) (fun h8 hS => ?_)
 ·
  refine Zq (Zr ?_)
  obtain ⟨ZH,aJp,hS⟩:=bF hS
  refine VL.gI (qY [102,105,108,101] 64 4 aJp) rfl (by decide) ?_
  rintro D5 rfl
  try dsimp only
  refine Zv (vc:=[D5.parts.val,i64 D5.err]) (cs':=[D5.parts.val,i64 D5.err]) rfl pN ?_
  refine Zl ?_
  cases hS
  exact VC.ret (oV (vs:=[.agg #[D5.parts.val,i64 D5.err]]) (.inr rfl) rfl (jY.cell mP rfl rfl Rd.blk (jY.nil)) ⟨D5.parts,D5.err⟩ rfl rfl (by (try dsimp only); exact dQ.out) (fun _ _=>trivial))
 refine Zk ?_
 refine Zq (Zq (Zr ?_))
 refine Zy ?_
 refine Zb ?_
 refine VC.iter (S:=Int) (fun (nN:Int)=>nN) (fun (nN:Int)=>[(0,eL.val),(2,ptr nA 0),(3,i64 nN)]) (fun (nN:Int)=>Mo.tt) (fun (nN:Int)=>Ow.star (bT nA [.slice none 0 0,i64 0] 43) (Ow.emp)) 0 [0,2,3] hS rfl ?_
 clear hS
 rintro nN m1 y1 hS hK1
 refine Zq (Zq (Zr ?_))
 refine Zy ?_
 refine Zu (fH (s:=eL) Tryz.underlying73 rfl) ?_
 refine Zu (dA rfl rfl) ?_
 refine Zl ?_
 refine Zc hS (fun h13 hS => ?_) (fun h13 hS => ?_)
 ·
  refine Zk ?_
  refine Zq (Zb (Zq (Zr ?_)))
  refine Zy ?_
  obtain ⟨TC,aMF,aLf,hS⟩:=eW hS
  refine Zu (dH (s:=eL) Tryz.underlying73 IQ rfl rfl aMF (bC aMF aLf)) ?_
  refine Zu (jL (s:=eL) aRc rfl rfl aLf) ?_
  obtain ⟨YW,aVn,hS⟩:=bF hS
  refine Zu (cZ (aDU (⟨TC.path,TC.mode,TC.data⟩:eC) aVn) rfl (fun _ _=>rfl)) ?_
  refine Zy ?_
  refine VC.keep (ρ':=[(0,eL.val),(2,ptr nA 0),(3,i64 nN),(4,i64 YW)]) [0,2,3,4] rfl ?_
  refine VC.j0 (S:=Int) (fun (TP:Int)=>TP) (fun (TP:Int)=>[(0,eL.val),(2,ptr nA 0),(3,i64 nN),(4,i64 TP)]) (fun (TP:Int)=>Mo.tt) (fun (TP:Int)=>Ow.star (bT nA [.slice none 0 0,i64 0] 43) (Ow.emp)) hS ?_ ?_
  ·
   clear hS
   intro k7 hS
   refine VC.j0 (S:=Bool) (fun (PZ:Bool)=>PZ) (fun (PZ:Bool)=>[(0,eL.val),(2,ptr nA 0),(3,i64 nN),(4,i64 YW),(40,.bool PZ)]) (fun (PZ:Bool)=>Mo.tt) (fun (PZ:Bool)=>Ow.star (bT nA [.slice none 0 0,i64 0] 43) (Ow.emp)) hS ?_ ?_
   ·
    clear hS
    intro k9 hS
    refine VC.draw ((List.range 20).map fun k=>(k,true)) mixed (by kernel_rfl) (by kernel_rfl) (by kernel_rfl) ?_
    refine Zw rfl (bI rfl) ?_
    refine Zw rfl (gJ rfl rfl) ?_
    refine Zw rfl (bI rfl) ?_
    refine VD.mY 23 rfl (fun h23 => ?_) (fun h23 => ?_)
    ·
     replace hS:=wW h23 hS
     refine Zi rfl (bI rfl) ?_
     refine Zi rfl (gQ rfl rfl) ?_
     refine Zw rfl (fB rfl rfl) ?_
     refine Zw rfl (bI rfl) ?_
     refine VD.mY 27 rfl (fun h27 => ?_) (fun h27 => ?_)
     ·
      replace hS:=wW h27 hS
      refine Zi rfl (bI rfl) ?_
      refine Zi rfl (bI rfl) ?_
      obtain ⟨b30,hS⟩:=bQ hS
      refine Zi rfl (tW rfl rfl b30) ?_
      obtain ⟨aGl,aIS,aHi,hS⟩:=eW hS
      refine Zi rfl (dH (s:=eL) Tryz.underlying73 IQ rfl rfl aIS (bC aIS aHi)) ?_
      refine Zi rfl (aB GK rfl) ?_
      refine Zi rfl (jK (s:=eL) cD rfl aHi rfl) ?_
      refine Zi rfl (bI rfl) ?_
      refine Zi rfl (bI rfl) ?_
      obtain ⟨aGn,aIU,aHj,hS⟩:=eW hS
      refine Zi rfl (dH (s:=eL) Tryz.underlying73 IQ rfl rfl aIU (bC aIU aHj)) ?_
      refine Zi rfl (aB GK rfl) ?_
      refine Zi rfl (jK (s:=eL) cD rfl aHj rfl) ?_
      refine Zi rfl (aMb rfl rfl) ?_
      refine Zw rfl (fB rfl rfl) ?_
      refine VD.mt (!Op.bytesLess aGl.path aGn.path) [0,2,3,4,40] (fun _ _ h=>h) hS rfl
     replace hS:=BK h27 hS
     refine Zd ?_
     refine Zd ?_
     refine Zd ?_
     refine Zd ?_
     refine Zd ?_
     refine Zd ?_
     refine Zd ?_
     refine Zd ?_
     refine Zd ?_
     refine Zd ?_
     refine Zd ?_
     refine Zd ?_
     refine Zw rfl (fE rfl rfl) ?_
     refine VD.mt false [0,2,3,4,40] (fun _ _ h=>h) hS rfl
    replace hS:=BK h23 hS
    refine Zd ?_
    refine Zd ?_
    refine Zw rfl (fE rfl rfl) ?_
    refine Zw rfl (bI rfl) ?_
    refine Zd ?_
    refine Zd ?_
    refine Zd ?_
    refine Zd ?_
    refine Zd ?_
    refine Zd ?_
    refine Zd ?_
    refine Zd ?_
    refine Zd ?_
    refine Zd ?_
    refine Zd ?_
    refine Zd ?_
    refine Zw rfl (fE rfl rfl) ?_
    refine VD.mt false [0,2,3,4,40] (fun _ _ h=>h) hS rfl
   clear hS
   rintro PZ hS
   refine mT hS (fun h40 hS => ?_) (fun h40 hS => ?_)
   ·
    refine Zr ?_
    refine Za ?_
    refine VL.mt 6 [0,2,3,4] (fun _ _ h=>h) hS rfl
   refine VC.qL YW [0,2,3,4] (fun _ _ h=>h) hS rfl
  clear hS
  rintro TP hS
  refine VC.j0 (S:=Int) (fun (JF:Int)=>JF) (fun (JF:Int)=>[(0,eL.val),(2,ptr nA 0),(3,i64 nN),(4,i64 JF)]) (fun (JF:Int)=>Mo.tt) (fun (JF:Int)=>Ow.star (bT nA [.slice none 0 0,i64 0] 43) (Ow.emp)) hS ?_ ?_
  ·
   clear hS
   intro k13 hS
   refine Zq (Zr ?_)
   refine Zy ?_
   refine Zb ?_
   refine VC.iter (S:=Int×Int) (fun sg=>(sg.1,sg.2)) (fun sg=>[(0,eL.val),(2,ptr nA 0),(3,i64 nN),(4,i64 sg.1),(5,i64 sg.2)]) (fun sg=>Mo.tt) (fun sg=>Ow.star (bT nA [.slice none 0 0,i64 0] 43) (Ow.emp)) (TP,0) [0,2,3,4,5] hS rfl ?_
   clear hS
   rintro ⟨JG,MK⟩ m2 y2 hS hK2
   refine Zq (Zq (Zr ?_))
   refine Zy ?_
   refine Zu (dA rfl rfl) ?_
   refine Zm ?_
   refine jJ 44 hS (fun h44 hS => ?_) (fun h44 hS => ?_)
   ·
    refine Zg ?_
    refine Zh (gJ rfl rfl) ?_
    refine Zy ?_
    refine Zc hS (fun h47 hS => ?_) (fun h47 hS => ?_)
    ·
     refine Zk ?_
     refine VC.keep (ρ':=[(0,eL.val),(2,ptr nA 0),(3,i64 nN),(4,i64 JG),(5,i64 MK)]) [0,2,3,4,5] rfl ?_
     refine VC.j0 (S:=Int) (fun (LZ:Int)=>LZ) (fun (LZ:Int)=>[(0,eL.val),(2,ptr nA 0),(3,i64 nN),(4,i64 LZ),(5,i64 MK)]) (fun (LZ:Int)=>Mo.tt) (fun (LZ:Int)=>Ow.star (bT nA [.slice none 0 0,i64 0] 43) (Ow.emp)) hS ?_ ?_
     ·
      clear hS
      intro k17 hS
      refine Zb (Zq ?_)
      refine VC.draw ((List.range 11).map fun k=>(k,true)) mixed (by kernel_rfl) (by kernel_rfl) (by kernel_rfl) ?_
      refine Zw rfl (bI rfl) ?_
      refine Zw rfl (bI rfl) ?_
      obtain ⟨aGq,aI8,aHt,hS⟩:=eW hS
      refine Zw rfl (dH (s:=eL) Tryz.underlying73 IQ rfl rfl aI8 (bC aI8 aHt)) ?_
      refine Zw rfl (aB GK rfl) ?_
      refine Zw rfl (jK (s:=eL) cD rfl aHt rfl) ?_
      refine Zw rfl (bI rfl) ?_
      refine Zw rfl (bI rfl) ?_
      obtain ⟨aGu,aIb,aHu,hS⟩:=eW hS
      refine Zw rfl (dH (s:=eL) Tryz.underlying73 IQ rfl rfl aIb (bC aIb aHu)) ?_
      refine Zw rfl (aB GK rfl) ?_
      refine Zw rfl (jK (s:=eL) cD rfl aHu rfl) ?_
      obtain ⟨W1,aRD,hS⟩:=bF hS
      refine Zw rfl (cZ (V5 aGq.path aGu.path aRD) rfl (fun _ _=>rfl)) ?_
      refine VD.to (fun _ _ h=>h) ?_
      refine VC.keep (ρ':=[(0,eL.val),(2,ptr nA 0),(3,i64 nN),(4,i64 JG),(5,i64 MK),(60,.bool W1)]) [0,2,3,4,5,60] rfl ?_
      refine mT hS (fun h60 hS => ?_) (fun h60 hS => ?_)
      ·
       refine Zr ?_
       refine Za ?_
       refine VL.mt 11 [0,2,3,4,5] (fun _ _ h=>h) hS rfl
      refine VC.qL JG [0,2,3,4,5] (fun _ _ h=>h) hS rfl
     clear hS
     rintro LZ hS
     refine Zr ?_
     refine Zm ?_
     obtain ⟨b49,hS⟩:=bQ hS
     refine Zu (dZ rfl rfl b49) ?_
     refine Za ?_
     refine VL.kE (LZ,(MK+1)) [0,2,3,4,5] (fun _ _ h=>h) (go2 hS hK2) rfl
    replace hS:=fF hS hK2
    refine VC.zN JG [0,2,3,4] (fun _ _ h=>h) hS rfl
   refine VL.runs 3 [(47,some false)] (by kernel_rfl) ?_
   refine Zl ?_
   refine VC.rL rfl ?_
   replace hS:=fF hS hK2
   refine VC.zN JG [0,2,3,4] (fun _ _ h=>h) hS rfl
  clear hS
  rintro JF hS
  refine Zq (Zr ?_)
  refine Zm ?_
  refine Zu (mC rfl rfl) ?_
  refine Zl ?_
  refine uH hS (fun h62 hS => ?_) (fun h62 hS => ?_)
  ·
   refine Zq (Zr ?_)
   refine Zy ?_
   obtain ⟨aG0,aRJ,hS⟩:=bF hS
   refine VL.gI (qY [102,105,108,101] nN JF aRJ) rfl (by decide) ?_
   rintro AV rfl
   try dsimp only
   refine Zv (vc:=[AV.parts.val,i64 AV.err]) (cs':=[AV.parts.val,i64 AV.err]) rfl pN ?_
   refine Zl ?_
   replace hS:=fF hS hK1
   cases hS
   exact VC.ret (oV (vs:=[.agg #[AV.parts.val,i64 AV.err]]) (.inr rfl) rfl (jY.cell mP rfl rfl Rd.blk (jY.nil)) ⟨AV.parts,AV.err⟩ rfl rfl (by (try dsimp only); exact dQ.out) (fun _ _=>trivial))
  refine Zk ?_
  refine Zr ?_
  refine Zm ?_
  obtain ⟨b15,hS⟩:=bQ hS
  refine Zu (dZ rfl rfl b15) ?_
  refine Za ?_
  refine VL.kE (nN+1) [0,2,3] (fun _ _ h=>h) (go2 hS hK1) rfl
 replace hS:=fF hS hK1
 refine Zx ?_
 refine Zq (Zr ?_)
 refine Zu (eO (vs:=[]) (cs := #[.slice none 0 0,i64 0]) rfl (by kernel_rfl)) ?_
 refine Zv (vc:=[.slice none 0 0,i64 0]) (cs':=[.slice none 0 0,i64 0]) rfl pN ?_
 refine Zl ?_
 cases hS
 exact VC.ret (oV (vs:=[.agg #[.slice none 0 0,i64 0]]) (.inr rfl) rfl (jY.cell mP rfl rfl Rd.blk (jY.nil)) ⟨⟨none,0,[]⟩,0⟩ rfl rfl (by (try dsimp only); exact dQ.out) (fun _ _=>trivial))
theorem Q5 (tV:bN) (uF:Int) (w_2:jP) {r:bZ} (hS:Sh.O0 tV uF w_2.pl=some r) :
 Ct Tryz.prog 105 [str tV,i64 uF,.agg #[w_2.parts.val,i64 w_2.err]] w_2.parts.ok (Ow.emp) (X:=jP) (fun x => .agg (cS.enc x).toArray) (fun x=>r=x.pl) (fun x=>x.m) (fun x=>Ow.emp):=by
 refine Zo Tryz.func105 Tryz.ntmps105 fun c => ?_
 unfold Sh.O0 at hS
 refine Zq (Zr ?_)
 refine VL.box (cs:=[w_2.parts.val,i64 w_2.err]) rfl rfl (by decide) fun aPr => ?_
 refine VL.alloc (cs:=[.slice none 0 0,i64 0]) (by kernel_rfl) (by decide) fun aLR => ?_
 refine Zl ?_
 refine Zq ?_
 refine VC.draw [(0,true),(1,true),(2,true),(4,true),(5,true),(7,true),(8,true),(3,false),(6,false),(9,true),(10,false)] mixed (by kernel_rfl) (by kernel_rfl) (by kernel_rfl) ?_
 refine Zw rfl (bI rfl) ?_
 refine Zw rfl (bI rfl) ?_
 refine Zw rfl (eO (vs:=[(0,str tV),(1,i64 uF)]) (cs := #[str tV,i64 uF]) rfl (by kernel_rfl)) ?_
 refine Zw rfl (aB EI rfl) ?_
 refine Zw rfl (aI IP rfl rfl) ?_
 refine Zw rfl (aB xG rfl) ?_
 refine Zw rfl (aI cN rfl rfl) ?_
 refine VD.one rfl ?_
 refine VL.aZB (α:=iW) (xs:=[.tmp 9]) (vs:=[.agg #[str tV,i64 uF]]) [⟨tV,uF⟩] Tryz.underlying41 aHd (by decide) rfl rfl rfl rfl (by decide) (by decide) (fun a00 aWj => ?_) (by decide)
 replace hS:=dL aWj hS
 refine VL.back (D':=[(8,i64 w_2.err),(7,ptr aPr 1),(5,w_2.parts.val),(4,ptr aPr 0)]) (by kernel_rfl) (aF.cons rfl (aI cN rfl rfl) (aF.cons rfl (aB xG rfl) (aF.cons rfl (aI IP rfl rfl) (aF.cons rfl (aB EI rfl) (aF.nil))))) ?_
 refine VD.one rfl ?_
 obtain ⟨b13,hS⟩:=bQ hS
 refine VL.app (s:=a00) (r:=w_2.parts) Tryz.underlying41 aRi (by decide) rfl Fo.out (CW b13) (CX b13 (by decide)) (by decide) (fun SY aWk => ?_)
 replace hS:=dL aWk hS
 refine VL.back (D':=[(8,i64 w_2.err),(7,ptr aPr 1)]) (by kernel_rfl) (aF.cons rfl (aI cN rfl rfl) (aF.cons rfl (aB xG rfl) (aF.nil))) ?_
 refine Zw rfl (eO (vs:=[(0,SY.val),(1,i64 w_2.err)]) (cs := #[SY.val,i64 w_2.err]) rfl (by kernel_rfl)) ?_
 refine VD.one rfl ?_
 refine Zv (vc:=[SY.val,i64 w_2.err]) (cs':=[SY.val,i64 w_2.err]) rfl pN ?_
 refine VL.back (D':=[]) (by kernel_rfl) (aF.nil) ?_
 refine VD.to (fun _ _ h=>h) ?_
 refine VC.keep (ρ':=[(6,ptr aLR 0)]) [6] rfl ?_
 refine VC.shut SY 196 (fun _ _ _ _=>trivial) ?_
 cases hS
 exact VC.ret (oV (vs:=[.agg #[SY.val,i64 w_2.err]]) (.inr rfl) rfl (jY.cell mP rfl rfl Rd.blk (jY.nil)) ⟨SY,w_2.err⟩ rfl rfl (by (try dsimp only); exact dQ.out) (fun _ _=>trivial))
theorem aDV (eV:Sv fD) (i_1:Int) {r:Int} (hS:Sh.HQ eV.l i_1=some r) :
 Ct Tryz.prog 187 [eV.val,i64 i_1] eV.ok (Ow.emp) (X:=Unit) (fun _=>i64 r) (fun _=>True) (fun _=>Mo.tt) (fun _=>Ow.emp):=by
 refine Zo Tryz.func187 Tryz.ntmps187 fun c => ?_
 unfold Sh.HQ at hS
 refine Zq (Zr ?_)
 refine Zy ?_
 refine Zq (Zr ?_)
 refine Zy ?_
 obtain ⟨hJ,aLz,aLa,hS⟩:=eW hS
 refine Zu (dH (s:=eV) Tryz.underlying74 DX rfl rfl aLz (bC aLz aLa)) ?_
 refine Zu (jL (s:=eV) aH4 rfl rfl aLa) ?_
 refine VL.alloc (cs:=[str [],i64 0,i64 0,str [],i64 0,i64 0]) (by kernel_rfl) (by decide) fun rW => ?_
 refine Zv (vc:=[str hJ.path,i64 hJ.dJ,i64 hJ.mode,str hJ.data,i64 hJ.time,i64 hJ.size]) (cs':=[str hJ.path,i64 hJ.dJ,i64 hJ.mode,str hJ.data,i64 hJ.time,i64 hJ.size]) rfl DX ?_
 refine Zl ?_
 refine Zq (Zr ?_)
 refine Zu (aB wK rfl) ?_
 refine Zu (aI cD rfl rfl) ?_
 obtain ⟨JX,TU,hS⟩:=bF hS
 refine Zu (cZ (V4 hJ.path TU) rfl (fun _ _=>rfl)) ?_
 refine Zy ?_
 refine VC.keep (ρ':=[(0,eV.val),(1,i64 i_1),(5,ptr rW 0),(6,i64 JX)]) [0,1,5,6] rfl ?_
 refine Zq (Zb (Zq (Zr ?_)))
 refine Zm ?_
 refine Zu (mC rfl rfl) ?_
 refine Zy ?_
 refine uH hS (fun h16 hS => ?_) (fun h16 hS => ?_)
 ·
  refine Zq (Zr ?_)
  refine Zy ?_
  cases hS
  exact Ze
 refine VC.j0 (S:=Bool) (fun (PS:Bool)=>PS) (fun (PS:Bool)=>[(0,eV.val),(1,i64 i_1),(5,ptr rW 0),(20,.bool PS)]) (fun (PS:Bool)=>Mo.tt) (fun (PS:Bool)=>Ow.star (bT rW [str hJ.path,i64 hJ.dJ,i64 hJ.mode,str hJ.data,i64 hJ.time,i64 hJ.size] 219) (Ow.emp)) hS ?_ ?_
 ·
  clear hS
  intro k5 hS
  refine Zr ?_
  refine Zu (aB C5 rfl) ?_
  refine Zu (aI cN rfl rfl) ?_
  refine Zu (dA rfl rfl) ?_
  refine Zm ?_
  refine jJ 24 hS (fun h24 hS => ?_) (fun h24 hS => ?_)
  ·
   refine VL.runs 21 [(20,some true)] (by kernel_rfl) ?_
   refine VL.mt true [0,1,5,20] (fun _ _ h=>h) hS rfl
  refine Zh (aB C5 rfl) ?_
  refine Zh (aI cN rfl rfl) ?_
  refine Zh (gQ rfl rfl) ?_
  refine Zy ?_
  refine jJ 29 hS (fun h29 hS => ?_) (fun h29 hS => ?_)
  ·
   refine VL.runs 16 [(20,some true)] (by kernel_rfl) ?_
   refine VL.mt true [0,1,5,20] (fun _ _ h=>h) hS rfl
  refine Zh (aB aDe rfl) ?_
  refine Zh (aI cN rfl rfl) ?_
  obtain ⟨QC,aEt,hS⟩:=bF hS
  refine Zh (cZ (V2 hJ.mode aEt) rfl (fun _ _=>rfl)) ?_
  refine Zh (oS rfl) ?_
  refine Zy ?_
  refine rC 35 hS (fun h35 hS => ?_) (fun h35 hS => ?_)
  ·
   refine VL.runs 10 [(20,some true)] (by kernel_rfl) ?_
   refine VL.mt true [0,1,5,20] (fun _ _ h=>h) hS rfl
  refine Zh (aB aOl rfl) ?_
  refine Zh (aI cN rfl rfl) ?_
  refine Zh (dA rfl rfl) ?_
  refine Zy ?_
  refine jJ 40 hS (fun h40 hS => ?_) (fun h40 hS => ?_)
  ·
   refine VL.runs 5 [(20,some true)] (by kernel_rfl) ?_
   refine VL.mt true [0,1,5,20] (fun _ _ h=>h) hS rfl
  refine Zh (aB aOm rfl) ?_
  refine Zh (aI cN rfl rfl) ?_
  refine Zh (dA rfl rfl) ?_
  refine Zy ?_
  refine VL.mt (decide (hJ.size < 0)) [0,1,5,20] (fun _ _ h=>h) hS rfl
 clear hS
 rintro PS hS
 refine mT hS (fun h20 hS => ?_) (fun h20 hS => ?_)
 ·
  refine Zq (Zr ?_)
  refine Zy ?_
  cases hS
  exact Ze
 refine Zq (Zr ?_)
 refine Zu (aB aDf rfl) ?_
 refine Zu (aI cD rfl rfl) ?_
 refine Zu (iH Tryz.underlying9 rfl) ?_
 refine Zu (gQ rfl rfl) ?_
 refine Zy ?_
 refine Zc hS (fun h45 hS => ?_) (fun h45 hS => ?_)
 ·
  refine Zq (Zr ?_)
  refine Zy ?_
  cases hS
  exact Ze
 refine Zk ?_
 refine Zq ?_
 refine VC.j0 (S:=Bool) (fun (P4:Bool)=>P4) (fun (P4:Bool)=>[(0,eV.val),(1,i64 i_1),(5,ptr rW 0),(84,.bool P4)]) (fun (P4:Bool)=>Mo.tt) (fun (P4:Bool)=>Ow.star (bT rW [str hJ.path,i64 hJ.dJ,i64 hJ.mode,str hJ.data,i64 hJ.time,i64 hJ.size] 219) (Ow.emp)) hS ?_ ?_
 ·
  clear hS
  intro k8 hS
  refine VC.draw ((List.range 35).map fun k=>(k,true)) mixed (by kernel_rfl) (by kernel_rfl) (by kernel_rfl) ?_
  refine Zw rfl (bI rfl) ?_
  refine Zw rfl (gQ rfl rfl) ?_
  refine Zw rfl (bI rfl) ?_
  refine VD.mY 52 rfl (fun h52 => ?_) (fun h52 => ?_)
  ·
   replace hS:=wW h52 hS
   refine Zi rfl (bI rfl) ?_
   refine Zi rfl (bI rfl) ?_
   obtain ⟨b55,hS⟩:=bQ hS
   refine Zi rfl (tW rfl rfl b55) ?_
   obtain ⟨aLG,aMZ,aLv,hS⟩:=eW hS
   refine Zi rfl (dH (s:=eV) Tryz.underlying74 DX rfl rfl aMZ (bC aMZ aLv)) ?_
   refine Zi rfl (aB wK rfl) ?_
   refine Zi rfl (jK (s:=eV) cD rfl aLv rfl) ?_
   refine Zi rfl (aB wK rfl) ?_
   refine Zi rfl (aI cD rfl rfl) ?_
   refine Zi rfl (aMc rfl rfl) ?_
   refine Zi rfl (bI rfl) ?_
   refine VD.split 62 rfl (fun h62 => ?_) (fun h62 => ?_)
   ·
    replace hS:=wW h62 hS
    refine Zd ?_
    refine Zd ?_
    refine Zd ?_
    refine Zd ?_
    refine Zd ?_
    refine Zd ?_
    refine Zd ?_
    refine Zd ?_
    refine Zd ?_
    refine Zd ?_
    refine VD.gu rfl rfl rfl (by decide) ?_
    refine VD.gu rfl rfl rfl (by decide) ?_
    refine VD.gu rfl rfl rfl (by decide) ?_
    refine VD.gu rfl rfl rfl (by decide) ?_
    refine VD.gu rfl rfl rfl (by decide) ?_
    refine VD.gu rfl rfl rfl (by decide) ?_
    refine VD.gu rfl rfl rfl (by decide) ?_
    refine VD.gu rfl rfl rfl (by decide) ?_
    refine VD.gu rfl rfl rfl (by decide) ?_
    refine Zd ?_
    refine Zi rfl (fB rfl rfl) ?_
    refine Zw rfl (fB rfl rfl) ?_
    refine VD.mt true [0,1,5,84] (fun _ _ h=>h) hS rfl
   replace hS:=aSl h62 hS
   refine Zi rfl (bI rfl) ?_
   refine Zi rfl (bI rfl) ?_
   obtain ⟨b65,hS⟩:=bQ hS
   refine Zi rfl (tW rfl rfl b65) ?_
   obtain ⟨aN1,aIj,aIB,hS⟩:=eW hS
   refine Zi rfl (dH (s:=eV) Tryz.underlying74 DX rfl rfl aIj (bC aIj aIB)) ?_
   refine Zi rfl (aB wK rfl) ?_
   refine Zi rfl (jK (s:=eV) cD rfl aIB rfl) ?_
   refine Zi rfl (aB wK rfl) ?_
   refine Zi rfl (aI cD rfl rfl) ?_
   refine Zi rfl (sM rfl rfl) ?_
   refine Zi rfl (bI rfl) ?_
   refine VD.mY 72 rfl (fun h72 => ?_) (fun h72 => ?_)
   ·
    replace hS:=wW h72 hS
    refine Zi rfl (bI rfl) ?_
    refine Zi rfl (bI rfl) ?_
    obtain ⟨b75,hS⟩:=bQ hS
    refine Zi rfl (tW rfl rfl b75) ?_
    obtain ⟨aGw,aIn,aIC,hS⟩:=eW hS
    refine Zi rfl (dH (s:=eV) Tryz.underlying74 DX rfl rfl aIn (bC aIn aIC)) ?_
    refine Zi rfl (aB C5 rfl) ?_
    refine Zi rfl (jK (s:=eV) cN rfl aIC rfl) ?_
    refine Zi rfl (aB C5 rfl) ?_
    refine Zi rfl (aI cN rfl rfl) ?_
    refine Zi rfl (rQ rfl rfl) ?_
    refine Zi rfl (fB rfl rfl) ?_
    refine Zi rfl (fE rfl rfl) ?_
    refine Zw rfl (fB rfl rfl) ?_
    refine VD.mt (decide (hJ.dJ≤aGw.dJ)) [0,1,5,84] (fun _ _ h=>h) hS rfl
   replace hS:=BK h72 hS
   refine Zd ?_
   refine Zd ?_
   refine Zd ?_
   refine Zd ?_
   refine Zd ?_
   refine Zd ?_
   refine Zd ?_
   refine Zd ?_
   refine Zd ?_
   refine Zi rfl (fE rfl rfl) ?_
   refine Zi rfl (fE rfl rfl) ?_
   refine Zw rfl (fB rfl rfl) ?_
   refine VD.mt false [0,1,5,84] (fun _ _ h=>h) hS rfl
  replace hS:=BK h52 hS
  refine Zd ?_
  refine Zd ?_
  refine Zd ?_
  refine Zd ?_
  refine Zd ?_
  refine Zd ?_
  refine Zd ?_
  refine Zd ?_
  refine Zd ?_
  refine Zd ?_
  refine VD.gu rfl rfl rfl (by decide) ?_
  refine VD.gu rfl rfl rfl (by decide) ?_
  refine VD.gu rfl rfl rfl (by decide) ?_
  refine VD.gu rfl rfl rfl (by decide) ?_
  refine VD.gu rfl rfl rfl (by decide) ?_
  refine VD.gu rfl rfl rfl (by decide) ?_
  refine VD.gu rfl rfl rfl (by decide) ?_
  refine VD.gu rfl rfl rfl (by decide) ?_
  refine VD.gu rfl rfl rfl (by decide) ?_
  refine VD.gu rfl rfl rfl (by decide) ?_
  refine VD.gu rfl rfl rfl (by decide) ?_
  refine VD.gu rfl rfl rfl (by decide) ?_
  refine VD.gu rfl rfl rfl (by decide) ?_
  refine VD.gu rfl rfl rfl (by decide) ?_
  refine VD.gu rfl rfl rfl (by decide) ?_
  refine VD.gu rfl rfl rfl (by decide) ?_
  refine VD.gu rfl rfl rfl (by decide) ?_
  refine VD.gu rfl rfl rfl (by decide) ?_
  refine VD.gu rfl rfl rfl (by decide) ?_
  refine VD.gu rfl rfl rfl (by decide) ?_
  refine Zd ?_
  refine Zw rfl (fE rfl rfl) ?_
  refine VD.mt false [0,1,5,84] (fun _ _ h=>h) hS rfl
 clear hS
 rintro P4 hS
 refine mT hS (fun h84 hS => ?_) (fun h84 hS => ?_)
 ·
  refine Zq (Zr ?_)
  refine Zy ?_
  cases hS
  exact Ze
 refine Zk ?_
 refine Zq (Zq (Zr ?_))
 refine Zy ?_
 refine Zb ?_
 refine VC.iter (S:=Int) (fun (BL:Int)=>BL) (fun (BL:Int)=>[(0,eV.val),(1,i64 i_1),(5,ptr rW 0),(7,i64 BL)]) (fun (BL:Int)=>Mo.tt) (fun (BL:Int)=>Ow.star (bT rW [str hJ.path,i64 hJ.dJ,i64 hJ.mode,str hJ.data,i64 hJ.time,i64 hJ.size] 219) (Ow.emp)) 0 [0,1,5,7] hS rfl ?_
 clear hS
 rintro BL m1 y1 hS hK1
 refine Zq (Zq (Zr ?_))
 refine Zy ?_
 refine Zu (dA rfl rfl) ?_
 refine Zl ?_
 refine Zc hS (fun h87 hS => ?_) (fun h87 hS => ?_)
 ·
  refine Zk ?_
  refine Zq (Zb ?_)
  refine VC.j0 (S:=Bool) (fun (E3:Bool)=>E3) (fun (E3:Bool)=>[(0,eV.val),(1,i64 i_1),(5,ptr rW 0),(7,i64 BL),(110,.bool E3)]) (fun (E3:Bool)=>Mo.tt) (fun (E3:Bool)=>Ow.star (bT rW [str hJ.path,i64 hJ.dJ,i64 hJ.mode,str hJ.data,i64 hJ.time,i64 hJ.size] 219) (Ow.emp)) hS ?_ ?_
  ·
   clear hS
   intro k14 hS
   refine VC.draw ((List.range 21).map fun k=>(k,true)) mixed (by kernel_rfl) (by kernel_rfl) (by kernel_rfl) ?_
   refine Zw rfl (bI rfl) ?_
   refine Zw rfl (bI rfl) ?_
   obtain ⟨aN2,aIu,aIG,hS⟩:=eW hS
   refine Zw rfl (dH (s:=eV) Tryz.underlying74 DX rfl rfl aIu (bC aIu aIG)) ?_
   refine Zw rfl (aB wK rfl) ?_
   refine Zw rfl (jK (s:=eV) cD rfl aIG rfl) ?_
   refine Zw rfl (aB wK rfl) ?_
   refine Zw rfl (aI cD rfl rfl) ?_
   refine Zw rfl (sM rfl rfl) ?_
   refine Zw rfl (bI rfl) ?_
   refine VD.mY 98 rfl (fun h98 => ?_) (fun h98 => ?_)
   ·
    replace hS:=wW h98 hS
    refine Zi rfl (bI rfl) ?_
    refine Zi rfl (bI rfl) ?_
    obtain ⟨aJ6,aDx,aDn,hS⟩:=eW hS
    refine Zi rfl (dH (s:=eV) Tryz.underlying74 DX rfl rfl aDx (bC aDx aDn)) ?_
    refine Zi rfl (aB C5 rfl) ?_
    refine Zi rfl (jK (s:=eV) cN rfl aDn rfl) ?_
    refine Zi rfl (gJ rfl rfl) ?_
    refine Zi rfl (bI rfl) ?_
    refine VD.mY 105 rfl (fun h105 => ?_) (fun h105 => ?_)
    ·
     replace hS:=wW h105 hS
     refine Zd ?_
     refine Zd ?_
     refine Zd ?_
     refine Zi rfl (fB rfl rfl) ?_
     refine Zw rfl (fB rfl rfl) ?_
     refine VD.mt true [0,1,5,7,110] (fun _ _ h=>h) hS rfl
    replace hS:=BK h105 hS
    refine Zi rfl (aB C5 rfl) ?_
    refine Zi rfl (aI cN rfl rfl) ?_
    refine Zi rfl (gJ rfl rfl) ?_
    refine Zi rfl (fE rfl rfl) ?_
    refine Zw rfl (fB rfl rfl) ?_
    refine VD.mt (decide (hJ.dJ=0)) [0,1,5,7,110] (fun _ _ h=>h) hS rfl
   replace hS:=BK h98 hS
   refine Zd ?_
   refine Zd ?_
   refine Zd ?_
   refine Zd ?_
   refine Zd ?_
   refine Zd ?_
   refine Zd ?_
   refine VD.gu rfl rfl rfl (by decide) ?_
   refine VD.gu rfl rfl rfl (by decide) ?_
   refine VD.gu rfl rfl rfl (by decide) ?_
   refine Zd ?_
   refine Zw rfl (fE rfl rfl) ?_
   refine VD.mt false [0,1,5,7,110] (fun _ _ h=>h) hS rfl
  clear hS
  rintro E3 hS
  refine mT hS (fun h110 hS => ?_) (fun h110 hS => ?_)
  ·
   refine Zq (Zr ?_)
   refine Zy ?_
   replace hS:=fF hS hK1
   cases hS
   exact Ze
  refine Zk ?_
  refine Zr ?_
  refine Zm ?_
  obtain ⟨b89,hS⟩:=bQ hS
  refine Zu (dZ rfl rfl b89) ?_
  refine Za ?_
  refine VL.kE (BL+1) [0,1,5,7] (fun _ _ h=>h) (go2 hS hK1) rfl
 replace hS:=fF hS hK1
 refine Zx ?_
 refine Zq (Zq (Zr ?_))
 refine Zy ?_
 refine Zb ?_
 refine VC.iter (S:=Int) (fun (DB:Int)=>DB) (fun (DB:Int)=>[(0,eV.val),(1,i64 i_1),(5,ptr rW 0),(8,i64 DB)]) (fun (DB:Int)=>Mo.tt) (fun (DB:Int)=>Ow.star (bT rW [str hJ.path,i64 hJ.dJ,i64 hJ.mode,str hJ.data,i64 hJ.time,i64 hJ.size] 219) (Ow.emp)) 0 [0,1,5,8] hS rfl ?_
 clear hS
 rintro DB m1 y1 hS hK1
 refine Zq (Zq (Zr ?_))
 refine Zy ?_
 refine Zu (dA rfl rfl) ?_
 refine Zl ?_
 refine Zc hS (fun h113 hS => ?_) (fun h113 hS => ?_)
 ·
  refine Zk ?_
  refine Zq (Zb (Zq ?_))
  refine VC.draw ((List.range 8).map fun k=>(k,true)) mixed (by kernel_rfl) (by kernel_rfl) (by kernel_rfl) ?_
  refine Zw rfl (bI rfl) ?_
  refine Zw rfl (bI rfl) ?_
  obtain ⟨aDE,aEB,aDr,hS⟩:=eW hS
  refine Zw rfl (dH (s:=eV) Tryz.underlying74 DX rfl rfl aEB (bC aEB aDr)) ?_
  refine Zw rfl (aB wK rfl) ?_
  refine Zw rfl (jK (s:=eV) cD rfl aDr rfl) ?_
  refine Zw rfl (aB wK rfl) ?_
  refine Zw rfl (aI cD rfl rfl) ?_
  obtain ⟨aCO,aNr,hS⟩:=bF hS
  refine Zw rfl (cZ (V5 aDE.path hJ.path aNr) rfl (fun _ _=>rfl)) ?_
  refine VD.to (fun _ _ h=>h) ?_
  refine VC.keep (ρ':=[(0,eV.val),(1,i64 i_1),(5,ptr rW 0),(8,i64 DB),(123,.bool aCO)]) [0,1,5,8,123] rfl ?_
  refine mT hS (fun h123 hS => ?_) (fun h123 hS => ?_)
  ·
   refine Zq (Zr ?_)
   refine Zy ?_
   replace hS:=fF hS hK1
   cases hS
   exact Ze
  refine Zk ?_
  refine Zr ?_
  refine Zm ?_
  obtain ⟨b115,hS⟩:=bQ hS
  refine Zu (dZ rfl rfl b115) ?_
  refine Za ?_
  refine VL.kE (DB+1) [0,1,5,8] (fun _ _ h=>h) (go2 hS hK1) rfl
 replace hS:=fF hS hK1
 refine Zx ?_
 refine Zq (Zr ?_)
 refine Zy ?_
 cases hS
 exact Ze
theorem SX (eV:Sv fD) {r:bZ} (hS:Sh.mZ eV.l=some r) :
 Ct Tryz.prog 106 [eV.val] eV.ok (Ow.emp) (X:=jP) (fun x => .agg (cS.enc x).toArray) (fun x=>r=x.pl) (fun x=>x.m) (fun x=>Ow.emp):=by
 refine Zo Tryz.func106 Tryz.ntmps106 fun c => ?_
 unfold Sh.mZ at hS
 refine Zq (Zr ?_)
 refine VL.alloc (cs:=[.slice none 0 0,i64 0]) (by kernel_rfl) (by decide) fun nA => ?_
 refine Zl ?_
 refine Zq (Zq (Zr ?_))
 refine Zm ?_
 refine Zu (fH (s:=eV) Tryz.underlying74 rfl) ?_
 refine Zu (gQ rfl rfl) ?_
 refine Zl ?_
 refine Zc hS (fun h7 hS => ?_) (fun h7 hS => ?_)
 ·
  refine Zq (Zr ?_)
  obtain ⟨oF,CZ,hS⟩:=bF hS
  refine VL.gI (qY [101,110,116,114,121] 256 4 CZ) rfl (by decide) ?_
  rintro sZ rfl
  try dsimp only
  refine Zv (vc:=[sZ.parts.val,i64 sZ.err]) (cs':=[sZ.parts.val,i64 sZ.err]) rfl pN ?_
  refine Zl ?_
  cases hS
  exact VC.ret (oV (vs:=[.agg #[sZ.parts.val,i64 sZ.err]]) (.inr rfl) rfl (jY.cell mP rfl rfl Rd.blk (jY.nil)) ⟨sZ.parts,sZ.err⟩ rfl rfl (by (try dsimp only); exact dQ.out) (fun _ _=>trivial))
 refine Zk ?_
 refine Zq (Zq (Zr ?_))
 refine Zy ?_
 refine Zb ?_
 refine VC.iter (S:=Int) (fun (nN:Int)=>nN) (fun (nN:Int)=>[(0,eV.val),(2,ptr nA 0),(3,i64 nN)]) (fun (nN:Int)=>Mo.tt) (fun (nN:Int)=>Ow.star (bT nA [.slice none 0 0,i64 0] 43) (Ow.emp)) 0 [0,2,3] hS rfl ?_
 clear hS
 rintro nN m1 y1 hS hK1
 refine Zq (Zq (Zr ?_))
 refine Zy ?_
 refine Zu (fH (s:=eV) Tryz.underlying74 rfl) ?_
 refine Zu (dA rfl rfl) ?_
 refine Zl ?_
 refine Zc hS (fun h12 hS => ?_) (fun h12 hS => ?_)
 ·
  refine Zk ?_
  refine Zq (Zb (Zq (Zr ?_)))
  refine Zy ?_
  obtain ⟨vH,L6,hS⟩:=bF hS
  refine Zu (cZ (aDV eV nN L6) rfl (fun _ _=>rfl)) ?_
  refine Zy ?_
  refine VC.keep (ρ':=[(0,eV.val),(2,ptr nA 0),(3,i64 nN),(4,i64 vH)]) [0,2,3,4] rfl ?_
  refine Zq (Zr ?_)
  refine Zm ?_
  refine Zu (mC rfl rfl) ?_
  refine Zl ?_
  refine uH hS (fun h19 hS => ?_) (fun h19 hS => ?_)
  ·
   refine Zq (Zr ?_)
   refine Zy ?_
   obtain ⟨zL,T3,hS⟩:=bF hS
   refine VL.gI (qY [101,110,116,114,121] nN vH T3) rfl (by decide) ?_
   rintro ET rfl
   try dsimp only
   refine Zv (vc:=[ET.parts.val,i64 ET.err]) (cs':=[ET.parts.val,i64 ET.err]) rfl pN ?_
   refine Zl ?_
   replace hS:=fF hS hK1
   cases hS
   exact VC.ret (oV (vs:=[.agg #[ET.parts.val,i64 ET.err]]) (.inr rfl) rfl (jY.cell mP rfl rfl Rd.blk (jY.nil)) ⟨ET.parts,ET.err⟩ rfl rfl (by (try dsimp only); exact dQ.out) (fun _ _=>trivial))
  refine Zk ?_
  refine Zr ?_
  refine Zm ?_
  obtain ⟨b14,hS⟩:=bQ hS
  refine Zu (dZ rfl rfl b14) ?_
  refine Za ?_
  refine VL.kE (nN+1) [0,2,3] (fun _ _ h=>h) (go2 hS hK1) rfl
 replace hS:=fF hS hK1
 refine Zx ?_
 refine Zq (Zr ?_)
 refine Zu (eO (vs:=[]) (cs := #[.slice none 0 0,i64 0]) rfl (by kernel_rfl)) ?_
 refine Zv (vc:=[.slice none 0 0,i64 0]) (cs':=[.slice none 0 0,i64 0]) rfl pN ?_
 refine Zl ?_
 cases hS
 exact VC.ret (oV (vs:=[.agg #[.slice none 0 0,i64 0]]) (.inr rfl) rfl (jY.cell mP rfl rfl Rd.blk (jY.nil)) ⟨⟨none,0,[]⟩,0⟩ rfl rfl (by (try dsimp only); exact dQ.out) (fun _ _=>trivial))
theorem V3 (aD:bN) {r:Bool} (hS:Sh.AZ aD=some r) :
 Ct Tryz.prog 107 [str aD] Mo.tt (Ow.emp) (X:=Unit) (fun _ => .bool r) (fun _=>True) (fun _=>Mo.tt) (fun _=>Ow.emp):=by
 refine Zo Tryz.func107 Tryz.ntmps107 fun c => ?_
 unfold Sh.AZ at hS
 refine Zq (Zr ?_)
 refine Zy ?_
 refine Zq ?_
 refine VC.j0 (S:=Bool) (fun (PT:Bool)=>PT) (fun (PT:Bool)=>[(0,str aD),(21,.bool PT)]) (fun (PT:Bool)=>Mo.tt) (fun (PT:Bool)=>Ow.emp) hS ?_ ?_
 ·
  clear hS
  intro k2 hS
  refine Zr ?_
  refine Zm ?_
  refine Zu (iH Tryz.underlying9 rfl) ?_
  refine Zu (dA rfl rfl) ?_
  refine Zm ?_
  refine jJ 7 hS (fun h7 hS => ?_) (fun h7 hS => ?_)
  ·
   refine VL.runs 14 [(21,some true)] (by kernel_rfl) ?_
   refine VL.mt true [0,21] (fun _ _ h=>h) hS rfl
  refine Zg ?_
  refine Zh (iH Tryz.underlying9 rfl) ?_
  refine Zh (gQ rfl rfl) ?_
  refine Zy ?_
  refine jJ 12 hS (fun h12 hS => ?_) (fun h12 hS => ?_)
  ·
   refine VL.runs 9 [(21,some true)] (by kernel_rfl) ?_
   refine VL.mt true [0,21] (fun _ _ h=>h) hS rfl
  refine Zg ?_
  obtain ⟨fP,qV,qC,hS⟩:=eW hS
  refine Zh (qX Tryz.underlying9 rfl rfl qV qC) ?_
  refine Zh (dA rfl rfl) ?_
  refine Zy ?_
  refine jJ 17 hS (fun h17 hS => ?_) (fun h17 hS => ?_)
  ·
   refine VL.runs 4 [(21,some true)] (by kernel_rfl) ?_
   refine VL.mt true [0,21] (fun _ _ h=>h) hS rfl
  refine Zg ?_
  obtain ⟨lQ,uM,sY,hS⟩:=eW hS
  refine Zh (qX Tryz.underlying9 rfl rfl uM sY) ?_
  refine Zh (gQ rfl rfl) ?_
  refine Zf ?_
  refine VL.mt (decide (122 < (lQ.toNat:Int))) [0,21] (fun _ _ h=>h) hS rfl
 clear hS
 rintro PT hS
 refine mT hS (fun h21 hS => ?_) (fun h21 hS => ?_)
 ·
  refine Zq (Zr ?_)
  refine Zy ?_
  cases hS
  exact Ze
 refine Zk ?_
 refine Zq (Zq (Zr ?_))
 refine Zy ?_
 refine Zb ?_
 refine VC.iter (S:=Int) (fun (pL:Int)=>pL) (fun (pL:Int)=>[(0,str aD),(3,i64 pL)]) (fun (pL:Int)=>Mo.tt) (fun (pL:Int)=>Ow.emp) 0 [0,3] hS rfl ?_
 clear hS
 rintro pL m1 y1 hS hK1
 refine Zq (Zq (Zr ?_))
 refine Zy ?_
 refine Zu (iH Tryz.underlying9 rfl) ?_
 refine Zu (dA rfl rfl) ?_
 refine Zl ?_
 refine Zc hS (fun h25 hS => ?_) (fun h25 hS => ?_)
 ·
  refine Zk ?_
  refine Zq (Zb ?_)
  refine VC.j0 (S:=Bool) (fun (P1:Bool)=>P1) (fun (P1:Bool)=>[(0,str aD),(3,i64 pL),(55,.bool P1)]) (fun (P1:Bool)=>Mo.tt) (fun (P1:Bool)=>Ow.emp) hS ?_ ?_
  ·
   clear hS
   intro k7 hS
   refine Zr ?_
   refine Zy ?_
   obtain ⟨aVG,aX2,aXQ,hS⟩:=eW hS
   refine Zu (qX Tryz.underlying9 rfl rfl aX2 aXQ) ?_
   refine Zu (dA rfl rfl) ?_
   refine Zm ?_
   refine jJ 32 hS (fun h32 hS => ?_) (fun h32 hS => ?_)
   ·
    refine VL.runs 6 [(38,some true)] (by kernel_rfl) ?_
    refine Zy ?_
    obtain ⟨aVH,aX3,aXR,hS⟩:=eW hS
    refine Zh (qX Tryz.underlying9 rfl rfl aX3 aXR) ?_
    refine Zh (dA rfl rfl) ?_
    refine Zg ?_
    refine jJ 43 hS (fun h43 hS => ?_) (fun h43 hS => ?_)
    ·
     refine VL.runs 4 [(47,none)] (by kernel_rfl) ?_
     refine Zh (fB rfl rfl) ?_
     refine Zy ?_
     obtain ⟨aGr,aTC,aSh,hS⟩:=eW hS
     refine Zh (qX Tryz.underlying9 rfl rfl aTC aSh) ?_
     refine Zh (mC rfl rfl) ?_
     refine Zt ?_
     refine VL.mt (!decide ((aGr.toNat:Int)=45)) [0,3,55] (fun _ _ h=>h) hS rfl
    refine Zy ?_
    obtain ⟨aNX,aTA,aSf,hS⟩:=eW hS
    refine Zh (qX Tryz.underlying9 rfl rfl aTA aSf) ?_
    refine Zh (gQ rfl rfl) ?_
    refine Zh (fE rfl rfl) ?_
    refine Zy ?_
    refine jJ 50 hS (fun h50 hS => ?_) (fun h50 hS => ?_)
    ·
     refine Zy ?_
     obtain ⟨NH,aBW,aBF,hS⟩:=eW hS
     refine Zh (qX Tryz.underlying9 rfl rfl aBW aBF) ?_
     refine Zh (mC rfl rfl) ?_
     refine Zt ?_
     refine VL.mt (!decide ((NH.toNat:Int)=45)) [0,3,55] (fun _ _ h=>h) hS rfl
    refine VL.runs 5 [(55,some false)] (by kernel_rfl) ?_
    refine VL.mt false [0,3,55] (fun _ _ h=>h) hS rfl
   refine Zy ?_
   obtain ⟨aNV,aSy,aSd,hS⟩:=eW hS
   refine Zh (qX Tryz.underlying9 rfl rfl aSy aSd) ?_
   refine Zh (gQ rfl rfl) ?_
   refine Zy ?_
   refine jJ 38 hS (fun h38 hS => ?_) (fun h38 hS => ?_)
   ·
    refine Zy ?_
    obtain ⟨aNW,aSz,aSe,hS⟩:=eW hS
    refine Zh (qX Tryz.underlying9 rfl rfl aSz aSe) ?_
    refine Zh (dA rfl rfl) ?_
    refine Zg ?_
    refine jJ 43 hS (fun h43 hS => ?_) (fun h43 hS => ?_)
    ·
     refine VL.runs 4 [(47,none)] (by kernel_rfl) ?_
     refine Zh (fB rfl rfl) ?_
     refine Zy ?_
     obtain ⟨aGs,aTD,aSi,hS⟩:=eW hS
     refine Zh (qX Tryz.underlying9 rfl rfl aTD aSi) ?_
     refine Zh (mC rfl rfl) ?_
     refine Zt ?_
     refine VL.mt (!decide ((aGs.toNat:Int)=45)) [0,3,55] (fun _ _ h=>h) hS rfl
    refine Zy ?_
    obtain ⟨aNY,aTB,aSg,hS⟩:=eW hS
    refine Zh (qX Tryz.underlying9 rfl rfl aTB aSg) ?_
    refine Zh (gQ rfl rfl) ?_
    refine Zh (fE rfl rfl) ?_
    refine Zy ?_
    refine jJ 50 hS (fun h50 hS => ?_) (fun h50 hS => ?_)
    ·
     refine Zy ?_
     obtain ⟨aGt,aTE,aSj,hS⟩:=eW hS
     refine Zh (qX Tryz.underlying9 rfl rfl aTE aSj) ?_
     refine Zh (mC rfl rfl) ?_
     refine Zt ?_
     refine VL.mt (!decide ((aGt.toNat:Int)=45)) [0,3,55] (fun _ _ h=>h) hS rfl
    refine VL.runs 5 [(55,some false)] (by kernel_rfl) ?_
    refine VL.mt false [0,3,55] (fun _ _ h=>h) hS rfl
   refine VL.runs 17 [(55,some false)] (by kernel_rfl) ?_
   refine VL.mt false [0,3,55] (fun _ _ h=>h) hS rfl
  clear hS
  rintro P1 hS
  refine mT hS (fun h55 hS => ?_) (fun h55 hS => ?_)
  ·
   refine Zq (Zr ?_)
   refine Zy ?_
   replace hS:=fF hS hK1
   cases hS
   exact Ze
  refine Zk ?_
  refine Zr ?_
  refine Zm ?_
  obtain ⟨b27,hS⟩:=bQ hS
  refine Zu (dZ rfl rfl b27) ?_
  refine Za ?_
  refine VL.kE (pL+1) [0,3] (fun _ _ h=>h) (go2 hS hK1) rfl
 replace hS:=fF hS hK1
 refine Zx ?_
 refine Zq (Zr ?_)
 refine Zy ?_
 cases hS
 exact Ze
theorem aDX (aD:lJ) {r:List (List Int)} (hS:Sh.HS aD.pl=some r) :
 Ct Tryz.prog 109 [.agg (eF aD).toArray] (aD.iV.ok.and (aD.iM.ok.and (aD.fX.ok.and (aD.fQ.ok.and (aD.gM.ok.and (aD.fR.ok.and (aD.gN.ok.and (aD.iR.ok.and (aD.aK.ok.and (aD.back.ok.and aD.hO.ok)))))))))) (Ow.emp) (X:=Sv (Sv Int)) (fun x=>x.val) (fun x=>r=(x.l.map Sv.l)) (fun x=>x.ok) (fun x=>Ow.emp):=by
 refine Zo Tryz.func109 Tryz.ntmps109 fun c => ?_
 unfold Sh.HS at hS
 refine Zq (Zr ?_)
 refine VL.box (cs:=(eF aD)) rfl rfl (by decide) fun cM => ?_
 refine Zy ?_
 refine Zq (Zr ?_)
 refine Zy ?_
 refine Zq (Zq (Zr ?_))
 refine Zy ?_
 refine Zb ?_
 refine VC.qU (⟨none,0,[]⟩:Sv (Sv Int)) 32 ⟨rfl,rfl⟩ ?_
 refine VC.G9 (s:=(⟨none,0,[]⟩:Sv (Sv Int))) rfl ?_
 refine VC.iter (S:=Sv (Sv Int)×Int) (fun sg=>((sg.1.l.map Sv.l),sg.2)) (fun sg=>[(1,ptr cM 0),(3,sg.1.val),(4,i64 sg.2)]) (fun sg=>(wL sg.1.l)) (fun sg=>Ow.star (bT cM (eF aD) 86) (Ow.star (Sv.own sg.1 32) (Ow.emp))) (⟨none,0,[]⟩,0) [1,3,4] hS rfl ?_
 clear hS
 rintro ⟨Y7,FJ⟩ m1 y1 hS hK1
 refine Zq (Zq (Zr ?_))
 refine Zm ?_
 refine Zu (aB pW rfl) ?_
 refine Zu (aI uK rfl rfl) ?_
 refine Zu (iT dG.pl (s:=aD.aK) Tryz.underlying83 rfl) ?_
 refine Zu (dA rfl rfl) ?_
 refine Zl ?_
 refine Zc hS (fun h9 hS => ?_) (fun h9 hS => ?_)
 ·
  refine Zk ?_
  refine Zq (Zb (Zr ?_))
  refine Zm ?_
  refine Zu (aB pW rfl) ?_
  refine Zu (aI uK rfl rfl) ?_
  refine Zm ?_
  obtain ⟨J2,VF,QT,hS⟩:=kQ hS
  refine VL.deep J2.m QT (fun _ q=>q) ?_
  refine Zu (dH (s:=aD.aK) Tryz.underlying83 UD rfl rfl VF (bC VF QT)) ?_
  refine Zu (aB aD7 rfl) ?_
  refine Zu (jK (s:=aD.aK) tF rfl QT rfl) ?_
  refine VL.lit (α:=Sv Int) (xs:=[.tmp 18]) (vs:=[J2.parents.val]) [J2.parents] Tryz.underlying106 aL5 (by decide) rfl rfl rfl rfl (by decide) (fun h m=>List.forall_mem_cons.2 ⟨dQ.out (X:=J2.parents.ok) h m,fun _ h=>by cases h⟩) (by decide) (fun aKM aFJ => ?_) (by decide)
  replace hS:=dL (congrArg (List.map Sv.l) aFJ) hS
  obtain ⟨b20,hS⟩:=bQ hS
  refine VL.app (s:=Y7) (r:=aKM) Tryz.underlying106 aL1 (by decide) rfl Fo.out (CW (TH b20)) (CX (TH b20) (by decide)) (by decide) (fun YE UI => ?_)
  replace hS:=dL ((congrArg (List.map Sv.l) UI).trans List.map_append) hS
  refine VL.SU UI ?_
  refine Zy ?_
  refine VC.keep (ρ':=[(1,ptr cM 0),(3,YE.val),(4,i64 FJ)]) [1,3,4] rfl ?_
  refine Zr ?_
  refine Zm ?_
  obtain ⟨b11,hS⟩:=bQ hS
  refine Zu (dZ rfl rfl b11) ?_
  refine Za ?_
  refine VL.kE (YE,(FJ+1)) [1,3,4] (fun _ _ h=>h) (go2 hS hK1) rfl
 replace hS:=fF hS hK1
 refine Zx ?_
 refine Zq (Zr ?_)
 refine Zy ?_
 refine VC.shut Y7 32 (fun h m=>dQ.out (X:=wL Y7.l) h m) ?_
 cases hS
 exact VC.ret (iU (.inr rfl) rfl rfl Y7 rfl rfl (by (try dsimp only); exact dQ.out) (fun _ _=>trivial))
theorem aDW (oL:Sv (Sv Int)) {r:Int} (hS:Sh.HR (oL.l.map Sv.l)=some r) :
 Ct Tryz.prog 108 [oL.val] oL.ok (Ow.emp) (X:=Unit) (fun _=>i64 r) (fun _=>True) (fun _=>Mo.tt) (fun _=>Ow.emp):=by
 refine Zo Tryz.func108 Tryz.ntmps108 fun c => ?_
 unfold Sh.HR at hS
 refine Zq (Zr ?_)
 refine Zy ?_
 refine Zq (Zq (Zr ?_))
 refine Zm ?_
 refine Zu (iT Sv.l (s:=oL) Tryz.underlying106 rfl) ?_
 refine Zu (gQ rfl rfl) ?_
 refine Zl ?_
 refine Zc hS (fun h7 hS => ?_) (fun h7 hS => ?_)
 ·
  refine Zq (Zr ?_)
  refine Zy ?_
  cases hS
  exact Ze
 refine Zk ?_
 refine Zq (Zq (Zr ?_))
 refine Zy ?_
 refine Zb ?_
 refine VC.iter (S:=Int) (fun (lM:Int)=>lM) (fun (lM:Int)=>[(0,oL.val),(3,i64 lM)]) (fun (lM:Int)=>Mo.tt) (fun (lM:Int)=>Ow.emp) 0 [0,3] hS rfl ?_
 clear hS
 rintro lM m1 y1 hS hK1
 refine Zq (Zq (Zr ?_))
 refine Zy ?_
 refine Zu (iT Sv.l (s:=oL) Tryz.underlying106 rfl) ?_
 refine Zu (dA rfl rfl) ?_
 refine Zl ?_
 refine Zc hS (fun h11 hS => ?_) (fun h11 hS => ?_)
 ·
  refine Zk ?_
  refine VC.j0 (S:=Unit) (fun (_:Unit)=>()) (fun (_:Unit)=>[(0,oL.val),(3,i64 lM)]) (fun (_:Unit)=>Mo.tt) (fun (_:Unit)=>Ow.emp) hS ?_ ?_
  ·
   clear hS
   intro k2 hS
   refine Zb (Zq (Zq (Zr ?_)))
   refine Zy ?_
   obtain ⟨TB,aMD,aFR,hS⟩:=kQ hS
   refine VL.deep TB.ok aFR (fun _ q=>q) ?_
   refine Zu (dH (s:=oL) Tryz.underlying106 MD rfl rfl aMD (bC aMD aFR)) ?_
   refine Zu (qW (s:=oL) tF rfl aFR rfl) ?_
   refine Zu (fH (s:=TB) Tryz.underlying32 rfl) ?_
   refine Zu (gQ rfl rfl) ?_
   refine Zl ?_
   refine VC.keep (ρ':=[(0,oL.val),(3,i64 lM),(19,.bool (decide (2 < (TB.l.length:Int))))]) [0,3,19] rfl ?_
   refine Zc hS (fun h19 hS => ?_) (fun h19 hS => ?_)
   ·
    refine Zq (Zr ?_)
    refine Zy ?_
    replace hS:=fF hS hK1
    cases hS
    exact Ze
   refine Zk ?_
   refine Zq (Zq (Zr ?_))
   refine Zy ?_
   refine Zb ?_
   refine VC.iter (S:=Int) (fun (AP:Int)=>AP) (fun (AP:Int)=>[(0,oL.val),(3,i64 lM),(4,i64 AP)]) (fun (AP:Int)=>Mo.tt) (fun (AP:Int)=>Ow.emp) 0 [0,3,4] hS rfl ?_
   clear hS
   rintro AP m2 y2 hS hK2
   refine Zq (Zq (Zr ?_))
   refine Zy ?_
   obtain ⟨CO,I1,FX,hS⟩:=kQ hS
   refine VL.deep CO.ok FX (fun _ q=>q) ?_
   refine Zu (dH (s:=oL) Tryz.underlying106 MD rfl rfl I1 (bC I1 FX)) ?_
   refine Zu (qW (s:=oL) tF rfl FX rfl) ?_
   refine Zu (fH (s:=CO) Tryz.underlying32 rfl) ?_
   refine Zu (dA rfl rfl) ?_
   refine Zl ?_
   refine Zc hS (fun h26 hS => ?_) (fun h26 hS => ?_)
   ·
    refine Zk ?_
    refine Zq (Zb ?_)
    refine VC.j0 (S:=Bool) (fun (JV:Bool)=>JV) (fun (JV:Bool)=>[(0,oL.val),(3,i64 lM),(4,i64 AP),(47,.bool JV)]) (fun (JV:Bool)=>Mo.tt) (fun (JV:Bool)=>Ow.emp) hS ?_ ?_
    ·
     clear hS
     intro k7 hS
     refine Zr ?_
     refine Zy ?_
     obtain ⟨TD,aMT,aFV,hS⟩:=kQ hS
     refine VL.deep TD.ok aFV (fun _ q=>q) ?_
     refine Zu (dH (s:=oL) Tryz.underlying106 MD rfl rfl aMT (bC aMT aFV)) ?_
     refine Zu (qW (s:=oL) tF rfl aFV rfl) ?_
     refine Zm ?_
     obtain ⟨aGm,aMV,aLr,hS⟩:=eW hS
     refine Zu (dH (s:=TD) Tryz.underlying32 FI rfl rfl aMV (bC aMV aLr)) ?_
     refine Zu (qW (s:=TD) cN rfl aLr rfl) ?_
     refine Zu (dA rfl rfl) ?_
     refine Zm ?_
     refine jJ 37 hS (fun h37 hS => ?_) (fun h37 hS => ?_)
     ·
      refine VL.runs 10 [(47,some true)] (by kernel_rfl) ?_
      refine VL.mt true [0,3,4,47] (fun _ _ h=>h) hS rfl
     refine Zy ?_
     obtain ⟨NG,aIX,aBB,hS⟩:=kQ hS
     refine VL.deep NG.ok aBB (fun _ q=>q) ?_
     refine Zh (dH (s:=oL) Tryz.underlying106 MD rfl rfl aIX (bC aIX aBB)) ?_
     refine Zh (qW (s:=oL) tF rfl aBB rfl) ?_
     refine Zg ?_
     obtain ⟨W6,aIZ,aHn,hS⟩:=eW hS
     refine Zh (dH (s:=NG) Tryz.underlying32 FI rfl rfl aIZ (bC aIZ aHn)) ?_
     refine Zh (qW (s:=NG) cN rfl aHn rfl) ?_
     refine Zg ?_
     refine Zh (gQ rfl rfl) ?_
     refine Zf ?_
     refine VL.mt (decide (lM < W6)) [0,3,4,47] (fun _ _ h=>h) hS rfl
    clear hS
    rintro JV hS
    refine mT hS (fun h47 hS => ?_) (fun h47 hS => ?_)
    ·
     refine Zq (Zr ?_)
     refine Zy ?_
     replace hS:=fF hS hK2
     replace hS:=fF hS hK1
     cases hS
     exact Ze
    refine Zk ?_
    refine Zr ?_
    refine Zm ?_
    obtain ⟨b28,hS⟩:=bQ hS
    refine Zu (dZ rfl rfl b28) ?_
    refine Za ?_
    refine VL.kE (AP+1) [0,3,4] (fun _ _ h=>h) (go2 hS hK2) rfl
   replace hS:=fF hS hK2
   refine Zx ?_
   refine VC.j0 (S:=Bool) (fun (D9:Bool)=>D9) (fun (D9:Bool)=>[(0,oL.val),(3,i64 lM),(68,.bool D9)]) (fun (D9:Bool)=>Mo.tt) (fun (D9:Bool)=>Ow.emp) hS ?_ ?_
   ·
    clear hS
    intro k13 hS
    refine VC.draw ((List.range 21).map fun k=>(k,true)) mixed (by kernel_rfl) (by kernel_rfl) (by kernel_rfl) ?_
    refine Zw rfl (bI rfl) ?_
    refine Zw rfl (bI rfl) ?_
    obtain ⟨RE,aI7,aBE,hS⟩:=kQ hS
    refine VD.deep RE.ok aBE (fun _ q=>q) ?_
    refine Zw rfl (dH (s:=oL) Tryz.underlying106 MD rfl rfl aI7 (bC aI7 aBE)) ?_
    refine Zw rfl (qW (s:=oL) tF rfl aBE rfl) ?_
    refine Zw rfl (fH (s:=RE) Tryz.underlying32 rfl) ?_
    refine Zw rfl (gJ rfl rfl) ?_
    refine Zw rfl (bI rfl) ?_
    refine VD.mY 54 rfl (fun h54 => ?_) (fun h54 => ?_)
    ·
     replace hS:=wW h54 hS
     refine Zi rfl (bI rfl) ?_
     refine Zi rfl (bI rfl) ?_
     obtain ⟨NI,aIa,aBH,hS⟩:=kQ hS
     refine VD.deep NI.ok aBH (fun _ q=>q) ?_
     refine Zi rfl (dH (s:=oL) Tryz.underlying106 MD rfl rfl aIa (bC aIa aBH)) ?_
     refine Zi rfl (qW (s:=oL) tF rfl aBH rfl) ?_
     obtain ⟨W8,aIf,aHy,hS⟩:=eW hS
     refine Zi rfl (dH (s:=NI) Tryz.underlying32 FI rfl rfl aIf (bC aIf aHy)) ?_
     refine Zi rfl (qW (s:=NI) cN rfl aHy rfl) ?_
     refine Zi rfl (bI rfl) ?_
     refine Zi rfl (bI rfl) ?_
     obtain ⟨NK,aIh,aBI,hS⟩:=kQ hS
     refine VD.deep NK.ok aBI (fun _ q=>q) ?_
     refine Zi rfl (dH (s:=oL) Tryz.underlying106 MD rfl rfl aIh (bC aIh aBI)) ?_
     refine Zi rfl (qW (s:=oL) tF rfl aBI rfl) ?_
     obtain ⟨W9,aIi,aIA,hS⟩:=eW hS
     refine Zi rfl (dH (s:=NK) Tryz.underlying32 FI rfl rfl aIi (bC aIi aIA)) ?_
     refine Zi rfl (qW (s:=NK) cN rfl aIA rfl) ?_
     refine Zi rfl (gJ rfl rfl) ?_
     refine Zw rfl (fB rfl rfl) ?_
     refine VD.mt (decide (W8=W9)) [0,3,68] (fun _ _ h=>h) hS rfl
    replace hS:=BK h54 hS
    refine Zd ?_
    refine Zd ?_
    refine Zd ?_
    refine Zd ?_
    refine Zd ?_
    refine Zd ?_
    refine Zd ?_
    refine Zd ?_
    refine Zd ?_
    refine Zd ?_
    refine Zd ?_
    refine Zd ?_
    refine Zd ?_
    refine Zw rfl (fE rfl rfl) ?_
    refine VD.mt false [0,3,68] (fun _ _ h=>h) hS rfl
   clear hS
   rintro D9 hS
   refine mT hS (fun h68 hS => ?_) (fun h68 hS => ?_)
   ·
    refine Zq (Zr ?_)
    refine Zy ?_
    replace hS:=fF hS hK1
    cases hS
    exact Ze
   refine VC.qL () [0,3] (fun _ _ h=>h) hS rfl
  clear hS
  rintro _ hS
  refine Zr ?_
  refine Zm ?_
  obtain ⟨b13,hS⟩:=bQ hS
  refine Zu (dZ rfl rfl b13) ?_
  refine Za ?_
  refine VL.kE (lM+1) [0,3] (fun _ _ h=>h) (go2 hS hK1) rfl
 replace hS:=fF hS hK1
 refine Zx ?_
 refine Zq (Zr ?_)
 refine Zy ?_
 cases hS
 exact Ze
end Go.Proofs.YthbccdlpalenlaaGreatDoor
end

section
set_option linter.unusedVariables false
namespace Go.Proofs.YthbccdlpalenlaaGreatDoor
set_option maxHeartbeats 4000000
set_option maxRecDepth 100000
set_option synthInstance.maxSize 2000
set_option synthInstance.maxHeartbeats 1000000
open Go.RowKit Go.V
open Go.S hiding bN
theorem aDP (aD:lJ) {r:bZ} (hS:Sh.G8 aD.pl=some r) :
 Ct Tryz.prog 41 [.agg (eF aD).toArray] (aD.iV.ok.and (aD.iM.ok.and (aD.fX.ok.and (aD.fQ.ok.and (aD.gM.ok.and (aD.fR.ok.and (aD.gN.ok.and (aD.iR.ok.and (aD.aK.ok.and (aD.back.ok.and aD.hO.ok)))))))))) (Ow.emp) (X:=jP) (fun x => .agg (cS.enc x).toArray) (fun x=>r=x.pl) (fun x=>x.m) (fun x=>Ow.emp):=by
 refine Zo Tryz.func41 Tryz.ntmps41 fun c => ?_
 unfold Sh.G8 at hS
 refine Zq (Zr ?_)
 refine VL.box (cs:=(eF aD)) rfl rfl (by decide) fun cM => ?_
 refine VL.alloc (cs:=[.slice none 0 0,i64 0]) (by kernel_rfl) (by decide) fun iL => ?_
 refine Zl ?_
 refine Zq (Zr ?_)
 refine Zu (aB aHa rfl) ?_
 refine Zu (sL (j:=0) (n:=17) aEx rfl rfl rfl) ?_
 refine VL.alloc (cs:=[.slice none 0 0,.slice none 0 0,.slice none 0 0,str [],i64 0,str [],i64 0,str [],.slice none 0 0,.slice none 0 0,i64 0,str [],str [],i64 0,.slice none 0 0,.slice none 0 0,.slice none 0 0]) (by kernel_rfl) (by decide) fun eJ => ?_
 refine Zv (vc:=[aD.iV.val,aD.iM.val,aD.fX.val,str aD.eA,i64 aD.eB,str aD.gL,i64 aD.gO,str aD.iJ,aD.fQ.val,aD.gM.val,i64 aD.iI,str aD.fZ,str aD.eG,i64 aD.eH,aD.fR.val,aD.gN.val,aD.iR.val]) (cs':=[aD.iV.val,aD.iM.val,aD.fX.val,str aD.eA,i64 aD.eB,str aD.gL,i64 aD.gO,str aD.iJ,aD.fQ.val,aD.gM.val,i64 aD.iI,str aD.fZ,str aD.eG,i64 aD.eH,aD.fR.val,aD.gN.val,aD.iR.val]) rfl aJt ?_
 refine Zl ?_
 refine Zq (Zr ?_)
 refine Zu (aB OB rfl) ?_
 refine Zu (aI FV rfl rfl) ?_
 obtain ⟨aKc,aVg,hS⟩:=bF hS
 refine VL.gI (D6 aD.iV aVg) rfl (by decide) ?_
 rintro KU rfl
 try dsimp only
 refine VL.alloc (cs:=[.slice none 0 0,i64 0]) (by kernel_rfl) (by decide) fun rV => ?_
 refine Zv (vc:=[KU.parts.val,i64 KU.err]) (cs':=[KU.parts.val,i64 KU.err]) rfl pN ?_
 refine Zl ?_
 refine Zq (Zq (Zr ?_))
 refine Zu (aB xG rfl) ?_
 refine Zu (aI cN rfl rfl) ?_
 refine Zu (mC rfl rfl) ?_
 refine Zl ?_
 refine VC.keep (ρ':=[(1,ptr cM 0),(2,ptr iL 0),(3,ptr eJ 0),(4,ptr rV 0),(21,.bool (!decide (KU.err=0)))]) [1,2,3,4,21] rfl ?_
 refine uH hS (fun h21 hS => ?_) (fun h21 hS => ?_)
 ·
  refine Zq (Zr ?_)
  refine Zu (gZ mP rfl rfl) ?_
  obtain ⟨zM,T4,hS⟩:=bF hS
  refine VL.gI (Q5 [115,116,97,116,101] 0 KU T4) rfl (by decide) ?_
  rintro u9 rfl
  try dsimp only
  refine Zv (vc:=[u9.parts.val,i64 u9.err]) (cs':=[u9.parts.val,i64 u9.err]) rfl pN ?_
  refine Zl ?_
  cases hS
  exact VC.ret (oV (vs:=[.agg #[u9.parts.val,i64 u9.err]]) (.inr rfl) rfl (jY.cell mP rfl rfl Rd.blk (jY.nil)) ⟨u9.parts,u9.err⟩ rfl rfl (by (try dsimp only); exact dQ.out) (fun _ _=>trivial))
 refine Zk ?_
 refine Zq (Zr ?_)
 refine Zu (aB aAk rfl) ?_
 refine Zu (aI aEz rfl rfl) ?_
 obtain ⟨DR,T6,hS⟩:=bF hS
 refine VL.gI (SX aD.iM T6) rfl (by decide) ?_
 rintro lE rfl
 try dsimp only
 refine Zv (vc:=[lE.parts.val,i64 lE.err]) (cs':=[lE.parts.val,i64 lE.err]) rfl pN ?_
 refine Zl ?_
 refine Zq (Zq (Zr ?_))
 refine Zu (aB xG rfl) ?_
 refine Zu (aI cN rfl rfl) ?_
 refine Zu (mC rfl rfl) ?_
 refine Zl ?_
 refine uH hS (fun h29 hS => ?_) (fun h29 hS => ?_)
 ·
  refine Zq (Zr ?_)
  refine Zu (gZ mP rfl rfl) ?_
  obtain ⟨AJ,aEs,hS⟩:=bF hS
  refine VL.gI (Q5 [115,116,97,116,101] 1 lE aEs) rfl (by decide) ?_
  rintro sJ rfl
  try dsimp only
  refine Zv (vc:=[sJ.parts.val,i64 sJ.err]) (cs':=[sJ.parts.val,i64 sJ.err]) rfl pN ?_
  refine Zl ?_
  refine VC.keep (ρ':=[(2,ptr iL 0)]) [2] rfl ?_
  cases hS
  exact VC.ret (oV (vs:=[.agg #[sJ.parts.val,i64 sJ.err]]) (.inr rfl) rfl (jY.cell mP rfl rfl Rd.blk (jY.nil)) ⟨sJ.parts,sJ.err⟩ rfl rfl (by (try dsimp only); exact dQ.out) (fun _ _=>trivial))
 refine Zk ?_
 refine VC.keep (ρ':=[(1,ptr cM 0),(2,ptr iL 0),(3,ptr eJ 0),(4,ptr rV 0)]) [1,2,3,4] rfl ?_
 refine Zq (Zq (Zr ?_))
 refine Zy ?_
 refine Zb ?_
 refine VC.iter (S:=Int) (fun (CS:Int)=>CS) (fun (CS:Int)=>[(1,ptr cM 0),(2,ptr iL 0),(3,ptr eJ 0),(4,ptr rV 0),(5,i64 CS)]) (fun (CS:Int)=>Mo.tt) (fun (CS:Int)=>Ow.star (bT rV [lE.parts.val,i64 lE.err] 43) (Ow.star (bT eJ [aD.iV.val,aD.iM.val,aD.fX.val,str aD.eA,i64 aD.eB,str aD.gL,i64 aD.gO,str aD.iJ,aD.fQ.val,aD.gM.val,i64 aD.iI,str aD.fZ,str aD.eG,i64 aD.eH,aD.fR.val,aD.gN.val,aD.iR.val] 82) (Ow.star (bT iL [.slice none 0 0,i64 0] 43) (Ow.star (bT cM (eF aD) 86) (Ow.emp))))) 0 [1,2,3,4,5] hS rfl ?_
 clear hS
 rintro CS m1 y1 hS hK1
 refine Zq (Zq (Zr ?_))
 refine Zm ?_
 refine Zu (aB BH rfl) ?_
 refine Zu (aI FW rfl rfl) ?_
 refine Zu (fH (s:=aD.fX) Tryz.underlying75 rfl) ?_
 refine Zu (dA rfl rfl) ?_
 refine Zl ?_
 refine Zc hS (fun h36 hS => ?_) (fun h36 hS => ?_)
 ·
  refine Zk ?_
  refine Zq (Zb (Zq (Zr ?_)))
  refine Zu (aB BH rfl) ?_
  refine Zu (aI FW rfl rfl) ?_
  refine Zm ?_
  obtain ⟨oP,OO,OF,hS⟩:=eW hS
  refine Zu (dH (s:=aD.fX) Tryz.underlying75 MC rfl rfl OO (bC OO OF)) ?_
  refine Zu (jL (s:=aD.fX) aRd rfl rfl OF) ?_
  refine VL.alloc (cs:=[str [],i64 0]) (by kernel_rfl) (by decide) fun aE9 => ?_
  refine Zv (vc:=[str oP.name,i64 oP.cB]) (cs':=[str oP.name,i64 oP.cB]) rfl MC ?_
  refine Zl ?_
  refine VC.keep (ρ':=[(1,ptr cM 0),(2,ptr iL 0),(3,ptr eJ 0),(4,ptr rV 0),(5,i64 CS),(6,ptr aE9 0)]) [1,2,3,4,5,6] rfl ?_
  refine Zb (Zq (Zr ?_))
  refine Zu (aB KE rfl) ?_
  refine Zu (aI cD rfl rfl) ?_
  obtain ⟨Z4,aQm,hS⟩:=bF hS
  refine Zu (cZ (V3 oP.name aQm) rfl (fun _ _=>rfl)) ?_
  refine Zu (oS rfl) ?_
  refine Zy ?_
  refine mT hS (fun h44 hS => ?_) (fun h44 hS => ?_)
  ·
   refine Zq (Zr ?_)
   obtain ⟨RB,aQn,hS⟩:=bF hS
   refine VL.gI (qY [115,116,97,116,101] 2 5 aQn) rfl (by decide) ?_
   rintro AT rfl
   try dsimp only
   refine Zv (vc:=[AT.parts.val,i64 AT.err]) (cs':=[AT.parts.val,i64 AT.err]) rfl pN ?_
   refine Zl ?_
   refine VC.keep (ρ':=[(2,ptr iL 0)]) [2] rfl ?_
   replace hS:=fF hS hK1
   cases hS
   exact VC.ret (oV (vs:=[.agg #[AT.parts.val,i64 AT.err]]) (.inr rfl) rfl (jY.cell mP rfl rfl Rd.blk (jY.nil)) ⟨AT.parts,AT.err⟩ rfl rfl (by (try dsimp only); exact dQ.out) (fun _ _=>trivial))
  refine VC.j0 (S:=Bool) (fun (D7:Bool)=>D7) (fun (D7:Bool)=>[(1,ptr cM 0),(2,ptr iL 0),(3,ptr eJ 0),(4,ptr rV 0),(5,i64 CS),(6,ptr aE9 0),(50,.bool D7)]) (fun (D7:Bool)=>Mo.tt) (fun (D7:Bool)=>Ow.star (bT aE9 [str oP.name,i64 oP.cB] 205) (Ow.star (bT rV [lE.parts.val,i64 lE.err] 43) (Ow.star (bT eJ [aD.iV.val,aD.iM.val,aD.fX.val,str aD.eA,i64 aD.eB,str aD.gL,i64 aD.gO,str aD.iJ,aD.fQ.val,aD.gM.val,i64 aD.iI,str aD.fZ,str aD.eG,i64 aD.eH,aD.fR.val,aD.gN.val,aD.iR.val] 82) (Ow.star (bT iL [.slice none 0 0,i64 0] 43) (Ow.star (bT cM (eF aD) 86) (Ow.emp)))))) hS ?_ ?_
  ·
   clear hS
   intro k15 hS
   refine VC.draw ((List.range 15).map fun k=>(k,true)) mixed (by kernel_rfl) (by kernel_rfl) (by kernel_rfl) ?_
   refine Zw rfl (bI rfl) ?_
   refine Zw rfl (gQ rfl rfl) ?_
   refine Zw rfl (bI rfl) ?_
   refine VD.mY 53 rfl (fun h53 => ?_) (fun h53 => ?_)
   ·
    replace hS:=wW h53 hS
    refine Zi rfl (aB BH rfl) ?_
    refine Zi rfl (aI FW rfl rfl) ?_
    refine Zi rfl (bI rfl) ?_
    obtain ⟨b57,hS⟩:=bQ hS
    refine Zi rfl (tW rfl rfl b57) ?_
    obtain ⟨W7,aIe,aHx,hS⟩:=eW hS
    refine Zi rfl (dH (s:=aD.fX) Tryz.underlying75 MC rfl rfl aIe (bC aIe aHx)) ?_
    refine Zi rfl (aB KE rfl) ?_
    refine Zi rfl (jK (s:=aD.fX) cD rfl aHx rfl) ?_
    refine Zi rfl (aB KE rfl) ?_
    refine Zi rfl (aI cD rfl rfl) ?_
    refine Zi rfl (aMb rfl rfl) ?_
    refine Zw rfl (fB rfl rfl) ?_
    refine Zw rfl (iG rfl) ?_
    refine VD.mt (!Op.bytesLess W7.name oP.name) [1,2,3,4,5,6,50] (fun _ _ h=>h) hS rfl
   replace hS:=BK h53 hS
   refine Zd ?_
   refine Zd ?_
   refine Zd ?_
   refine Zd ?_
   refine Zd ?_
   refine Zd ?_
   refine Zd ?_
   refine Zd ?_
   refine Zd ?_
   refine Zd ?_
   refine Zw rfl (fE rfl rfl) ?_
   refine Zw rfl (iG rfl) ?_
   refine VD.mt false [1,2,3,4,5,6,50] (fun _ _ h=>h) hS rfl
  clear hS
  rintro D7 hS
  refine mT hS (fun h50 hS => ?_) (fun h50 hS => ?_)
  ·
   refine Zq (Zr ?_)
   obtain ⟨RC,aRI,hS⟩:=bF hS
   refine VL.gI (qY [115,116,97,116,101] 2 6 aRI) rfl (by decide) ?_
   rintro AU rfl
   try dsimp only
   refine Zv (vc:=[AU.parts.val,i64 AU.err]) (cs':=[AU.parts.val,i64 AU.err]) rfl pN ?_
   refine Zl ?_
   replace hS:=fF hS hK1
   cases hS
   exact VC.ret (oV (vs:=[.agg #[AU.parts.val,i64 AU.err]]) (.inr rfl) rfl (jY.cell mP rfl rfl Rd.blk (jY.nil)) ⟨AU.parts,AU.err⟩ rfl rfl (by (try dsimp only); exact dQ.out) (fun _ _=>trivial))
  refine VC.j0 (S:=Bool) (fun (D8:Bool)=>D8) (fun (D8:Bool)=>[(1,ptr cM 0),(2,ptr iL 0),(3,ptr eJ 0),(4,ptr rV 0),(5,i64 CS),(66,.bool D8)]) (fun (D8:Bool)=>Mo.tt) (fun (D8:Bool)=>Ow.star (bT aE9 [str oP.name,i64 oP.cB] 205) (Ow.star (bT rV [lE.parts.val,i64 lE.err] 43) (Ow.star (bT eJ [aD.iV.val,aD.iM.val,aD.fX.val,str aD.eA,i64 aD.eB,str aD.gL,i64 aD.gO,str aD.iJ,aD.fQ.val,aD.gM.val,i64 aD.iI,str aD.fZ,str aD.eG,i64 aD.eH,aD.fR.val,aD.gN.val,aD.iR.val] 82) (Ow.star (bT iL [.slice none 0 0,i64 0] 43) (Ow.star (bT cM (eF aD) 86) (Ow.emp)))))) hS ?_ ?_
  ·
   clear hS
   intro k19 hS
   refine Zr ?_
   refine Zu (aB QK rfl) ?_
   refine Zu (aI cN rfl rfl) ?_
   refine Zu (dA rfl rfl) ?_
   refine Zm ?_
   refine jJ 70 hS (fun h70 hS => ?_) (fun h70 hS => ?_)
   ·
    refine VL.runs 8 [(66,some true)] (by kernel_rfl) ?_
    refine VL.mt true [1,2,3,4,5,66] (fun _ _ h=>h) hS rfl
   refine Zh (aB QK rfl) ?_
   refine Zh (aI cN rfl rfl) ?_
   refine Zh (aB pW rfl) ?_
   refine Zh (aI uK rfl rfl) ?_
   refine Zh (iT dG.pl (s:=aD.aK) Tryz.underlying83 rfl) ?_
   refine Zh (gQ rfl rfl) ?_
   refine Zy ?_
   refine VL.mt (decide (((aD.aK.l.map dG.pl).length:Int) < oP.cB)) [1,2,3,4,5,66] (fun _ _ h=>h) hS rfl
  clear hS
  rintro D8 hS
  refine mT hS (fun h66 hS => ?_) (fun h66 hS => ?_)
  ·
   refine Zq (Zr ?_)
   obtain ⟨RD,aRU,hS⟩:=bF hS
   refine VL.gI (qY [115,116,97,116,101] 2 1 aRU) rfl (by decide) ?_
   rintro AW rfl
   try dsimp only
   refine Zv (vc:=[AW.parts.val,i64 AW.err]) (cs':=[AW.parts.val,i64 AW.err]) rfl pN ?_
   refine Zl ?_
   replace hS:=fF hS hK1
   cases hS
   exact VC.ret (oV (vs:=[.agg #[AW.parts.val,i64 AW.err]]) (.inr rfl) rfl (jY.cell mP rfl rfl Rd.blk (jY.nil)) ⟨AW.parts,AW.err⟩ rfl rfl (by (try dsimp only); exact dQ.out) (fun _ _=>trivial))
  refine Zk ?_
  refine Zr ?_
  refine Zm ?_
  obtain ⟨b38,hS⟩:=bQ hS
  refine Zu (dZ rfl rfl b38) ?_
  refine Za ?_
  refine VL.kE (CS+1) [1,2,3,4,5] (fun _ _ h=>h) (go2 hS hK1) rfl
 replace hS:=fF hS hK1
 refine Zx ?_
 refine Zq ?_
 refine VC.j0 (S:=Bool) (fun (I9:Bool)=>I9) (fun (I9:Bool)=>[(1,ptr cM 0),(2,ptr iL 0),(3,ptr eJ 0),(4,ptr rV 0),(89,.bool I9)]) (fun (I9:Bool)=>Mo.tt) (fun (I9:Bool)=>Ow.star (bT rV [lE.parts.val,i64 lE.err] 43) (Ow.star (bT eJ [aD.iV.val,aD.iM.val,aD.fX.val,str aD.eA,i64 aD.eB,str aD.gL,i64 aD.gO,str aD.iJ,aD.fQ.val,aD.gM.val,i64 aD.iI,str aD.fZ,str aD.eG,i64 aD.eH,aD.fR.val,aD.gN.val,aD.iR.val] 82) (Ow.star (bT iL [.slice none 0 0,i64 0] 43) (Ow.star (bT cM (eF aD) 86) (Ow.emp))))) hS ?_ ?_
 ·
  clear hS
  intro k22 hS
  refine Zr ?_
  refine Zu (aB tE rfl) ?_
  refine Zu (aB EK rfl) ?_
  refine Zu (aI cD rfl rfl) ?_
  refine Zu (BX rfl rfl) ?_
  refine Zm ?_
  refine II 83 hS (fun h83 hS => ?_) (fun h83 hS => ?_)
  ·
   refine Zh (aB tE rfl) ?_
   refine Zh (aB EK rfl) ?_
   refine Zh (aI cD rfl rfl) ?_
   obtain ⟨W4,aR0,hS⟩:=bF hS
   refine Zh (cZ (V3 aD.eA aR0) rfl (fun _ _=>rfl)) ?_
   refine Zh (oS rfl) ?_
   refine Zt ?_
   refine VL.mt (!W4) [1,2,3,4,89] (fun _ _ h=>h) hS rfl
  refine VL.runs 6 [(89,some false)] (by kernel_rfl) ?_
  refine VL.mt false [1,2,3,4,89] (fun _ _ h=>h) hS rfl
 clear hS
 rintro I9 hS
 refine mT hS (fun h89 hS => ?_) (fun h89 hS => ?_)
 ·
  refine Zq (Zr ?_)
  obtain ⟨aGc,aR3,hS⟩:=bF hS
  refine VL.gI (qY [115,116,97,116,101] 3 5 aR3) rfl (by decide) ?_
  rintro AX rfl
  try dsimp only
  refine Zv (vc:=[AX.parts.val,i64 AX.err]) (cs':=[AX.parts.val,i64 AX.err]) rfl pN ?_
  refine Zl ?_
  cases hS
  exact VC.ret (oV (vs:=[.agg #[AX.parts.val,i64 AX.err]]) (.inr rfl) rfl (jY.cell mP rfl rfl Rd.blk (jY.nil)) ⟨AX.parts,AX.err⟩ rfl rfl (by (try dsimp only); exact dQ.out) (fun _ _=>trivial))
 refine Zk ?_
 refine Zq (Zr ?_)
 refine Zy ?_
 refine Zq (Zq (Zr ?_))
 refine Zy ?_
 refine Zb ?_
 refine VC.iter (S:=Int×Int) (fun sg=>(sg.1,sg.2)) (fun sg=>[(1,ptr cM 0),(2,ptr iL 0),(3,ptr eJ 0),(4,ptr rV 0),(7,i64 sg.1),(8,i64 sg.2)]) (fun sg=>Mo.tt) (fun sg=>Ow.star (bT rV [lE.parts.val,i64 lE.err] 43) (Ow.star (bT eJ [aD.iV.val,aD.iM.val,aD.fX.val,str aD.eA,i64 aD.eB,str aD.gL,i64 aD.gO,str aD.iJ,aD.fQ.val,aD.gM.val,i64 aD.iI,str aD.fZ,str aD.eG,i64 aD.eH,aD.fR.val,aD.gN.val,aD.iR.val] 82) (Ow.star (bT iL [.slice none 0 0,i64 0] 43) (Ow.star (bT cM (eF aD) 86) (Ow.emp))))) (0,0) [1,2,3,4,7,8] hS rfl ?_
 clear hS
 rintro ⟨LC,MJ⟩ m1 y1 hS hK1
 refine Zq (Zq (Zr ?_))
 refine Zm ?_
 refine Zu (aB BH rfl) ?_
 refine Zu (aI FW rfl rfl) ?_
 refine Zu (fH (s:=aD.fX) Tryz.underlying75 rfl) ?_
 refine Zu (dA rfl rfl) ?_
 refine Zl ?_
 refine Zc hS (fun h95 hS => ?_) (fun h95 hS => ?_)
 ·
  refine Zk ?_
  refine VC.j0 (S:=Int) (fun (y6:Int)=>y6) (fun (y6:Int)=>[(1,ptr cM 0),(2,ptr iL 0),(3,ptr eJ 0),(4,ptr rV 0),(7,i64 y6),(8,i64 MJ)]) (fun (y6:Int)=>Mo.tt) (fun (y6:Int)=>Ow.star (bT rV [lE.parts.val,i64 lE.err] 43) (Ow.star (bT eJ [aD.iV.val,aD.iM.val,aD.fX.val,str aD.eA,i64 aD.eB,str aD.gL,i64 aD.gO,str aD.iJ,aD.fQ.val,aD.gM.val,i64 aD.iI,str aD.fZ,str aD.eG,i64 aD.eH,aD.fR.val,aD.gN.val,aD.iR.val] 82) (Ow.star (bT iL [.slice none 0 0,i64 0] 43) (Ow.star (bT cM (eF aD) 86) (Ow.emp))))) hS ?_ ?_
  ·
   clear hS
   intro k28 hS
   refine Zb (Zq ?_)
   refine VC.draw ((List.range 10).map fun k=>(k,true)) mixed (by kernel_rfl) (by kernel_rfl) (by kernel_rfl) ?_
   refine Zw rfl (aB BH rfl) ?_
   refine Zw rfl (aI FW rfl rfl) ?_
   refine Zw rfl (bI rfl) ?_
   obtain ⟨aDC,aDy,aDo,hS⟩:=eW hS
   refine Zw rfl (dH (s:=aD.fX) Tryz.underlying75 MC rfl rfl aDy (bC aDy aDo)) ?_
   refine Zw rfl (aB KE rfl) ?_
   refine Zw rfl (jK (s:=aD.fX) cD rfl aDo rfl) ?_
   refine Zw rfl (aB tE rfl) ?_
   refine Zw rfl (aB EK rfl) ?_
   refine Zw rfl (aI cD rfl rfl) ?_
   refine Zw rfl (sM rfl rfl) ?_
   refine VD.to (fun _ _ h=>h) ?_
   refine VC.keep (ρ':=[(1,ptr cM 0),(2,ptr iL 0),(3,ptr eJ 0),(4,ptr rV 0),(7,i64 LC),(8,i64 MJ),(107,.bool (decide (aDC.name=aD.eA)))]) [1,2,3,4,7,8,107] rfl ?_
   refine Zc hS (fun h107 hS => ?_) (fun h107 hS => ?_)
   ·
    refine Zr ?_
    refine Zu (aB BH rfl) ?_
    refine Zu (aI FW rfl rfl) ?_
    refine Zm ?_
    obtain ⟨aDD,aDz,aDp,hS⟩:=eW hS
    refine Zu (dH (s:=aD.fX) Tryz.underlying75 MC rfl rfl aDz (bC aDz aDp)) ?_
    refine Zu (aB QK rfl) ?_
    refine Zu (jK (s:=aD.fX) cN rfl aDp rfl) ?_
    refine Za ?_
    refine VL.mt aDD.cB [1,2,3,4,7,8] (fun _ _ h=>h) hS rfl
   refine VC.qL LC [1,2,3,4,7,8] (fun _ _ h=>h) hS rfl
  clear hS
  rintro y6 hS
  refine Zr ?_
  refine Zm ?_
  obtain ⟨b97,hS⟩:=bQ hS
  refine Zu (dZ rfl rfl b97) ?_
  refine Za ?_
  refine VL.kE (y6,(MJ+1)) [1,2,3,4,7,8] (fun _ _ h=>h) (go2 hS hK1) rfl
 replace hS:=fF hS hK1
 refine Zx ?_
 refine Zq ?_
 refine VC.j0 (S:=Bool) (fun (E4:Bool)=>E4) (fun (E4:Bool)=>[(1,ptr cM 0),(2,ptr iL 0),(3,ptr eJ 0),(4,ptr rV 0),(145,.bool E4)]) (fun (E4:Bool)=>Mo.tt) (fun (E4:Bool)=>Ow.star (bT rV [lE.parts.val,i64 lE.err] 43) (Ow.star (bT eJ [aD.iV.val,aD.iM.val,aD.fX.val,str aD.eA,i64 aD.eB,str aD.gL,i64 aD.gO,str aD.iJ,aD.fQ.val,aD.gM.val,i64 aD.iI,str aD.fZ,str aD.eG,i64 aD.eH,aD.fR.val,aD.gN.val,aD.iR.val] 82) (Ow.star (bT iL [.slice none 0 0,i64 0] 43) (Ow.star (bT cM (eF aD) 86) (Ow.emp))))) hS ?_ ?_
 ·
  clear hS
  intro k32 hS
  refine Zr ?_
  refine Zu (aB tE rfl) ?_
  refine Zu (aB EK rfl) ?_
  refine Zu (aI cD rfl rfl) ?_
  refine Zu (BX rfl rfl) ?_
  refine Zm ?_
  refine II 118 hS (fun h118 hS => ?_) (fun h118 hS => ?_)
  ·
   refine Zh (aB tE rfl) ?_
   refine Zh (aB KJ rfl) ?_
   refine Zh (aI cN rfl rfl) ?_
   refine Zg ?_
   refine Zh (mC rfl rfl) ?_
   refine Zy ?_
   refine II 125 hS (fun h125 hS => ?_) (fun h125 hS => ?_)
   ·
    refine VL.runs 20 [(145,some true)] (by kernel_rfl) ?_
    refine VL.mt true [1,2,3,4,145] (fun _ _ h=>h) hS rfl
   refine Zh (aB tE rfl) ?_
   refine Zh (aB EK rfl) ?_
   refine Zh (aI cD rfl rfl) ?_
   refine Zh (sM rfl rfl) ?_
   refine Zg ?_
   refine jJ 130 hS (fun h130 hS => ?_) (fun h130 hS => ?_)
   ·
    refine Zh (aB tE rfl) ?_
    refine Zh (aB KJ rfl) ?_
    refine Zh (aI cN rfl rfl) ?_
    refine Zh (dA rfl rfl) ?_
    refine Zg ?_
    refine jJ 135 hS (fun h135 hS => ?_) (fun h135 hS => ?_)
    ·
     refine VL.runs 7 [(142,none)] (by kernel_rfl) ?_
     refine Zh (fB rfl rfl) ?_
     refine Zh (fB rfl rfl) ?_
     refine Zf ?_
     refine VL.mt true [1,2,3,4,145] (fun _ _ h=>h) hS rfl
    refine Zh (aB tE rfl) ?_
    refine Zh (aB KJ rfl) ?_
    refine Zh (aI cN rfl rfl) ?_
    refine Zh (aB pW rfl) ?_
    refine Zh (aI uK rfl rfl) ?_
    refine Zh (iT dG.pl (s:=aD.aK) Tryz.underlying83 rfl) ?_
    refine Zh (gQ rfl rfl) ?_
    refine Zh (fE rfl rfl) ?_
    refine Zh (fB rfl rfl) ?_
    refine Zf ?_
    refine VL.mt (decide (((aD.aK.l.map dG.pl).length:Int) < aD.eB)) [1,2,3,4,145] (fun _ _ h=>h) hS rfl
   refine VL.runs 13 [(143,none)] (by kernel_rfl) ?_
   refine Zh (fE rfl rfl) ?_
   refine Zf ?_
   refine VL.mt false [1,2,3,4,145] (fun _ _ h=>h) hS rfl
  refine VL.runs 7 [(125,some false)] (by kernel_rfl) ?_
  refine Zh (aB tE rfl) ?_
  refine Zh (aB EK rfl) ?_
  refine Zh (aI cD rfl rfl) ?_
  refine Zh (sM rfl rfl) ?_
  refine Zg ?_
  refine jJ 130 hS (fun h130 hS => ?_) (fun h130 hS => ?_)
  ·
   refine Zh (aB tE rfl) ?_
   refine Zh (aB KJ rfl) ?_
   refine Zh (aI cN rfl rfl) ?_
   refine Zh (dA rfl rfl) ?_
   refine Zg ?_
   refine jJ 135 hS (fun h135 hS => ?_) (fun h135 hS => ?_)
   ·
    refine VL.runs 7 [(142,none)] (by kernel_rfl) ?_
    refine Zh (fB rfl rfl) ?_
    refine Zh (fB rfl rfl) ?_
    refine Zf ?_
    refine VL.mt true [1,2,3,4,145] (fun _ _ h=>h) hS rfl
   refine Zh (aB tE rfl) ?_
   refine Zh (aB KJ rfl) ?_
   refine Zh (aI cN rfl rfl) ?_
   refine Zh (aB pW rfl) ?_
   refine Zh (aI uK rfl rfl) ?_
   refine Zh (iT dG.pl (s:=aD.aK) Tryz.underlying83 rfl) ?_
   refine Zh (gQ rfl rfl) ?_
   refine Zh (fE rfl rfl) ?_
   refine Zh (fB rfl rfl) ?_
   refine Zf ?_
   refine VL.mt (decide (((aD.aK.l.map dG.pl).length:Int) < aD.eB)) [1,2,3,4,145] (fun _ _ h=>h) hS rfl
  refine VL.runs 13 [(143,none)] (by kernel_rfl) ?_
  refine Zh (fE rfl rfl) ?_
  refine Zf ?_
  refine VL.mt false [1,2,3,4,145] (fun _ _ h=>h) hS rfl
 clear hS
 rintro E4 hS
 refine mT hS (fun h145 hS => ?_) (fun h145 hS => ?_)
 ·
  refine Zq (Zr ?_)
  obtain ⟨aCX,aOA,hS⟩:=bF hS
  refine VL.gI (qY [115,116,97,116,101] 3 1 aOA) rfl (by decide) ?_
  rintro xP rfl
  try dsimp only
  refine Zv (vc:=[xP.parts.val,i64 xP.err]) (cs':=[xP.parts.val,i64 xP.err]) rfl pN ?_
  refine Zl ?_
  cases hS
  exact VC.ret (oV (vs:=[.agg #[xP.parts.val,i64 xP.err]]) (.inr rfl) rfl (jY.cell mP rfl rfl Rd.blk (jY.nil)) ⟨xP.parts,xP.err⟩ rfl rfl (by (try dsimp only); exact dQ.out) (fun _ _=>trivial))
 refine Zk ?_
 refine Zq (Zr ?_)
 refine Zu (gZ DV rfl rfl) ?_
 obtain ⟨aJ4,aOB,hS⟩:=bF hS
 refine VL.gI (aDX aD aOB) rfl (by decide) ?_
 rintro aKF rfl
 try dsimp only
 obtain ⟨WQ,aOC,hS⟩:=bF hS
 refine Zu (cZ (aDW aKF aOC) rfl (fun _ _=>rfl)) ?_
 refine Zy ?_
 refine Zq (Zq (Zr ?_))
 refine Zm ?_
 refine Zu (mC rfl rfl) ?_
 refine Zl ?_
 refine uH hS (fun h151 hS => ?_) (fun h151 hS => ?_)
 ·
  refine Zq (Zr ?_)
  refine Zm ?_
  obtain ⟨aC1,aOG,hS⟩:=bF hS
  refine VL.gI (qY [115,116,97,116,101] 4 WQ aOG) rfl (by decide) ?_
  rintro xR rfl
  try dsimp only
  refine Zv (vc:=[xR.parts.val,i64 xR.err]) (cs':=[xR.parts.val,i64 xR.err]) rfl pN ?_
  refine Zl ?_
  refine VC.keep (ρ':=[(2,ptr iL 0)]) [2] rfl ?_
  cases hS
  exact VC.ret (oV (vs:=[.agg #[xR.parts.val,i64 xR.err]]) (.inr rfl) rfl (jY.cell mP rfl rfl Rd.blk (jY.nil)) ⟨xR.parts,xR.err⟩ rfl rfl (by (try dsimp only); exact dQ.out) (fun _ _=>trivial))
 refine Zk ?_
 refine VC.keep (ρ':=[(1,ptr cM 0),(2,ptr iL 0),(3,ptr eJ 0),(4,ptr rV 0)]) [1,2,3,4] rfl ?_
 refine Zq (Zq (Zr ?_))
 refine Zy ?_
 refine Zb ?_
 refine VC.iter (S:=Int×Sv iW×Int) (fun sg=>(sg.1,sg.2.1.l,sg.2.2)) (fun sg=>[(1,ptr cM 0),(2,ptr iL 0),(3,ptr eJ 0),(4,ptr rV 0),(10,i64 sg.1)]) (fun sg=>sg.2.1.ok) (fun sg=>Ow.star (bT rV [sg.2.1.val,i64 sg.2.2] 43) (Ow.star (bT eJ [aD.iV.val,aD.iM.val,aD.fX.val,str aD.eA,i64 aD.eB,str aD.gL,i64 aD.gO,str aD.iJ,aD.fQ.val,aD.gM.val,i64 aD.iI,str aD.fZ,str aD.eG,i64 aD.eH,aD.fR.val,aD.gN.val,aD.iR.val] 82) (Ow.star (bT iL [.slice none 0 0,i64 0] 43) (Ow.star (bT cM (eF aD) 86) (Ow.emp))))) (0,lE.parts,lE.err) [1,2,3,4,10] hS rfl ?_
 clear hS
 rintro ⟨FY,aJf,aJg⟩ m1 y1 hS hK1
 refine Zq (Zq (Zr ?_))
 refine Zm ?_
 refine Zu (aB pW rfl) ?_
 refine Zu (aI uK rfl rfl) ?_
 refine Zu (iT dG.pl (s:=aD.aK) Tryz.underlying83 rfl) ?_
 refine Zu (dA rfl rfl) ?_
 refine Zl ?_
 refine Zc hS (fun h158 hS => ?_) (fun h158 hS => ?_)
 ·
  refine Zk ?_
  refine Zq (Zb (Zq (Zr ?_)))
  refine Zu (aB pW rfl) ?_
  refine Zu (aI uK rfl rfl) ?_
  refine Zm ?_
  obtain ⟨sV,aEF,XR,hS⟩:=kQ hS
  refine VL.deep sV.m XR (fun _ q=>q) ?_
  refine Zu (dH (s:=aD.aK) Tryz.underlying83 UD rfl rfl aEF (bC aEF XR)) ?_
  refine Zu (jL (s:=aD.aK) aH3 rfl rfl XR) ?_
  refine VL.alloc (cs:=[.slice none 0 0,.slice none 0 0,i64 0,str []]) (by kernel_rfl) (by decide) fun aLN => ?_
  refine Zv (vc:=[sV.tree.val,sV.parents.val,i64 sV.time,str sV.text]) (cs':=[sV.tree.val,sV.parents.val,i64 sV.time,str sV.text]) rfl UD ?_
  refine Zl ?_
  refine VC.keep (ρ':=[(1,ptr cM 0),(2,ptr iL 0),(3,ptr eJ 0),(4,ptr rV 0),(10,i64 FY),(11,ptr aLN 0)]) [1,2,3,4,10,11] rfl ?_
  refine Zq (Zr ?_)
  refine Zu (aB aD6 rfl) ?_
  refine Zu (aI FV rfl rfl) ?_
  obtain ⟨P9,aOR,hS⟩:=bF hS
  refine VL.gI (D6 sV.tree aOR) rfl (by decide) ?_
  rintro AF rfl
  try dsimp only
  refine Zv (vc:=[AF.parts.val,i64 AF.err]) (cs':=[AF.parts.val,i64 AF.err]) rfl pN ?_
  refine Zl ?_
  refine Zb (Zq (Zr ?_))
  refine Zu (aB xG rfl) ?_
  refine Zu (aI cN rfl rfl) ?_
  refine Zu (mC rfl rfl) ?_
  refine Zy ?_
  refine uH hS (fun h169 hS => ?_) (fun h169 hS => ?_)
  ·
   refine Zq (Zr ?_)
   refine Zu (gZ mP rfl rfl) ?_
   obtain ⟨aCd,aOU,hS⟩:=bF hS
   refine VL.gI (Q5 [115,116,97,116,101] 4 AF aOU) rfl (by decide) ?_
   rintro xS rfl
   try dsimp only
   refine Zv (vc:=[xS.parts.val,i64 xS.err]) (cs':=[xS.parts.val,i64 xS.err]) rfl pN ?_
   refine Zl ?_
   refine VC.keep (ρ':=[(2,ptr iL 0)]) [2] rfl ?_
   replace hS:=fF hS hK1
   cases hS
   exact VC.ret (oV (vs:=[.agg #[xS.parts.val,i64 xS.err]]) (.inr rfl) rfl (jY.cell mP rfl rfl Rd.blk (jY.nil)) ⟨xS.parts,xS.err⟩ rfl rfl (by (try dsimp only); exact dQ.out) (fun _ _=>trivial))
  refine Zq (Zr ?_)
  refine Zu (aB aOi rfl) ?_
  refine Zu (aI cN rfl rfl) ?_
  refine Zu (dA rfl rfl) ?_
  refine Zy ?_
  refine VC.keep (ρ':=[(1,ptr cM 0),(2,ptr iL 0),(3,ptr eJ 0),(4,ptr rV 0),(10,i64 FY),(11,ptr aLN 0),(175,.bool (decide (sV.time < 0)))]) [1,2,3,4,10,11,175] rfl ?_
  refine Zc hS (fun h175 hS => ?_) (fun h175 hS => ?_)
  ·
   refine Zq (Zr ?_)
   obtain ⟨aCg,aOX,hS⟩:=bF hS
   refine VL.gI (qY [115,116,97,116,101] 4 1 aOX) rfl (by decide) ?_
   rintro xU rfl
   try dsimp only
   refine Zv (vc:=[xU.parts.val,i64 xU.err]) (cs':=[xU.parts.val,i64 xU.err]) rfl pN ?_
   refine Zl ?_
   replace hS:=fF hS hK1
   cases hS
   exact VC.ret (oV (vs:=[.agg #[xU.parts.val,i64 xU.err]]) (.inr rfl) rfl (jY.cell mP rfl rfl Rd.blk (jY.nil)) ⟨xU.parts,xU.err⟩ rfl rfl (by (try dsimp only); exact dQ.out) (fun _ _=>trivial))
  refine Zq (Zr ?_)
  refine Zu (aB aD8 rfl) ?_
  refine Zu (aI cD rfl rfl) ?_
  refine Zu (iH Tryz.underlying9 rfl) ?_
  refine Zu (gQ rfl rfl) ?_
  refine Zy ?_
  refine Zc hS (fun h180 hS => ?_) (fun h180 hS => ?_)
  ·
   refine Zq (Zr ?_)
   obtain ⟨aCk,aO2,hS⟩:=bF hS
   refine VL.gI (qY [115,116,97,116,101] 4 4 aO2) rfl (by decide) ?_
   rintro xV rfl
   try dsimp only
   refine Zv (vc:=[xV.parts.val,i64 xV.err]) (cs':=[xV.parts.val,i64 xV.err]) rfl pN ?_
   refine Zl ?_
   refine VC.keep (ρ':=[(2,ptr iL 0)]) [2] rfl ?_
   replace hS:=fF hS hK1
   cases hS
   exact VC.ret (oV (vs:=[.agg #[xV.parts.val,i64 xV.err]]) (.inr rfl) rfl (jY.cell mP rfl rfl Rd.blk (jY.nil)) ⟨xV.parts,xV.err⟩ rfl rfl (by (try dsimp only); exact dQ.out) (fun _ _=>trivial))
  refine Zk ?_
  refine VC.keep (ρ':=[(1,ptr cM 0),(2,ptr iL 0),(3,ptr eJ 0),(4,ptr rV 0),(10,i64 FY)]) [1,2,3,4,10] rfl ?_
  refine Zr ?_
  refine Zm ?_
  obtain ⟨b160,hS⟩:=bQ hS
  refine Zu (dZ rfl rfl b160) ?_
  refine Za ?_
  refine VL.kE ((FY+1),AF.parts,AF.err) [1,2,3,4,10] (fun _ _ h=>h) (go2 hS hK1) rfl
 replace hS:=fF hS hK1
 refine Zx ?_
 refine Zq (Zq (Zr ?_))
 refine Zy ?_
 refine Zb ?_
 refine VC.iter (S:=Int×Sv iW×Int) (fun sg=>(sg.1,sg.2.1.l,sg.2.2)) (fun sg=>[(1,ptr cM 0),(2,ptr iL 0),(3,ptr eJ 0),(4,ptr rV 0),(12,i64 sg.1)]) (fun sg=>sg.2.1.ok) (fun sg=>Ow.star (bT rV [sg.2.1.val,i64 sg.2.2] 43) (Ow.star (bT eJ [aD.iV.val,aD.iM.val,aD.fX.val,str aD.eA,i64 aD.eB,str aD.gL,i64 aD.gO,str aD.iJ,aD.fQ.val,aD.gM.val,i64 aD.iI,str aD.fZ,str aD.eG,i64 aD.eH,aD.fR.val,aD.gN.val,aD.iR.val] 82) (Ow.star (bT iL [.slice none 0 0,i64 0] 43) (Ow.star (bT cM (eF aD) 86) (Ow.emp))))) (0,aJf,aJg) [1,2,3,4,12] hS rfl ?_
 clear hS
 rintro ⟨FZ,aQF,aQG⟩ m1 y1 hS hK1
 refine Zq (Zq (Zr ?_))
 refine Zm ?_
 refine Zu (aB aAl rfl) ?_
 refine Zu (aI aFA rfl rfl) ?_
 refine Zu (iT fS.pl (s:=aD.iR) Tryz.underlying80 rfl) ?_
 refine Zu (dA rfl rfl) ?_
 refine Zl ?_
 refine Zc hS (fun h190 hS => ?_) (fun h190 hS => ?_)
 ·
  refine Zk ?_
  refine Zq (Zb (Zq (Zr ?_)))
  refine Zu (aB aAl rfl) ?_
  refine Zu (aI aFA rfl rfl) ?_
  refine Zm ?_
  obtain ⟨l7,aEG,XS,hS⟩:=kQ hS
  refine VL.deep l7.m XS (fun _ q=>q) ?_
  refine Zu (dH (s:=aD.iR) Tryz.underlying80 aL7 rfl rfl aEG (bC aEG XS)) ?_
  refine Zu (jL (s:=aD.iR) aRe rfl rfl XS) ?_
  refine VL.alloc (cs:=[i64 0,.slice none 0 0,.slice none 0 0,str []]) (by kernel_rfl) (by decide) fun ZT => ?_
  refine Zv (vc:=[i64 l7.base,l7.index.val,l7.work.val,str l7.text]) (cs':=[i64 l7.base,l7.index.val,l7.work.val,str l7.text]) rfl aL7 ?_
  refine Zl ?_
  refine VC.keep (ρ':=[(1,ptr cM 0),(2,ptr iL 0),(3,ptr eJ 0),(4,ptr rV 0),(12,i64 FZ),(13,ptr ZT 0)]) [1,2,3,4,12,13] rfl ?_
  refine Zq ?_
  refine VC.j0 (S:=Bool) (fun (E5:Bool)=>E5) (fun (E5:Bool)=>[(1,ptr cM 0),(2,ptr iL 0),(3,ptr eJ 0),(4,ptr rV 0),(12,i64 FZ),(13,ptr ZT 0),(208,.bool E5)]) (fun (E5:Bool)=>Mo.tt) (fun (E5:Bool)=>Ow.star (bT ZT [i64 l7.base,l7.index.val,l7.work.val,str l7.text] 209) (Ow.star (bT rV [aQF.val,i64 aQG] 43) (Ow.star (bT eJ [aD.iV.val,aD.iM.val,aD.fX.val,str aD.eA,i64 aD.eB,str aD.gL,i64 aD.gO,str aD.iJ,aD.fQ.val,aD.gM.val,i64 aD.iI,str aD.fZ,str aD.eG,i64 aD.eH,aD.fR.val,aD.gN.val,aD.iR.val] 82) (Ow.star (bT iL [.slice none 0 0,i64 0] 43) (Ow.star (bT cM (eF aD) 86) (Ow.emp)))))) hS ?_ ?_
  ·
   clear hS
   intro k52 hS
   refine Zr ?_
   refine Zu (aB aDd rfl) ?_
   refine Zu (aI cN rfl rfl) ?_
   refine Zu (dA rfl rfl) ?_
   refine Zm ?_
   refine jJ 201 hS (fun h201 hS => ?_) (fun h201 hS => ?_)
   ·
    refine VL.runs 7 [(208,some true)] (by kernel_rfl) ?_
    refine VL.mt true [1,2,3,4,12,13,208] (fun _ _ h=>h) hS rfl
   refine Zh (aB aDd rfl) ?_
   refine Zh (aI cN rfl rfl) ?_
   refine Zh (aB pW rfl) ?_
   refine Zh (aI uK rfl rfl) ?_
   refine Zh (iT dG.pl (s:=aD.aK) Tryz.underlying83 rfl) ?_
   refine Zh (gQ rfl rfl) ?_
   refine Zf ?_
   refine VL.mt (decide (((aD.aK.l.map dG.pl).length:Int) < l7.base)) [1,2,3,4,12,13,208] (fun _ _ h=>h) hS rfl
  clear hS
  rintro E5 hS
  refine mT hS (fun h208 hS => ?_) (fun h208 hS => ?_)
  ·
   refine Zq (Zr ?_)
   obtain ⟨aCu,aOa,hS⟩:=bF hS
   refine VL.gI (qY [115,116,97,116,101] 5 1 aOa) rfl (by decide) ?_
   rintro xW rfl
   try dsimp only
   refine Zv (vc:=[xW.parts.val,i64 xW.err]) (cs':=[xW.parts.val,i64 xW.err]) rfl pN ?_
   refine Zl ?_
   replace hS:=fF hS hK1
   cases hS
   exact VC.ret (oV (vs:=[.agg #[xW.parts.val,i64 xW.err]]) (.inr rfl) rfl (jY.cell mP rfl rfl Rd.blk (jY.nil)) ⟨xW.parts,xW.err⟩ rfl rfl (by (try dsimp only); exact dQ.out) (fun _ _=>trivial))
  refine Zk ?_
  refine Zq (Zr ?_)
  refine Zu (aB aOj rfl) ?_
  refine Zu (aI FV rfl rfl) ?_
  obtain ⟨WU,aOb,hS⟩:=bF hS
  refine VL.gI (D6 l7.index aOb) rfl (by decide) ?_
  rintro DD rfl
  try dsimp only
  refine Zv (vc:=[DD.parts.val,i64 DD.err]) (cs':=[DD.parts.val,i64 DD.err]) rfl pN ?_
  refine Zl ?_
  refine VC.j0 (S:=Sv iW×Int) (fun sg=>(sg.1.l,sg.2)) (fun sg=>[(1,ptr cM 0),(2,ptr iL 0),(3,ptr eJ 0),(4,ptr rV 0),(12,i64 FZ)]) (fun sg=>sg.1.ok) (fun sg=>Ow.star (bT rV [sg.1.val,i64 sg.2] 43) (Ow.star (bT ZT [i64 l7.base,l7.index.val,l7.work.val,str l7.text] 209) (Ow.star (bT eJ [aD.iV.val,aD.iM.val,aD.fX.val,str aD.eA,i64 aD.eB,str aD.gL,i64 aD.gO,str aD.iJ,aD.fQ.val,aD.gM.val,i64 aD.iI,str aD.fZ,str aD.eG,i64 aD.eH,aD.fR.val,aD.gN.val,aD.iR.val] 82) (Ow.star (bT iL [.slice none 0 0,i64 0] 43) (Ow.star (bT cM (eF aD) 86) (Ow.emp)))))) hS ?_ ?_
  ·
   clear hS
   intro k57 hS
   refine Zq (Zr ?_)
   refine Zu (aB xG rfl) ?_
   refine Zu (aI cN rfl rfl) ?_
   refine Zu (gJ rfl rfl) ?_
   refine Zl ?_
   refine Zc hS (fun h215 hS => ?_) (fun h215 hS => ?_)
   ·
    refine Zr ?_
    refine Zu (aB aOk rfl) ?_
    refine Zu (aI FV rfl rfl) ?_
    obtain ⟨aCv,aOc,hS⟩:=bF hS
    refine VL.gI (D6 l7.work aOc) rfl (by decide) ?_
    rintro DE rfl
    try dsimp only
    refine Zv (vc:=[DE.parts.val,i64 DE.err]) (cs':=[DE.parts.val,i64 DE.err]) rfl pN ?_
    refine VL.mt (DE.parts,DE.err) [1,2,3,4,12] (fun _ _ h=>h) hS rfl
   refine VC.qL (DD.parts,DD.err) [1,2,3,4,12] (fun _ _ h=>h) hS rfl
  clear hS
  rintro ⟨aAQ,XD⟩ hS
  refine Zq (Zr ?_)
  refine Zu (aB xG rfl) ?_
  refine Zu (aI cN rfl rfl) ?_
  refine Zu (mC rfl rfl) ?_
  refine Zl ?_
  refine uH hS (fun h221 hS => ?_) (fun h221 hS => ?_)
  ·
   refine Zq (Zr ?_)
   refine Zu (gZ mP rfl rfl) ?_
   obtain ⟨aCx,aOd,hS⟩:=bF hS
   refine VL.gI (Q5 [115,116,97,116,101] 5 (⟨aAQ,XD⟩:jP) aOd) rfl (by decide) ?_
   rintro xY rfl
   try dsimp only
   refine Zv (vc:=[xY.parts.val,i64 xY.err]) (cs':=[xY.parts.val,i64 xY.err]) rfl pN ?_
   refine Zl ?_
   replace hS:=fF hS hK1
   cases hS
   exact VC.ret (oV (vs:=[.agg #[xY.parts.val,i64 xY.err]]) (.inr rfl) rfl (jY.cell mP rfl rfl Rd.blk (jY.nil)) ⟨xY.parts,xY.err⟩ rfl rfl (by (try dsimp only); exact dQ.out) (fun _ _=>trivial))
  refine Zk ?_
  refine Zr ?_
  refine Zm ?_
  obtain ⟨b192,hS⟩:=bQ hS
  refine Zu (dZ rfl rfl b192) ?_
  refine Za ?_
  refine VL.kE ((FZ+1),aAQ,XD) [1,2,3,4,12] (fun _ _ h=>h) (go2 hS hK1) rfl
 replace hS:=fF hS hK1
 refine Zx ?_
 refine Zq (Zq (Zr ?_))
 refine Zu (aB aRw rfl) ?_
 refine Zu (aI cN rfl rfl) ?_
 refine Zu (dA rfl rfl) ?_
 refine Zl ?_
 refine VC.keep (ρ':=[(2,ptr iL 0),(226,.bool (decide (aD.time < 0)))]) [2,226] rfl ?_
 refine Zc hS (fun h226 hS => ?_) (fun h226 hS => ?_)
 ·
  refine Zq (Zr ?_)
  obtain ⟨aCy,aOe,hS⟩:=bF hS
  refine VL.gI (qY [115,116,97,116,101] 6 1 aOe) rfl (by decide) ?_
  rintro xZ rfl
  try dsimp only
  refine Zv (vc:=[xZ.parts.val,i64 xZ.err]) (cs':=[xZ.parts.val,i64 xZ.err]) rfl pN ?_
  refine Zl ?_
  cases hS
  exact VC.ret (oV (vs:=[.agg #[xZ.parts.val,i64 xZ.err]]) (.inr rfl) rfl (jY.cell mP rfl rfl Rd.blk (jY.nil)) ⟨xZ.parts,xZ.err⟩ rfl rfl (by (try dsimp only); exact dQ.out) (fun _ _=>trivial))
 refine Zk ?_
 refine Zq (Zr ?_)
 refine Zu (eO (vs:=[]) (cs := #[.slice none 0 0,i64 0]) rfl (by kernel_rfl)) ?_
 refine Zv (vc:=[.slice none 0 0,i64 0]) (cs':=[.slice none 0 0,i64 0]) rfl pN ?_
 refine Zl ?_
 cases hS
 exact VC.ret (oV (vs:=[.agg #[.slice none 0 0,i64 0]]) (.inr rfl) rfl (jY.cell mP rfl rfl Rd.blk (jY.nil)) ⟨⟨none,0,[]⟩,0⟩ rfl rfl (by (try dsimp only); exact dQ.out) (fun _ _=>trivial))
theorem RF (oG:Int) {r:bN} (hS:Sh.yK oG=some r) :
 Ct Tryz.prog 333 [i64 oG] Mo.tt (Ow.emp) (X:=Unit) (fun _=>str r) (fun _=>True) (fun _=>Mo.tt) (fun _=>Ow.emp):=by
 refine Zo Tryz.func333 Tryz.ntmps333 fun c => ?_
 unfold Sh.yK at hS
 refine Zq (Zr ?_)
 refine Zy ?_
 refine Zq (Zq (Zr ?_))
 refine Zy ?_
 refine Zb (Zq (Zr ?_))
 refine Zu (gJ rfl rfl) ?_
 refine Zy ?_
 refine Zc hS (fun h4 hS => ?_) (fun h4 hS => ?_)
 ·
  refine Zq (Zr ?_)
  refine Zy ?_
  cases hS
  exact Ze
 refine Zq (Zr ?_)
 refine Zu (gJ rfl rfl) ?_
 refine Zy ?_
 refine Zc hS (fun h6 hS => ?_) (fun h6 hS => ?_)
 ·
  refine Zq (Zr ?_)
  refine Zy ?_
  cases hS
  exact Ze
 refine Zq (Zr ?_)
 refine Zu (gJ rfl rfl) ?_
 refine Zy ?_
 refine Zc hS (fun h8 hS => ?_) (fun h8 hS => ?_)
 ·
  refine Zq (Zr ?_)
  refine Zy ?_
  cases hS
  exact Ze
 refine Zq (Zr ?_)
 refine Zu (gJ rfl rfl) ?_
 refine Zy ?_
 refine VC.keep (ρ':=[(3,i64 oG),(10,.bool (decide (oG=3)))]) [3,10] rfl ?_
 refine Zc hS (fun h10 hS => ?_) (fun h10 hS => ?_)
 ·
  refine Zq (Zr ?_)
  refine Zy ?_
  cases hS
  exact Ze
 refine Zq (Zr ?_)
 refine Zu (gJ rfl rfl) ?_
 refine Zy ?_
 refine Zc hS (fun h12 hS => ?_) (fun h12 hS => ?_)
 ·
  refine Zq (Zr ?_)
  refine Zy ?_
  cases hS
  exact Ze
 refine Zq (Zr ?_)
 refine Zu (gJ rfl rfl) ?_
 refine Zy ?_
 refine Zc hS (fun h14 hS => ?_) (fun h14 hS => ?_)
 ·
  refine Zq (Zr ?_)
  refine Zy ?_
  cases hS
  exact Ze
 refine Zq (Zr ?_)
 refine Zu (gJ rfl rfl) ?_
 refine Zy ?_
 refine Zc hS (fun h16 hS => ?_) (fun h16 hS => ?_)
 ·
  refine Zq (Zr ?_)
  refine Zy ?_
  cases hS
  exact Ze
 refine Zq (Zr ?_)
 refine Zu (gJ rfl rfl) ?_
 refine Zy ?_
 refine Zc hS (fun h18 hS => ?_) (fun h18 hS => ?_)
 ·
  refine Zq (Zr ?_)
  refine Zy ?_
  refine VC.keep (ρ':=[(2,str [115,116,97,116,101])]) [2] rfl ?_
  cases hS
  exact Ze
 refine Zq (Zr ?_)
 refine Zu (gJ rfl rfl) ?_
 refine Zy ?_
 refine VC.keep (ρ':=[(3,i64 oG),(20,.bool (decide (oG=8)))]) [3,20] rfl ?_
 refine Zc hS (fun h20 hS => ?_) (fun h20 hS => ?_)
 ·
  refine Zq (Zr ?_)
  refine Zy ?_
  cases hS
  exact Ze
 refine Zq (Zr ?_)
 refine Zu (gJ rfl rfl) ?_
 refine Zy ?_
 refine Zc hS (fun h22 hS => ?_) (fun h22 hS => ?_)
 ·
  refine Zq (Zr ?_)
  refine Zy ?_
  cases hS
  exact Ze
 refine Zq (Zr ?_)
 refine Zu (gJ rfl rfl) ?_
 refine Zy ?_
 refine Zc hS (fun h24 hS => ?_) (fun h24 hS => ?_)
 ·
  refine Zq (Zr ?_)
  refine Zy ?_
  cases hS
  exact Ze
 refine Zq (Zr ?_)
 refine Zu (gJ rfl rfl) ?_
 refine Zy ?_
 refine Zc hS (fun h26 hS => ?_) (fun h26 hS => ?_)
 ·
  refine Zq (Zr ?_)
  refine Zy ?_
  cases hS
  exact Ze
 refine Zq (Zr ?_)
 refine Zu (gJ rfl rfl) ?_
 refine Zy ?_
 refine Zc hS (fun h28 hS => ?_) (fun h28 hS => ?_)
 ·
  refine Zq (Zr ?_)
  refine Zy ?_
  refine VC.keep (ρ':=[(2,str [115,117,109])]) [2] rfl ?_
  cases hS
  exact Ze
 refine Zq (Zr ?_)
 refine Zu (gJ rfl rfl) ?_
 refine Zy ?_
 refine VC.keep (ρ':=[(3,i64 oG),(30,.bool (decide (oG=13)))]) [3,30] rfl ?_
 refine Zc hS (fun h30 hS => ?_) (fun h30 hS => ?_)
 ·
  refine Zq (Zr ?_)
  refine Zy ?_
  cases hS
  exact Ze
 refine Zq (Zr ?_)
 refine Zu (gJ rfl rfl) ?_
 refine Zy ?_
 refine Zc hS (fun h32 hS => ?_) (fun h32 hS => ?_)
 ·
  refine Zq (Zr ?_)
  refine Zy ?_
  cases hS
  exact Ze
 refine Zk ?_
 refine Zq (Zr ?_)
 refine Zy ?_
 cases hS
 exact Ze
theorem RG (aR9:Nat) (xE:CU) {E:Option bN} (ih : ∀ {y:bN},E=some y→aPl Tryz.prog xE.err.val "Error" (xE.err.ok.and Gl) (str y)) {r:bN} (hS:Sh.yL xE.pl E=some r) :
 Ct Tryz.prog 334 [ptr aR9 0] (xE.err.ok.and ((Cells aR9 0 [str xE.part,i64 xE.at_,xE.err.val]).and Gl)) (Ow.emp) (X:=Unit) (fun _=>str r) (fun _=>True) (fun _=>Mo.tt) (fun _=>Ow.emp):=by
 refine Zo Tryz.func334 Tryz.ntmps334 fun c => ?_
 unfold Sh.yL at hS
 refine Zq (Zr ?_)
 refine Zy ?_
 refine Zq (Zq (Zr ?_))
 refine Zm ?_
 refine Zu (aJ rfl) ?_
 refine Zu (aB XL rfl) ?_
 refine Zu (FL IN rfl rfl) ?_
 refine Zu (vT Tryz.underlying26 rfl) ?_
 refine Zl ?_
 refine Zc hS (fun h7 hS => ?_) (fun h7 hS => ?_)
 ·
  refine Zq ?_
  refine VC.draw ((List.range 12).map fun k=>(k,true)) mixed (by kernel_rfl) (by kernel_rfl) (by kernel_rfl) ?_
  refine Zw rfl (bI rfl) ?_
  refine Zw rfl (aJ rfl) ?_
  refine Zw rfl (aB XJ rfl) ?_
  refine Zw rfl (FL cD rfl rfl) ?_
  obtain ⟨b12,hS⟩:=bQ hS
  obtain ⟨aK8,aV3,hS⟩:=gY hS
  refine Zw rfl (fC rfl rfl b12 aV3) ?_
  refine Zw rfl (bI rfl) ?_
  refine Zw rfl (aJ rfl) ?_
  refine Zw rfl (aB XK rfl) ?_
  refine Zw rfl (FL cN rfl rfl) ?_
  obtain ⟨b17,hS⟩:=bQ hS
  refine Zw rfl (cZ (sI xE.at_ b17) rfl (fun _ _=>rfl)) ?_
  obtain ⟨b18,hS⟩:=bQ hS
  obtain ⟨H9,TX,hS⟩:=gY hS
  refine Zw rfl (fC rfl rfl b18 TX) ?_
  refine Zw rfl (iG rfl) ?_
  refine VD.to (fun _ _ h=>h) ?_
  refine VC.keep (ρ':=[(2,str H9)]) [2] rfl ?_
  cases hS
  exact Ze
 refine Zk ?_
 refine Zq ?_
 refine VC.draw ((List.range 19).map fun k=>(k,true)) mixed (by kernel_rfl) (by kernel_rfl) (by kernel_rfl) ?_
 refine Zw rfl (bI rfl) ?_
 refine Zw rfl (aJ rfl) ?_
 refine Zw rfl (aB XJ rfl) ?_
 refine Zw rfl (FL cD rfl rfl) ?_
 obtain ⟨b23,hS⟩:=bQ hS
 obtain ⟨aKh,aVv,hS⟩:=gY hS
 refine Zw rfl (fC rfl rfl b23 aVv) ?_
 refine Zw rfl (bI rfl) ?_
 refine Zw rfl (aJ rfl) ?_
 refine Zw rfl (aB XK rfl) ?_
 refine Zw rfl (FL cN rfl rfl) ?_
 obtain ⟨b28,hS⟩:=bQ hS
 refine Zw rfl (cZ (sI xE.at_ b28) rfl (fun _ _=>rfl)) ?_
 obtain ⟨b29,hS⟩:=bQ hS
 obtain ⟨Y0,aEq,hS⟩:=gY hS
 refine Zw rfl (fC rfl rfl b29 aEq) ?_
 obtain ⟨b30,hS⟩:=bQ hS
 obtain ⟨Y2,aEr,hS⟩:=gY hS
 refine Zw rfl (fC rfl rfl b30 aEr) ?_
 refine Zw rfl (bI rfl) ?_
 refine Zw rfl (aJ rfl) ?_
 refine Zw rfl (aB XL rfl) ?_
 refine Zw rfl (FL IN rfl rfl) ?_
 obtain ⟨aKo,aWN,hS⟩:=bF hS
 refine Zw rfl (aTr rfl (ih aWN)) ?_
 obtain ⟨b36,hS⟩:=bQ hS
 obtain ⟨aKp,aWQ,hS⟩:=gY hS
 refine Zw rfl (fC rfl rfl b36 aWQ) ?_
 refine Zw rfl (iG rfl) ?_
 refine VD.to (fun _ _ h=>h) ?_
 refine VC.keep (ρ':=[(2,str aKp)]) [2] rfl ?_
 cases hS
 exact Ze
theorem aOf (v:Value):J5 Tryz.prog (.iface 190 v) "Error" 334 v:=J5.of fun w=>by kernel_rfl
theorem aNj (v:Value):J5 Tryz.prog (.iface 131 v) "Error" 333 v:=J5.of fun w=>by kernel_rfl
theorem aBy : ∀ (z:Er) {r:bN} (h:Sh.L0 z.pl=some r),aPl Tryz.prog z.val "Error" (z.ok.and Gl) (str r)
  | .nil,r,h=>by cases h
  | .no n,r,h=>⟨333,i64 n,aNj _,(RF n h).weak (fun _ _=>trivial) (fun _ q=>q)⟩
  | .fault b p a e,r,h=>⟨334,ptr b 0,aOf _,(RG b ⟨p,a,e⟩ (E:=Sh.L0 e.pl) (fun q=>aBy e q) h).weak (fun _ m=>⟨m.1.2,m.1.1,m.2⟩) (fun _ q=>q)⟩
theorem YB (bE:Int) {r:bN} (hS:Sh.zV bE=some r) :
 Ct Tryz.prog 115 [i64 bE] Mo.tt (Ow.emp) (X:=Unit) (fun _=>str r) (fun _=>True) (fun _=>Mo.tt) (fun _=>Ow.emp):=by
 refine Zo Tryz.func115 Tryz.ntmps115 fun c => ?_
 unfold Sh.zV at hS
 refine Zq (Zr ?_)
 refine Zy ?_
 refine Zq (Zq (Zr ?_))
 refine Zm ?_
 refine Zu (dA rfl rfl) ?_
 refine Zl ?_
 refine Zc hS (fun h5 hS => ?_) (fun h5 hS => ?_)
 ·
  refine Zq (Zq (Zr ?_))
  refine Zm ?_
  refine Zu (gJ rfl rfl) ?_
  refine Zl ?_
  refine Zc hS (fun h7 hS => ?_) (fun h7 hS => ?_)
  ·
   refine Zq (Zr ?_)
   refine Zy ?_
   cases hS
   exact Ze
  refine Zk ?_
  refine Zq (Zr ?_)
  refine Zm ?_
  obtain ⟨b9,hS⟩:=bQ hS
  refine Zu (tW rfl rfl b9) ?_
  cases hS
 refine Zk ?_
 refine Zq (Zr ?_)
 refine Zm ?_
 obtain ⟨b13,hS⟩:=bQ hS
 refine Zu (aFc rfl rfl b13) ?_
 obtain ⟨b14,hS⟩:=bQ hS
 refine Zu (dZ rfl rfl b14) ?_
 obtain ⟨b15,hS⟩:=bQ hS
 refine Zu (VZ Tryz.underlying3 Tryz.underlying5 rfl (Z1 b15)) ?_
 obtain ⟨aE6,hS⟩:=bQ hS
 obtain ⟨aFp,aVW,hS⟩:=gY hS
 refine VL.ZE 15 rfl (congrArg (Value.int .u8) (aBz aE6 aVW)) ?_
 refine VL.lit (α:=UInt8) (xs:=[.tmp 15]) (vs:=[.int .u8 (aFp.toNat:Int)]) [aFp] Tryz.underlying22 XM (by decide) rfl rfl rfl rfl (by decide) (fun _ _ _ _=>trivial) (by decide) (fun aKK aWo => ?_) (by decide)
 replace hS:=dL aWo hS
 refine Zu (X7 (s:=aKK) Tryz.underlying22 Tryz.underlying5 Tryz.underlying9 rfl) ?_
 refine Zy ?_
 refine VC.keep (ρ':=[(0,i64 bE),(3,str aKK.l)]) [0,3] rfl ?_
 refine Zq (Zb ?_)
 refine VC.iter (S:=Int×bN) (fun sg=>(sg.1,sg.2)) (fun sg=>[(0,i64 sg.1),(3,str sg.2)]) (fun sg=>Mo.tt) (fun sg=>Ow.emp) (bE,aKK.l) [0,3] hS rfl ?_
 clear hS
 rintro ⟨KQ,aMf⟩ m1 y1 hS hK1
 refine Zq (Zq (Zr ?_))
 refine Zm ?_
 refine Zu (rQ rfl rfl) ?_
 refine Zl ?_
 refine Zc hS (fun h19 hS => ?_) (fun h19 hS => ?_)
 ·
  refine Zk ?_
  refine Zb (Zq (Zr ?_))
  refine Zm ?_
  obtain ⟨b21,hS⟩:=bQ hS
  refine Zu (aTq rfl rfl b21.1 (aJZ b21.2)) ?_
  refine Zy ?_
  refine Zr ?_
  refine Zm ?_
  obtain ⟨b23,hS⟩:=bQ hS
  refine Zu (aFc rfl rfl b23) ?_
  obtain ⟨b24,hS⟩:=bQ hS
  refine Zu (dZ rfl rfl b24) ?_
  obtain ⟨b25,hS⟩:=bQ hS
  refine Zu (VZ Tryz.underlying3 Tryz.underlying5 rfl (Z1 b25)) ?_
  obtain ⟨aE7,hS⟩:=bQ hS
  obtain ⟨aFr,aVY,hS⟩:=gY hS
  refine VL.ZE 25 rfl (congrArg (Value.int .u8) (aBz aE7 aVY)) ?_
  refine VL.lit (α:=UInt8) (xs:=[.tmp 25]) (vs:=[.int .u8 (aFr.toNat:Int)]) [aFr] Tryz.underlying22 XM (by decide) rfl rfl rfl rfl (by decide) (fun _ _ _ _=>trivial) (by decide) (fun a0a aWx => ?_) (by decide)
  replace hS:=dL aWx hS
  refine Zu (X7 (s:=a0a) Tryz.underlying22 Tryz.underlying5 Tryz.underlying9 rfl) ?_
  refine Zm ?_
  obtain ⟨b29,hS⟩:=bQ hS
  obtain ⟨J1,aWH,hS⟩:=gY hS
  refine Zu (fC rfl rfl b29 aWH) ?_
  refine Za ?_
  refine VL.kE ((KQ / 10),J1) [0,3] (fun _ _ h=>h) (go2 hS hK1) rfl
 replace hS:=fF hS hK1
 refine Zx ?_
 refine Zq (Zr ?_)
 refine Zy ?_
 cases hS
 exact Ze
theorem kW (bE:Int) {r:bN} (hS:Sh.kI bE=some r) :
 Ct Tryz.prog 115 [i64 bE] Mo.tt (Ow.emp) (X:=Unit) (fun _=>str r) (fun _=>True) (fun _=>Mo.tt) (fun _=>Ow.emp):=by
 refine Zo Tryz.func115 Tryz.ntmps115 fun c => ?_
 unfold Sh.kI at hS
 refine Zq (Zr ?_)
 refine Zy ?_
 refine Zq (Zq (Zr ?_))
 refine Zm ?_
 refine Zu (dA rfl rfl) ?_
 refine Zl ?_
 refine Zc hS (fun h5 hS => ?_) (fun h5 hS => ?_)
 ·
  refine Zq (Zq (Zr ?_))
  refine Zm ?_
  refine Zu (gJ rfl rfl) ?_
  refine Zl ?_
  refine Zc hS (fun h7 hS => ?_) (fun h7 hS => ?_)
  ·
   refine Zq (Zr ?_)
   refine Zy ?_
   cases hS
   exact Ze
  refine Zk ?_
  refine Zq (Zr ?_)
  refine Zm ?_
  obtain ⟨b9,hS⟩:=bQ hS
  refine Zu (tW rfl rfl b9) ?_
  obtain ⟨gS,tC,hS⟩:=bF hS
  refine Zu (cZ (YB (0 - bE) tC) rfl (fun _ _=>rfl)) ?_
  obtain ⟨b11,hS⟩:=bQ hS
  obtain ⟨H6,aEd,hS⟩:=gY hS
  refine Zu (fC rfl rfl b11 aEd) ?_
  refine Zy ?_
  cases hS
  exact Ze
 refine Zk ?_
 refine Zq (Zr ?_)
 refine Zm ?_
 obtain ⟨b13,hS⟩:=bQ hS
 refine Zu (aFc rfl rfl b13) ?_
 obtain ⟨b14,hS⟩:=bQ hS
 refine Zu (dZ rfl rfl b14) ?_
 obtain ⟨b15,hS⟩:=bQ hS
 refine Zu (VZ Tryz.underlying3 Tryz.underlying5 rfl (Z1 b15)) ?_
 obtain ⟨aE6,hS⟩:=bQ hS
 obtain ⟨aFq,aVX,hS⟩:=gY hS
 refine VL.ZE 15 rfl (congrArg (Value.int .u8) (aBz aE6 aVX)) ?_
 refine VL.lit (α:=UInt8) (xs:=[.tmp 15]) (vs:=[.int .u8 (aFq.toNat:Int)]) [aFq] Tryz.underlying22 XM (by decide) rfl rfl rfl rfl (by decide) (fun _ _ _ _=>trivial) (by decide) (fun HT UG => ?_) (by decide)
 replace hS:=dL UG hS
 refine Zu (X7 (s:=HT) Tryz.underlying22 Tryz.underlying5 Tryz.underlying9 rfl) ?_
 refine Zy ?_
 refine VC.keep (ρ':=[(0,i64 bE),(3,str HT.l)]) [0,3] rfl ?_
 refine Zq (Zb ?_)
 refine VC.iter (S:=Int×bN) (fun sg=>(sg.1,sg.2)) (fun sg=>[(0,i64 sg.1),(3,str sg.2)]) (fun sg=>Mo.tt) (fun sg=>Ow.emp) (bE,HT.l) [0,3] hS rfl ?_
 clear hS
 rintro ⟨KR,aMg⟩ m1 y1 hS hK1
 refine Zq (Zq (Zr ?_))
 refine Zm ?_
 refine Zu (rQ rfl rfl) ?_
 refine Zl ?_
 refine Zc hS (fun h19 hS => ?_) (fun h19 hS => ?_)
 ·
  refine Zk ?_
  refine Zb (Zq (Zr ?_))
  refine Zm ?_
  obtain ⟨b21,hS⟩:=bQ hS
  refine Zu (aTq rfl rfl b21.1 (aJZ b21.2)) ?_
  refine Zy ?_
  refine Zr ?_
  refine Zm ?_
  obtain ⟨b23,hS⟩:=bQ hS
  refine Zu (aFc rfl rfl b23) ?_
  obtain ⟨b24,hS⟩:=bQ hS
  refine Zu (dZ rfl rfl b24) ?_
  obtain ⟨b25,hS⟩:=bQ hS
  refine Zu (VZ Tryz.underlying3 Tryz.underlying5 rfl (Z1 b25)) ?_
  obtain ⟨aE7,hS⟩:=bQ hS
  obtain ⟨aFs,aVZ,hS⟩:=gY hS
  refine VL.ZE 25 rfl (congrArg (Value.int .u8) (aBz aE7 aVZ)) ?_
  refine VL.lit (α:=UInt8) (xs:=[.tmp 25]) (vs:=[.int .u8 (aFs.toNat:Int)]) [aFs] Tryz.underlying22 XM (by decide) rfl rfl rfl rfl (by decide) (fun _ _ _ _=>trivial) (by decide) (fun a0b aWy => ?_) (by decide)
  replace hS:=dL aWy hS
  refine Zu (X7 (s:=a0b) Tryz.underlying22 Tryz.underlying5 Tryz.underlying9 rfl) ?_
  refine Zm ?_
  obtain ⟨b29,hS⟩:=bQ hS
  obtain ⟨aGE,aQZ,hS⟩:=gY hS
  refine Zu (fC rfl rfl b29 aQZ) ?_
  refine Za ?_
  refine VL.kE ((KR / 10),aGE) [0,3] (fun _ _ h=>h) (go2 hS hK1) rfl
 replace hS:=fF hS hK1
 refine Zx ?_
 refine Zq (Zr ?_)
 refine Zy ?_
 cases hS
 exact Ze
theorem aJJ (oG:Int) {r:bN} (hS:Sh.O1 oG=some r) :
 Ct Tryz.prog 172 [i64 oG] Mo.tt (Ow.emp) (X:=Unit) (fun _=>str r) (fun _=>True) (fun _=>Mo.tt) (fun _=>Ow.emp):=by
 refine Zo Tryz.func172 Tryz.ntmps172 fun c => ?_
 unfold Sh.O1 at hS
 refine Zq (Zr ?_)
 refine Zy ?_
 refine Zq (Zr ?_)
 refine VL.lit (α:=bN) (xs:=[.const (str [111,107]),.const (str [97,114,103]),.const (str [102,111,114,109]),.const (str [115,104,111,114,116]),.const (str [108,111,110,103]),.const (str [110,97,109,101]),.const (str [116,119,105,99,101]),.const (str [115,116,97,116,101]),.const (str [100,105,114,116,121]),.const (str [99,111,110,102,108,105,99,116]),.const (str [115,97,109,101]),.const (str [119,97,121]),.const (str [115,117,109]),.const (str [100,111,119,110]),.const (str [113,117,111,116,97])]) (vs:=[str [111,107],str [97,114,103],str [102,111,114,109],str [115,104,111,114,116],str [108,111,110,103],str [110,97,109,101],str [116,119,105,99,101],str [115,116,97,116,101],str [100,105,114,116,121],str [99,111,110,102,108,105,99,116],str [115,97,109,101],str [119,97,121],str [115,117,109],str [100,111,119,110],str [113,117,111,116,97]]) [[111,107],[97,114,103],[102,111,114,109],[115,104,111,114,116],[108,111,110,103],[110,97,109,101],[116,119,105,99,101],[115,116,97,116,101],[100,105,114,116,121],[99,111,110,102,108,105,99,116],[115,97,109,101],[119,97,121],[115,117,109],[100,111,119,110],[113,117,111,116,97]] Tryz.underlying89 oZ (by decide) rfl rfl rfl rfl (by decide) (fun _ _ _ _=>trivial) (by decide) (fun aJS aZq => ?_) (by decide)
 replace hS:=dL aZq hS
 refine Zy ?_
 refine Zq ?_
 refine VC.j0 (S:=Bool) (fun (PL:Bool)=>PL) (fun (PL:Bool)=>[(0,i64 oG),(3,aJS.val),(12,.bool PL)]) (fun (PL:Bool)=>Mo.tt) (fun (PL:Bool)=>Ow.emp) hS ?_ ?_
 ·
  clear hS
  intro k4 hS
  refine Zr ?_
  refine Zm ?_
  refine Zu (dA rfl rfl) ?_
  refine Zm ?_
  refine jJ 7 hS (fun h7 hS => ?_) (fun h7 hS => ?_)
  ·
   refine VL.runs 5 [(12,some true)] (by kernel_rfl) ?_
   refine VL.mt true [0,3,12] (fun _ _ h=>h) hS rfl
  refine Zy ?_
  refine Zh (fH (s:=aJS) Tryz.underlying89 rfl) ?_
  refine Zh (rQ rfl rfl) ?_
  refine Zf ?_
  refine VL.mt (decide ((aJS.l.length:Int)≤oG)) [0,3,12] (fun _ _ h=>h) hS rfl
 clear hS
 rintro PL hS
 refine mT hS (fun h12 hS => ?_) (fun h12 hS => ?_)
 ·
  refine Zq (Zr ?_)
  refine Zy ?_
  cases hS
  exact Ze
 refine Zk ?_
 refine Zq (Zr ?_)
 refine Zy ?_
 obtain ⟨aVC,aMC,aLd,hS⟩:=eW hS
 refine Zu (dH (s:=aJS) Tryz.underlying89 uG rfl rfl aMC (bC aMC aLd)) ?_
 refine Zu (qW (s:=aJS) cD rfl aLd rfl) ?_
 refine Zy ?_
 cases hS
 exact Ze
theorem aFe (w_0:jP) {r:bN} (hS:Sh.K6 w_0.pl=some r) :
 Ct Tryz.prog 94 [.agg #[w_0.parts.val,i64 w_0.err]] w_0.parts.ok (Ow.emp) (X:=Unit) (fun _=>str r) (fun _=>True) (fun _=>Mo.tt) (fun _=>Ow.emp):=by
 refine Zo Tryz.func94 Tryz.ntmps94 fun c => ?_
 unfold Sh.K6 at hS
 refine Zq (Zr ?_)
 refine VL.box (cs:=[w_0.parts.val,i64 w_0.err]) rfl rfl (by decide) fun cM => ?_
 refine Zy ?_
 refine Zq (Zr ?_)
 refine Zy ?_
 refine Zq (Zq (Zr ?_))
 refine Zy ?_
 refine Zb ?_
 refine VC.iter (S:=bN×Int) (fun sg=>(sg.1,sg.2)) (fun sg=>[(1,ptr cM 0),(3,str sg.1),(4,i64 sg.2)]) (fun sg=>Mo.tt) (fun sg=>Ow.star (bT cM [w_0.parts.val,i64 w_0.err] 43) (Ow.emp)) ([],0) [1,3,4] hS rfl ?_
 clear hS
 rintro ⟨aJR,FJ⟩ m1 y1 hS hK1
 refine Zq (Zq (Zr ?_))
 refine Zm ?_
 refine Zu (aB EI rfl) ?_
 refine Zu (aI IP rfl rfl) ?_
 refine Zu (fH (s:=w_0.parts) Tryz.underlying41 rfl) ?_
 refine Zu (dA rfl rfl) ?_
 refine Zl ?_
 refine Zc hS (fun h9 hS => ?_) (fun h9 hS => ?_)
 ·
  refine Zk ?_
  refine Zq (Zb ?_)
  refine VC.draw ((List.range 19).map fun k=>(k,true)) mixed (by kernel_rfl) (by kernel_rfl) (by kernel_rfl) ?_
  refine Zw rfl (bI rfl) ?_
  refine Zw rfl (aB EI rfl) ?_
  refine Zw rfl (aI IP rfl rfl) ?_
  refine Zw rfl (bI rfl) ?_
  obtain ⟨J2,VF,QT,hS⟩:=eW hS
  refine Zw rfl (dH (s:=w_0.parts) Tryz.underlying41 ZW rfl rfl VF (bC VF QT)) ?_
  refine Zw rfl (aB aDb rfl) ?_
  refine Zw rfl (jK (s:=w_0.parts) cD rfl QT rfl) ?_
  obtain ⟨b19,hS⟩:=bQ hS
  obtain ⟨CM,aEk,hS⟩:=gY hS
  refine Zw rfl (fC rfl rfl b19 aEk) ?_
  obtain ⟨b20,hS⟩:=bQ hS
  obtain ⟨aKg,aVo,hS⟩:=gY hS
  refine Zw rfl (fC rfl rfl b20 aVo) ?_
  refine Zw rfl (aB EI rfl) ?_
  refine Zw rfl (aI IP rfl rfl) ?_
  refine Zw rfl (bI rfl) ?_
  obtain ⟨aLC,aMO,aLm,hS⟩:=eW hS
  refine Zw rfl (dH (s:=w_0.parts) Tryz.underlying41 ZW rfl rfl aMO (bC aMO aLm)) ?_
  refine Zw rfl (aB aDc rfl) ?_
  refine Zw rfl (jK (s:=w_0.parts) cN rfl aLm rfl) ?_
  obtain ⟨YY,aWD,hS⟩:=bF hS
  refine Zw rfl (cZ (kW aLC.at_ aWD) rfl (fun _ _=>rfl)) ?_
  obtain ⟨b28,hS⟩:=bQ hS
  obtain ⟨S9,aEp,hS⟩:=gY hS
  refine Zw rfl (fC rfl rfl b28 aEp) ?_
  obtain ⟨b29,hS⟩:=bQ hS
  obtain ⟨M9,aA2,hS⟩:=gY hS
  refine Zw rfl (fC rfl rfl b29 aA2) ?_
  refine Zw rfl (iG rfl) ?_
  refine VD.to (fun _ _ h=>h) ?_
  refine VC.keep (ρ':=[(1,ptr cM 0),(3,str M9),(4,i64 FJ)]) [1,3,4] rfl ?_
  refine Zr ?_
  refine Zm ?_
  obtain ⟨b11,hS⟩:=bQ hS
  refine Zu (dZ rfl rfl b11) ?_
  refine Za ?_
  refine VL.kE (M9,(FJ+1)) [1,3,4] (fun _ _ h=>h) (go2 hS hK1) rfl
 replace hS:=fF hS hK1
 refine Zx ?_
 refine Zq (Zr ?_)
 refine Zm ?_
 refine Zu (aB xG rfl) ?_
 refine Zu (aI cN rfl rfl) ?_
 obtain ⟨aGI,aQ5,hS⟩:=bF hS
 refine Zu (cZ (aJJ w_0.err aQ5) rfl (fun _ _=>rfl)) ?_
 obtain ⟨b34,hS⟩:=bQ hS
 obtain ⟨NA,aA4,hS⟩:=gY hS
 refine Zu (fC rfl rfl b34 aA4) ?_
 refine Zy ?_
 refine VC.keep (ρ':=[(2,str NA)]) [2] rfl ?_
 cases hS
 exact Ze
theorem aFZ (BD:Er) (w_1:jP) {r:Bool} (hS:Sh.KP BD.pl w_1.pl=some r) :
 Ct Tryz.prog 39 [BD.val,.agg #[w_1.parts.val,i64 w_1.err]] (BD.ok.and (w_1.parts.ok.and Gl)) (Ow.emp) (X:=Unit) (fun _ => .bool r) (fun _=>True) (fun _=>Mo.tt) (fun _=>Ow.emp):=by
 refine Zo Tryz.func39 Tryz.ntmps39 fun c => ?_
 unfold Sh.KP at hS
 refine Zq (Zr ?_)
 refine VL.box (cs:=[w_1.parts.val,i64 w_1.err]) rfl rfl (by decide) fun qQ => ?_
 refine Zy ?_
 refine Zq (Zq (Zr ?_))
 refine Zu (aB xG rfl) ?_
 refine Zu (aI cN rfl rfl) ?_
 refine Zu (gJ rfl rfl) ?_
 refine Zl ?_
 refine Zc hS (fun h8 hS => ?_) (fun h8 hS => ?_)
 ·
  refine Zq (Zr ?_)
  refine Zm ?_
  refine Zu (vT Tryz.underlying26 rfl) ?_
  refine Zy ?_
  cases hS
  exact Ze
 refine Zk ?_
 refine Zq ?_
 refine VC.j0 (S:=Bool) (fun (yG:Bool)=>yG) (fun (yG:Bool)=>[(0,BD.val),(3,ptr qQ 0),(27,.bool yG)]) (fun (yG:Bool)=>Mo.tt) (fun (yG:Bool)=>Ow.star (bT qQ [w_1.parts.val,i64 w_1.err] 43) (Ow.emp)) hS ?_ ?_
 ·
  clear hS
  intro k3 hS
  refine VC.draw ((List.range 17).map fun k=>(k,true)) mixed (by kernel_rfl) (by kernel_rfl) (by kernel_rfl) ?_
  refine Zw rfl (bI rfl) ?_
  refine Zw rfl (vT Tryz.underlying26 rfl) ?_
  refine Zw rfl (bI rfl) ?_
  refine VD.mY 13 rfl (fun h13 => ?_) (fun h13 => ?_)
  ·
   replace hS:=wW h13 hS
   refine Zd ?_
   refine Zd ?_
   refine Zd ?_
   refine Zd ?_
   refine Zd ?_
   refine Zw rfl (fB rfl rfl) ?_
   refine Zw rfl (bI rfl) ?_
   refine Zd ?_
   refine Zd ?_
   refine Zd ?_
   refine Zd ?_
   refine Zd ?_
   refine Zd ?_
   refine Zw rfl (fB rfl rfl) ?_
   refine VD.mt true [0,3,27] (fun _ _ h=>h) hS rfl
  replace hS:=BK h13 hS
  refine Zi rfl (bI rfl) ?_
  obtain ⟨CL,L3,hS⟩:=bF hS
  refine Zi rfl (aTr rfl (aBy BD L3)) ?_
  refine Zi rfl (gZ mP rfl rfl) ?_
  obtain ⟨H8,TV,hS⟩:=bF hS
  refine Zi rfl (cZ (aFe w_1 TV) rfl (fun _ _=>rfl)) ?_
  refine Zi rfl (BX rfl rfl) ?_
  refine Zw rfl (fE rfl rfl) ?_
  refine Zw rfl (bI rfl) ?_
  refine VD.O6 20 rfl (fun h20 => ?_) (fun h20 => ?_)
  ·
   replace hS:=BK h20 hS
   refine Zd ?_
   refine Zd ?_
   refine Zd ?_
   refine Zd ?_
   refine Zd ?_
   refine Zd ?_
   refine Zw rfl (fB rfl rfl) ?_
   refine VD.mt true [0,3,27] (fun _ _ h=>h) hS rfl
  replace hS:=wW h20 hS
  refine Zi rfl (bI rfl) ?_
  refine Zi rfl (aB xG rfl) ?_
  refine Zi rfl (aI cN rfl rfl) ?_
  refine Zi rfl (o3 Tryz.underlying131 (fun _ h=>by cases h) rfl) ?_
  refine Zi rfl (cZ (aZw BD w_1.err) rfl (fun _ _=>rfl)) ?_
  refine Zi rfl (oS rfl) ?_
  refine Zw rfl (fE rfl rfl) ?_
  refine VD.mt (!decide (E7 BD.pl=some w_1.err)) [0,3,27] (fun _ _ h=>h) hS rfl
 clear hS
 rintro yG hS
 refine mT hS (fun h27 hS => ?_) (fun h27 hS => ?_)
 ·
  refine Zq (Zr ?_)
  refine Zy ?_
  cases hS
  exact Ze
 refine Zk ?_
 refine Zq (Zq (Zr ?_))
 refine Zu (aB EI rfl) ?_
 refine Zu (aI IP rfl rfl) ?_
 refine Zu (fH (s:=w_1.parts) Tryz.underlying41 rfl) ?_
 refine Zu (gJ rfl rfl) ?_
 refine Zl ?_
 refine Zc hS (fun h31 hS => ?_) (fun h31 hS => ?_)
 ·
  refine Zq (Zr ?_)
  refine Zy ?_
  cases hS
  exact Ze
 refine Zk ?_
 refine Zq (Zr ?_)
 refine VL.alloc (cs:=[.pointer none]) (by kernel_rfl) (by decide) fun aLQ => ?_
 refine Zl ?_
 refine Zq (Zq (Zr ?_))
 refine Zm ?_
 refine Zu (o3 Tryz.underlying192 (fun _ h=>by cases h) rfl) ?_
 rcases BD with _ | _ | ⟨eb7,ep7,ea7,ez7⟩
 ·
  exact absurd hS (by simp [Er.pl])
 ·
  exact absurd hS (by simp [Er.pl])
 dsimp only [Er.pl] at hS
 refine VL.IJ (Cells eb7 0 [str ep7,i64 ea7,ez7.val]) (fun _ m=>(dQ.out (X:=(Er.fault eb7 ep7 ea7 ez7).ok) _ m).1) ?_
 refine VL.IJ ez7.ok (fun _ m=>(dQ.out (X:=(Er.fault eb7 ep7 ea7 ez7).ok) _ m.2).2) ?_
 refine VL.cT (As.aZW eb7 aLQ) rfl (by decide) ?_
 rintro _ _
 refine Zu (oS rfl) ?_
 refine Zm ?_
 refine Zh (aI aAo rfl rfl) ?_
 refine Zh (aFb Tryz.underlying190 rfl) ?_
 refine Zy ?_
 refine VC.keep (ρ':=[(3,ptr qQ 0),(5,ptr aLQ 0),(39,.bool false)]) [3,5,39] rfl ?_
 refine VC.rL rfl ?_
 refine Zk ?_
 refine Zq ?_
 refine VC.draw ((List.range 23).map fun k=>(k,true)) mixed (by kernel_rfl) (by kernel_rfl) (by kernel_rfl) ?_
 refine Zw rfl (aI aAo rfl rfl) ?_
 refine Zw rfl (aJ rfl) ?_
 refine Zw rfl (aB XJ rfl) ?_
 refine Zw rfl (FL cD rfl rfl) ?_
 refine Zw rfl (aB EI rfl) ?_
 refine Zw rfl (aI IP rfl rfl) ?_
 obtain ⟨aVI,aMY,aLu,hS⟩:=eW hS
 refine Zw rfl (dH (s:=w_1.parts) Tryz.underlying41 ZW rfl rfl aMY (bC aMY aLu)) ?_
 refine Zw rfl (aB aDb rfl) ?_
 refine Zw rfl (jK (s:=w_1.parts) cD rfl aLu rfl) ?_
 refine Zw rfl (sM rfl rfl) ?_
 refine Zw rfl (bI rfl) ?_
 refine VD.mY 50 rfl (fun h50 => ?_) (fun h50 => ?_)
 ·
  replace hS:=wW h50 hS
  refine Zi rfl (aI aAo rfl rfl) ?_
  refine Zi rfl (aJ rfl) ?_
  refine Zi rfl (aB XK rfl) ?_
  refine Zi rfl (FL cN rfl rfl) ?_
  refine Zi rfl (aB EI rfl) ?_
  refine Zi rfl (aI IP rfl rfl) ?_
  obtain ⟨aLH,aM0,aLw,hS⟩:=eW hS
  refine Zi rfl (dH (s:=w_1.parts) Tryz.underlying41 ZW rfl rfl aM0 (bC aM0 aLw)) ?_
  refine Zi rfl (aB aDc rfl) ?_
  refine Zi rfl (jK (s:=w_1.parts) cN rfl aLw rfl) ?_
  refine Zi rfl (gJ rfl rfl) ?_
  refine Zw rfl (fB rfl rfl) ?_
  refine Zw rfl (iG rfl) ?_
  refine VD.to (fun _ _ h=>h) ?_
  refine VC.keep (ρ':=[(4,.bool (decide (ea7=aLH.at_)))]) [4] rfl ?_
  cases hS
  exact Ze
 replace hS:=BK h50 hS
 refine Zd ?_
 refine Zd ?_
 refine Zd ?_
 refine Zd ?_
 refine Zd ?_
 refine Zd ?_
 refine Zd ?_
 refine Zd ?_
 refine Zd ?_
 refine Zd ?_
 refine Zw rfl (fE rfl rfl) ?_
 refine Zw rfl (iG rfl) ?_
 refine VD.to (fun _ _ h=>h) ?_
 refine VC.keep (ρ':=[(4,.bool false)]) [4] rfl ?_
 cases hS
 exact Ze
theorem ZN (eV:Sv Int) {r:bN} (hS:Sh.BN eV.l=some r) :
 Ct Tryz.prog 116 [eV.val] eV.ok (Ow.emp) (X:=Unit) (fun _=>str r) (fun _=>True) (fun _=>Mo.tt) (fun _=>Ow.emp):=by
 refine Zo Tryz.func116 Tryz.ntmps116 fun c => ?_
 unfold Sh.BN at hS
 refine Zq (Zr ?_)
 refine Zy ?_
 refine Zq (Zr ?_)
 refine Zy ?_
 refine Zq (Zq (Zr ?_))
 refine Zy ?_
 refine Zb ?_
 refine VC.iter (S:=bN×Int) (fun sg=>(sg.1,sg.2)) (fun sg=>[(0,eV.val),(3,str sg.1),(4,i64 sg.2)]) (fun sg=>Mo.tt) (fun sg=>Ow.emp) ([],0) [0,3,4] hS rfl ?_
 clear hS
 rintro ⟨aEL,gT⟩ m1 y1 hS hK1
 refine Zq (Zq (Zr ?_))
 refine Zy ?_
 refine Zu (fH (s:=eV) Tryz.underlying32 rfl) ?_
 refine Zu (dA rfl rfl) ?_
 refine Zl ?_
 refine Zc hS (fun h8 hS => ?_) (fun h8 hS => ?_)
 ·
  refine Zk ?_
  refine Zq (Zb ?_)
  refine VC.j0 (S:=bN) (fun (V9:bN)=>V9) (fun (V9:bN)=>[(0,eV.val),(3,str V9),(4,i64 gT)]) (fun (V9:bN)=>Mo.tt) (fun (V9:bN)=>Ow.emp) hS ?_ ?_
  ·
   clear hS
   intro k4 hS
   refine Zq (Zr ?_)
   refine Zm ?_
   refine Zu (gQ rfl rfl) ?_
   refine Zl ?_
   refine Zc hS (fun h12 hS => ?_) (fun h12 hS => ?_)
   ·
    refine Zr ?_
    refine Zm ?_
    obtain ⟨b14,hS⟩:=bQ hS
    obtain ⟨aK9,aV7,hS⟩:=gY hS
    refine Zu (fC rfl rfl b14 aV7) ?_
    refine Za ?_
    refine VL.mt aK9 [0,3,4] (fun _ _ h=>h) hS rfl
   refine VC.qL aEL [0,3,4] (fun _ _ h=>h) hS rfl
  clear hS
  rintro V9 hS
  refine Zr ?_
  refine Zy ?_
  obtain ⟨aKy,aMG,aLg,hS⟩:=eW hS
  refine Zu (dH (s:=eV) Tryz.underlying32 FI rfl rfl aMG (bC aMG aLg)) ?_
  refine Zu (qW (s:=eV) cN rfl aLg rfl) ?_
  obtain ⟨S7,aVp,hS⟩:=bF hS
  refine Zu (cZ (kW aKy aVp) rfl (fun _ _=>rfl)) ?_
  obtain ⟨b21,hS⟩:=bQ hS
  obtain ⟨JY,T0,hS⟩:=gY hS
  refine Zu (fC rfl rfl b21 T0) ?_
  refine Zy ?_
  refine Zr ?_
  refine Zm ?_
  obtain ⟨b10,hS⟩:=bQ hS
  refine Zu (dZ rfl rfl b10) ?_
  refine Za ?_
  refine VL.kE (JY,(gT+1)) [0,3,4] (fun _ _ h=>h) (go2 hS hK1) rfl
 replace hS:=fF hS hK1
 refine Zx ?_
 refine Zq (Zr ?_)
 refine Zy ?_
 cases hS
 exact Ze
theorem aFX (aD:lJ) {r:bN} (hS:Sh.KN aD.pl=some r) :
 Ct Tryz.prog 43 [.agg (eF aD).toArray] (aD.iV.ok.and (aD.iM.ok.and (aD.fX.ok.and (aD.fQ.ok.and (aD.gM.ok.and (aD.fR.ok.and (aD.gN.ok.and (aD.iR.ok.and (aD.aK.ok.and (aD.back.ok.and aD.hO.ok)))))))))) (Ow.emp) (X:=Unit) (fun _=>str r) (fun _=>True) (fun _=>Mo.tt) (fun _=>Ow.emp):=by
 refine Zo Tryz.func43 Tryz.ntmps43 fun c => ?_
 unfold Sh.KN at hS
 refine Zq (Zr ?_)
 refine VL.box (cs:=(eF aD)) rfl rfl (by decide) fun cM => ?_
 refine Zy ?_
 refine Zq (Zr ?_)
 refine Zu (aB aHa rfl) ?_
 refine Zu (sL (j:=0) (n:=17) aEx rfl rfl rfl) ?_
 refine VL.alloc (cs:=[.slice none 0 0,.slice none 0 0,.slice none 0 0,str [],i64 0,str [],i64 0,str [],.slice none 0 0,.slice none 0 0,i64 0,str [],str [],i64 0,.slice none 0 0,.slice none 0 0,.slice none 0 0]) (by kernel_rfl) (by decide) fun eZ => ?_
 refine Zv (vc:=[aD.iV.val,aD.iM.val,aD.fX.val,str aD.eA,i64 aD.eB,str aD.gL,i64 aD.gO,str aD.iJ,aD.fQ.val,aD.gM.val,i64 aD.iI,str aD.fZ,str aD.eG,i64 aD.eH,aD.fR.val,aD.gN.val,aD.iR.val]) (cs':=[aD.iV.val,aD.iM.val,aD.fX.val,str aD.eA,i64 aD.eB,str aD.gL,i64 aD.gO,str aD.iJ,aD.fQ.val,aD.gM.val,i64 aD.iI,str aD.fZ,str aD.eG,i64 aD.eH,aD.fR.val,aD.gN.val,aD.iR.val]) rfl aJt ?_
 refine Zl ?_
 refine Zq (Zr ?_)
 refine Zu (aB tE rfl) ?_
 refine Zu (aB EK rfl) ?_
 refine Zu (aI cD rfl rfl) ?_
 obtain ⟨b17,hS⟩:=bQ hS
 obtain ⟨vG,L5,hS⟩:=gY hS
 refine Zu (fC rfl rfl b17 L5) ?_
 refine Zy ?_
 refine VC.keep (ρ':=[(1,ptr cM 0),(3,ptr eZ 0),(4,str vG)]) [1,3,4] rfl ?_
 refine VC.j0 (S:=bN) (fun (WL:bN)=>WL) (fun (WL:bN)=>[(1,ptr cM 0),(3,ptr eZ 0),(4,str WL)]) (fun (WL:bN)=>Mo.tt) (fun (WL:bN)=>Ow.star (bT eZ [aD.iV.val,aD.iM.val,aD.fX.val,str aD.eA,i64 aD.eB,str aD.gL,i64 aD.gO,str aD.iJ,aD.fQ.val,aD.gM.val,i64 aD.iI,str aD.fZ,str aD.eG,i64 aD.eH,aD.fR.val,aD.gN.val,aD.iR.val] 82) (Ow.star (bT cM (eF aD) 86) (Ow.emp))) hS ?_ ?_
 ·
  clear hS
  intro k5 hS
  refine Zq (Zr ?_)
  refine Zu (aB tE rfl) ?_
  refine Zu (aB EK rfl) ?_
  refine Zu (aI cD rfl rfl) ?_
  refine Zy ?_
  refine Zc hS (fun h21 hS => ?_) (fun h21 hS => ?_)
  ·
   refine Zr ?_
   refine Zu (aB tE rfl) ?_
   refine Zu (aB KJ rfl) ?_
   refine Zu (aI cN rfl rfl) ?_
   obtain ⟨S8,aEn,hS⟩:=bF hS
   refine Zu (cZ (kW aD.eB aEn) rfl (fun _ _=>rfl)) ?_
   obtain ⟨b26,hS⟩:=bQ hS
   obtain ⟨DR,T6,hS⟩:=gY hS
   refine Zu (fC rfl rfl b26 T6) ?_
   refine Za ?_
   refine VL.mt DR [1,3,4] (fun _ _ h=>h) hS rfl
  refine VC.qL vG [1,3,4] (fun _ _ h=>h) hS rfl
 clear hS
 rintro WL hS
 refine Zq (Zr ?_)
 refine Zm ?_
 obtain ⟨b28,hS⟩:=bQ hS
 obtain ⟨YZ,aEo,hS⟩:=gY hS
 refine Zu (fC rfl rfl b28 aEo) ?_
 refine Zy ?_
 refine Zq (Zq (Zr ?_))
 refine Zy ?_
 refine Zb ?_
 refine VC.iter (S:=bN×Int) (fun sg=>(sg.1,sg.2)) (fun sg=>[(1,ptr cM 0),(3,ptr eZ 0),(4,str sg.1),(5,i64 sg.2)]) (fun sg=>Mo.tt) (fun sg=>Ow.star (bT eZ [aD.iV.val,aD.iM.val,aD.fX.val,str aD.eA,i64 aD.eB,str aD.gL,i64 aD.gO,str aD.iJ,aD.fQ.val,aD.gM.val,i64 aD.iI,str aD.fZ,str aD.eG,i64 aD.eH,aD.fR.val,aD.gN.val,aD.iR.val] 82) (Ow.star (bT cM (eF aD) 86) (Ow.emp))) (YZ,0) [1,3,4,5] hS rfl ?_
 clear hS
 rintro ⟨ZF,OG⟩ m1 y1 hS hK1
 refine Zq (Zq (Zr ?_))
 refine Zm ?_
 refine Zu (aB BH rfl) ?_
 refine Zu (aI FW rfl rfl) ?_
 refine Zu (fH (s:=aD.fX) Tryz.underlying75 rfl) ?_
 refine Zu (dA rfl rfl) ?_
 refine Zl ?_
 refine Zc hS (fun h33 hS => ?_) (fun h33 hS => ?_)
 ·
  refine Zk ?_
  refine Zq (Zb ?_)
  refine VC.draw ((List.range 20).map fun k=>(k,true)) mixed (by kernel_rfl) (by kernel_rfl) (by kernel_rfl) ?_
  refine Zw rfl (bI rfl) ?_
  obtain ⟨b37,hS⟩:=bQ hS
  obtain ⟨EB,aA5,hS⟩:=gY hS
  refine Zw rfl (fC rfl rfl b37 aA5) ?_
  refine Zw rfl (aB BH rfl) ?_
  refine Zw rfl (aI FW rfl rfl) ?_
  refine Zw rfl (bI rfl) ?_
  obtain ⟨aGo,aIY,aHm,hS⟩:=eW hS
  refine Zw rfl (dH (s:=aD.fX) Tryz.underlying75 MC rfl rfl aIY (bC aIY aHm)) ?_
  refine Zw rfl (aB KE rfl) ?_
  refine Zw rfl (jK (s:=aD.fX) cD rfl aHm rfl) ?_
  obtain ⟨b44,hS⟩:=bQ hS
  obtain ⟨GA,aQi,hS⟩:=gY hS
  refine Zw rfl (fC rfl rfl b44 aQi) ?_
  obtain ⟨b45,hS⟩:=bQ hS
  obtain ⟨aGQ,aQk,hS⟩:=gY hS
  refine Zw rfl (fC rfl rfl b45 aQk) ?_
  refine Zw rfl (aB BH rfl) ?_
  refine Zw rfl (aI FW rfl rfl) ?_
  refine Zw rfl (bI rfl) ?_
  obtain ⟨aGp,aI4,aHq,hS⟩:=eW hS
  refine Zw rfl (dH (s:=aD.fX) Tryz.underlying75 MC rfl rfl aI4 (bC aI4 aHq)) ?_
  refine Zw rfl (aB QK rfl) ?_
  refine Zw rfl (jK (s:=aD.fX) cN rfl aHq rfl) ?_
  obtain ⟨aGS,aQr,hS⟩:=bF hS
  refine Zw rfl (cZ (kW aGp.cB aQr) rfl (fun _ _=>rfl)) ?_
  obtain ⟨b53,hS⟩:=bQ hS
  obtain ⟨aGT,aQt,hS⟩:=gY hS
  refine Zw rfl (fC rfl rfl b53 aQt) ?_
  obtain ⟨b54,hS⟩:=bQ hS
  obtain ⟨Z6,aQx,hS⟩:=gY hS
  refine Zw rfl (fC rfl rfl b54 aQx) ?_
  refine Zw rfl (iG rfl) ?_
  refine VD.to (fun _ _ h=>h) ?_
  refine VC.keep (ρ':=[(1,ptr cM 0),(3,ptr eZ 0),(4,str Z6),(5,i64 OG)]) [1,3,4,5] rfl ?_
  refine Zr ?_
  refine Zm ?_
  obtain ⟨b35,hS⟩:=bQ hS
  refine Zu (dZ rfl rfl b35) ?_
  refine Za ?_
  refine VL.kE (Z6,(OG+1)) [1,3,4,5] (fun _ _ h=>h) (go2 hS hK1) rfl
 replace hS:=fF hS hK1
 refine Zx ?_
 refine VC.j0 (S:=bN) (fun (MY:bN)=>MY) (fun (MY:bN)=>[(1,ptr cM 0),(3,ptr eZ 0),(4,str MY)]) (fun (MY:bN)=>Mo.tt) (fun (MY:bN)=>Ow.star (bT eZ [aD.iV.val,aD.iM.val,aD.fX.val,str aD.eA,i64 aD.eB,str aD.gL,i64 aD.gO,str aD.iJ,aD.fQ.val,aD.gM.val,i64 aD.iI,str aD.fZ,str aD.eG,i64 aD.eH,aD.fR.val,aD.gN.val,aD.iR.val] 82) (Ow.star (bT cM (eF aD) 86) (Ow.emp))) hS ?_ ?_
 ·
  clear hS
  intro k20 hS
  refine Zq (Zr ?_)
  refine Zu (aB aH9 rfl) ?_
  refine Zu (aB aH8 rfl) ?_
  refine Zu (aI cD rfl rfl) ?_
  refine Zu (BX rfl rfl) ?_
  refine Zl ?_
  refine VC.keep (ρ':=[(1,ptr cM 0),(3,ptr eZ 0),(4,str ZF),(58,.bool (!decide (aD.gL=[])))]) [1,3,4,58] rfl ?_
  refine uH hS (fun h58 hS => ?_) (fun h58 hS => ?_)
  ·
   refine Zr ?_
   refine Zm ?_
   obtain ⟨b60,hS⟩:=bQ hS
   obtain ⟨aGX,aRE,hS⟩:=gY hS
   refine Zu (fC rfl rfl b60 aRE) ?_
   refine Zu (aB aH9 rfl) ?_
   refine Zu (aB aH8 rfl) ?_
   refine Zu (aI cD rfl rfl) ?_
   obtain ⟨b64,hS⟩:=bQ hS
   obtain ⟨aGZ,aRH,hS⟩:=gY hS
   refine Zu (fC rfl rfl b64 aRH) ?_
   obtain ⟨b65,hS⟩:=bQ hS
   obtain ⟨aG1,aRK,hS⟩:=gY hS
   refine Zu (fC rfl rfl b65 aRK) ?_
   refine Za ?_
   refine VL.mt aG1 [1,3,4] (fun _ _ h=>h) hS rfl
  refine VC.qL ZF [1,3,4] (fun _ _ h=>h) hS rfl
 clear hS
 rintro MY hS
 refine Zq (Zq (Zr ?_))
 refine Zy ?_
 refine Zb ?_
 refine VC.iter (S:=bN×Int) (fun sg=>(sg.1,sg.2)) (fun sg=>[(1,ptr cM 0),(3,ptr eZ 0),(4,str sg.1),(6,i64 sg.2)]) (fun sg=>Mo.tt) (fun sg=>Ow.star (bT eZ [aD.iV.val,aD.iM.val,aD.fX.val,str aD.eA,i64 aD.eB,str aD.gL,i64 aD.gO,str aD.iJ,aD.fQ.val,aD.gM.val,i64 aD.iI,str aD.fZ,str aD.eG,i64 aD.eH,aD.fR.val,aD.gN.val,aD.iR.val] 82) (Ow.star (bT cM (eF aD) 86) (Ow.emp))) (MY,0) [1,3,4,6] hS rfl ?_
 clear hS
 rintro ⟨aBw,MH⟩ m1 y1 hS hK1
 refine Zq (Zq (Zr ?_))
 refine Zm ?_
 refine Zu (aB OB rfl) ?_
 refine Zu (aI FV rfl rfl) ?_
 refine Zu (fH (s:=aD.iV) Tryz.underlying73 rfl) ?_
 refine Zu (dA rfl rfl) ?_
 refine Zl ?_
 refine Zc hS (fun h70 hS => ?_) (fun h70 hS => ?_)
 ·
  refine Zk ?_
  refine Zq (Zb ?_)
  refine VC.draw ((List.range 30).map fun k=>(k,true)) mixed (by kernel_rfl) (by kernel_rfl) (by kernel_rfl) ?_
  refine Zw rfl (bI rfl) ?_
  obtain ⟨b74,hS⟩:=bQ hS
  obtain ⟨aG5,aRR,hS⟩:=gY hS
  refine Zw rfl (fC rfl rfl b74 aRR) ?_
  refine Zw rfl (aB OB rfl) ?_
  refine Zw rfl (aI FV rfl rfl) ?_
  refine Zw rfl (bI rfl) ?_
  obtain ⟨aGx,aIp,aIE,hS⟩:=eW hS
  refine Zw rfl (dH (s:=aD.iV) Tryz.underlying73 IQ rfl rfl aIp (bC aIp aIE)) ?_
  refine Zw rfl (aB GK rfl) ?_
  refine Zw rfl (jK (s:=aD.iV) cD rfl aIE rfl) ?_
  obtain ⟨b81,hS⟩:=bQ hS
  obtain ⟨aG7,aRW,hS⟩:=gY hS
  refine Zw rfl (fC rfl rfl b81 aRW) ?_
  obtain ⟨b82,hS⟩:=bQ hS
  obtain ⟨aG8,aRX,hS⟩:=gY hS
  refine Zw rfl (fC rfl rfl b82 aRX) ?_
  refine Zw rfl (aB OB rfl) ?_
  refine Zw rfl (aI FV rfl rfl) ?_
  refine Zw rfl (bI rfl) ?_
  obtain ⟨aGy,aIs,aIF,hS⟩:=eW hS
  refine Zw rfl (dH (s:=aD.iV) Tryz.underlying73 IQ rfl rfl aIs (bC aIs aIF)) ?_
  refine Zw rfl (aB aD9 rfl) ?_
  refine Zw rfl (jK (s:=aD.iV) cN rfl aIF rfl) ?_
  obtain ⟨aGb,aR2,hS⟩:=bF hS
  refine Zw rfl (cZ (kW aGy.mode aR2) rfl (fun _ _=>rfl)) ?_
  obtain ⟨b90,hS⟩:=bQ hS
  obtain ⟨aGd,aR4,hS⟩:=gY hS
  refine Zw rfl (fC rfl rfl b90 aR4) ?_
  obtain ⟨b91,hS⟩:=bQ hS
  obtain ⟨aGe,aR6,hS⟩:=gY hS
  refine Zw rfl (fC rfl rfl b91 aR6) ?_
  refine Zw rfl (aB OB rfl) ?_
  refine Zw rfl (aI FV rfl rfl) ?_
  refine Zw rfl (bI rfl) ?_
  obtain ⟨aGz,aIv,aIH,hS⟩:=eW hS
  refine Zw rfl (dH (s:=aD.iV) Tryz.underlying73 IQ rfl rfl aIv (bC aIv aIH)) ?_
  refine Zw rfl (aB aDa rfl) ?_
  refine Zw rfl (jK (s:=aD.iV) cD rfl aIH rfl) ?_
  refine Zw rfl (iH Tryz.underlying9 rfl) ?_
  obtain ⟨aGg,aR8,hS⟩:=bF hS
  refine Zw rfl (cZ (kW (aGz.data.length:Int) aR8) rfl (fun _ _=>rfl)) ?_
  obtain ⟨b100,hS⟩:=bQ hS
  obtain ⟨aCI,aNk,hS⟩:=gY hS
  refine Zw rfl (fC rfl rfl b100 aNk) ?_
  obtain ⟨b101,hS⟩:=bQ hS
  obtain ⟨WN,aNl,hS⟩:=gY hS
  refine Zw rfl (fC rfl rfl b101 aNl) ?_
  refine Zw rfl (iG rfl) ?_
  refine VD.to (fun _ _ h=>h) ?_
  refine VC.keep (ρ':=[(1,ptr cM 0),(3,ptr eZ 0),(4,str WN),(6,i64 MH)]) [1,3,4,6] rfl ?_
  refine Zr ?_
  refine Zm ?_
  obtain ⟨b72,hS⟩:=bQ hS
  refine Zu (dZ rfl rfl b72) ?_
  refine Za ?_
  refine VL.kE (WN,(MH+1)) [1,3,4,6] (fun _ _ h=>h) (go2 hS hK1) rfl
 replace hS:=fF hS hK1
 refine Zx ?_
 refine Zq (Zq (Zr ?_))
 refine Zy ?_
 refine Zb ?_
 refine VC.iter (S:=bN×Int) (fun sg=>(sg.1,sg.2)) (fun sg=>[(1,ptr cM 0),(3,ptr eZ 0),(4,str sg.1),(7,i64 sg.2)]) (fun sg=>Mo.tt) (fun sg=>Ow.star (bT eZ [aD.iV.val,aD.iM.val,aD.fX.val,str aD.eA,i64 aD.eB,str aD.gL,i64 aD.gO,str aD.iJ,aD.fQ.val,aD.gM.val,i64 aD.iI,str aD.fZ,str aD.eG,i64 aD.eH,aD.fR.val,aD.gN.val,aD.iR.val] 82) (Ow.star (bT cM (eF aD) 86) (Ow.emp))) (aBw,0) [1,3,4,7] hS rfl ?_
 clear hS
 rintro ⟨YN,OH⟩ m1 y1 hS hK1
 refine Zq (Zq (Zr ?_))
 refine Zm ?_
 refine Zu (aB aAk rfl) ?_
 refine Zu (aI aEz rfl rfl) ?_
 refine Zu (fH (s:=aD.iM) Tryz.underlying74 rfl) ?_
 refine Zu (dA rfl rfl) ?_
 refine Zl ?_
 refine Zc hS (fun h106 hS => ?_) (fun h106 hS => ?_)
 ·
  refine Zk ?_
  refine Zq (Zb (Zq (Zr ?_)))
  refine Zu (aB aAk rfl) ?_
  refine Zu (aI aEz rfl rfl) ?_
  refine Zm ?_
  obtain ⟨n9,aEA,aDq,hS⟩:=eW hS
  refine Zu (dH (s:=aD.iM) Tryz.underlying74 DX rfl rfl aEA (bC aEA aDq)) ?_
  refine Zu (jL (s:=aD.iM) aH4 rfl rfl aDq) ?_
  refine VL.alloc (cs:=[str [],i64 0,i64 0,str [],i64 0,i64 0]) (by kernel_rfl) (by decide) fun aZZ => ?_
  refine Zv (vc:=[str n9.path,i64 n9.dJ,i64 n9.mode,str n9.data,i64 n9.time,i64 n9.size]) (cs':=[str n9.path,i64 n9.dJ,i64 n9.mode,str n9.data,i64 n9.time,i64 n9.size]) rfl DX ?_
  refine Zl ?_
  refine VC.keep (ρ':=[(1,ptr cM 0),(3,ptr eZ 0),(4,str YN),(7,i64 OH),(8,ptr aZZ 0)]) [1,3,4,7,8] rfl ?_
  refine VC.draw ((List.range 23).map fun k=>(k,true)) mixed (by kernel_rfl) (by kernel_rfl) (by kernel_rfl) ?_
  refine Zw rfl (bI rfl) ?_
  obtain ⟨b115,hS⟩:=bQ hS
  obtain ⟨aCJ,aNm,hS⟩:=gY hS
  refine Zw rfl (fC rfl rfl b115 aNm) ?_
  refine Zw rfl (aB wK rfl) ?_
  refine Zw rfl (aI cD rfl rfl) ?_
  obtain ⟨b118,hS⟩:=bQ hS
  obtain ⟨aCK,aNn,hS⟩:=gY hS
  refine Zw rfl (fC rfl rfl b118 aNn) ?_
  obtain ⟨b119,hS⟩:=bQ hS
  obtain ⟨aCM,aNp,hS⟩:=gY hS
  refine Zw rfl (fC rfl rfl b119 aNp) ?_
  refine Zw rfl (aB C5 rfl) ?_
  refine Zw rfl (aI cN rfl rfl) ?_
  obtain ⟨aCN,aNq,hS⟩:=bF hS
  refine Zw rfl (cZ (kW n9.dJ aNq) rfl (fun _ _=>rfl)) ?_
  obtain ⟨b123,hS⟩:=bQ hS
  obtain ⟨aCP,aNs,hS⟩:=gY hS
  refine Zw rfl (fC rfl rfl b123 aNs) ?_
  obtain ⟨b124,hS⟩:=bQ hS
  obtain ⟨aCQ,aNt,hS⟩:=gY hS
  refine Zw rfl (fC rfl rfl b124 aNt) ?_
  refine Zw rfl (aB aDe rfl) ?_
  refine Zw rfl (aI cN rfl rfl) ?_
  obtain ⟨aCR,aNu,hS⟩:=bF hS
  refine Zw rfl (cZ (kW n9.mode aNu) rfl (fun _ _=>rfl)) ?_
  obtain ⟨b128,hS⟩:=bQ hS
  obtain ⟨aCS,aNv,hS⟩:=gY hS
  refine Zw rfl (fC rfl rfl b128 aNv) ?_
  obtain ⟨b129,hS⟩:=bQ hS
  obtain ⟨aCT,aNw,hS⟩:=gY hS
  refine Zw rfl (fC rfl rfl b129 aNw) ?_
  refine Zw rfl (aB aDf rfl) ?_
  refine Zw rfl (aI cD rfl rfl) ?_
  refine Zw rfl (iH Tryz.underlying9 rfl) ?_
  obtain ⟨aCU,aNx,hS⟩:=bF hS
  refine Zw rfl (cZ (kW (n9.data.length:Int) aNx) rfl (fun _ _=>rfl)) ?_
  obtain ⟨b134,hS⟩:=bQ hS
  obtain ⟨aCV,aNy,hS⟩:=gY hS
  refine Zw rfl (fC rfl rfl b134 aNy) ?_
  obtain ⟨b135,hS⟩:=bQ hS
  obtain ⟨WO,aNz,hS⟩:=gY hS
  refine Zw rfl (fC rfl rfl b135 aNz) ?_
  refine Zw rfl (iG rfl) ?_
  refine VD.to (fun _ _ h=>h) ?_
  refine VC.keep (ρ':=[(1,ptr cM 0),(3,ptr eZ 0),(4,str WO),(7,i64 OH)]) [1,3,4,7] rfl ?_
  refine Zr ?_
  refine Zm ?_
  obtain ⟨b108,hS⟩:=bQ hS
  refine Zu (dZ rfl rfl b108) ?_
  refine Za ?_
  refine VL.kE (WO,(OH+1)) [1,3,4,7] (fun _ _ h=>h) (go2 hS hK1) rfl
 replace hS:=fF hS hK1
 refine Zx ?_
 refine Zq (Zq (Zr ?_))
 refine Zy ?_
 refine Zb ?_
 refine VC.iter (S:=bN×Int) (fun sg=>(sg.1,sg.2)) (fun sg=>[(1,ptr cM 0),(3,ptr eZ 0),(4,str sg.1),(9,i64 sg.2)]) (fun sg=>Mo.tt) (fun sg=>Ow.star (bT eZ [aD.iV.val,aD.iM.val,aD.fX.val,str aD.eA,i64 aD.eB,str aD.gL,i64 aD.gO,str aD.iJ,aD.fQ.val,aD.gM.val,i64 aD.iI,str aD.fZ,str aD.eG,i64 aD.eH,aD.fR.val,aD.gN.val,aD.iR.val] 82) (Ow.star (bT cM (eF aD) 86) (Ow.emp))) (YN,0) [1,3,4,9] hS rfl ?_
 clear hS
 rintro ⟨YO,G5⟩ m1 y1 hS hK1
 refine Zq (Zq (Zr ?_))
 refine Zm ?_
 refine Zu (aB pW rfl) ?_
 refine Zu (aI uK rfl rfl) ?_
 refine Zu (iT dG.pl (s:=aD.aK) Tryz.underlying83 rfl) ?_
 refine Zu (dA rfl rfl) ?_
 refine Zl ?_
 refine Zc hS (fun h140 hS => ?_) (fun h140 hS => ?_)
 ·
  refine Zk ?_
  refine Zq (Zb (Zq (Zr ?_)))
  refine Zu (aB pW rfl) ?_
  refine Zu (aI uK rfl rfl) ?_
  refine Zm ?_
  obtain ⟨qO,aEE,XQ,hS⟩:=kQ hS
  refine VL.deep qO.m XQ (fun _ q=>q) ?_
  refine Zu (dH (s:=aD.aK) Tryz.underlying83 UD rfl rfl aEE (bC aEE XQ)) ?_
  refine Zu (jL (s:=aD.aK) aH3 rfl rfl XQ) ?_
  refine VL.alloc (cs:=[.slice none 0 0,.slice none 0 0,i64 0,str []]) (by kernel_rfl) (by decide) fun aVN => ?_
  refine Zv (vc:=[qO.tree.val,qO.parents.val,i64 qO.time,str qO.text]) (cs':=[qO.tree.val,qO.parents.val,i64 qO.time,str qO.text]) rfl UD ?_
  refine Zl ?_
  refine VC.keep (ρ':=[(1,ptr cM 0),(3,ptr eZ 0),(4,str YO),(9,i64 G5),(10,ptr aVN 0)]) [1,3,4,9,10] rfl ?_
  refine VC.draw ((List.range 23).map fun k=>(k,true)) mixed (by kernel_rfl) (by kernel_rfl) (by kernel_rfl) ?_
  refine Zw rfl (bI rfl) ?_
  obtain ⟨b149,hS⟩:=bQ hS
  obtain ⟨aCY,aOD,hS⟩:=gY hS
  refine Zw rfl (fC rfl rfl b149 aOD) ?_
  refine Zw rfl (bI rfl) ?_
  obtain ⟨b151,hS⟩:=bQ hS
  refine Zw rfl (dZ rfl rfl b151) ?_
  obtain ⟨aC0,aOF,hS⟩:=bF hS
  refine Zw rfl (cZ (kW (G5+1) aOF) rfl (fun _ _=>rfl)) ?_
  obtain ⟨b153,hS⟩:=bQ hS
  obtain ⟨aC2,aOH,hS⟩:=gY hS
  refine Zw rfl (fC rfl rfl b153 aOH) ?_
  obtain ⟨b154,hS⟩:=bQ hS
  obtain ⟨aC3,aOI,hS⟩:=gY hS
  refine Zw rfl (fC rfl rfl b154 aOI) ?_
  refine Zw rfl (aB aD7 rfl) ?_
  refine Zw rfl (aI tF rfl rfl) ?_
  obtain ⟨aC4,aOK,hS⟩:=bF hS
  refine Zw rfl (cZ (ZN qO.parents aOK) rfl (fun _ _=>rfl)) ?_
  obtain ⟨b158,hS⟩:=bQ hS
  obtain ⟨aC5,aOL,hS⟩:=gY hS
  refine Zw rfl (fC rfl rfl b158 aOL) ?_
  obtain ⟨b159,hS⟩:=bQ hS
  obtain ⟨aC6,aOM,hS⟩:=gY hS
  refine Zw rfl (fC rfl rfl b159 aOM) ?_
  refine Zw rfl (aB aD6 rfl) ?_
  refine Zw rfl (aI FV rfl rfl) ?_
  refine Zw rfl (fH (s:=qO.tree) Tryz.underlying73 rfl) ?_
  obtain ⟨aC9,aOO,hS⟩:=bF hS
  refine Zw rfl (cZ (kW (qO.tree.l.length:Int) aOO) rfl (fun _ _=>rfl)) ?_
  obtain ⟨b164,hS⟩:=bQ hS
  obtain ⟨aCa,aOP,hS⟩:=gY hS
  refine Zw rfl (fC rfl rfl b164 aOP) ?_
  obtain ⟨b165,hS⟩:=bQ hS
  obtain ⟨aCb,aOQ,hS⟩:=gY hS
  refine Zw rfl (fC rfl rfl b165 aOQ) ?_
  refine Zw rfl (aB aD8 rfl) ?_
  refine Zw rfl (aI cD rfl rfl) ?_
  obtain ⟨b168,hS⟩:=bQ hS
  obtain ⟨aCc,aOS,hS⟩:=gY hS
  refine Zw rfl (fC rfl rfl b168 aOS) ?_
  obtain ⟨b169,hS⟩:=bQ hS
  obtain ⟨WS,aOT,hS⟩:=gY hS
  refine Zw rfl (fC rfl rfl b169 aOT) ?_
  refine Zw rfl (iG rfl) ?_
  refine VD.to (fun _ _ h=>h) ?_
  refine VC.keep (ρ':=[(1,ptr cM 0),(3,ptr eZ 0),(4,str WS),(9,i64 G5)]) [1,3,4,9] rfl ?_
  refine Zr ?_
  refine Zm ?_
  obtain ⟨b142,hS⟩:=bQ hS
  refine Zu (dZ rfl rfl b142) ?_
  refine Za ?_
  refine VL.kE (WS,(G5+1)) [1,3,4,9] (fun _ _ h=>h) (go2 hS hK1) rfl
 replace hS:=fF hS hK1
 refine Zx ?_
 refine Zq (Zq (Zr ?_))
 refine Zy ?_
 refine Zb ?_
 refine VC.iter (S:=bN×Int) (fun sg=>(sg.1,sg.2)) (fun sg=>[(1,ptr cM 0),(3,ptr eZ 0),(4,str sg.1),(11,i64 sg.2)]) (fun sg=>Mo.tt) (fun sg=>Ow.star (bT eZ [aD.iV.val,aD.iM.val,aD.fX.val,str aD.eA,i64 aD.eB,str aD.gL,i64 aD.gO,str aD.iJ,aD.fQ.val,aD.gM.val,i64 aD.iI,str aD.fZ,str aD.eG,i64 aD.eH,aD.fR.val,aD.gN.val,aD.iR.val] 82) (Ow.star (bT cM (eF aD) 86) (Ow.emp))) (YO,0) [1,3,4,11] hS rfl ?_
 clear hS
 rintro ⟨aBx,IV⟩ m1 y1 hS hK1
 refine Zq (Zq (Zr ?_))
 refine Zm ?_
 refine Zu (aB aAl rfl) ?_
 refine Zu (aI aFA rfl rfl) ?_
 refine Zu (iT fS.pl (s:=aD.iR) Tryz.underlying80 rfl) ?_
 refine Zu (dA rfl rfl) ?_
 refine Zl ?_
 refine Zc hS (fun h174 hS => ?_) (fun h174 hS => ?_)
 ·
  refine Zk ?_
  refine Zq (Zb (Zr ?_))
  refine Zm ?_
  obtain ⟨b178,hS⟩:=bQ hS
  obtain ⟨aCf,aOW,hS⟩:=gY hS
  refine Zu (fC rfl rfl b178 aOW) ?_
  refine Zm ?_
  obtain ⟨aCh,aOY,hS⟩:=bF hS
  refine Zu (cZ (kW IV aOY) rfl (fun _ _=>rfl)) ?_
  obtain ⟨b181,hS⟩:=bQ hS
  obtain ⟨aCi,aOZ,hS⟩:=gY hS
  refine Zu (fC rfl rfl b181 aOZ) ?_
  obtain ⟨b182,hS⟩:=bQ hS
  obtain ⟨WT,aO0,hS⟩:=gY hS
  refine Zu (fC rfl rfl b182 aO0) ?_
  refine Zy ?_
  refine VC.keep (ρ':=[(1,ptr cM 0),(3,ptr eZ 0),(4,str WT),(11,i64 IV)]) [1,3,4,11] rfl ?_
  refine Zr ?_
  refine Zm ?_
  obtain ⟨b176,hS⟩:=bQ hS
  refine Zu (dZ rfl rfl b176) ?_
  refine Za ?_
  refine VL.kE (WT,(IV+1)) [1,3,4,11] (fun _ _ h=>h) (go2 hS hK1) rfl
 replace hS:=fF hS hK1
 refine Zx ?_
 refine Zq ?_
 refine VC.draw ((List.range 15).map fun k=>(k,true)) mixed (by kernel_rfl) (by kernel_rfl) (by kernel_rfl) ?_
 refine Zw rfl (bI rfl) ?_
 obtain ⟨b184,hS⟩:=bQ hS
 obtain ⟨aCj,aO1,hS⟩:=gY hS
 refine Zw rfl (fC rfl rfl b184 aO1) ?_
 refine Zw rfl (aB aAm rfl) ?_
 refine Zw rfl (aI aL6 rfl rfl) ?_
 refine Zw rfl (iT fU.pl (s:=aD.back) Tryz.underlying84 rfl) ?_
 obtain ⟨aCl,aO3,hS⟩:=bF hS
 refine Zw rfl (cZ (kW ((aD.back.l.map fU.pl).length:Int) aO3) rfl (fun _ _=>rfl)) ?_
 obtain ⟨b189,hS⟩:=bQ hS
 obtain ⟨aCm,aO4,hS⟩:=gY hS
 refine Zw rfl (fC rfl rfl b189 aO4) ?_
 obtain ⟨b190,hS⟩:=bQ hS
 obtain ⟨aCo,aO5,hS⟩:=gY hS
 refine Zw rfl (fC rfl rfl b190 aO5) ?_
 refine Zw rfl (aB aAn rfl) ?_
 refine Zw rfl (aI aL6 rfl rfl) ?_
 refine Zw rfl (iT fU.pl (s:=aD.hO) Tryz.underlying84 rfl) ?_
 obtain ⟨aCq,aO7,hS⟩:=bF hS
 refine Zw rfl (cZ (kW ((aD.hO.l.map fU.pl).length:Int) aO7) rfl (fun _ _=>rfl)) ?_
 obtain ⟨b195,hS⟩:=bQ hS
 obtain ⟨aCr,aO8,hS⟩:=gY hS
 refine Zw rfl (fC rfl rfl b195 aO8) ?_
 obtain ⟨b196,hS⟩:=bQ hS
 obtain ⟨aCs,aO9,hS⟩:=gY hS
 refine Zw rfl (fC rfl rfl b196 aO9) ?_
 refine Zw rfl (iG rfl) ?_
 refine VD.to (fun _ _ h=>h) ?_
 refine VC.keep (ρ':=[(2,str aCs)]) [2] rfl ?_
 cases hS
 exact Ze
theorem RK (bO:iY) {r:Bool} (hS:Sh.yR bO.pl=some r) :
 Ct Tryz.prog 10 [.agg (jO bO).toArray] (bO.cJ.ok.and (bO.bV.ok.and (bO.bB.ok.and (bO.bW.ok.and (bO.cG.ok.and (bO.bX.ok.and (bO.cH.ok.and (bO.bL.ok.and (bO.aK.ok.and (bO.back.ok.and (bO.hO.ok.and Gl))))))))))) (Ow.emp) (X:=Unit) (fun _ => .bool r) (fun _=>True) (fun _=>Mo.tt) (fun _=>Ow.emp):=by
 refine Zo Tryz.func10 Tryz.ntmps10 fun c => ?_
 unfold Sh.yR at hS
 refine Zq (Zr ?_)
 refine VL.box (cs:=(jO bO)) rfl rfl (by decide) fun cM => ?_
 refine Zy ?_
 refine Zq (Zq (Zr ?_))
 obtain ⟨LD,aAc,hS⟩:=bF hS
 refine Zu (cZ (aDN aAc) rfl (fun _ _=>rfl)) ?_
 refine Zu (oS rfl) ?_
 refine Zl ?_
 refine mT hS (fun h7 hS => ?_) (fun h7 hS => ?_)
 ·
  refine Zq (Zr ?_)
  refine Zy ?_
  cases hS
  exact Ze
 refine Zk ?_
 refine Zq (Zq (Zr ?_))
 refine Zu (gZ aL0 rfl rfl) ?_
 obtain ⟨yI,MA,hS⟩:=bF hS
 refine Zu (cZ (aIJ bO MA) rfl (fun _ _=>rfl)) ?_
 refine Zu (oS rfl) ?_
 refine Zl ?_
 refine mT hS (fun h10 hS => ?_) (fun h10 hS => ?_)
 ·
  refine Zq (Zr ?_)
  refine Zy ?_
  cases hS
  exact Ze
 refine Zk ?_
 refine Zq (Zr ?_)
 refine Zu (gZ aL0 rfl rfl) ?_
 obtain ⟨FD,TS,hS⟩:=bF hS
 refine VL.gI (aKA bO TS) rfl (by decide) ?_
 rintro qI rfl
 try dsimp only
 refine VL.alloc (cs:=[.slice none 0 0,.slice none 0 0,.slice none 0 0,str [],i64 0,str [],i64 0,str [],.slice none 0 0,.slice none 0 0,i64 0,str [],str [],i64 0,.slice none 0 0,.slice none 0 0,.slice none 0 0,.slice none 0 0,.slice none 0 0,.slice none 0 0,i64 0]) (by kernel_rfl) (by decide) fun aLP => ?_
 refine Zv (vc:=(cC qI)) (cs':=(cC qI)) rfl G4 ?_
 refine Zl ?_
 refine VC.keep (ρ':=[(3,ptr aLP 0)]) [3] rfl ?_
 refine Zq (Zr ?_)
 refine Zu (gZ jS rfl rfl) ?_
 obtain ⟨YT,aV9,hS⟩:=bF hS
 refine VL.gI (aJz qI aV9) rfl (by decide) ?_
 rintro ⟨OU,a1S⟩ rfl
 try dsimp only
 refine Zm ?_
 refine Zu (gB rfl rfl) ?_
 refine Zu (gB rfl rfl) ?_
 refine VL.alloc (cs:=[.slice none 0 0,.slice none 0 0,.slice none 0 0,str [],i64 0,str [],i64 0,str [],.slice none 0 0,.slice none 0 0,i64 0,str [],str [],i64 0,.slice none 0 0,.slice none 0 0,.slice none 0 0,.slice none 0 0,.slice none 0 0,.slice none 0 0,i64 0]) (by kernel_rfl) (by decide) fun a1g => ?_
 refine Zv (vc:=(eF OU)) (cs':=(eF OU)) rfl SO ?_
 refine Zy ?_
 refine Zq ?_
 refine VC.draw [(0,true),(1,true),(2,true),(4,true),(3,false),(5,false),(6,true),(7,true),(8,true),(9,true),(10,true),(11,true),(12,true),(13,true),(14,true),(15,true)] mixed (by kernel_rfl) (by kernel_rfl) (by kernel_rfl) ?_
 refine Zw rfl (bI rfl) ?_
 refine Zw rfl (bI rfl) ?_
 refine VD.split 19 rfl (fun h19 => ?_) (fun h19 => ?_)
 ·
  replace hS:=wW h19 hS
  refine Zi rfl (gZ jS rfl rfl) ?_
  refine Zi rfl (gZ DV rfl rfl) ?_
  refine VD.aZD rfl rfl rfl ?_
  refine VL.guard rfl rfl ?_
  obtain ⟨JY,T0,hS⟩:=bF hS
  refine VL.gI (NO qI T0) rfl (by decide) ?_
  rintro aTa rfl
  try dsimp only
  refine VL.back (D':=[(4,.agg (eF OU).toArray)]) (by kernel_rfl) (aF.aZ4 rfl rfl rfl (gZ DV rfl rfl) (aF.nil)) ?_
  refine VD.aZD rfl rfl rfl ?_
  refine VL.guard rfl rfl ?_
  obtain ⟨M7,L7,hS⟩:=bF hS
  refine VL.gI (aDP OU L7) rfl (by decide) ?_
  rintro lZ rfl
  try dsimp only
  refine VL.back (D':=[]) (by kernel_rfl) (aF.nil) ?_
  obtain ⟨JA,N2,hS⟩:=bF hS
  refine Zi rfl (cZ (aFZ aTa lZ N2) rfl (fun _ _=>rfl)) ?_
  refine Zw rfl (fB rfl rfl) ?_
  refine Zw rfl (bI rfl) ?_
  refine VD.split 26 rfl (fun h26 => ?_) (fun h26 => ?_)
  ·
   replace hS:=wW h26 hS
   refine Zi rfl (gZ jS rfl rfl) ?_
   obtain ⟨RA,aA1,hS⟩:=bF hS
   refine Zi rfl (cZ (O9 qI aA1) rfl (fun _ _=>rfl)) ?_
   refine Zi rfl (gZ DV rfl rfl) ?_
   obtain ⟨aGF,aQ1,hS⟩:=bF hS
   refine Zi rfl (cZ (aFX OU aQ1) rfl (fun _ _=>rfl)) ?_
   refine Zi rfl (sM rfl rfl) ?_
   refine Zw rfl (fB rfl rfl) ?_
   refine Zw rfl (iG rfl) ?_
   refine VD.to (fun _ _ h=>h) ?_
   refine VC.keep (ρ':=[(2,.bool (decide (RA=aGF)))]) [2] rfl ?_
   cases hS
   exact Ze
  replace hS:=aSl h26 hS
  refine Zd ?_
  refine Zd ?_
  refine Zd ?_
  refine Zd ?_
  refine Zd ?_
  refine Zw rfl (fE rfl rfl) ?_
  refine Zw rfl (iG rfl) ?_
  refine VD.to (fun _ _ h=>h) ?_
  refine VC.keep (ρ':=[(2,.bool false)]) [2] rfl ?_
  cases hS
  exact Ze
 replace hS:=aSl h19 hS
 refine Zd ?_
 refine Zd ?_
 refine VD.aZE (D':=[(4,undef)]) rfl rfl rfl (by decide) (by decide) (by kernel_rfl) (aF.aZ5 rfl rfl rfl rfl (aF.nil)) ?_
 refine VD.aZE (D':=[]) rfl rfl rfl (by decide) (by decide) (by kernel_rfl) (aF.nil) ?_
 refine Zd ?_
 refine Zw rfl (fE rfl rfl) ?_
 refine Zw rfl (bI rfl) ?_
 refine Zd ?_
 refine Zd ?_
 refine Zd ?_
 refine Zd ?_
 refine Zd ?_
 refine Zw rfl (fE rfl rfl) ?_
 refine Zw rfl (iG rfl) ?_
 refine VD.to (fun _ _ h=>h) ?_
 refine VC.keep (ρ':=[(2,.bool false)]) [2] rfl ?_
 cases hS
 exact Ze
end Go.Proofs.YthbccdlpalenlaaGreatDoor
end

section
namespace Go.S
theorem oI {α:Type} {l:List α} {i:Int} (h0:0≤i) (h:i < l.length) : ∃ z,l[i.toNat]? = some z:=⟨_,List.getElem?_eq_getElem (by omega)⟩
theorem xJ {α:Type} {l:List α} {i:Int} {z:α} (h0:0≤i) (h:l[i.toNat]? = some z):l.take (i+1).toNat=l.take i.toNat++[z]:=by
 rw [show (i+1).toNat=i.toNat+1 by omega,List.take_add_one,h]; rfl
theorem eU {α:Type} {l:List α} {i:Int} {z:α} (h0:0≤i) (h:l[i.toNat]? = some z):at_ l i=some z:=by
 unfold at_; rw [if_pos h0,h]
theorem rM {α β:Type} (f:α→β) {l:List α} {i:Nat} {z:α} (h:l[i]? = some z):(l.map f)[i]? = some (f z):=by rw [List.getElem?_map,h]; rfl
def Nx {T R:Type} (t:T) (y:T⊕R):Prop:=y = .inl t
def Up {T R:Type} (Q:R→Prop) (y:T⊕R):Prop := ∃ r,y = .inr r∧Q r
theorem XZ {T R:Type} {t t':T} (h:t'=t):Ok (go t':Option (T⊕R)) (Nx t):=⟨_,rfl,by rw [h]; rfl⟩
theorem oR {T R:Type} {c:Prop} [Decidable c] {t t':T} (hc:c) (h:t'=t):Ok (gd c (go t':Option (T⊕R))) (Nx t):=cQ.2 ⟨hc,XZ h⟩
theorem jC {T R:Type} {o:Option R} {Q:R→Prop} (h:Ok o Q):Ok (up o:Option (T⊕R)) (Up Q):=gA.2 (h.mono fun r hr=>⟨r,rfl,hr⟩)
theorem aHb {α τ R:Type} {Q:R→Prop} (l:List α) (f:τ→α→τ) (t0:τ) (B:τ×Int→Option ((τ×Int)⊕R))
 (hB : ∀ (i:Int) z,0≤i→i < l.length→l[i.toNat]? = some z → ∀ s,s=(l.take i.toNat).foldl f t0→Ok (B (s,i)) (Nx (f s z,i+1)))
 (hE : ∀ s,s=l.foldl f t0→Ok (B (s,(l.length:Int))) (Up Q)):Ok (iter B (t0,0)) Q:=by
 refine iN (I:=fun t=>0≤t.2∧t.2≤l.length∧t.1=(l.take t.2.toNat).foldl f t0) (μ:=fun t=>(l.length - t.2).toNat) ?_ ⟨by dsimp only; omega,by dsimp only; omega,by simp⟩
 rintro ⟨t,i⟩ ⟨i0,i1,i2⟩
 dsimp only at i0 i1 i2 ⊢
 by_cases hi:i < l.length
 ·
  obtain ⟨z,hz⟩:=oI i0 hi
  refine (hB i z i0 hi hz t i2).mono ?_
  rintro y hy
  cases hy
  refine ⟨⟨by dsimp only; omega,by dsimp only; omega,?_⟩,by dsimp only; omega⟩
  show _=(l.take (i+1).toNat).foldl f t0
  rw [xJ i0 hz,List.foldl_append,i2]; rfl
 have e:i=l.length:=by omega
 subst e
 rw [List.take_of_length_le (by omega)] at i2
 refine (hE t i2).mono ?_
 rintro y ⟨r,rfl,hr⟩
 exact hr
theorem aDj {α τ R:Type} {Q:R→Prop} (l:List α) (f:τ→α→τ) (t0:τ) (B:Int×τ→Option ((Int×τ)⊕R))
 (hB : ∀ (i:Int) z,0≤i→i < l.length→l[i.toNat]? = some z → ∀ s,s=(l.take i.toNat).foldl f t0→Ok (B (i,s)) (Nx (i+1,f s z)))
 (hE : ∀ s,s=l.foldl f t0→Ok (B ((l.length:Int),s)) (Up Q)):Ok (iter B (0,t0)) Q:=by
 refine iN (I:=fun t=>0≤t.1∧t.1≤l.length∧t.2=(l.take t.1.toNat).foldl f t0) (μ:=fun t=>(l.length - t.1).toNat) ?_ ⟨by dsimp only; omega,by dsimp only; omega,by simp⟩
 rintro ⟨i,t⟩ ⟨i0,i1,i2⟩
 dsimp only at i0 i1 i2 ⊢
 by_cases hi:i < l.length
 ·
  obtain ⟨z,hz⟩:=oI i0 hi
  refine (hB i z i0 hi hz t i2).mono ?_
  rintro y hy
  cases hy
  refine ⟨⟨by dsimp only; omega,by dsimp only; omega,?_⟩,by dsimp only; omega⟩
  show _=(l.take (i+1).toNat).foldl f t0
  rw [xJ i0 hz,List.foldl_append,i2]; rfl
 have e:i=l.length:=by omega
 subst e
 rw [List.take_of_length_le (by omega)] at i2
 refine (hE t i2).mono ?_
 rintro y ⟨r,rfl,hr⟩
 exact hr
theorem OC {α β:Type} (g:α→List β) : ∀ (l:List α) (a:List β),l.foldl (fun a z=>a++g z) a=a++l.flatMap g
  | [],a=>by simp
  | z::r,a=>by rw [List.foldl_cons,OC g r,List.flatMap_cons,List.append_assoc]
theorem aRx {α β:Type} (g:α→β) : ∀ l:List α,l.flatMap (fun z=>[g z])=l.map g
  | []=>rfl
  | z::r=>by rw [List.flatMap_cons,aRx g r]; rfl
theorem aL4 {α R:Type} {Q:R→Prop} (l:List α) (P:α→Prop) (B:Int→Option (Int⊕R))
 (hB : ∀ (i:Int) z,0≤i→i < l.length→l[i.toNat]? = some z→(∀ y∈l.take i.toNat,P y)→Ok (B i) (fun y=>y = .inl (i+1)∧P z ∨ ∃ r,y = .inr r∧Q r))
 (hE:(∀ y∈l,P y)→Ok (B (l.length:Int)) (Up Q)):Ok (iter B 0) Q:=by
 refine iN (I:=fun i=>0≤i∧i≤l.length ∧ ∀ y∈l.take i.toNat,P y) (μ:=fun i=>(l.length - i).toNat) ?_ ⟨by omega,by omega,by simp⟩
 rintro i ⟨i0,i1,i2⟩
 by_cases hi:i < l.length
 ·
  obtain ⟨z,hz⟩:=oI i0 hi
  refine (hB i z i0 hi hz i2).mono ?_
  rintro y (⟨rfl,hp⟩ | ⟨r,rfl,hr⟩)
  ·
   refine ⟨⟨by omega,by omega,fun y hy => ?_⟩,by omega⟩
   rw [xJ i0 hz] at hy
   rcases List.mem_append.1 hy with q | q
   ·
    exact i2 y q
   rw [List.mem_singleton.1 q]; exact hp
  exact hr
 have e:i=l.length:=by omega
 subst e
 rw [List.take_of_length_le (by omega)] at i2
 refine (hE i2).mono ?_
 rintro y ⟨r,rfl,hr⟩
 exact hr
end Go.S
end

section
namespace Go.S
open Go
def Sp (o:Option Bool) (X:Prop):Prop:=Ok o (fun r=>r=true↔X)
theorem a10 {X:Prop} (h:X):Sp (some true) X:=bD.2 ⟨fun _=>h,fun _=>rfl⟩
theorem I6 {X:Prop} (h : ¬ X):Sp (some false) X:=bD.2 ⟨fun q=>(by cases q),fun q=>absurd q h⟩
theorem a1Z {c X:Prop} [Decidable c] (h:c↔X):Sp (some (decide c)) X:=bD.2 (by rw [decide_eq_true_iff]; exact h)
theorem RV {c X:Prop} [Decidable c] {a b:Option Bool} (h:c→Sp a X) (g : ¬ c→Sp b X):Sp (if c then a else b) X:=cF.2 ⟨h,g⟩
theorem aMl {o:Option Bool} {Y X:Prop} {f:Bool→Option Bool} (h:Sp o Y) (g:Y→Sp (f true) X) (k : ¬ Y→Sp (f false) X):Sp (o.bind f) X:=by
 refine kC.2 (h.mono ?_)
 intro r hr
 cases r with
 | true=>exact g (hr.1 rfl)
 | false=>exact k (fun y=>by cases hr.2 y)
theorem aUZ {o:Option Bool} {X:Prop} (h:Sp o X):Sp (o.bind fun y=>some y) X:=aMl h (fun y=>a10 y) (fun y=>I6 y)
theorem Sp.iff {o:Option Bool} {X Y:Prop} (h:Sp o X) (e:X↔Y):Sp o Y:=h.mono fun _ hr=>hr.trans e
theorem Sp.get {o:Option Bool} {X:Prop} (h:Sp o X) : ∃ r,o=some r∧(r=true↔X):=h
theorem YG {α β γ:Type} (f:α→γ) (g:β→γ) (a:List α) (b:List β) (B:Int→Option (Int⊕Bool))
 (hB : ∀ (i:Int) x y,0≤i→i < a.length→a[i.toNat]? = some x→b[i.toNat]? = some y→Ok (B i) (fun z=>(f x=g y∧z = .inl (i+1))∨(f x≠g y∧z = .inr false)))
 (hE:Ok (B a.length) (Up (· = true))):Sp (if (a.length:Int)=(b.length:Int) then iter B 0 else some false) (a.map f=b.map g):=by
 refine RV (fun hl => ?_) (fun hl=>I6 fun q=>hl ?_)
 ·
  refine iN (I:=fun i=>0≤i∧i≤a.length∧(a.take i.toNat).map f=(b.take i.toNat).map g) (μ:=fun i=>(a.length - i).toNat) ?_ ⟨by omega,by omega,by simp⟩
  rintro i ⟨i0,i1,i2⟩
  by_cases hi:i < a.length
  ·
   obtain ⟨x,hx⟩:=oI i0 hi
   obtain ⟨y,hy⟩:=oI (l:=b) i0 (by omega)
   refine (hB i x y i0 hi hx hy).mono ?_
   rintro z (⟨e,rfl⟩ | ⟨e,rfl⟩)
   ·
    refine ⟨⟨by omega,by omega,?_⟩,by omega⟩
    rw [xJ i0 hx,xJ i0 hy,List.map_append,List.map_append,i2]
    simp [e]
   refine ⟨fun q=>(by cases q),fun q => ?_⟩
   have h1:=congrArg (fun l=>l[i.toNat]?) q
   simp only [List.getElem?_map,hx,hy,Option.map_some,Option.some.injEq] at h1
   exact absurd h1 e
  have e:i=a.length:=by omega
  subst e
  refine hE.mono ?_
  rintro z ⟨r,rfl,rfl⟩
  refine ⟨fun _ => ?_,fun _=>rfl⟩
  rw [List.take_of_length_le (by omega),List.take_of_length_le (by omega)] at i2
  exact i2
 have:=congrArg List.length q
 simp only [List.length_map] at this
 omega
theorem map_eq_iff {α β:Type} {f:α→β} (hf : ∀ x y,f x=f y→x=y) {a b:List α}:a.map f=b.map f↔a=b:=by
 refine ⟨fun h => ?_,fun h=>by rw [h]⟩
 induction a generalizing b with
 | nil=>cases b with
   | nil=>rfl
   | cons y t=>cases h
 | cons x s ih=>cases b with
   | nil=>cases h
   | cons y t =>
     simp only [List.map_cons,List.cons.injEq] at h
     rw [hf _ _ h.1,ih h.2]
theorem BO {α β R:Type} {Q:R→Prop} (l:List α) (g:α→β) (B:List β×Int→Option ((List β×Int)⊕R))
 (hB : ∀ (i:Int) z,0≤i→i < l.length→l[i.toNat]? = some z → ∀ s,s.length=i.toNat→Ok (B (s,i)) (Nx (s++[g z],i+1)))
 (hE:Ok (B (l.map g,(l.length:Int))) (Up Q)):Ok (iter B ([],0)) Q:=by
 have key : ∀ (m:List α),m.foldl (fun s z=>s++[g z]) []=m.map g:=fun m=>by
   have:=OC (fun z=>[g z]) m []
   rw [this,aRx]; rfl
 refine aHb l (fun s z=>s++[g z]) [] B (fun i z i0 hi hz s hs => ?_) (fun s hs => ?_)
 ·
  rw [key] at hs
  exact hB i z i0 hi hz s (by rw [hs,List.length_map,List.length_take]; omega)
 rw [key] at hs
 rw [hs]; exact hE
theorem XX {α β R:Type} {Q:R→Prop} (l:List α) (g:α→β) (B:Int×List β→Option ((Int×List β)⊕R))
 (hB : ∀ (i:Int) z,0≤i→i < l.length→l[i.toNat]? = some z → ∀ s,s.length=i.toNat→Ok (B (i,s)) (Nx (i+1,s++[g z])))
 (hE:Ok (B ((l.length:Int),l.map g)) (Up Q)):Ok (iter B (0,[])) Q:=by
 have key : ∀ (m:List α),m.foldl (fun s z=>s++[g z]) []=m.map g:=fun m=>by
   have:=OC (fun z=>[g z]) m []
   rw [this,aRx]; rfl
 refine aDj l (fun s z=>s++[g z]) [] B (fun i z i0 hi hz s hs => ?_) (fun s hs => ?_)
 ·
  rw [key] at hs
  exact hB i z i0 hi hz s (by rw [hs,List.length_map,List.length_take]; omega)
 rw [key] at hs
 rw [hs]; exact hE
end Go.S
end

section
namespace Go.S
theorem wS {α:Type} {l:List α} {i:Int} (h0:0≤i) (h:i < l.length) : ∃ z,l[i.toNat]? = some z:=⟨_,List.getElem?_eq_getElem (by omega)⟩
end Go.S
end

section
namespace Go.S
theorem aEy {α:Type} {l:List α} {i:Nat} {x:α} (h:l[i]? = some x):i < l.length:=(List.getElem?_eq_some_iff.1 h).1
theorem aPp {α:Type} (l:List α) (z:α):(l++[z])[(((l++[z]).length:Int) - 1).toNat]? = some z:=by
 rw [show ((((l++[z]).length:Int) - 1).toNat)=l.length by simp]
 simp
theorem vW {α:Type} {l:List α} {i:Int} {z:α} (h0:0≤i) (h:l[i.toNat]? = some z):l.take (i+1).toNat=l.take i.toNat++[z]:=by
 rw [show (i+1).toNat=i.toNat+1 by omega,List.take_add_one,h]; rfl
theorem gK {S R:Type} {K:S→Option R} {F:(S→Option R)→Option R} {Q:R→Prop} (P:S→Prop) (hK : ∀ s,P s→Ok (K s) Q) (hF : ∀ K':S→Option R,(∀ s,P s→Ok (K' s) Q)→Ok (F K') Q):Ok (jn K F) Q:=hF K hK
theorem aAO {z:UInt8} {n:Nat} (hn:n < 256):((z.toNat:Int)=n)↔z=UInt8.ofNat n:=by
 constructor
 ·
  intro h
  apply UInt8.toNat_inj.1
  simp [Nat.mod_eq_of_lt hn]; omega
 intro h
 subst h
 simp [Nat.mod_eq_of_lt hn]
theorem a1P {α:Type} {s:List α} {i:Int} {z:α} (h0:0≤i) (h:s[i.toNat]? = some z):(s.drop i.toNat).take ((i+1).toNat - i.toNat)=[z]:=by
 obtain ⟨h1,h2⟩:=List.getElem?_eq_some_iff.1 h
 rw [show (i+1).toNat - i.toNat=1 by omega,List.drop_eq_getElem_cons h1,h2]
 rfl
end Go.S
end

section
namespace Go.S
open Go
theorem aEV {n:Nat} (h:n < 18446744073709551616):IntKind.wrap .u64 (n:Int)=n:=IntWalk.u64_in _ (by omega)
theorem wU8 {n:Nat} (h:n < 256):IntKind.wrap .u8 (n:Int)=n:=IntWalk.u8_in _ (by omega)
theorem aLS {x y:Nat} (hx:x < 18446744073709551616) (hy:y < 18446744073709551616):wA .u64 x y=((x &&& y:Nat):Int):=by
 unfold wA
 have h:(BitVec.ofInt IntKind.u64.bits (x:Int) &&& BitVec.ofInt IntKind.u64.bits (y:Int)).toNat=x &&& y:=by
   show (BitVec.ofInt 64 (x:Int) &&& BitVec.ofInt 64 (y:Int)).toNat=x &&& y
   rw [BitVec.toNat_and,BitVec.ofInt_natCast,BitVec.ofInt_natCast,BitVec.toNat_ofNat,BitVec.toNat_ofNat,Nat.mod_eq_of_lt (by omega),Nat.mod_eq_of_lt (by omega)]
 rw [h]
 exact aEV (Nat.lt_of_le_of_lt Nat.and_le_left hx)
theorem aZ1 {x y:Nat} (hx:x < 18446744073709551616) (hy:y < 18446744073709551616):J8 .u64 x y=((x ||| y:Nat):Int):=by
 unfold J8
 have h:(BitVec.ofInt IntKind.u64.bits (x:Int) ||| BitVec.ofInt IntKind.u64.bits (y:Int)).toNat=x ||| y:=by
   show (BitVec.ofInt 64 (x:Int) ||| BitVec.ofInt 64 (y:Int)).toNat=x ||| y
   rw [BitVec.toNat_or,BitVec.ofInt_natCast,BitVec.ofInt_natCast,BitVec.toNat_ofNat,BitVec.toNat_ofNat,Nat.mod_eq_of_lt (by omega),Nat.mod_eq_of_lt (by omega)]
 rw [h]
 exact aEV (Nat.or_lt_two_pow (n:=64) hx hy)
theorem a1J {x y:Nat} (hx:x < 256) (hy:y < 256):J8 .u8 x y=((x ||| y:Nat):Int):=by
 unfold J8
 have h:(BitVec.ofInt IntKind.u8.bits (x:Int) ||| BitVec.ofInt IntKind.u8.bits (y:Int)).toNat=x ||| y:=by
   show (BitVec.ofInt 8 (x:Int) ||| BitVec.ofInt 8 (y:Int)).toNat=x ||| y
   rw [BitVec.toNat_or,BitVec.ofInt_natCast,BitVec.ofInt_natCast,BitVec.toNat_ofNat,BitVec.toNat_ofNat,Nat.mod_eq_of_lt (by omega),Nat.mod_eq_of_lt (by omega)]
 rw [h]
 exact wU8 (Nat.or_lt_two_pow (n:=8) hx hy)
theorem aZ0 {x y:Nat} (hx:x < 256) (hy:y < 256):wA .u8 x y=((x &&& y:Nat):Int):=by
 unfold wA
 have h:(BitVec.ofInt IntKind.u8.bits (x:Int) &&& BitVec.ofInt IntKind.u8.bits (y:Int)).toNat=x &&& y:=by
   show (BitVec.ofInt 8 (x:Int) &&& BitVec.ofInt 8 (y:Int)).toNat=x &&& y
   rw [BitVec.toNat_and,BitVec.ofInt_natCast,BitVec.ofInt_natCast,BitVec.toNat_ofNat,BitVec.toNat_ofNat,Nat.mod_eq_of_lt (by omega),Nat.mod_eq_of_lt (by omega)]
 rw [h]
 exact wU8 (Nat.lt_of_le_of_lt Nat.and_le_left hx)
theorem aLT {x y:Nat} (hx:x < 18446744073709551616) (hy:y < 18446744073709551616):GV .u64 x y=((x ^^^ y:Nat):Int):=by
 unfold GV
 have h:(BitVec.ofInt IntKind.u64.bits (x:Int) ^^^ BitVec.ofInt IntKind.u64.bits (y:Int)).toNat=x ^^^ y:=by
   show (BitVec.ofInt 64 (x:Int) ^^^ BitVec.ofInt 64 (y:Int)).toNat=x ^^^ y
   rw [BitVec.toNat_xor,BitVec.ofInt_natCast,BitVec.ofInt_natCast,BitVec.toNat_ofNat,BitVec.toNat_ofNat,Nat.mod_eq_of_lt (by omega),Nat.mod_eq_of_lt (by omega)]
 rw [h]
 exact aEV (Nat.xor_lt_two_pow (n:=64) hx hy)
theorem aUW (x k:Nat) (hk:k≤64):NS .u64 x (k:Int)=((x / 2 ^ k:Nat):Int):=by
 unfold NS
 show Int.fdiv (x:Int) (2 ^ min (k:Int).toNat 64)=_
 rw [Int.toNat_natCast,Nat.min_eq_left hk]
 rw [show ((2:Int) ^ k)=((2 ^ k:Nat):Int) by simp]
 rw [Int.fdiv_eq_ediv_of_nonneg _ (Int.natCast_nonneg _)]
 simp
theorem aUV (x k:Nat) (hk:k≤64) (h:x*2 ^ k < 18446744073709551616):O4 .u64 x (k:Int)=((x*2 ^ k:Nat):Int):=by
 unfold O4
 show IntKind.wrap .u64 ((x:Int)*2 ^ min (k:Int).toNat 64)=_
 rw [Int.toNat_natCast,Nat.min_eq_left hk,show ((x:Int)*2 ^ k)=((x*2 ^ k:Nat):Int) by simp]
 exact aEV h
theorem aLJ (x:Nat):x &&& 127=x % 128:=Nat.and_two_pow_sub_one_eq_mod x 7
theorem a1G (x:Nat):x &&& 1=x % 2:=Nat.and_two_pow_sub_one_eq_mod x 1
theorem a0J {x:Nat} (h:x < 128):x ||| 128=x+128:=by
 have:=Nat.two_pow_add_eq_or_of_lt (i:=7) h 1
 rw [Nat.or_comm,show (128:Nat)=2 ^ 7*1 by rfl,← this]
 omega
theorem aPC {v x k:Nat} (h:v < 2 ^ k):v ||| x*2 ^ k=v+x*2 ^ k:=by
 have:=Nat.two_pow_add_eq_or_of_lt h x
 rw [Nat.or_comm,Nat.mul_comm x,← this,Nat.add_comm]
end Go.S
end

section
namespace Go.S
open Go
def ofP:List iW→Int→jR
  | [],e => .no e
  | p::r,e => .fault p.word p.at_ (ofP r e)
def zU (w:bZ):jR:=if w.err=0 then .nil else ofP w.parts w.err
theorem XG : ∀ (f u:Nat),(TO f u).length≤f
  | 0,u=>by simp [TO]
  | f+1,u=>by
    unfold TO
    split
    . simp
    . have:=XG f (u / 10); simp; omega
theorem j9 (n:Int):(fI n).length≤21:=by
 unfold fI
 split
 ·
  have:=XG 20 n.natAbs; simp; omega
 have:=XG 20 n.toNat; omega
def NN (u:Nat):List UInt8:=if u < 10 then [] else Lib.decDigits (u / 10)
theorem VN (u:Nat):NN u++[UInt8.ofNat (48+u % 10)]=Lib.decDigits u:=by
 unfold NN
 conv=>rhs; rw [Lib.decDigits]
 by_cases h:u < 10
 ·
  simp [h,Nat.mod_eq_of_lt h]
 simp [h]
theorem Y4 {n:Int} (h0:0≤n) (h1:n≤9223372036854775807):Sh.kI n=some (fI n):=by
 rw [XV ⟨by omega,h1⟩]
 apply Ok.eq
 unfold Sh.kI Lib.itoa
 simp only [cF,cQ,cV]
 rw [if_neg (by omega)]
 refine ⟨fun h=>by omega,fun _=>⟨⟨h0,by omega⟩,⟨by omega,by omega⟩,⟨by omega,by omega⟩,⟨by omega,by omega⟩,?_⟩⟩
 refine iN (I:=fun t=>0≤t.1∧t.1≤n∧NN t.1.toNat++t.2=Lib.decDigits n.toNat∧t.2.length+t.1≤n+1) (μ:=fun t=>t.1.toNat) ?_ ⟨h0,by dsimp only; omega,?_,by simp; omega⟩
 ·
  rintro ⟨m,s⟩ ⟨m0,m1,m2,m3⟩
  dsimp only at m0 m1 m2 m3 ⊢
  simp only [cF,gA,kC,cQ,cV,kJ,bD,q9]
  refine ⟨fun h => ?_,fun h => ?_⟩
  ·
   refine ⟨⟨⟨m0,by omega⟩,⟨by omega,by omega⟩⟩,⟨by omega,by omega⟩,⟨by omega,by omega⟩,⟨by omega,by omega⟩,⟨by omega,by omega⟩,by simp; omega,⟨by omega,by omega,?_,by simp; omega⟩,by omega⟩
   rw [← m2,← List.append_assoc]
   congr 1
   have e1:NN m.toNat=Lib.decDigits (m.toNat / 10):=by unfold NN; rw [if_neg (by omega)]
   rw [e1,← VN]
   rw [show (m / 10).toNat=m.toNat / 10 by omega,show (48+m / 10 % 10).toNat=48+m.toNat / 10 % 10 by omega]
  have e1:NN m.toNat=[]:=by unfold NN; rw [if_pos (by omega)]
  rw [e1] at m2; exact m2
 rw [← VN n.toNat,show (48+n % 10).toNat=48+n.toNat % 10 by omega]
theorem aDM {n:Int} (h0:0≤n) (h1:n≤9223372036854775807):Sh.zV n=some (fI n):=by
 rw [XV ⟨by omega,h1⟩]
 apply Ok.eq
 unfold Sh.zV Lib.itoa
 simp only [cF,cQ,cV]
 rw [if_neg (by omega)]
 refine ⟨fun h=>by omega,fun _=>⟨⟨h0,by omega⟩,⟨by omega,by omega⟩,⟨by omega,by omega⟩,⟨by omega,by omega⟩,?_⟩⟩
 refine iN (I:=fun t=>0≤t.1∧t.1≤n∧NN t.1.toNat++t.2=Lib.decDigits n.toNat∧t.2.length+t.1≤n+1) (μ:=fun t=>t.1.toNat) ?_ ⟨h0,by dsimp only; omega,?_,by simp; omega⟩
 ·
  rintro ⟨m,s⟩ ⟨m0,m1,m2,m3⟩
  dsimp only at m0 m1 m2 m3 ⊢
  simp only [cF,gA,kC,cQ,cV,kJ,bD,q9]
  refine ⟨fun h => ?_,fun h => ?_⟩
  ·
   refine ⟨⟨⟨m0,by omega⟩,⟨by omega,by omega⟩⟩,⟨by omega,by omega⟩,⟨by omega,by omega⟩,⟨by omega,by omega⟩,⟨by omega,by omega⟩,by simp; omega,⟨by omega,by omega,?_,by simp; omega⟩,by omega⟩
   rw [← m2,← List.append_assoc]
   congr 1
   have e1:NN m.toNat=Lib.decDigits (m.toNat / 10):=by unfold NN; rw [if_neg (by omega)]
   rw [e1,← VN]
   rw [show (m / 10).toNat=m.toNat / 10 by omega,show (48+m / 10 % 10).toNat=48+m.toNat / 10 % 10 by omega]
  have e1:NN m.toNat=[]:=by unfold NN; rw [if_pos (by omega)]
  rw [e1] at m2; exact m2
 rw [← VN n.toNat,show (48+n % 10).toNat=48+n.toNat % 10 by omega]
theorem nC {n:Int} (h:dV n):Sh.kI n=some (fI n):=by
 by_cases h0:0≤n
 ·
  exact Y4 h0 h.2
 obtain ⟨h1,h2⟩:=h
 by_cases hm:n = -9223372036854775808
 ·
  subst hm; decide +kernel
 apply Ok.eq
 unfold Sh.kI
 rw [if_pos (by omega),if_neg hm]
 simp only [cQ,cV,kC,bD]
 have hl:=j9 (0 - n)
 refine ⟨⟨by omega,by omega⟩,Ok.of (aDM (by omega) (by omega)) ⟨by rw [List.length_singleton]; omega,?_⟩⟩
 unfold fI
 rw [if_neg (by omega),if_pos (by omega),show (0 - n).toNat=n.natAbs by omega]
 rfl
theorem aCG {e:Int} (h0:1≤e) (h1:e≤14) : ∃ s,Sh.O1 e=some s∧Sh.yK e=some s∧s.length≤10:=by
 have:e=1∨e=2∨e=3∨e=4∨e=5∨e=6∨e=7∨e=8∨e=9∨e=10∨e=11∨e=12∨e=13∨e=14:=by omega
 rcases this with h | h | h | h | h | h | h | h | h | h | h | h | h | h <;> subst h <;> exact ⟨_,rfl,rfl,by decide⟩
noncomputable def aFv (e:Int):List UInt8:=(Sh.O1 e).getD []
noncomputable def y7:List iW→Int→List UInt8
  | [],e=>aFv e
  | p::r,e=>p.word++[32]++fI p.at_++[58,32]++y7 r e
def Pok (l:List iW):Prop := ∀ p∈l,p.word.length≤1000∧0≤p.at_∧p.at_≤9223372036854775807
theorem PF (e:Int) (h0:1≤e) (h1:e≤14) : ∀ (l:List iW),Pok l→(y7 l e).length≤10+1024*l.length
  | [],_=>by
    obtain ⟨s,h,_,hl⟩:=aCG h0 h1
    simp [y7,aFv,h,hl]
  | p::r,h=>by
    have:=PF e h0 h1 r fun q hq=>h q (List.mem_cons_of_mem _ hq)
    have:=j9 p.at_
    have:=(h p (List.mem_cons_self ..)).1
    simp only [y7,List.length_append,List.length_cons,List.length_nil]
    omega
theorem aPj {w:bZ} (h0:1≤w.err) (h1:w.err≤14) (hp:Pok w.parts) (hl:w.parts.length≤1000):Sh.K6 w=some (y7 w.parts w.err):=by
 obtain ⟨parts,e⟩:=w
 dsimp only at h0 h1 hp hl ⊢
 apply Ok.eq
 unfold Sh.K6
 refine iN (I:=fun t=>0≤t.2∧t.2≤parts.length∧t.1++y7 (parts.drop t.2.toNat) e=y7 parts e) (μ:=fun t=>(parts.length - t.2).toNat) ?_ ⟨by simp,by simp,by simp⟩
 rintro ⟨s,i⟩ ⟨i0,i1,i2⟩
 dsimp only at i0 i1 i2 ⊢
 have hlen:=congrArg List.length i2
 rw [List.length_append] at hlen
 have hw:=PF e h0 h1 parts hp
 simp only [cF,gA,kC,cQ,cV,kJ,bD,q9]
 refine ⟨fun hi => ?_,fun hi => ?_⟩
 ·
  obtain ⟨z,hz⟩:=wS (l:=parts) i0 hi
  obtain ⟨z1,z2,z3⟩:=hp z (List.mem_of_getElem? hz)
  have:=j9 z.at_
  have hd:parts.drop i.toNat=z::parts.drop (i+1).toNat:=by
    rw [show (i+1).toNat=i.toNat+1 by omega]
    have hlt:=(List.getElem?_eq_some_iff.1 hz)
    rw [List.drop_eq_getElem_cons hlt.1,hlt.2]
  refine ⟨i0,z,hz,by omega,by simp; omega,i0,z,hz,Ok.of (Y4 z2 z3) ⟨by simp; omega,by simp; omega,⟨by omega,by omega⟩,⟨by omega,by omega,?_⟩,by omega⟩⟩
  rw [← i2,hd,y7]
  simp
 rw [show i.toNat=parts.length by omega,List.drop_length] at i2
 obtain ⟨q,hq,_,hl⟩:=aCG h0 h1
 have e1:y7 [] e=q:=by simp [y7,aFv,hq]
 rw [e1] at i2
 refine Ok.of hq ⟨by omega,i2⟩
theorem QZ (l:List iW) (e:Int):(ofP l e).isNil=false∧E7 (ofP l e)=some e:=by
 induction l with
 | nil=>exact ⟨rfl,rfl⟩
 | cons p r ih=>exact ⟨rfl,ih.2⟩
theorem aAZ {e:Int} (h0:1≤e) (h1:e≤14) : ∀ (l:List iW),Pok l→l.length≤1000→Sh.L0 (ofP l e)=some (y7 l e)
  | [],_,_=>by
    obtain ⟨s,h,h',hl⟩:=aCG h0 h1
    simp [ofP,Sh.L0,y7,aFv,h,h']
  | p::r,h,hl=>by
    have ih:=aAZ h0 h1 r (fun q hq=>h q (List.mem_cons_of_mem _ hq)) (by simp at hl; omega)
    obtain ⟨z1,z2,z3⟩:=h p (List.mem_cons_self ..)
    have hw:=PF e h0 h1 r fun q hq=>h q (List.mem_cons_of_mem _ hq)
    have hi:=j9 p.at_
    simp only [List.length_cons] at hl
    apply Ok.eq
    simp only [ofP,Sh.L0]
    unfold Sh.yL
    rw [ih]
    dsimp only
    rw [(QZ r e).1,if_neg (by simp)]
    simp only [cF,gA,kC,cQ,cV,kJ,bD,q9]
    refine ⟨by simp; omega,⟨by omega,z3⟩,by simp; omega,by simp; omega,by simp; omega,?_⟩
    simp [y7]
theorem aPe {w:bZ} (h0:0≤w.err) (h1:w.err≤14) (hp:Pok w.parts) (hl:w.parts.length≤1000):Sh.KP (zU w) w=some true:=by
 apply Ok.eq
 unfold Sh.KP zU
 by_cases he:w.err=0
 ·
  rw [if_pos he,if_pos he,bD]; rfl
 rw [if_neg he,if_neg he,(QZ w.parts w.err).1,(QZ w.parts w.err).2]
 simp only [aBZ,kC,cF,bD]
 refine ⟨fun h=>(by cases h),fun _=>Ok.of (aAZ (by omega) h1 _ hp hl) (Ok.of (aPj (by omega) h1 hp hl) ⟨fun _=>⟨fun h=>by simp at h,fun _=>⟨fun _=>trivial,fun hn => ?_⟩⟩,fun h=>absurd rfl h⟩)⟩
 obtain ⟨parts,e⟩:=w
 cases parts with
 | nil=>exact absurd rfl hn
 | cons p r =>
   simp only [ofP,kC,q9,cF,bD]
   exact ⟨by omega,p,rfl,fun _=>⟨by omega,p,rfl,by simp⟩,fun h=>absurd rfl h⟩
end Go.S
end
