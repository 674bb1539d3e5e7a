/- Part of the proofs of: the law TopKeeps: what is changed and not committed is there, or put aside, behind every command that does not say otherwise (any acts, any line), where what is read is of bulk at most 1048576 -/
import Derived.Test.YtaohfeokfcdojaaGreatDoorTWd
set_option linter.unusedVariables false
set_option linter.unusedSimpArgs false
set_option linter.unusedSectionVars false
section
set_option linter.unusedVariables false
namespace Go.Proofs.YtaohfeokfcdojaaGreatDoor
set_option maxHeartbeats 4000000
set_option maxRecDepth 100000
set_option synthInstance.maxSize 2000
set_option synthInstance.maxHeartbeats 1000000
open Go.RowKit Go.V
open Go.S
attribute [local irreducible] Go.V.Qt Go.V.VL Go.V.VC Go.V.HA Go.S.gd Go.S.at_ Go.S.lt Go.S.jn Go.S.go Go.S.up Go.S.iter Sh.gV Sh.nF Sh.kO Sh.jZ Sh.vJ Sh.FW Sh.E8 Sh.HX Sh.tT Sh.qG Sh.u9 Sh.oD Sh.wH Sh.uQ Sh.pT Sh.AH Sh.jC Sh.F2 Sh.wK Sh.pH Sh.wL Sh.tK Sh.qH Sh.wM Sh.xC Sh.zK Sh.tZ Sh.bO Sh.cG Sh.b5 Sh.eC Sh.yF
instance aVt (gT:Sv aC) (r_1:cQ) (DR:Sv IndexEntry) (mW:Sv aC) :
 jG Tryz.prog 265 [gT.val,.agg #[r_1.files.val,r_1.entries.val,r_1.conflicts.val],DR.val,mW.val] (Sh.FW gT.l r_1.pl DR.l mW.l) (gT.ok.and (r_1.m.and (DR.ok.and mW.ok))) (X:=Sv IndexEntry×Sv aC×Er) (fun x => .tuple #[x.1.val,x.2.1.val,x.2.2.val]) (fun x=>(x.1.l,x.2.1.l,x.2.2.pl)) (fun x=>(x.1.ok.and (x.2.1.ok.and x.2.2.ok))):=by
 refine jO Tryz.func265 Tryz.ntmps265 fun r hS c => ?_
 unfold Sh.FW at hS
 refine cI (kF fun S9=>ZX ?_)
 refine Zq (ZX ?_)
 refine fJ hS rfl fun aFC hS=>Za ?_
 refine Zl ?_
 refine VC.bD [0,2,3,5,11] (ZX ?_)
 refine Zc hS (fun h25 hS => ?_) (fun h25 hS => ?_)
 ·
  refine ZX ?_
  refine fJ hS rfl fun aWW hS => ?_
  refine VL.shut aWW 121 (fun _ _ _ _=>trivial) ?_
  refine fN hS rfl fun aLA hS=>Zm ?_
  refine fJ hS rfl fun aW1 hS => ?_
  refine VL.shut aW1 89 (fun _ _ _ _=>trivial) ?_
  refine fN hS rfl fun aW2 hS=>ZX ?_
  refine Zu (cA (vs:=[(0,str [112,97,116,104]),(1,i64 (aFC.l.length:Int)),(2,(Er.no 8).val)]) (cs := #[str [112,97,116,104],i64 (aFC.l.length:Int),(Er.no 8).val]) rfl (by kernel_rfl)) ?_
  refine kF fun aTU => ?_
  refine VL.DV aTU ?_
  refine ZX ?_
  cases hS
  exact VC.ret (aER (.inr rfl) rfl rfl rfl rfl (aLA,aW2,(Er.fault aTU [112,97,116,104] (aFC.l.length:Int) (Er.no 8))) rfl rfl (by (try dsimp only); exact dM.out) (fun _ _=>trivial))
 refine ZX ?_
 refine fJ hS rfl fun JW hS=>Za ?_
 refine Zl ?_
 refine VC.bD [2,3,5,12] (ZX ?_)
 refine fJ hS rfl fun aLE hS=>Zm ?_
 refine fJ hS rfl fun aGi hS=>ZX ?_
 refine Zq (ZX ?_)
 refine Zb ?_
 refine VC.shut aLE 121 (fun _ _ _ _=>trivial) ?_
 refine VC.shut aGi 89 (fun _ _ _ _=>trivial) ?_
 refine VC.iter (S:=Sv IndexEntry×Sv aC×Int) (fun sg=>(sg.1.l,sg.2.1.l,sg.2.2)) (fun sg=>[(2,sg.1.val),(3,sg.2.1.val),(5,ptr S9 0),(12,JW.val),(45,JW.val),(46,i64 (JW.l.length:Int)),(47,i64 sg.2.2)]) (fun sg=>(sg.1.ok.and sg.2.1.ok)) (fun sg=>Ow.star (bM S9 [r_1.files.val,r_1.entries.val,r_1.conflicts.val] 232) (Ow.star (Sv.own JW 9) (Ow.emp))) (aLE,aGi,0) [2,3,5,12,45,46,47] hS rfl ?_
 rintro ⟨aDT,V6,EN⟩ m1 y1 hS hK1
 refine ZX ?_
 refine Zq (Zc hS (fun h48 hS => ?_) (fun h48 hS => ?_))
 ·
  refine Zk ?_
  refine Zq (Zb (cI ?_))
  obtain ⟨aIr,aK7,aJw,hS⟩:=gQ hS
  refine Zu (lC (s:=JW) Tryz.underlying45 wU rfl rfl aK7 (bQ aK7 aJw)) (Zu (GS (s:=JW) 9 oV rfl aJw rfl) ?_)
  exact ZE hS
 replace hS:=lQ hS hK1
 refine Zx ?_
 refine Zq (ZX ?_)
 refine Zb ?_
 refine VC.iJm [5,58,59] (fun (sg:Sv IndexEntry×Sv aC×Int)=>(sg.1.l,sg.2.1.l,sg.2.2)) (fun sg ρ=>(2,sg.1.val)::(3,sg.2.1.val)::(60,i64 sg.2.2)::ρ) (fun sg=>(sg.1.ok.and sg.2.1.ok)) (aDT,V6,0) [2,3,60,5,58,59] hS ?_
 rintro ⟨aHm,P4,RT⟩ m1 y1 hS hK1
 refine ZX ?_
 refine Zq (Zc hS (fun h61 hS => ?_) (fun h61 hS => ?_))
 ·
  refine Zk ?_
  refine Zq (Zb (cI ?_))
  obtain ⟨aIt,aKb,aJz,hS⟩:=gQ hS
  refine Zu (lC (s:=JW) Tryz.underlying45 wU rfl rfl aKb (bQ aKb aJz)) (Zu (GS (s:=JW) 9 oV rfl aJz rfl) ?_)
  refine ZX ?_
  refine fN hS rfl fun a7j hS=>Za ?_
  refine Zl ?_
  refine VC.bD [2,3,5,58,59,60,16] (ZX ?_)
  refine jU hS rfl fun N1 hS=>dG fun a9p=>ZX ?_
  refine iG hS (fun h73 hS => ?_) (fun h73 hS => ?_)
  ·
   refine Zr (ZX ?_)
   refine Zu (oY (j:=0) (n:=3) z7 rfl rfl rfl) ?_
   exact HB hS (NB P4 (⟨N1.bU,N1.cK,N1.bS⟩:aC)).out fun a7n hS=>ZE hS
  exact ZE hS
 replace hS:=lQ hS hK1
 refine Zx ?_
 refine ZX ?_
 refine fN hS rfl fun aSH hS=>Zm ?_
 refine fN hS rfl fun aSK hS=>ZX ?_
 cases hS
 exact VC.ret (aER (.inr rfl) rfl rfl rfl rfl (aSH,aSK,.nil) rfl rfl (by (try dsimp only); exact dM.out) (fun _ _=>trivial))
instance aGS (aA:aL) :
 gS Tryz.prog 103 [.agg (aI aA).toArray] (Sh.uQ aA.pl) aA.m (fun r => .bool r):=by
 refine gU Tryz.func103 Tryz.ntmps103 fun r hS c => ?_
 unfold Sh.uQ at hS
 exact ZE hS
instance OC (aA:aL) (r_1:cQ) :
 jG Tryz.prog 193 [.agg (aI aA).toArray,.agg #[r_1.files.val,r_1.entries.val,r_1.conflicts.val]] (Sh.wK aA.pl r_1.pl) (aA.m.and r_1.m) (X:=aL×Er) (fun x => .tuple #[.agg (bB.enc x.1).toArray,x.2.val]) (fun x=>(x.1.pl,x.2.pl)) (fun x=>(x.1.m.and x.2.ok)):=by
 refine jO Tryz.func193 Tryz.ntmps193 fun r hS c => ?_
 unfold Sh.wK at hS
 refine cI ?_
 refine qC (aI aA) fun iB => ?_
 refine kF fun oU=>dG fun BS=>ZX ?_
 refine Zq ?_
 refine hU [(0,true),(2,true),(3,true),(4,true),(5,true),(6,true),(7,true),(8,true),(1,false),(9,false),(10,true),(11,true),(12,true),(13,true),(14,true),(15,true),(16,true)] ?_
 refine ZX ?_
 refine VD.one rfl (fN hS rfl fun aKn hS=>eL (Pk 8 (Pk 7 (Pk 6 (Pk 5 (Pk 4 (Pk 3 (Pk 2 Pz))))))) ?_)
 refine VD.one rfl (fN hS rfl fun ⟨MD,T9,aKv⟩ hS => ?_)
 try dsimp only
 refine eY ?_
 refine ZD ?_
 refine xE ?_
 refine VC.bD [2,4,6,7,8] (Zq (ZX ?_))
 refine qD hS (fun _ hS=>ZE hS) fun h24 hS=>Zk ?_
 refine cI (ZO ?_)
 refine Zl ?_
 refine VC.bD [2,4] (Zq (ZX ?_))
 refine Zcq hS (aGS (⟨T9,MD,aA.aZ,aA.aH,aA.aG,aA.aR,aA.aM,aA.aT,aA.aN,aA.aP,aA.aO,aA.aJ,aA.aD,aA.aE,aA.aK,aA.aQ,aA.aW,aA.aX,aA.bF,aA.aY,aA.time⟩:aL)).out fun aXv hS=>Zl ?_
 refine iG hS (fun h34 hS => ?_) (fun h34 hS => ?_)
 ·
  refine ZX ?_
  cases hS
  exact VC.ret (Z4 (⟨T9,MD,aA.aZ,aA.aH,aA.aG,aA.aR,aA.aM,aA.aT,aA.aN,aA.aP,aA.aO,aA.aJ,aA.aD,aA.aE,aA.aK,aA.aQ,aA.aW,aA.aX,aA.bF,aA.aY,aA.time⟩,(Er.no 4)) rfl)
 refine ZX ?_
 cases hS
 exact VC.ret (Z4 (⟨T9,MD,aA.aZ,aA.aH,aA.aG,aA.aR,aA.aM,aA.aT,aA.aN,aA.aP,aA.aO,aA.aJ,aA.aD,aA.aE,aA.aK,aA.aQ,aA.aW,aA.aX,aA.bF,aA.aY,aA.time⟩,.nil) rfl)
instance gL (aA:aL) (F8:Sv aC) (cV:Sv aC) (name_3:bI) :
 jG Tryz.prog 184 [.agg (aI aA).toArray,F8.val,cV.val,str name_3] (Sh.tK aA.pl F8.l cV.l name_3) (aA.m.and (F8.ok.and cV.ok)) (X:=aL×cQ×Er) (fun x => .tuple #[.agg (bB.enc x.1).toArray,.agg (bB.enc x.2.1).toArray,x.2.2.val]) (fun x=>(x.1.pl,x.2.1.pl,x.2.2.pl)) (fun x=>(x.1.m.and (x.2.1.m.and x.2.2.ok))):=by
 refine jO Tryz.func184 Tryz.ntmps184 fun r hS c => ?_
 unfold Sh.tK at hS
 refine cI ?_
 refine qC (aI aA) fun W4 => ?_
 refine dG fun aJJ=>dG fun a8M=>ZX ?_
 refine fN hS rfl fun nV hS=>ZX ?_
 refine fN hS rfl fun ⟨PR,aWQ⟩ hS => ?_
 try dsimp only
 refine ZX ?_
 refine dG fun bAh=>ZO ?_
 refine Zl ?_
 refine VC.bD [4,8,9,11,12] (Zq (ZX ?_))
 refine qD hS (fun h24 hS => ?_) (fun h24 hS => ?_)
 ·
  refine Zq ?_
  refine hU [(0,true),(1,true),(2,true),(3,false),(4,false),(5,true)] ?_
  refine ZX ?_
  refine VD.one rfl (ZX ?_)
  refine eL (Pk 1 Pz) ?_
  refine VD.one rfl (ZX ?_)
  refine eY ?_
  refine ZX ?_
  cases hS
  exact VC.ret (Z4 (aA,⟨PR.files,PR.entries,PR.conflicts⟩,aWQ) rfl)
 refine ZX ?_
 refine fN hS rfl fun ⟨aW3,aW4⟩ hS => ?_
 try dsimp only
 refine ZX ?_
 refine dG fun aDx=>ZO ?_
 refine Zl ?_
 refine VC.bD [8,9,11,12,13] (Zq ?_)
 refine hU [(0,true),(1,true),(2,true),(3,false),(4,false),(5,true)] ?_
 refine ZX ?_
 refine VD.one rfl (ZX ?_)
 refine eL (Pk 1 Pz) ?_
 refine VD.one rfl (ZX ?_)
 refine eY ?_
 refine ZX ?_
 cases hS
 exact VC.ret (Z4 (aW3,⟨PR.files,PR.entries,PR.conflicts⟩,aW4) rfl)
instance aWw (aA:aL) (x_1:bJ) :
 gS Tryz.prog 256 [.agg (aI aA).toArray,.agg #[str x_1.verb,i64 x_1.cF,str x_1.text]] (Sh.F2 aA.pl x_1) aA.m (fun r => .bool r):=by
 refine gU Tryz.func256 Tryz.ntmps256 fun r hS c => ?_
 unfold Sh.F2 at hS
 refine cI ?_
 refine qC (aI aA) fun iB => ?_
 refine kF fun oU=>ZX ?_
 refine Zq (ZX ?_)
 refine Zb ?_
 exact VC.cJ [2] (fun (_:Unit)=>()) (fun _ ρ=>ρ) hS (fun _ hS=>ZE hS) fun _ hS=>ZE hS
instance aWz (AK:bI) :
 gS Tryz.prog 206 [str AK] (Sh.zK AK) Mo.tt (fun r=>str r):=by
 refine gU Tryz.func206 Tryz.ntmps206 fun r hS c => ?_
 unfold Sh.zK at hS
 refine ZX ?_
 refine Zu (aWl rfl) ?_
 obtain ⟨b7,hS⟩:=bX hS
 obtain ⟨kK,E4,hS⟩:=p9 hS
 refine Zu (NU Tryz.underlying9 rfl rfl b7.1 b7.2 E4) ?_
 exact ZE hS
instance aOe (aA:aL) (x_1:bJ) (NY:Sv aC) :
 jG Tryz.prog 181 [.agg (aI aA).toArray,.agg #[str x_1.verb,i64 x_1.cF,str x_1.text],NY.val] (Sh.wH aA.pl x_1 NY.l) (aA.m.and NY.ok) (X:=aL×Bool) (fun x => .tuple #[.agg (bB.enc x.1).toArray,.bool x.2]) (fun x=>(x.1.pl,x.2)) (fun x=>x.1.m):=by
 refine jO Tryz.func181 Tryz.ntmps181 fun r hS c => ?_
 unfold Sh.wH at hS
 refine cI ?_
 refine qC (aI aA) fun rX => ?_
 refine kF fun xF=>dG fun a4Y=>ZX ?_
 refine fN hS rfl fun ⟨xL,aKt⟩ hS => ?_
 try dsimp only
 refine ZX ?_
 refine dG fun a45=>ZO ?_
 refine Zl ?_
 refine VC.bD [2,3,4,6,8] (ZX ?_)
 refine fN hS rfl fun ⟨aAX,a9G⟩ hS => ?_
 try dsimp only
 refine ZX ?_
 refine dG fun a5C=>ZO ?_
 refine Zl ?_
 refine VC.bD [2,3,4,6,8,10] (Zq ?_)
 refine hU [(0,true),(1,true),(2,true),(3,false),(4,true),(5,true)] ?_
 refine ZX ?_
 refine VD.one rfl (fJ hS rfl fun aFJ hS=>eL (Pk 1 (Pk 0 Pz)) ?_)
 refine ZD ?_
 refine xE ?_
 refine VC.wT (S:=bI×Sv Int) (fun sg=>(sg.1,sg.2.l)) (fun sg=>[(2,NY.val),(3,ptr rX 0),(6,ptr a4Y 0),(12,str sg.1),(13,sg.2.val)]) (fun sg=>sg.2.ok) (fun sg=>Ow.star (bM a5C [aAX.tree.val,aAX.parents.val,i64 aAX.time,str aAX.text] 61) (Ow.star (bM a45 [xL.tree.val,xL.parents.val,i64 xL.time,str xL.text] 61) (Ow.star (bM a4Y [.slice none 0 0,.slice none 0 0,.slice none 0 0,str [],i64 0,str [],i64 0,str [],.slice none 0 0,.slice none 0 0,i64 0,str [],str [],i64 0,.slice none 0 0,.slice none 0 0,.slice none 0 0,.slice none 0 0,.slice none 0 0,.slice none 0 0,i64 0] 49) (Ow.star (bM xF [str x_1.verb,i64 x_1.cF,str x_1.text] 101) (Ow.star (bM rX (aI aA) 49) (Ow.emp)))))) hS ?_ ?_
 ·
  intro k11 hS
  refine Zb (ZX ?_)
  refine jU hS rfl fun K7 hS=>ZX ?_
  refine VC.bD [2,3,4,6,8,10,12,13,34] (iG hS (fun h34 hS => ?_) (fun h34 hS => ?_))
  ·
   refine ZX ?_
   refine VC.bD [2,3,6,8,10,12,13,44] (Zc hS (fun h44 hS => ?_) (fun h44 hS => ?_))
   ·
    obtain ⟨b47,hS⟩:=bX hS
    refine Zr (ZX ?_)
    obtain ⟨WL,aEO,hS⟩:=p9 hS
    refine Zu (yP rfl rfl b47 aEO) ?_
    obtain ⟨b50,hS⟩:=bX hS
    refine ZX ?_
    obtain ⟨aBD,aTz,hS⟩:=p9 hS
    refine Zu (yP rfl rfl b50 aTz) ?_
    exact ZE hS
   exact ZE hS
  refine ZX ?_
  refine fN hS rfl fun a79 hS=>jU hS rfl fun K8 hS=>ZX ?_
  refine VC.bD [2,3,4,6,12,13,52] ?_
  refine iG hS (fun _ hS=>ZE hS) fun h52 hS=>ZX ?_
  refine Zc hS (fun h58 hS => ?_) (fun h58 hS => ?_)
  ·
   refine Zr (ZX ?_)
   refine VL.shut aFJ 3 (fun _ _ _ _=>trivial) ?_
   refine VL.mt (x_1.text,aFJ) [2,3,6,12,13] (fun _ _ h=>h) hS rfl
  refine VC.shut aFJ 3 (fun _ _ _ _=>trivial) ?_
  exact ZE hS
 rintro ⟨aBw,XW⟩ hS
 refine Zq (ZX ?_)
 refine jU hS rfl fun aP8 hS=>ZX ?_
 refine iG hS (fun _ hS=>ZE hS) fun h66 hS => ?_
 obtain ⟨b72,hS⟩:=bX hS
 refine Zk ?_
 refine cI (ZO ?_)
 refine Zl ?_
 refine VC.bD [2,3,6,12,13] (ZX ?_)
 exact HB hS (I8 (⟨aA.aU,aA.aS,aA.aZ,aA.aH,aA.aG,aA.aR,aA.aM,aA.aT,aA.aN,aA.aP,(aA.aO+1),aA.aJ,aA.aD,aA.aE,aA.aK,aA.aQ,aA.aW,aA.aX,aA.bF,aA.aY,aA.time⟩:aL) NY XW aBw).out fun a7s hS=>ZE hS
instance ML (aA:aL) :
 jG Tryz.prog 104 [.agg (aI aA).toArray] (Sh.tZ aA.pl) (aA.m.and Gl) (X:=aL×Bool×Er) (fun x => .tuple #[.agg (bB.enc x.1).toArray,.bool x.2.1,x.2.2.val]) (fun x=>(x.1.pl,x.2.1,x.2.2.pl)) (fun x=>(x.1.m.and x.2.2.ok)):=by
 refine jO Tryz.func104 Tryz.ntmps104 fun r hS c => ?_
 unfold Sh.tZ at hS
 refine cI ?_
 refine qC (aI aA) fun iS => ?_
 refine dG fun B4=>ZX ?_
 refine Zq (Zb ?_)
 refine VC.iJb [1,2] (fun (w_3:aL)=>w_3.pl) (fun w_3 ρ=>ρ) (fun (w_3:aL)=>w_3.m) iS (fun (w_3:aL)=>(aI w_3)) (aA:aL) [1,2] hS ?_
 rintro w_3 m1 y1 hS hK1
 refine Zq (ZX ?_)
 refine Zc hS (fun h19 hS => ?_) (fun h19 hS => ?_)
 ·
  refine Zk ?_
  refine Zb (Zq ?_)
  refine hU [(0,true),(1,true),(2,true),(3,true),(4,true),(5,true),(6,true),(7,true),(8,true),(9,true),(10,true),(11,false),(12,false),(13,true)] ?_
  refine ZX ?_
  obtain ⟨fF,aDY,aAB,hS⟩:=gQ hS
  refine Zw rfl (jY (s:=w_3.aP) Tryz.underlying24 NC rfl rfl aDY (bQ aDY aAB)) ?_
  refine Zw rfl (sR  (s:=w_3.aP) TK rfl rfl aAB) ?_
  obtain ⟨b30,hS⟩:=bX hS
  refine ZX ?_
  refine VD.a1l rfl Tryz.underlying24 NC rfl rfl b30.1 (b30.2) (by decide) fun KH a0R Qs30_5 => ?_
  replace hS:=dR a0R hS
  refine VD.one rfl (dG fun O5 => ?_)
  refine QA [(10,KH.val),(9,w_3.aP.val),(8,ptr iS 9),(7,ptr iS 5),(6,ptr iS 0),(5,.agg #[str fF.verb,i64 fF.cF,str fF.text]),(4,ptr w_3.aP.b (w_3.aP.o+(0:Int).toNat*bB.sz bJ+0)),(3,w_3.aP.val),(2,ptr iS 9),(1,ptr iS 5),(0,ptr iS 0)] (bR.cons rfl ((Qs30_5 rfl rfl)) (bR.cons rfl (nI aDN rfl rfl) (bR.cons rfl (bY TN rfl) (bR.cons rfl (bY AV rfl) (bR.cons rfl (bY nU rfl) (bR.cons rfl (sR (s:=w_3.aP) TK rfl rfl aAB) (bR.cons rfl (jY (s:=w_3.aP) Tryz.underlying24 NC rfl rfl aDY (bQ aDY aAB)) (bR.cons rfl (nI aDN rfl rfl) (bR.cons rfl (bY TN rfl) (bR.cons rfl (bY AV rfl) (bR.cons rfl (bY nU rfl) bR.nil))))))))))) ?_
  refine VD.one rfl ?_
  refine Zv  (vc:=[str fF.verb,i64 fF.cF,str fF.text]) (cs':=[str fF.verb,i64 fF.cF,str fF.text]) rfl NC ?_
  refine QA [(10,KH.val),(9,w_3.aP.val),(8,ptr iS 9),(7,ptr iS 5),(6,ptr iS 0)] (bR.cons rfl ((Qs30_5 rfl rfl)) (bR.cons rfl (nI aDN rfl rfl) (bR.cons rfl (bY TN rfl) (bR.cons rfl (bY AV rfl) (bR.cons rfl (bY nU rfl) bR.nil))))) ?_
  refine ZD ?_
  refine xE ?_
  refine VC.bD [1,2,5,6] (Zq (ZX ?_))
  refine Zc hS (fun h33 hS => ?_) (fun h33 hS => ?_)
  ·
   refine cI (ZO ?_)
   refine Zl ?_
   refine VC.bD [1,2] ?_
   refine VC.aQS (⟨w_3.aU,w_3.aS,w_3.aZ,w_3.aH,w_3.aG,w_3.aR,w_3.aM,w_3.aT,w_3.aN,KH,w_3.aO,w_3.aJ,w_3.aD,w_3.aE,w_3.aK,w_3.aQ,w_3.aW,w_3.aX,w_3.bF,w_3.aY,w_3.time⟩:aL) [1,2] (fun _ _ h=>h) (go2 hS hK1) rfl
  refine ZX ?_
  refine fN hS rfl fun ⟨oX,a9L⟩ hS => ?_
  try dsimp only
  refine ZX ?_
  refine dG fun R9=>ZO ?_
  refine Zl ?_
  refine VC.bD [1,2,5,6,7] ?_
  refine VC.wT (S:=Nat×Nat×Er×aL×cQ) (fun sg=>((),(),sg.2.2.1.pl,sg.2.2.2.1.pl,sg.2.2.2.2.pl)) (fun sg=>[(1,ptr iS 0),(2,ptr B4 0),(5,ptr O5 0),(6,KH.val),(9,ptr sg.1 0),(10,ptr sg.2.1 0),(11,sg.2.2.1.val)]) (fun sg=>(sg.2.2.1.ok.and (sg.2.2.2.1.m.and sg.2.2.2.2.m))) (fun sg=>Ow.star (bM R9 [oX.tree.val,oX.parents.val,i64 oX.time,str oX.text] 61) (Ow.star (bM O5 [str fF.verb,i64 fF.cF,str fF.text] 101) (Ow.star (bM B4 [.slice none 0 0,.slice none 0 0,.slice none 0 0,str [],i64 0,str [],i64 0,str [],.slice none 0 0,.slice none 0 0,i64 0,str [],str [],i64 0,.slice none 0 0,.slice none 0 0,.slice none 0 0,.slice none 0 0,.slice none 0 0,.slice none 0 0,i64 0] 49) (Ow.star (bM iS (aI w_3) 49) (Ow.star (bM sg.1 (aI sg.2.2.2.1) 49) (Ow.star (bM sg.2.1 [sg.2.2.2.2.files.val,sg.2.2.2.2.entries.val,sg.2.2.2.2.conflicts.val] 232) (Ow.emp))))))) hS ?_ ?_
  ·
   intro k15 hS
   refine VC.GA (n:=12) (listed:=bl 20 495) [(0,true),(1,true),(2,true),(3,true),(5,true),(6,true),(7,true),(8,true)] mixed (by kernel_rfl) (by kernel_rfl) (by kernel_rfl) (by kernel_rfl) ?_
   refine VD.q rfl (rQ qN rfl rfl) (by decide) ?_
   refine VD.q rfl (rQ qN rfl rfl) (by decide) ?_
   refine VD.q rfl (bY BF rfl) (by decide) ?_
   refine VD.q rfl (nI v8 rfl rfl) (by decide) ?_
   refine VD.q rfl (bY JO rfl) (by decide) ?_
   refine VD.q rfl (nI z8 rfl rfl) (by decide) ?_
   refine VD.q rfl (bY BF rfl) (by decide) ?_
   refine VD.q rfl (nI v8 rfl rfl) (by decide) ?_
   obtain ⟨aPO,TH,hS⟩:=dU hS
   obtain ⟨b55,hS⟩:=bX hS
   obtain ⟨K8,CB,hS⟩:=dU hS
   refine VD.SY fun hcl => ?_
   refine VG.fork (l:=[4,15,16]) (n:=11) (by kernel_rfl) rfl fun i hi => ?_
   obtain rfl | rfl | rfl:i=4∨i=15∨i=16:=by simpa using hi
   ·
    refine pX.of rfl ?_
    refine VL.jF ((A6 w_3 fF.cF).out TH) rfl (by decide) ?_
    rintro nH rfl
    try dsimp only
    refine zB (bl 20 511) (Pk 8 (Pk 7 (Pk 6 (Pk 5 (Pk 0 Pz))))) ?_
    refine VG.first (n:=10) (listed' := #[true,true,true,true,true,true,true,true,true,true,false,false,false,false,false,false,false,false,false,false]) [(9,true)] (by kernel_rfl) (eF (by kernel_rfl)) (by kernel_rfl) (by kernel_rfl) ?_
    refine VD.q rfl (eT (yT fF.cF b55) rfl (fun _ _=>rfl)) (by decide) ?_
    refine VD.SY fun hcl => ?_
    refine VG.fork (l:=[10,15,16]) (n:=9) (by kernel_rfl) rfl fun i hi => ?_
    obtain rfl | rfl | rfl:i=10∨i=15∨i=16:=by simpa using hi
    ·
     refine pX.of rfl ?_
     refine VL.jF ((gL w_3 nH oX.tree (sO fF.cF)).out CB) rfl (by decide) ?_
     rintro ⟨dN,bG,jN⟩ rfl
     try dsimp only
     refine zB (bl 20 2047) Pz ?_
     refine VG.first (n:=5) (listed' := #[true,true,true,true,true,true,true,true,true,true,true,true,true,true,true,false,false,false,false,false]) [(11,true),(12,true),(13,true),(14,true)] (by kernel_rfl) (eF (by kernel_rfl)) (by kernel_rfl) (by kernel_rfl) ?_
     refine VD.q rfl (fR rfl) (by decide) ?_
     refine VD.q rfl (HZ rfl rfl) (by decide) ?_
     refine VD.q rfl (HZ rfl rfl) (by decide) ?_
     refine VD.q rfl (HZ rfl rfl) (by decide) ?_
     refine VD.SY fun hcl => ?_
     refine VG.fork (l:=[15,16]) (n:=4) (by kernel_rfl) rfl fun i hi => ?_
     obtain rfl | rfl:i=15∨i=16:=by simpa using hi
     ·
      refine pX.of rfl ?_
      refine dG fun pM => ?_
      refine zB (bl 20 65535) (Pk 14 (Pk 13 (Pk 12 (Pk 11 Pz)))) ?_
      refine VG.ord [(16,false),(17,false),(18,false),(19,true)] (by kernel_rfl) (eF (by kernel_rfl)) (by kernel_rfl) ?_
      refine VD.one rfl (dG fun mX=>eL (Pk 14 (Pk 13 (Pk 12 (Pk 11 Pz)))) ?_)
      refine VD.one rfl ?_
      refine Zv  (vc:=(aI dN)) (cs':=(aI dN)) rfl qR ?_
      refine eL (Pk 14 (Pk 13 Pz)) ?_
      refine VD.one rfl ?_
      refine Zv  (vc:=[bG.files.val,bG.entries.val,bG.conflicts.val]) (cs':=[bG.files.val,bG.entries.val,bG.conflicts.val]) rfl tG ?_
      refine eL (Pk 14 Pz) ?_
      refine ZX ?_
      refine VD.mt (pM,mX,jN,(dN:aL),(⟨bG.files,bG.entries,bG.conflicts⟩:cQ)) [1,2,5,6,9,10,11] (fun _ _ h=>h) hS rfl
     refine pX.of rfl ?_
     refine dG fun mX => ?_
     refine zB (bl 20 98303) (Pk 14 (Pk 13 (Pk 12 (Pk 11 Pz)))) ?_
     refine VG.ord [(15,false),(17,false),(18,false),(19,true)] (by kernel_rfl) (eF (by kernel_rfl)) (by kernel_rfl) ?_
     refine VD.one rfl (dG fun pM=>eL (Pk 14 (Pk 13 (Pk 12 (Pk 11 Pz)))) ?_)
     refine VD.one rfl ?_
     refine Zv  (vc:=(aI dN)) (cs':=(aI dN)) rfl qR ?_
     refine eL (Pk 14 (Pk 13 Pz)) ?_
     refine VD.one rfl ?_
     refine Zv  (vc:=[bG.files.val,bG.entries.val,bG.conflicts.val]) (cs':=[bG.files.val,bG.entries.val,bG.conflicts.val]) rfl tG ?_
     refine eL (Pk 14 Pz) ?_
     refine ZX ?_
     refine VD.mt (pM,mX,jN,(dN:aL),(⟨bG.files,bG.entries,bG.conflicts⟩:cQ)) [1,2,5,6,9,10,11] (fun _ _ h=>h) hS rfl
    ·
     refine pX.of rfl ?_
     refine dG fun pM => ?_
     refine VL.ER (D':=[(9,str (sO fF.cF)),(8,i64 fF.cF),(7,ptr O5 1),(6,oX.tree.val),(5,ptr R9 0),(0,.agg (aI w_3).toArray)]) (listed' := #[true,true,true,true,true,true,true,true,true,true,false,false,false,false,false,true,false,false,false,false]) (bR.cons rfl (eT (yT fF.cF b55) rfl (fun _ _=>rfl)) (bR.cons rfl (nI v8 rfl rfl) (bR.cons rfl (bY BF rfl) (bR.cons rfl (nI z8 rfl rfl) (bR.cons rfl (bY JO rfl) (bR.cons rfl (rQ qN rfl rfl) (bR.nil))))))) (by kernel_rfl) (by kernel_rfl) ?_
     refine VG.fork (l:=[10,16]) (n:=8) (by kernel_rfl) rfl fun i hi => ?_
     obtain rfl | rfl:i=10∨i=16:=by simpa using hi
     ·
      refine pX.of rfl ?_
      refine VL.jF ((gL w_3 nH oX.tree (sO fF.cF)).out CB) rfl (by decide) ?_
      rintro ⟨dN,bG,jN⟩ rfl
      try dsimp only
      refine zB (bl 20 34815) Pz ?_
      refine VG.ord [(11,true),(12,true),(13,true),(14,true),(16,false),(17,false),(18,false),(19,true)] (by kernel_rfl) (eF (by kernel_rfl)) (by kernel_rfl) ?_
      refine ZX ?_
      refine VD.one rfl (dG fun mX=>eL (Pk 14 (Pk 13 (Pk 12 (Pk 11 Pz)))) ?_)
      refine VD.one rfl ?_
      refine Zv  (vc:=(aI dN)) (cs':=(aI dN)) rfl qR ?_
      refine eL (Pk 14 (Pk 13 Pz)) ?_
      refine VD.one rfl ?_
      refine Zv  (vc:=[bG.files.val,bG.entries.val,bG.conflicts.val]) (cs':=[bG.files.val,bG.entries.val,bG.conflicts.val]) rfl tG ?_
      refine eL (Pk 14 Pz) ?_
      refine ZX ?_
      refine VD.mt (pM,mX,jN,(dN:aL),(⟨bG.files,bG.entries,bG.conflicts⟩:cQ)) [1,2,5,6,9,10,11] (fun _ _ h=>h) hS rfl
     refine pX.of rfl ?_
     refine dG fun mX => ?_
     refine VL.ER (D':=[(9,str (sO fF.cF)),(8,i64 fF.cF),(7,ptr O5 1),(6,oX.tree.val),(5,ptr R9 0),(0,.agg (aI w_3).toArray)]) (listed' := #[true,true,true,true,true,true,true,true,true,true,false,false,false,false,false,true,true,false,false,false]) (bR.cons rfl (eT (yT fF.cF b55) rfl (fun _ _=>rfl)) (bR.cons rfl (nI v8 rfl rfl) (bR.cons rfl (bY BF rfl) (bR.cons rfl (nI z8 rfl rfl) (bR.cons rfl (bY JO rfl) (bR.cons rfl (rQ qN rfl rfl) (bR.nil))))))) (by kernel_rfl) (by kernel_rfl) ?_
     refine VG.ord [(10,false),(11,true),(12,true),(13,true),(14,true),(17,false),(18,false),(19,true)] (by kernel_rfl) (eF (by kernel_rfl)) (by kernel_rfl) ?_
     refine VD.one rfl ?_
     refine VL.jF ((gL w_3 nH oX.tree (sO fF.cF)).out CB) rfl (by decide) ?_
     rintro ⟨dN,bG,jN⟩ rfl
     try dsimp only
     refine eY ?_
     refine ZX ?_
     refine VD.one rfl ?_
     refine Zv  (vc:=(aI dN)) (cs':=(aI dN)) rfl qR ?_
     refine eL (Pk 14 (Pk 13 Pz)) ?_
     refine VD.one rfl ?_
     refine Zv  (vc:=[bG.files.val,bG.entries.val,bG.conflicts.val]) (cs':=[bG.files.val,bG.entries.val,bG.conflicts.val]) rfl tG ?_
     refine eL (Pk 14 Pz) ?_
     refine ZX ?_
     refine VD.mt (pM,mX,jN,(dN:aL),(⟨bG.files,bG.entries,bG.conflicts⟩:cQ)) [1,2,5,6,9,10,11] (fun _ _ h=>h) hS rfl
    refine pX.of rfl ?_
    refine dG fun mX => ?_
    refine VL.ER (D':=[(9,str (sO fF.cF)),(8,i64 fF.cF),(7,ptr O5 1),(6,oX.tree.val),(5,ptr R9 0),(0,.agg (aI w_3).toArray)]) (listed' := #[true,true,true,true,true,true,true,true,true,true,false,false,false,false,false,false,true,false,false,false]) (bR.cons rfl (eT (yT fF.cF b55) rfl (fun _ _=>rfl)) (bR.cons rfl (nI v8 rfl rfl) (bR.cons rfl (bY BF rfl) (bR.cons rfl (nI z8 rfl rfl) (bR.cons rfl (bY JO rfl) (bR.cons rfl (rQ qN rfl rfl) (bR.nil))))))) (by kernel_rfl) (by kernel_rfl) ?_
    refine VG.fork (l:=[10,15]) (n:=8) (by kernel_rfl) rfl fun i hi => ?_
    obtain rfl | rfl:i=10∨i=15:=by simpa using hi
    ·
     refine pX.of rfl ?_
     refine VL.jF ((gL w_3 nH oX.tree (sO fF.cF)).out CB) rfl (by decide) ?_
     rintro ⟨dN,bG,jN⟩ rfl
     try dsimp only
     refine zB (bl 20 67583) Pz ?_
     refine VG.ord [(11,true),(12,true),(13,true),(14,true),(15,false),(17,false),(18,false),(19,true)] (by kernel_rfl) (eF (by kernel_rfl)) (by kernel_rfl) ?_
     refine ZX ?_
     refine VD.one rfl (dG fun pM=>eL (Pk 14 (Pk 13 (Pk 12 (Pk 11 Pz)))) ?_)
     refine VD.one rfl ?_
     refine Zv  (vc:=(aI dN)) (cs':=(aI dN)) rfl qR ?_
     refine eL (Pk 14 (Pk 13 Pz)) ?_
     refine VD.one rfl ?_
     refine Zv  (vc:=[bG.files.val,bG.entries.val,bG.conflicts.val]) (cs':=[bG.files.val,bG.entries.val,bG.conflicts.val]) rfl tG ?_
     refine eL (Pk 14 Pz) ?_
     refine ZX ?_
     refine VD.mt (pM,mX,jN,(dN:aL),(⟨bG.files,bG.entries,bG.conflicts⟩:cQ)) [1,2,5,6,9,10,11] (fun _ _ h=>h) hS rfl
    refine pX.of rfl ?_
    refine dG fun pM => ?_
    refine VL.ER (D':=[(9,str (sO fF.cF)),(8,i64 fF.cF),(7,ptr O5 1),(6,oX.tree.val),(5,ptr R9 0),(0,.agg (aI w_3).toArray)]) (listed' := #[true,true,true,true,true,true,true,true,true,true,false,false,false,false,false,true,true,false,false,false]) (bR.cons rfl (eT (yT fF.cF b55) rfl (fun _ _=>rfl)) (bR.cons rfl (nI v8 rfl rfl) (bR.cons rfl (bY BF rfl) (bR.cons rfl (nI z8 rfl rfl) (bR.cons rfl (bY JO rfl) (bR.cons rfl (rQ qN rfl rfl) (bR.nil))))))) (by kernel_rfl) (by kernel_rfl) ?_
    refine VG.ord [(10,false),(11,true),(12,true),(13,true),(14,true),(17,false),(18,false),(19,true)] (by kernel_rfl) (eF (by kernel_rfl)) (by kernel_rfl) ?_
    refine VD.one rfl ?_
    refine VL.jF ((gL w_3 nH oX.tree (sO fF.cF)).out CB) rfl (by decide) ?_
    rintro ⟨dN,bG,jN⟩ rfl
    try dsimp only
    refine eY ?_
    refine ZX ?_
    refine VD.one rfl ?_
    refine Zv  (vc:=(aI dN)) (cs':=(aI dN)) rfl qR ?_
    refine eL (Pk 14 (Pk 13 Pz)) ?_
    refine VD.one rfl ?_
    refine Zv  (vc:=[bG.files.val,bG.entries.val,bG.conflicts.val]) (cs':=[bG.files.val,bG.entries.val,bG.conflicts.val]) rfl tG ?_
    refine eL (Pk 14 Pz) ?_
    refine ZX ?_
    refine VD.mt (pM,mX,jN,(dN:aL),(⟨bG.files,bG.entries,bG.conflicts⟩:cQ)) [1,2,5,6,9,10,11] (fun _ _ h=>h) hS rfl
   ·
    refine pX.of rfl ?_
    refine dG fun pM => ?_
    refine zB (bl 20 33263) (Pk 8 (Pk 7 (Pk 6 (Pk 5 (Pk 3 (Pk 2 (Pk 1 (Pk 0 Pz)))))))) ?_
    refine VG.fork (l:=[4,16]) (n:=10) (by kernel_rfl) rfl fun i hi => ?_
    obtain rfl | rfl:i=4∨i=16:=by simpa using hi
    ·
     refine pX.of rfl ?_
     refine VL.jF ((A6 w_3 fF.cF).out TH) rfl (by decide) ?_
     rintro nH rfl
     try dsimp only
     refine zB (bl 20 33279) (Pk 8 (Pk 7 (Pk 6 (Pk 5 (Pk 0 Pz))))) ?_
     refine VG.first (n:=9) (listed' := #[true,true,true,true,true,true,true,true,true,true,false,false,false,false,false,true,false,false,false,false]) [(9,true)] (by kernel_rfl) (eF (by kernel_rfl)) (by kernel_rfl) (by kernel_rfl) ?_
     refine VD.q rfl (eT (yT fF.cF b55) rfl (fun _ _=>rfl)) (by decide) ?_
     refine VD.SY fun hcl => ?_
     refine VG.fork (l:=[10,16]) (n:=8) (by kernel_rfl) rfl fun i hi => ?_
     obtain rfl | rfl:i=10∨i=16:=by simpa using hi
     ·
      refine pX.of rfl ?_
      refine VL.jF ((gL w_3 nH oX.tree (sO fF.cF)).out CB) rfl (by decide) ?_
      rintro ⟨dN,bG,jN⟩ rfl
      try dsimp only
      refine zB (bl 20 34815) Pz ?_
      refine VG.ord [(11,true),(12,true),(13,true),(14,true),(16,false),(17,false),(18,false),(19,true)] (by kernel_rfl) (eF (by kernel_rfl)) (by kernel_rfl) ?_
      refine ZX ?_
      refine VD.one rfl (dG fun mX=>eL (Pk 14 (Pk 13 (Pk 12 (Pk 11 Pz)))) ?_)
      refine VD.one rfl ?_
      refine Zv  (vc:=(aI dN)) (cs':=(aI dN)) rfl qR ?_
      refine eL (Pk 14 (Pk 13 Pz)) ?_
      refine VD.one rfl ?_
      refine Zv  (vc:=[bG.files.val,bG.entries.val,bG.conflicts.val]) (cs':=[bG.files.val,bG.entries.val,bG.conflicts.val]) rfl tG ?_
      refine eL (Pk 14 Pz) ?_
      refine ZX ?_
      refine VD.mt (pM,mX,jN,(dN:aL),(⟨bG.files,bG.entries,bG.conflicts⟩:cQ)) [1,2,5,6,9,10,11] (fun _ _ h=>h) hS rfl
     refine pX.of rfl ?_
     refine dG fun mX => ?_
     refine VL.ER (D':=[(9,str (sO fF.cF)),(8,i64 fF.cF),(7,ptr O5 1),(6,oX.tree.val),(5,ptr R9 0),(0,.agg (aI w_3).toArray)]) (listed' := #[true,true,true,true,true,true,true,true,true,true,false,false,false,false,false,true,true,false,false,false]) (bR.cons rfl (eT (yT fF.cF b55) rfl (fun _ _=>rfl)) (bR.cons rfl (nI v8 rfl rfl) (bR.cons rfl (bY BF rfl) (bR.cons rfl (nI z8 rfl rfl) (bR.cons rfl (bY JO rfl) (bR.cons rfl (rQ qN rfl rfl) (bR.nil))))))) (by kernel_rfl) (by kernel_rfl) ?_
     refine VG.ord [(10,false),(11,true),(12,true),(13,true),(14,true),(17,false),(18,false),(19,true)] (by kernel_rfl) (eF (by kernel_rfl)) (by kernel_rfl) ?_
     refine VD.one rfl ?_
     refine VL.jF ((gL w_3 nH oX.tree (sO fF.cF)).out CB) rfl (by decide) ?_
     rintro ⟨dN,bG,jN⟩ rfl
     try dsimp only
     refine eY ?_
     refine ZX ?_
     refine VD.one rfl ?_
     refine Zv  (vc:=(aI dN)) (cs':=(aI dN)) rfl qR ?_
     refine eL (Pk 14 (Pk 13 Pz)) ?_
     refine VD.one rfl ?_
     refine Zv  (vc:=[bG.files.val,bG.entries.val,bG.conflicts.val]) (cs':=[bG.files.val,bG.entries.val,bG.conflicts.val]) rfl tG ?_
     refine eL (Pk 14 Pz) ?_
     refine ZX ?_
     refine VD.mt (pM,mX,jN,(dN:aL),(⟨bG.files,bG.entries,bG.conflicts⟩:cQ)) [1,2,5,6,9,10,11] (fun _ _ h=>h) hS rfl
    refine pX.of rfl ?_
    refine dG fun mX => ?_
    refine zB (bl 20 98799) (Pk 8 (Pk 7 (Pk 6 (Pk 5 (Pk 3 (Pk 2 (Pk 1 (Pk 0 Pz)))))))) ?_
    refine VG.ord [(4,false),(9,true),(10,false),(11,true),(12,true),(13,true),(14,true),(17,false),(18,false),(19,true)] (by kernel_rfl) (eF (by kernel_rfl)) (by kernel_rfl) ?_
    refine VD.one rfl ?_
    refine VL.jF ((A6 w_3 fF.cF).out TH) rfl (by decide) ?_
    rintro nH rfl
    try dsimp only
    refine eL (Pk 8 (Pk 7 (Pk 6 (Pk 5 (Pk 0 Pz))))) ?_
    refine Zw rfl (eT (yT fF.cF b55) rfl (fun _ _=>rfl)) ?_
    refine VD.one rfl ?_
    refine VL.jF ((gL w_3 nH oX.tree (sO fF.cF)).out CB) rfl (by decide) ?_
    rintro ⟨dN,bG,jN⟩ rfl
    try dsimp only
    refine eY ?_
    refine ZX ?_
    refine VD.one rfl ?_
    refine Zv  (vc:=(aI dN)) (cs':=(aI dN)) rfl qR ?_
    refine eL (Pk 14 (Pk 13 Pz)) ?_
    refine VD.one rfl ?_
    refine Zv  (vc:=[bG.files.val,bG.entries.val,bG.conflicts.val]) (cs':=[bG.files.val,bG.entries.val,bG.conflicts.val]) rfl tG ?_
    refine eL (Pk 14 Pz) ?_
    refine ZX ?_
    refine VD.mt (pM,mX,jN,(dN:aL),(⟨bG.files,bG.entries,bG.conflicts⟩:cQ)) [1,2,5,6,9,10,11] (fun _ _ h=>h) hS rfl
   refine pX.of rfl ?_
   refine dG fun mX => ?_
   refine zB (bl 20 66031) (Pk 8 (Pk 7 (Pk 6 (Pk 5 (Pk 3 (Pk 2 (Pk 1 (Pk 0 Pz)))))))) ?_
   refine VG.fork (l:=[4,15]) (n:=10) (by kernel_rfl) rfl fun i hi => ?_
   obtain rfl | rfl:i=4∨i=15:=by simpa using hi
   ·
    refine pX.of rfl ?_
    refine VL.jF ((A6 w_3 fF.cF).out TH) rfl (by decide) ?_
    rintro nH rfl
    try dsimp only
    refine zB (bl 20 66047) (Pk 8 (Pk 7 (Pk 6 (Pk 5 (Pk 0 Pz))))) ?_
    refine VG.first (n:=9) (listed' := #[true,true,true,true,true,true,true,true,true,true,false,false,false,false,false,false,true,false,false,false]) [(9,true)] (by kernel_rfl) (eF (by kernel_rfl)) (by kernel_rfl) (by kernel_rfl) ?_
    refine VD.q rfl (eT (yT fF.cF b55) rfl (fun _ _=>rfl)) (by decide) ?_
    refine VD.SY fun hcl => ?_
    refine VG.fork (l:=[10,15]) (n:=8) (by kernel_rfl) rfl fun i hi => ?_
    obtain rfl | rfl:i=10∨i=15:=by simpa using hi
    ·
     refine pX.of rfl ?_
     refine VL.jF ((gL w_3 nH oX.tree (sO fF.cF)).out CB) rfl (by decide) ?_
     rintro ⟨dN,bG,jN⟩ rfl
     try dsimp only
     refine zB (bl 20 67583) Pz ?_
     refine VG.ord [(11,true),(12,true),(13,true),(14,true),(15,false),(17,false),(18,false),(19,true)] (by kernel_rfl) (eF (by kernel_rfl)) (by kernel_rfl) ?_
     refine ZX ?_
     refine VD.one rfl (dG fun pM=>eL (Pk 14 (Pk 13 (Pk 12 (Pk 11 Pz)))) ?_)
     refine VD.one rfl ?_
     refine Zv  (vc:=(aI dN)) (cs':=(aI dN)) rfl qR ?_
     refine eL (Pk 14 (Pk 13 Pz)) ?_
     refine VD.one rfl ?_
     refine Zv  (vc:=[bG.files.val,bG.entries.val,bG.conflicts.val]) (cs':=[bG.files.val,bG.entries.val,bG.conflicts.val]) rfl tG ?_
     refine eL (Pk 14 Pz) ?_
     refine ZX ?_
     refine VD.mt (pM,mX,jN,(dN:aL),(⟨bG.files,bG.entries,bG.conflicts⟩:cQ)) [1,2,5,6,9,10,11] (fun _ _ h=>h) hS rfl
    refine pX.of rfl ?_
    refine dG fun pM => ?_
    refine VL.ER (D':=[(9,str (sO fF.cF)),(8,i64 fF.cF),(7,ptr O5 1),(6,oX.tree.val),(5,ptr R9 0),(0,.agg (aI w_3).toArray)]) (listed' := #[true,true,true,true,true,true,true,true,true,true,false,false,false,false,false,true,true,false,false,false]) (bR.cons rfl (eT (yT fF.cF b55) rfl (fun _ _=>rfl)) (bR.cons rfl (nI v8 rfl rfl) (bR.cons rfl (bY BF rfl) (bR.cons rfl (nI z8 rfl rfl) (bR.cons rfl (bY JO rfl) (bR.cons rfl (rQ qN rfl rfl) (bR.nil))))))) (by kernel_rfl) (by kernel_rfl) ?_
    refine VG.ord [(10,false),(11,true),(12,true),(13,true),(14,true),(17,false),(18,false),(19,true)] (by kernel_rfl) (eF (by kernel_rfl)) (by kernel_rfl) ?_
    refine VD.one rfl ?_
    refine VL.jF ((gL w_3 nH oX.tree (sO fF.cF)).out CB) rfl (by decide) ?_
    rintro ⟨dN,bG,jN⟩ rfl
    try dsimp only
    refine eY ?_
    refine ZX ?_
    refine VD.one rfl ?_
    refine Zv  (vc:=(aI dN)) (cs':=(aI dN)) rfl qR ?_
    refine eL (Pk 14 (Pk 13 Pz)) ?_
    refine VD.one rfl ?_
    refine Zv  (vc:=[bG.files.val,bG.entries.val,bG.conflicts.val]) (cs':=[bG.files.val,bG.entries.val,bG.conflicts.val]) rfl tG ?_
    refine eL (Pk 14 Pz) ?_
    refine ZX ?_
    refine VD.mt (pM,mX,jN,(dN:aL),(⟨bG.files,bG.entries,bG.conflicts⟩:cQ)) [1,2,5,6,9,10,11] (fun _ _ h=>h) hS rfl
   refine pX.of rfl ?_
   refine dG fun pM => ?_
   refine zB (bl 20 98799) (Pk 8 (Pk 7 (Pk 6 (Pk 5 (Pk 3 (Pk 2 (Pk 1 (Pk 0 Pz)))))))) ?_
   refine VG.ord [(4,false),(9,true),(10,false),(11,true),(12,true),(13,true),(14,true),(17,false),(18,false),(19,true)] (by kernel_rfl) (eF (by kernel_rfl)) (by kernel_rfl) ?_
   refine VD.one rfl ?_
   refine VL.jF ((A6 w_3 fF.cF).out TH) rfl (by decide) ?_
   rintro nH rfl
   try dsimp only
   refine eL (Pk 8 (Pk 7 (Pk 6 (Pk 5 (Pk 0 Pz))))) ?_
   refine Zw rfl (eT (yT fF.cF b55) rfl (fun _ _=>rfl)) ?_
   refine VD.one rfl ?_
   refine VL.jF ((gL w_3 nH oX.tree (sO fF.cF)).out CB) rfl (by decide) ?_
   rintro ⟨dN,bG,jN⟩ rfl
   try dsimp only
   refine eY ?_
   refine ZX ?_
   refine VD.one rfl ?_
   refine Zv  (vc:=(aI dN)) (cs':=(aI dN)) rfl qR ?_
   refine eL (Pk 14 (Pk 13 Pz)) ?_
   refine VD.one rfl ?_
   refine Zv  (vc:=[bG.files.val,bG.entries.val,bG.conflicts.val]) (cs':=[bG.files.val,bG.entries.val,bG.conflicts.val]) rfl tG ?_
   refine eL (Pk 14 Pz) ?_
   refine ZX ?_
   refine VD.mt (pM,mX,jN,(dN:aL),(⟨bG.files,bG.entries,bG.conflicts⟩:cQ)) [1,2,5,6,9,10,11] (fun _ _ h=>h) hS rfl
  rintro ⟨aXT,a1T,aBV,eR,aCu⟩ hS
  refine Zq (ZX ?_)
  refine qD hS (fun _ hS=>ZE hS) fun h61 hS=>Zk ?_
  refine Zq (ZX ?_)
  refine Zc hS (fun h67 hS => ?_) (fun h67 hS => ?_)
  ·
   refine VC.M3 [2,9] (fun (sg:Sv bJ×Sv bJ)=>(sg.1.l,sg.2.l)) (fun sg ρ=>ρ) (fun sg=>(sg.1.ok.and sg.2.ok)) aXT (fun sg=>[eR.aU.val,eR.aS.val,eR.aZ.val,str eR.aH,i64 eR.aG,str eR.aR,i64 eR.aM,str eR.aT,sg.1.val,sg.2.val,i64 eR.aO,str eR.aJ,str eR.aD,i64 eR.aE,eR.aK.val,eR.aQ.val,eR.aW.val,eR.aX.val,eR.bF.val,eR.aY.val,i64 eR.time]) hS ?_ ?_
   ·
    intro k20 hS
    refine VC.GA (n:=6) (listed:=bl 11 59) [(0,true),(1,true),(3,true),(4,true),(5,true)] mixed (by kernel_rfl) (by kernel_rfl) (by kernel_rfl) (by kernel_rfl) ?_
    refine VD.q rfl (fR rfl) (by decide) ?_
    refine VD.q rfl (rQ TK rfl rfl) (by decide) ?_
    refine VD.q rfl (bY nU rfl) (by decide) ?_
    refine VD.q rfl (bY AV rfl) (by decide) ?_
    refine VD.q rfl (bY TN rfl) (by decide) ?_
    obtain ⟨aDj,aJY,hS⟩:=p9 hS
    refine VD.SY fun hcl => ?_
    refine VG.fork (l:=[2,6]) (n:=5) (by kernel_rfl) rfl fun i hi => ?_
    obtain rfl | rfl:i=2∨i=6:=by simpa using hi
    ·
     refine pX.of rfl ?_
     refine VL.lit (α:=bJ) (xs:=[.tmp 69]) (vs:=[.agg #[str fF.verb,i64 fF.cF,str fF.text]]) [⟨fF.verb,fF.cF,fF.text⟩] Tryz.underlying24 aE7 (by decide) rfl rfl rfl rfl (by decide) (fun _ _ _ _=>trivial) (by decide) (fun K3 aEf => ?_) (by decide)
     obtain rfl:aDj=K3.l:=aJY.symm.trans aEf.symm
     refine zB (bl 11 63) (Pk 5 (Pk 4 (Pk 3 Pz))) ?_
     refine VG.ord [(6,false),(7,true),(8,true),(9,true),(10,false)] (by kernel_rfl) (eF (by kernel_rfl)) (by kernel_rfl) ?_
     refine VD.one rfl ?_
     refine Zv  (vc:=[KH.val]) (cs':=[eR.aU.val,eR.aS.val,eR.aZ.val,str eR.aH,i64 eR.aG,str eR.aR,i64 eR.aM,str eR.aT,eR.aN.val,KH.val,i64 eR.aO,str eR.aJ,str eR.aD,i64 eR.aE,eR.aK.val,eR.aQ.val,eR.aW.val,eR.aX.val,eR.bF.val,eR.aY.val,i64 eR.time]) rfl aH6 ?_
     refine eY ?_
     refine ZX ?_
     refine VD.one rfl ?_
     refine Zv  (vc:=[K3.val]) (cs':=[eR.aU.val,eR.aS.val,eR.aZ.val,str eR.aH,i64 eR.aG,str eR.aR,i64 eR.aM,str eR.aT,K3.val,KH.val,i64 eR.aO,str eR.aJ,str eR.aD,i64 eR.aE,eR.aK.val,eR.aQ.val,eR.aW.val,eR.aX.val,eR.bF.val,eR.aY.val,i64 eR.time]) rfl aH6 ?_
     refine eY ?_
     refine VD.mt (K3,KH) [2,9] (fun _ _ h=>h) hS rfl
    refine pX.of rfl ?_
    refine ZX ?_
    refine zB (bl 11 123) (Pk 1 Pz) ?_
    refine VG.ord [(2,false),(7,true),(8,true),(9,true),(10,false)] (by kernel_rfl) (eF (by kernel_rfl)) (by kernel_rfl) ?_
    refine VD.one rfl ?_
    refine VL.lit (α:=bJ) (xs:=[.tmp 69]) (vs:=[.agg #[str fF.verb,i64 fF.cF,str fF.text]]) [⟨fF.verb,fF.cF,fF.text⟩] Tryz.underlying24 aE7 (by decide) rfl rfl rfl rfl (by decide) (fun _ _ _ _=>trivial) (by decide) (fun K3 aEf => ?_) (by decide)
    obtain rfl:aDj=K3.l:=aJY.symm.trans aEf.symm
    refine eY ?_
    refine ZX ?_
    refine VD.one rfl ?_
    refine Zv  (vc:=[K3.val]) (cs':=[eR.aU.val,eR.aS.val,eR.aZ.val,str eR.aH,i64 eR.aG,str eR.aR,i64 eR.aM,str eR.aT,K3.val,KH.val,i64 eR.aO,str eR.aJ,str eR.aD,i64 eR.aE,eR.aK.val,eR.aQ.val,eR.aW.val,eR.aX.val,eR.bF.val,eR.aY.val,i64 eR.time]) rfl aH6 ?_
    refine eY ?_
    refine VD.mt (K3,KH) [2,9] (fun _ _ h=>h) hS rfl
   rintro ⟨aLk,aLm⟩ hS
   refine ZX ?_
   replace hS:=lQ hS hK1
   cases hS
   exact VC.ret (Z4 (⟨eR.aU,eR.aS,eR.aZ,eR.aH,eR.aG,eR.aR,eR.aM,eR.aT,aLk,aLm,eR.aO,eR.aJ,eR.aD,eR.aE,eR.aK,eR.aQ,eR.aW,eR.aX,eR.bF,eR.aY,eR.time⟩,true,(Er.no 9)) rfl)
  refine Zk ?_
  refine VC.bD [1,2,5,6,9,10] (ZX ?_)
  refine fN hS rfl fun ⟨fU,a7u⟩ hS => ?_
  try dsimp only
  refine ZO ?_
  refine Zl ?_
  refine VC.bD [1,2,5,6,9,12] (Zq (ZX ?_))
  refine iG hS (fun h88 hS => ?_) (fun h88 hS => ?_)
  ·
   refine ZX ?_
   replace hS:=lQ hS hK1
   cases hS
   exact VC.ret (Z4 (w_3,true,(Er.no 4)) rfl)
  refine Zk ?_
  refine cI (ZO ?_)
  refine Zl ?_
  refine cI (ZO ?_)
  refine Zl ?_
  refine VC.bD [1,2,5] (ZX ?_)
  refine Zc hS (fun h98 hS => ?_) (fun h98 hS => ?_)
  ·
   refine ZX ?_
   replace hS:=lQ hS hK1
   cases hS
   exact VC.ret (Z4 (⟨fU.aU,fU.aS,fU.aZ,fU.aH,fU.aG,fU.aR,fU.aM,fU.aT,fU.aN,KH,fU.aO,fU.aJ,fU.aD,fU.aE,fU.aK,fU.aQ,fU.aW,fU.aX,fU.bF,fU.aY,fU.time⟩,false,.nil) rfl)
  refine VC.aSX (⟨fU.aU,fU.aS,fU.aZ,fU.aH,fU.aG,fU.aR,fU.aM,fU.aT,fU.aN,KH,fU.aO,fU.aJ,fU.aD,fU.aE,fU.aK,fU.aQ,fU.aW,fU.aX,fU.bF,fU.aY,fU.time⟩:aL) [1,2] (fun _ _ h=>h) (go2 hS hK1) rfl
 replace hS:=lQ hS hK1
 refine Zx ?_
 refine VC.M3 [1,2] (fun (yJ:aL)=>yJ.pl) (fun yJ ρ=>ρ) (fun (yJ:aL)=>yJ.m) iS (fun (yJ:aL)=>(aI yJ)) hS ?_ ?_
 ·
  intro k25 hS
  refine cI (ZO ?_)
  refine Zl ?_
  refine VC.bD [1,2,13] (ZX ?_)
  refine qD hS (fun h105 hS => ?_) (fun h105 hS => ?_)
  ·
   refine ZX ?_
   refine fN hS rfl fun lK hS=>ZO ?_
   refine Zl ?_
   refine VC.bD [1,2,13] (Zr (ZX ?_))
   refine VL.mt (⟨lK.aU,lK.aS,lK.aZ,w_3.aJ,lK.aG,lK.aR,lK.aM,lK.aT,lK.aN,lK.aP,lK.aO,lK.aJ,lK.aD,lK.aE,lK.aK,lK.aQ,lK.aW,lK.aX,lK.bF,lK.aY,lK.time⟩:aL) [1,2] (fun _ _ h=>h) hS rfl
  refine VC.PZ (w_3:aL) [1,2] (fun _ _ h=>h) hS rfl
 rintro yJ hS
 refine cI ?_
 refine Zu (cA (vs:=[]) (cs := #[str [],i64 0,str [],.slice none 0 0,.slice none 0 0,i64 0,str [],str [],i64 0,.slice none 0 0,.slice none 0 0]) rfl (by kernel_rfl)) ?_
 refine ZX ?_
 cases hS
 exact VC.ret (Z4 (⟨yJ.aU,yJ.aS,yJ.aZ,yJ.aH,yJ.aG,[],0,[],⟨none,0,[]⟩,⟨none,0,[]⟩,0,[],[],0,⟨none,0,[]⟩,⟨none,0,[]⟩,yJ.aW,yJ.aX,yJ.bF,yJ.aY,yJ.time⟩,false,.nil) rfl)
instance aSp (aA:aL) (WQ:Sv aC) :
 jG Tryz.prog 101 [.agg (aI aA).toArray,WQ.val] (Sh.AH aA.pl WQ.l) (aA.m.and (WQ.ok.and Gl)) (X:=aL×Bool×Er) (fun x => .tuple #[.agg (bB.enc x.1).toArray,.bool x.2.1,x.2.2.val]) (fun x=>(x.1.pl,x.2.1,x.2.2.pl)) (fun x=>(x.1.m.and x.2.2.ok)):=by
 refine jO Tryz.func101 Tryz.ntmps101 fun r hS c => ?_
 unfold Sh.AH at hS
 refine cI ?_
 refine qC (aI aA) fun iB => ?_
 refine dG fun xF=>ZX ?_
 refine Zq (ZX ?_)
 refine VC.bD [1,2,4,15] (Zc hS (fun h15 hS => ?_) (fun h15 hS => ?_))
 ·
  refine Zq (ZX ?_)
  refine jU hS rfl fun tC hS=>ZX ?_
  refine iG hS (fun h18 hS => ?_) (fun h18 hS => ?_)
  ·
   refine ZX ?_
   cases hS
   exact VC.ret (Z4 (aA,false,(Er.no 8)) rfl)
  exact ZE hS
 refine Zk ?_
 refine Zq (ZX ?_)
 refine fN hS rfl fun aFH hS=>ZX ?_
 refine qD hS (fun h29 hS => ?_) (fun h29 hS => ?_)
 ·
  refine Zq ?_
  refine hU [(0,true),(1,true),(2,false),(3,false),(4,true),(5,true)] ?_
  refine ZX ?_
  refine VD.one rfl (fN hS rfl fun UF hS=>eL (Pk 0 Pz) ?_)
  refine VD.one rfl (ZX ?_)
  refine eY ?_
  exact ZE hS
 refine ZX ?_
 refine BY hS rfl fun aNQ bAJ hS=>ZX ?_
 refine dG fun bB2=>ZO ?_
 refine Zl ?_
 refine VC.bD [1,2,4,8] (ZX ?_)
 refine fN hS rfl fun ⟨iA,a9M⟩ hS => ?_
 try dsimp only
 refine ZO ?_
 refine Zl ?_
 refine VC.bD [2,4,8,9] (Zq (ZX ?_))
 refine iG hS (fun h47 hS => ?_) (fun h47 hS => ?_)
 ·
  refine ZX ?_
  cases hS
  exact VC.ret (Z4 (aA,false,(Er.no 4)) rfl)
 refine ZX ?_
 refine Zq (ZX ?_)
 refine VC.bD [4,55] (Zc hS (fun h55 hS => ?_) (fun h55 hS => ?_))
 ·
  refine ZX ?_
  cases hS
  exact VC.ret (Z4 (⟨iA.aU,iA.aS,iA.aZ,iA.aH,iA.aG,iA.aR,iA.aM,iA.aT,⟨none,0,[]⟩,iA.aP,iA.aO,iA.aJ,iA.aD,iA.aE,iA.aK,iA.aQ,iA.aW,iA.aX,iA.bF,iA.aY,iA.time⟩,false,.nil) rfl)
 refine ZX ?_
 exact HB hS (ML (⟨iA.aU,iA.aS,iA.aZ,iA.aH,iA.aG,iA.aR,iA.aM,iA.aT,⟨none,0,[]⟩,iA.aP,iA.aO,iA.aJ,iA.aD,iA.aE,iA.aK,iA.aQ,iA.aW,iA.aX,iA.bF,iA.aY,iA.time⟩:aL)).out fun ⟨a7d,a7e,a7f⟩ hS=>ZE hS
end Go.Proofs.YtaohfeokfcdojaaGreatDoor
end

section
set_option linter.unusedVariables false
namespace Go.Proofs.YtaohfeokfcdojaaGreatDoor
set_option maxHeartbeats 4000000
set_option maxRecDepth 100000
set_option synthInstance.maxSize 2000
set_option synthInstance.maxHeartbeats 1000000
open Go.RowKit Go.V
open Go.S
attribute [local irreducible] Go.V.Qt Go.V.VL Go.V.VC Go.V.HA Go.S.gd Go.S.at_ Go.S.lt Go.S.jn Go.S.go Go.S.up Go.S.iter Sh.pN Sh.DA Sh.nP Sh.kO Sh.jZ Sh.jX Sh.BG Sh.kT Sh.w8 Sh.w9 Sh.E7 Sh.zG Sh.FX Sh.FY Sh.tJ Sh.tT Sh.CU Sh.AD Sh.H8 Sh.sV Sh.qW Sh.uQ Sh.pT Sh.AH Sh.jC Sh.AI Sh.xP Sh.CX Sh.xC Sh.FA Sh.tZ Sh.MM Sh.C0 Sh.bO Sh.cL Sh.jD Sh.fY Sh.fI Sh.gZ Sh.pU Sh.qI Sh.oE Sh.mS Sh.mT
instance aSq (aA:aL) :
 jG Tryz.prog 51 [.agg (aI aA).toArray] (Sh.AI aA.pl) (aA.m.and Gl) (X:=aL×Bool×Er) (fun x => .tuple #[.agg (bB.enc x.1).toArray,.bool x.2.1,x.2.2.val]) (fun x=>(x.1.pl,x.2.1,x.2.2.pl)) (fun x=>(x.1.m.and x.2.2.ok)):=by
 refine jO Tryz.func51 Tryz.ntmps51 fun r hS c => ?_
 unfold Sh.AI at hS
 refine cI ?_
 refine qC (aI aA) fun iS => ?_
 refine dG fun B4=>ZO ?_
 refine Zl ?_
 refine VC.wT (S:=Nat×Sv aC×uC) (fun sg=>((),sg.2.1.l,sg.2.2.pl)) (fun sg=>[(1,ptr iS 0),(2,ptr B4 0),(5,ptr sg.1 0),(6,sg.2.1.val)]) (fun sg=>(sg.2.1.ok.and sg.2.2.m)) (fun sg=>Ow.star (bM B4 [.slice none 0 0,.slice none 0 0,.slice none 0 0,str [],i64 0,str [],i64 0,str [],.slice none 0 0,.slice none 0 0,i64 0,str [],str [],i64 0,.slice none 0 0,.slice none 0 0,.slice none 0 0,.slice none 0 0,.slice none 0 0,.slice none 0 0,i64 0] 49) (Ow.star (bM iS (aI aA) 49) (Ow.star (bM sg.1 (R6 sg.2.2) 39) (Ow.emp)))) hS ?_ ?_
 ·
  intro k6 hS
  refine VC.GA (n:=4) (listed:=bl 10 63) [(0,true),(1,true),(2,true),(3,true),(4,true),(5,true)] mixed (by kernel_rfl) (by kernel_rfl) (by kernel_rfl) (by kernel_rfl) ?_
  refine VD.q rfl (bY nU rfl) (by decide) ?_
  refine VD.q rfl (bY AV rfl) (by decide) ?_
  refine VD.q rfl (oY (j:=5) (n:=11) KZ rfl rfl rfl) (by decide) ?_
  refine VD.q rfl (bY nU rfl) (by decide) ?_
  refine VD.q rfl (bY ZT rfl) (by decide) ?_
  refine VD.q rfl (nI Z5 rfl rfl) (by decide) ?_
  obtain ⟨aXk,aNe,hS⟩:=dU hS
  refine VD.SY fun hcl => ?_
  refine VG.fork (l:=[6,7]) (n:=3) (by kernel_rfl) rfl fun i hi => ?_
  obtain rfl | rfl:i=6∨i=7:=by simpa using hi
  ·
   refine pX.of rfl ?_
   refine VL.jF ((SC aA.aS 0).out aNe) rfl (by decide) ?_
   rintro T7 rfl
   try dsimp only
   refine VL.ER (D':=[(2,.agg #[str aA.aR,i64 aA.aM,str aA.aT,aA.aN.val,aA.aP.val,i64 aA.aO,str aA.aJ,str aA.aD,i64 aA.aE,aA.aK.val,aA.aQ.val]),(1,ptr iS 5),(0,ptr iS 0)]) (listed' := #[true,true,true,true,true,true,true,false,false,false]) (bR.cons rfl (oY (j:=5) (n:=11) KZ rfl rfl rfl) (bR.cons rfl (bY AV rfl) (bR.cons rfl (bY nU rfl) (bR.nil)))) (by kernel_rfl) (by kernel_rfl) ?_
   refine VG.ord [(7,false),(8,false),(9,true)] (by kernel_rfl) (eF (by kernel_rfl)) (by kernel_rfl) ?_
   refine VD.one rfl (dG fun aDz => ?_)
   refine QA [(2,.agg #[str aA.aR,i64 aA.aM,str aA.aT,aA.aN.val,aA.aP.val,i64 aA.aO,str aA.aJ,str aA.aD,i64 aA.aE,aA.aK.val,aA.aQ.val]),(1,ptr iS 5),(0,ptr iS 0)] (bR.cons rfl (oY (j:=5) (n:=11) KZ rfl rfl rfl) (bR.cons rfl (bY AV rfl) (bR.cons rfl (bY nU rfl) bR.nil))) ?_
   refine VD.one rfl ?_
   refine Zv  (vc:=[str aA.aR,i64 aA.aM,str aA.aT,aA.aN.val,aA.aP.val,i64 aA.aO,str aA.aJ,str aA.aD,i64 aA.aE,aA.aK.val,aA.aQ.val]) (cs':=[str aA.aR,i64 aA.aM,str aA.aT,aA.aN.val,aA.aP.val,i64 aA.aO,str aA.aJ,str aA.aD,i64 aA.aE,aA.aK.val,aA.aQ.val]) rfl aEb ?_
   refine eY ?_
   refine ZX ?_
   refine VD.mt (aDz,T7,(⟨aA.aR,aA.aM,aA.aT,aA.aN,aA.aP,aA.aO,aA.aJ,aA.aD,aA.aE,aA.aK,aA.aQ⟩:uC)) [1,2,5,6] (fun _ _ h=>h) hS rfl
  refine pX.of rfl ?_
  refine dG fun aDz => ?_
  refine VL.ER (D':=[(5,aA.aS.val),(4,ptr iS 1),(3,ptr iS 0),(2,.agg #[str aA.aR,i64 aA.aM,str aA.aT,aA.aN.val,aA.aP.val,i64 aA.aO,str aA.aJ,str aA.aD,i64 aA.aE,aA.aK.val,aA.aQ.val]),(1,ptr iS 5),(0,ptr iS 0)]) (listed' := #[true,true,true,true,true,true,false,true,false,false]) (bR.cons rfl (nI Z5 rfl rfl) (bR.cons rfl (bY ZT rfl) (bR.cons rfl (bY nU rfl) (bR.cons rfl (oY (j:=5) (n:=11) KZ rfl rfl rfl) (bR.cons rfl (bY AV rfl) (bR.cons rfl (bY nU rfl) (bR.nil))))))) (by kernel_rfl) (by kernel_rfl) ?_
  refine VG.ord [(6,false),(8,false),(9,true)] (by kernel_rfl) (eF (by kernel_rfl)) (by kernel_rfl) ?_
  refine VD.one rfl ?_
  refine VL.jF ((SC aA.aS 0).out aNe) rfl (by decide) ?_
  rintro T7 rfl
  try dsimp only
  refine QA [(2,.agg #[str aA.aR,i64 aA.aM,str aA.aT,aA.aN.val,aA.aP.val,i64 aA.aO,str aA.aJ,str aA.aD,i64 aA.aE,aA.aK.val,aA.aQ.val]),(1,ptr iS 5),(0,ptr iS 0)] (bR.cons rfl (oY (j:=5) (n:=11) KZ rfl rfl rfl) (bR.cons rfl (bY AV rfl) (bR.cons rfl (bY nU rfl) bR.nil))) ?_
  refine VD.one rfl ?_
  refine Zv  (vc:=[str aA.aR,i64 aA.aM,str aA.aT,aA.aN.val,aA.aP.val,i64 aA.aO,str aA.aJ,str aA.aD,i64 aA.aE,aA.aK.val,aA.aQ.val]) (cs':=[str aA.aR,i64 aA.aM,str aA.aT,aA.aN.val,aA.aP.val,i64 aA.aO,str aA.aJ,str aA.aD,i64 aA.aE,aA.aK.val,aA.aQ.val]) rfl aEb ?_
  refine eY ?_
  refine ZX ?_
  refine VD.mt (aDz,T7,(⟨aA.aR,aA.aM,aA.aT,aA.aN,aA.aP,aA.aO,aA.aJ,aA.aD,aA.aE,aA.aK,aA.aQ⟩:uC)) [1,2,5,6] (fun _ _ h=>h) hS rfl
 rintro ⟨aWe,P8,fK⟩ hS
 refine Zq (Zb (ZX ?_))
 refine Zc hS (fun h14 hS => ?_) (fun h14 hS => ?_)
 ·
  refine ZX ?_
  cases hS
  exact VC.ret (Z4 (aA,false,(Er.no 7)) rfl)
 refine ZX ?_
 refine fJ hS rfl fun a8z hS=>ZX ?_
 refine VC.bD [1,2,5,6,20] (Zc hS (fun h20 hS => ?_) (fun h20 hS => ?_))
 ·
  refine ZX ?_
  cases hS
  exact VC.ret (Z4 (aA,false,(Er.no 9)) rfl)
 refine ZX ?_
 refine Zc hS (fun _ hS=>ZE hS) fun h29 hS => ?_
 refine VC.wT (S:=Bool) (fun (NZ:Bool)=>NZ) (fun (NZ:Bool)=>[(1,ptr iS 0),(2,ptr B4 0),(5,ptr aWe 0),(6,P8.val),(39,.bool NZ)]) (fun (NZ:Bool)=>Mo.tt) (fun (NZ:Bool)=>Ow.star (bM B4 [.slice none 0 0,.slice none 0 0,.slice none 0 0,str [],i64 0,str [],i64 0,str [],.slice none 0 0,.slice none 0 0,i64 0,str [],str [],i64 0,.slice none 0 0,.slice none 0 0,.slice none 0 0,.slice none 0 0,.slice none 0 0,.slice none 0 0,i64 0] 49) (Ow.star (bM iS (aI aA) 49) (Ow.star (bM aWe (R6 fK) 39) (Ow.emp)))) hS ?_ ?_
 ·
  intro k11 hS
  refine Zr (Zu (bY ZR rfl) (Zu (nI oV rfl rfl) (Zu (KF rfl rfl) (Zm ?_))))
  refine S5 43 hS (fun h43 hS => ?_) (fun h43 hS => ?_)
  ·
   refine ZX ?_
   refine VL.guard rfl rfl ?_
   refine fN hS rfl fun aRc hS => ?_
   obtain ⟨WL,aEO,hS⟩:=dU hS
   refine Zh (eT ((z6 P8 aRc).out aEO) rfl (fun _ _=>rfl)) ?_
   exact ZE hS
  exact ZE hS
 rintro NZ hS
 refine iG hS (fun h39 hS => ?_) (fun h39 hS => ?_)
 ·
  refine cI ?_
  refine Zu (cA (vs:=[]) (cs := #[str [],i64 0,str [],.slice none 0 0,.slice none 0 0,i64 0,str [],str [],i64 0,.slice none 0 0,.slice none 0 0]) rfl (by kernel_rfl)) ?_
  refine ZX ?_
  cases hS
  exact VC.ret (Z4 (⟨aA.aU,aA.aS,aA.aZ,aA.aH,aA.aG,[],0,[],⟨none,0,[]⟩,⟨none,0,[]⟩,0,[],[],0,⟨none,0,[]⟩,⟨none,0,[]⟩,aA.aW,aA.aX,aA.bF,aA.aY,aA.time⟩,false,.nil) rfl)
 exact ZE hS
instance aBc (yN:IndexEntry) (hO:Nat) (a_1:bI) :
 gS Tryz.prog 307 [.agg #[str yN.path,i64 yN.fA,i64 yN.mode,str yN.data,i64 yN.time,i64 yN.size],ptr hO 0] (Sh.tJ yN a_1) (Cells hO 0 [str a_1]) (fun r => .bool r):=by
 refine gU Tryz.func307 Tryz.ntmps307 fun r hS c => ?_
 unfold Sh.tJ at hS
 refine cI (kF fun iB=>ZX ?_)
 refine Zu (ED oV rfl rfl) ?_
 exact ZE hS
instance xW (aA:Sv IndexEntry) (dQ:Nat) (dI:bI) :
 gS Tryz.prog 246 [aA.val,.func (.func 307) #[] #[ptr dQ 0]] (Sh.gZ aA.l dI) (aA.ok.and (Cells dQ 0 [str dI])) (fun r=>i64 r):=by
 refine gU Tryz.func246 Tryz.ntmps246 fun r hS c => ?_
 unfold Sh.gZ at hS
 refine ZX ?_
 refine Zq (ZX ?_)
 refine Zb ?_
 refine VC.iJ [0,1,7] (fun (dD:Int)=>dD) (fun dD ρ=>(8,i64 dD)::ρ) 0 [8,0,1,7] hS ?_
 rintro dD m1 y1 hS hK1
 refine ZX ?_
 refine Zq (Zc hS (fun h9 hS => ?_) (fun h9 hS => ?_))
 ·
  refine Zk ?_
  refine Zq (Zb (ZX ?_))
  refine BY hS rfl fun eW oB hS=>ZX ?_
  obtain ⟨nJ,tF,hS⟩:=dU hS
  refine Zu (sQ (vs:=[.agg #[str eW.path,i64 eW.fA,i64 eW.mode,str eW.data,i64 eW.time,i64 eW.size]]) (caps:=[ptr dQ 0]) ((aBc eW dQ dI).out tF) rfl rfl (fun _ _=>rfl)) ?_
  exact ZE hS
 exact ZE hS
instance wN (aA:Sv IndexEntry) (dQ:Nat) (dI:bI) :
 gS Tryz.prog 165 [aA.val,.func (.func 307) #[] #[ptr dQ 0]] (Sh.fI aA.l dI) (aA.ok.and (Cells dQ 0 [str dI])) (fun r => .bool r):=by
 refine gU Tryz.func165 Tryz.ntmps165 fun r hS c => ?_
 unfold Sh.fI at hS
 refine ZX ?_
 obtain ⟨kK,E4,hS⟩:=dU hS
 refine Zu (lW ((xW aA dQ dI).out E4) rfl (fun _ _=>rfl)) ?_
 exact ZE hS
instance aEx (aGa:Sv IndexEntry) (p_1:bI) :
 gS Tryz.prog 258 [aGa.val,str p_1] (Sh.FY aGa.l p_1) aGa.ok (fun r => .bool r):=by
 refine gU Tryz.func258 Tryz.ntmps258 fun r hS c => ?_
 unfold Sh.FY at hS
 refine cI (kF fun rX=>ZX ?_)
 obtain ⟨o8,aMA,hS⟩:=dU hS
 refine Zu (lW ((wN aGa rX p_1).out aMA) rfl (fun _ _=>rfl)) ?_
 exact ZE hS
instance aVu (gT:Sv aC) (NX:Sv aC) (DR:Sv IndexEntry) (mW:Sv aC) :
 jG Tryz.prog 182 [gT.val,NX.val,DR.val,mW.val] (Sh.FX gT.l NX.l DR.l mW.l) (gT.ok.and (NX.ok.and (DR.ok.and mW.ok))) (X:=Sv IndexEntry×Sv aC) (fun x => .tuple #[x.1.val,x.2.val]) (fun x=>(x.1.l,x.2.l)) (fun x=>(x.1.ok.and x.2.ok)):=by
 refine jO Tryz.func182 Tryz.ntmps182 fun r hS c => ?_
 unfold Sh.FX at hS
 refine ZX ?_
 refine Zq (ZX ?_)
 refine Zb ?_
 refine VC.lU (⟨none,0,[]⟩:Sv aC) 89 ⟨rfl,rfl⟩ ?_
 refine VC.iter (S:=Sv aC×Int) (fun sg=>(sg.1.l,sg.2)) (fun sg=>[(0,gT.val),(1,NX.val),(2,DR.val),(10,sg.1.val),(15,mW.val),(16,i64 (mW.l.length:Int)),(17,i64 sg.2)]) (fun sg=>Mo.tt) (fun sg=>Ow.star (Sv.own sg.1 89) (Ow.emp)) (⟨none,0,[]⟩,0) [0,1,2,10,15,16,17] hS rfl ?_
 rintro ⟨L9,YH⟩ m1 y1 hS hK1
 refine ZX ?_
 refine Zq (Zc hS (fun h18 hS => ?_) (fun h18 hS => ?_))
 ·
  refine Zk ?_
  refine Zq (Zb (cI (BY hS rfl fun MW a9u hS=>ZX ?_)))
  refine dG fun bAj=>ZO ?_
  refine Zl ?_
  refine VC.cJ [0,1,2,10,12,15,16,17] (fun (FH:Bool)=>FH) (fun FH ρ=>(33,.bool FH)::ρ) hS ?_ ?_
  ·
   intro k6 hS
   refine Zr (ZX ?_)
   refine jU hS rfl fun aIP hS => ?_
   refine Zu (aMY Tryz.underlying307 rfl KC rfl rfl) (Zu (GU rfl) (Zm ?_))
   refine B3 27 hS (fun h27 hS => ?_) (fun h27 hS => ?_)
   ·
    refine ZX ?_
    obtain ⟨OT,aZb,hS⟩:=dU hS
    refine Zh (eT ((aEx DR MW.path).out aZb) rfl (fun _ _=>rfl)) ?_
    exact ZE hS
   exact ZE hS
  rintro FH hS
  exact ZE hS
 replace hS:=lQ hS hK1
 refine Zx ?_
 refine Zq (ZX ?_)
 refine Zb ?_
 refine VC.shut L9 89 (fun _ _ _ _=>trivial) ?_
 refine VC.iJm [1,39,40] (fun (sg:Sv aC×Int)=>(sg.1.l,sg.2)) (fun sg ρ=>(10,sg.1.val)::(41,i64 sg.2)::ρ) (fun sg=>sg.1.ok) (L9,0) [10,41,1,39,40] hS ?_
 rintro ⟨aBb,aAo⟩ m1 y1 hS hK1
 refine ZX ?_
 refine Zq (Zc hS (fun h42 hS => ?_) (fun h42 hS => ?_))
 ·
  refine Zk ?_
  refine Zq (Zb (cI (BY hS rfl fun aIq a8a hS=>ZX ?_)))
  refine dG fun a9n=>ZX ?_
  refine hU [(0,true),(1,true),(2,true),(4,true),(3,false),(5,false),(6,true)] ?_
  refine ZX ?_
  refine VD.one rfl (fN hS rfl fun a7V hS=>eL (Pk 4 Pz) ?_)
  refine VD.one rfl (fN hS rfl fun a7X hS=>eY ?_)
  exact ZE hS
 exact ZE hS
instance KG (aA:aL) (NX:Sv aC) :
 jG Tryz.prog 102 [.agg (aI aA).toArray,NX.val] (Sh.qW aA.pl NX.l) (aA.m.and NX.ok) (X:=aL) (fun x => .agg (bB.enc x).toArray) (fun x=>x.pl) (fun x=>x.m):=by
 refine jO Tryz.func102 Tryz.ntmps102 fun r hS c => ?_
 unfold Sh.qW at hS
 refine cI ?_
 refine qC (aI aA) fun iB => ?_
 refine dG fun xF=>Zl ?_
 refine Zq ?_
 refine hU [(0,true),(2,true),(3,true),(4,true),(5,true),(6,true),(7,true),(8,true),(1,false),(9,false),(10,true),(11,true),(12,true),(13,true),(14,true),(15,false),(16,true),(17,true),(18,false)] ?_
 refine ZX ?_
 refine VD.one rfl (fN hS rfl fun a1J hS=>eL (Pk 8 (Pk 7 (Pk 6 (Pk 5 (Pk 4 (Pk 3 Pz)))))) ?_)
 refine VD.one rfl (fN hS rfl fun ⟨EC,aWK⟩ hS => ?_)
 try dsimp only
 refine eY ?_
 refine ZX ?_
 refine VD.one rfl (ZX ?_)
 refine eL (Pk 12 Pz) ?_
 refine ZX ?_
 refine VD.one rfl (ZX ?_)
 refine eY ?_
 refine xE ?_
 refine VC.bD [2,4] (ZX ?_)
 cases hS
 exact VC.ret (Z4 ⟨aWK,EC,aA.aZ,aA.aH,aA.aG,aA.aR,aA.aM,aA.aT,aA.aN,aA.aP,aA.aO,aA.aJ,aA.aD,aA.aE,aA.aK,aA.aQ,aA.aW,aA.aX,aA.bF,aA.aY,aA.time⟩ rfl)
instance aYe (aA:aL) :
 jG Tryz.prog 52 [.agg (aI aA).toArray] (Sh.FA aA.pl) (aA.m.and Gl) (X:=aL×Bool×Er) (fun x => .tuple #[.agg (bB.enc x.1).toArray,.bool x.2.1,x.2.2.val]) (fun x=>(x.1.pl,x.2.1,x.2.2.pl)) (fun x=>(x.1.m.and x.2.2.ok)):=by
 refine jO Tryz.func52 Tryz.ntmps52 fun r hS c => ?_
 unfold Sh.FA at hS
 refine cI ?_
 refine qC (aI aA) fun iS => ?_
 refine dG fun B4=>ZX ?_
 refine Zu (oY (j:=5) (n:=11) KZ rfl rfl rfl) ?_
 refine dG fun Y5 => ?_
 refine Zv  (vc:=[str aA.aR,i64 aA.aM,str aA.aT,aA.aN.val,aA.aP.val,i64 aA.aO,str aA.aJ,str aA.aD,i64 aA.aE,aA.aK.val,aA.aQ.val]) (cs':=[str aA.aR,i64 aA.aM,str aA.aT,aA.aN.val,aA.aP.val,i64 aA.aO,str aA.aJ,str aA.aD,i64 aA.aE,aA.aK.val,aA.aQ.val]) rfl aEb ?_
 refine Zl ?_
 refine Zq ?_
 refine VC.cJ [1,2,5] (fun (aCF:Bool)=>aCF) (fun aCF ρ=>(16,.bool aCF)::ρ) hS (fun _ hS=>ZE hS) ?_
 rintro aCF hS
 refine iG hS (fun h16 hS => ?_) (fun h16 hS => ?_)
 ·
  refine ZX ?_
  cases hS
  exact VC.ret (Z4 (aA,false,(Er.no 7)) rfl)
 refine Zk ?_
 refine Zq ?_
 refine hU [(0,true),(1,true),(2,false),(3,false),(4,false)] ?_
 refine ZX ?_
 refine VD.one rfl (fN hS rfl fun aAU hS=>eL (Pk 0 Pz) ?_)
 refine VD.one rfl (fN hS rfl fun dS hS=>eY ?_)
 refine VD.one rfl (ZX ?_)
 refine eY ?_
 refine ZX ?_
 refine Zq (ZX ?_)
 refine jU hS rfl fun aIQ hS=>Zl ?_
 refine iG hS (fun h24 hS => ?_) (fun h24 hS => ?_)
 ·
  refine ZX ?_
  cases hS
  exact VC.ret (Z4 (aA,false,(Er.no 4)) rfl)
 refine Zk ?_
 refine VC.M3 [2] (fun (sg:Sv bJ×Sv bJ)=>(sg.1.l,sg.2.l)) (fun sg ρ=>ρ) (fun sg=>(sg.1.ok.and sg.2.ok)) B4 (fun sg=>[dS.aU.val,dS.aS.val,dS.aZ.val,str dS.aH,i64 dS.aG,str dS.aR,i64 dS.aM,str dS.aT,sg.1.val,sg.2.val,i64 dS.aO,str dS.aJ,str dS.aD,i64 dS.aE,dS.aK.val,dS.aQ.val,dS.aW.val,dS.aX.val,dS.bF.val,dS.aY.val,i64 dS.time]) hS ?_ ?_
 ·
  intro k11 hS
  refine Zb (ZX ?_)
  refine VC.bD [2,5,27] (qD hS (fun h27 hS => ?_) (fun h27 hS => ?_))
  ·
   refine cI ?_
   refine Zu (cA (vs:=[]) (cs := #[str [],i64 0,str [],.slice none 0 0,.slice none 0 0,i64 0,str [],str [],i64 0,.slice none 0 0,.slice none 0 0]) rfl (by kernel_rfl)) ?_
   refine ZX ?_
   cases hS
   exact VC.ret (Z4 (⟨dS.aU,dS.aS,dS.aZ,dS.aH,dS.aG,[],0,[],⟨none,0,[]⟩,⟨none,0,[]⟩,0,[],[],0,⟨none,0,[]⟩,⟨none,0,[]⟩,dS.aW,dS.aX,dS.bF,dS.aY,dS.time⟩,false,.nil) rfl)
  refine ZX ?_
  refine Zc hS (fun h35 hS => ?_) (fun h35 hS => ?_)
  ·
   refine Zr (ZX ?_)
   refine VL.YA B4 (cs':=[dS.aU.val,dS.aS.val,dS.aZ.val,str dS.aH,i64 dS.aG,str dS.aR,i64 dS.aM,str dS.aT,(⟨none,0,[]⟩:Sv bJ).val,dS.aP.val,i64 dS.aO,str dS.aJ,str dS.aD,i64 dS.aE,dS.aK.val,dS.aQ.val,dS.aW.val,dS.aX.val,dS.bF.val,dS.aY.val,i64 dS.time]) rfl ?_
   refine VL.mt ((⟨none,0,[]⟩:Sv bJ),dS.aP) [2] (fun _ _ h=>h) hS rfl
  refine ZX ?_
  refine VC.bD [2,5,43] (Zc hS (fun h43 hS => ?_) (fun h43 hS => ?_))
  ·
   obtain ⟨b50,hS⟩:=bX hS
   refine Zr (ZX ?_)
   refine VL.aXO Tryz.underlying24 NC rfl rfl b50.1 (b50.2) (by decide) fun bAZ aVK => ?_
   replace hS:=dR aVK hS
   exact ZE hS
  exact ZE hS
 rintro ⟨aT5,aLl⟩ hS
 refine ZX ?_
 exact HB hS (ML (⟨dS.aU,dS.aS,dS.aZ,dS.aH,dS.aG,dS.aR,dS.aM,dS.aT,aT5,aLl,dS.aO,dS.aJ,dS.aD,dS.aE,dS.aK,dS.aQ,dS.aW,dS.aX,dS.bF,dS.aY,dS.time⟩:aL)).out fun ⟨a74,a77,a78⟩ hS=>ZE hS
instance aWt (aA:aL) :
 jG Tryz.prog 53 [.agg (aI aA).toArray] (Sh.CU aA.pl) aA.m (X:=aL×Er) (fun x => .tuple #[.agg (bB.enc x.1).toArray,x.2.val]) (fun x=>(x.1.pl,x.2.pl)) (fun x=>(x.1.m.and x.2.ok)):=by
 refine jO Tryz.func53 Tryz.ntmps53 fun r hS c => ?_
 unfold Sh.CU at hS
 refine cI ?_
 refine qC (aI aA) fun iS => ?_
 refine dG fun B4=>ZX ?_
 refine Zu (oY (j:=5) (n:=11) KZ rfl rfl rfl) ?_
 refine dG fun BS => ?_
 refine Zv  (vc:=[str aA.aR,i64 aA.aM,str aA.aT,aA.aN.val,aA.aP.val,i64 aA.aO,str aA.aJ,str aA.aD,i64 aA.aE,aA.aK.val,aA.aQ.val]) (cs':=[str aA.aR,i64 aA.aM,str aA.aT,aA.aN.val,aA.aP.val,i64 aA.aO,str aA.aJ,str aA.aD,i64 aA.aE,aA.aK.val,aA.aQ.val]) rfl aEb ?_
 refine Zl ?_
 refine Zq (ZX ?_)
 refine VC.bD [1,2,4,10] (Zc hS (fun h10 hS => ?_) (fun h10 hS => ?_))
 ·
  refine ZX ?_
  cases hS
  exact VC.ret (Z4 (aA,(Er.no 7)) rfl)
 refine Zk ?_
 refine Zq ?_
 refine hU [(0,true),(1,true),(2,true),(3,true),(4,true),(5,true),(6,true),(7,true),(8,false),(9,true),(10,true),(11,false),(12,true),(13,true),(14,false)] ?_
 refine ZX ?_
 refine Zw rfl (oY (j:=7) (n:=2) KY rfl rfl rfl) ?_
 refine ZX ?_
 refine VD.one rfl ?_
 refine Zv  (vc:=[aA.aQ.val]) (cs':=[aA.aQ.val,aA.aS.val,aA.aZ.val,str aA.aH,i64 aA.aG,str aA.aR,i64 aA.aM,str aA.aT,aA.aN.val,aA.aP.val,i64 aA.aO,str aA.aJ,str aA.aD,i64 aA.aE,aA.aK.val,aA.aQ.val,aA.aW.val,aA.aX.val,aA.bF.val,aA.aY.val,i64 aA.time]) rfl aEa ?_
 refine QA [(5,.agg #[str aA.aD,i64 aA.aE]),(4,ptr BS 7),(3,aA.aK.val),(2,ptr BS 9)] (bR.cons rfl (oY (j:=7) (n:=2) KY rfl rfl rfl) (bR.cons rfl (bY aE4 rfl) (bR.cons rfl (nI Z5 rfl rfl) (bR.cons rfl (bY aJ8 rfl) bR.nil)))) ?_
 refine ZX ?_
 refine VD.one rfl ?_
 refine Zv  (vc:=[aA.aK.val]) (cs':=[aA.aQ.val,aA.aK.val,aA.aZ.val,str aA.aH,i64 aA.aG,str aA.aR,i64 aA.aM,str aA.aT,aA.aN.val,aA.aP.val,i64 aA.aO,str aA.aJ,str aA.aD,i64 aA.aE,aA.aK.val,aA.aQ.val,aA.aW.val,aA.aX.val,aA.bF.val,aA.aY.val,i64 aA.time]) rfl aVD ?_
 refine QA [(5,.agg #[str aA.aD,i64 aA.aE]),(4,ptr BS 7)] (bR.cons rfl (oY (j:=7) (n:=2) KY rfl rfl rfl) (bR.cons rfl (bY aE4 rfl) bR.nil)) ?_
 refine ZX ?_
 refine VD.one rfl ?_
 refine Zv  (vc:=[str aA.aD,i64 aA.aE]) (cs':=[aA.aQ.val,aA.aK.val,aA.aZ.val,str aA.aD,i64 aA.aE,str aA.aR,i64 aA.aM,str aA.aT,aA.aN.val,aA.aP.val,i64 aA.aO,str aA.aJ,str aA.aD,i64 aA.aE,aA.aK.val,aA.aQ.val,aA.aW.val,aA.aX.val,aA.bF.val,aA.aY.val,i64 aA.time]) rfl aVE ?_
 refine eY ?_
 refine xE ?_
 refine VC.bD [1,2,4] ?_
 refine VC.M3 [1,2] (fun (EI:aL)=>EI.pl) (fun EI ρ=>ρ) (fun (EI:aL)=>EI.m) iS (fun (EI:aL)=>(aI EI)) hS ?_ ?_
 ·
  intro k5 hS
  refine ZX ?_
  refine qD hS (fun h28 hS => ?_) (fun h28 hS => ?_)
  ·
   refine Zr (ZX ?_)
   refine HB hS (aAa (⟨aA.aQ,aA.aK,aA.aZ,aA.aD,aA.aE,aA.aR,aA.aM,aA.aT,aA.aN,aA.aP,aA.aO,aA.aJ,aA.aD,aA.aE,aA.aK,aA.aQ,aA.aW,aA.aX,aA.bF,aA.aY,aA.time⟩:aL) aA.aD aA.aE).out fun aWa hS=>ZX ?_
   refine VL.mt (aWa:aL) [1,2] (fun _ _ h=>h) hS rfl
  refine VC.PZ (⟨aA.aQ,aA.aK,aA.aZ,aA.aD,aA.aE,aA.aR,aA.aM,aA.aT,aA.aN,aA.aP,aA.aO,aA.aJ,aA.aD,aA.aE,aA.aK,aA.aQ,aA.aW,aA.aX,aA.bF,aA.aY,aA.time⟩:aL) [1,2] (fun _ _ h=>h) hS rfl
 rintro EI hS
 refine cI ?_
 refine Zu (cA (vs:=[]) (cs := #[str [],i64 0,str [],.slice none 0 0,.slice none 0 0,i64 0,str [],str [],i64 0,.slice none 0 0,.slice none 0 0]) rfl (by kernel_rfl)) ?_
 refine ZX ?_
 cases hS
 exact VC.ret (Z4 (⟨EI.aU,EI.aS,EI.aZ,EI.aH,EI.aG,[],0,[],⟨none,0,[]⟩,⟨none,0,[]⟩,0,[],[],0,⟨none,0,[]⟩,⟨none,0,[]⟩,EI.aW,EI.aX,EI.bF,EI.aY,EI.time⟩,.nil) rfl)
instance C2 (n_0:iY) :
 gS Tryz.prog 26 [.agg (pL n_0).toArray] (Sh.pU n_0.pl) n_0.m (fun r=>str r):=by
 refine gU Tryz.func26 Tryz.ntmps26 fun r hS c => ?_
 unfold Sh.pU at hS
 refine cI ?_
 refine qC (pL n_0) fun iS => ?_
 refine ZX ?_
 refine dG fun oU=>ZX ?_
 refine VL.lU (⟨none,0,[]⟩:Sv UInt8) 5 ⟨rfl,rfl⟩ ?_
 refine VL.YA oU (cs':=[(⟨none,0,[]⟩:Sv UInt8).val]) rfl ?_
 refine x6 hS (J6 oU (⟨(⟨none,0,[]⟩:Sv UInt8)⟩:dX) n_0).out fun fW hS=>ZX ?_
 refine fJ hS rfl fun a1K hS => ?_
 refine Zu (aWh (s:=a1K) Tryz.underlying109 Tryz.underlying5 Tryz.underlying9 rfl) ?_
 exact ZE hS
instance aY4 (dY:Sv bI) :
 uL Tryz.prog 191 [dY.val] (Sh.E7 dY.l) dY.ok (Ow.emp) (X:=Sv bI×bI) (fun x => .tuple #[x.1.val,str x.2]) (fun x=>(x.1.l,x.2)) (fun x=>Mo.tt) (fun x=>Sv.own x.1 9):=by
 refine uV Tryz.func191 Tryz.ntmps191 fun r hS c => ?_
 unfold Sh.E7 at hS
 obtain ⟨b7,hS⟩:=bX hS
 refine ZX ?_
 refine Zq ?_
 refine hU [(0,true),(1,true),(2,true),(5,true),(6,true),(7,true),(8,true),(3,false),(4,false),(9,true),(10,true)] ?_
 obtain ⟨b10,hS⟩:=bX hS
 refine ZX ?_
 refine VD.a4q rfl Tryz.underlying45 wU rfl rfl b10.1 (b10.2) (by decide) fun bAy aZx Qs10_1 => ?_
 replace hS:=dR aZx hS
 refine ZX ?_
 obtain ⟨VE,K0,I4,hS⟩:=gQ hS
 refine Zw rfl (jY (s:=dY) Tryz.underlying45 wU rfl rfl K0 (bQ K0 I4)) ?_
 refine Zw rfl (JZ  (s:=dY) oV rfl I4 rfl) ?_
 refine VD.one rfl (fJ hS rfl fun aKn hS => ?_)
 refine QA [(8,str VE),(7,ptr dY.b (dY.o+(((dY.l.length:Int) - 1)).toNat*bB.sz bI+0))] (bR.cons rfl (JZ (s:=dY) oV rfl I4 rfl) (bR.cons rfl (jY (s:=dY) Tryz.underlying45 wU rfl rfl K0 (bQ K0 I4)) bR.nil)) ?_
 refine VD.one rfl (fJ hS rfl fun a8l hS => ?_)
 refine QA [(8,str VE),(7,ptr dY.b (dY.o+(((dY.l.length:Int) - 1)).toNat*bB.sz bI+0))] (bR.cons rfl (JZ (s:=dY) oV rfl I4 rfl) (bR.cons rfl (jY (s:=dY) Tryz.underlying45 wU rfl rfl K0 (bQ K0 I4)) bR.nil)) ?_
 exact ZE hS
instance L7 (dY:oH) (GO:bI) :
 jG Tryz.prog 106 [.agg #[dY.back.val,dY.kR.val],str GO] (Sh.w9 dY.pl GO) (dY.back.ok.and dY.kR.ok) (X:=oH×bI×Int) (fun x => .tuple #[.agg (bB.enc x.1).toArray,str x.2.1,i64 x.2.2]) (fun x=>(x.1.pl,x.2.1,x.2.2)) (fun x=>x.1.m):=by
 refine jO Tryz.func106 Tryz.ntmps106 fun r hS c => ?_
 unfold Sh.w9 at hS
 refine cI (kF fun iB=>dG fun xF=>ZX ?_)
 refine Zq (ZX ?_)
 refine Zc hS (fun h12 hS => ?_) (fun h12 hS => ?_)
 ·
  refine cI ?_
  refine Zu (cA (vs:=[]) (cs := #[.slice none 0 0,.slice none 0 0]) rfl (by kernel_rfl)) ?_
  refine ZX ?_
  cases hS
  exact VC.ret (Z4 (⟨⟨none,0,[]⟩,⟨none,0,[]⟩⟩,[],10) rfl)
 refine ZX ?_
 refine fJ hS rfl fun ⟨rZ,AY⟩ hS => ?_
 try dsimp only
 refine ZO ?_
 refine Zl ?_
 refine VC.bD [1,2,4,7,8] (ZX ?_)
 refine fJ hS rfl fun aAV hS=>Zm ?_
 refine tE hS fun bBO hS=>XJ hS fun bBP hS => ?_
 refine fJ hS rfl fun aAY hS => ?_
 refine Zu (cA (vs:=[(0,rZ.val),(1,aAY.val)]) (cs := #[rZ.val,aAY.val]) rfl (by kernel_rfl)) ?_
 refine ZO ?_
 refine Zl ?_
 refine VC.bD [4,5,6] ?_
 refine VC.shut rZ 9 (fun _ _ _ _=>trivial) ?_
 refine VC.shut aAY 9 (fun _ _ _ _=>trivial) ?_
 cases hS
 exact VC.ret (Z4 (⟨rZ,aAY⟩,AY,0) rfl)
instance aS1 (aA:bI) :
 jG Tryz.prog 107 [str aA] (Sh.qI aA) Mo.tt (X:=iY×Er) (fun x => .tuple #[.agg (bB.enc x.1).toArray,x.2.val]) (fun x=>(x.1.pl,x.2.pl)) (fun x=>(x.1.m.and x.2.ok)):=by
 refine jO Tryz.func107 Tryz.ntmps107 fun r hS c => ?_
 unfold Sh.qI at hS
 refine cI (dG fun iB => ?_)
 obtain ⟨b8,hS⟩:=bX hS
 refine ZX ?_
 refine VL.s2b Tryz.underlying9 Tryz.underlying109 Tryz.underlying5 rfl b8 (by decide) fun a4o a5d => ?_
 replace hS:=dR a5d hS
 refine fJ hS rfl fun ⟨aD1,a1M⟩ hS => ?_
 try dsimp only
 refine Zu (cA (vs:=[(0,ptr aD1 0)]) (cs := #[ptr aD1 0,.bool false]) rfl (by kernel_rfl)) ?_
 refine kF fun aLj=>ZX ?_
 refine x6 hS (J5 aLj (⟨false⟩:aV) aD1 a1M) fun ⟨aWC,aWD,aWE⟩ hS => ?_
 try dsimp only
 refine dG fun O5=>ZO ?_
 refine Zl ?_
 refine VC.bD [2,4,5] (Zq (ZX ?_))
 refine x6 hS (J4 aLj aWE aD1 aWD) fun aAR hS=>ZX ?_
 refine qD hS (fun h17 hS => ?_) (fun h17 hS => ?_)
 ·
  refine cI ?_
  refine Zu (cA (vs:=[]) (cs := #[.slice none 0 0,.slice none 0 0,.slice none 0 0,str [],i64 0,str [],i64 0,str [],.slice none 0 0,.slice none 0 0,i64 0,str [],str [],i64 0,.slice none 0 0,.slice none 0 0,.slice none 0 0]) rfl (by kernel_rfl)) ?_
  refine ZX ?_
  cases hS
  exact VC.ret (Z4 (⟨⟨none,0,[]⟩,⟨none,0,[]⟩,⟨none,0,[]⟩,[],0,[],0,[],⟨none,0,[]⟩,⟨none,0,[]⟩,0,[],[],0,⟨none,0,[]⟩,⟨none,0,[]⟩,⟨none,0,[]⟩⟩,aAR) rfl)
 refine ZX ?_
 cases hS
 exact VC.ret (Z4 (aWC,.nil) rfl)
instance aYf (aA:aL) :
 jG Tryz.prog 54 [.agg (aI aA).toArray] (Sh.C0 aA.pl) aA.m (X:=aL×Er) (fun x => .tuple #[.agg (bB.enc x.1).toArray,x.2.val]) (fun x=>(x.1.pl,x.2.pl)) (fun x=>(x.1.m.and x.2.ok)):=by
 refine jO Tryz.func54 Tryz.ntmps54 fun r hS c => ?_
 unfold Sh.C0 at hS
 refine cI ?_
 refine qC (aI aA) fun iS => ?_
 refine dG fun B4=>Za ?_
 refine Zl ?_
 refine VC.wT (S:=Nat×bI×Int×Sv bI×Sv bI) (fun sg=>((),sg.2.1,sg.2.2.1,sg.2.2.2.1.l,sg.2.2.2.2.l)) (fun sg=>[(1,ptr iS 0),(2,ptr B4 0),(4,ptr sg.1 0),(5,str sg.2.1),(6,i64 sg.2.2.1)]) (fun sg=>(sg.2.2.2.1.ok.and sg.2.2.2.2.ok)) (fun sg=>Ow.star (bM B4 [.slice none 0 0,.slice none 0 0,.slice none 0 0,str [],i64 0,str [],i64 0,str [],.slice none 0 0,.slice none 0 0,i64 0,str [],str [],i64 0,.slice none 0 0,.slice none 0 0,.slice none 0 0,.slice none 0 0,.slice none 0 0,.slice none 0 0,i64 0] 49) (Ow.star (bM iS (aI aA) 49) (Ow.star (bM sg.1 [sg.2.2.2.1.val,sg.2.2.2.2.val] 47) (Ow.emp)))) hS ?_ ?_
 ·
  intro k8 hS
  refine VC.GA (n:=9) (listed:=bl 14 31) [(0,true),(1,true),(2,true),(3,true),(4,true)] mixed (by kernel_rfl) (by kernel_rfl) (by kernel_rfl) (by kernel_rfl) ?_
  refine VD.q rfl (bY TP rfl) (by decide) ?_
  refine VD.q rfl (oY (j:=18) (n:=2) VM rfl rfl rfl) (by decide) ?_
  refine VD.q rfl (bY nU rfl) (by decide) ?_
  refine VD.q rfl (oY (j:=0) (n:=17) QV rfl rfl rfl) (by decide) ?_
  obtain ⟨MS,ZJ,hS⟩:=dU hS
  refine VD.q rfl (eT ((C2 (⟨aA.aU,aA.aS,aA.aZ,aA.aH,aA.aG,aA.aR,aA.aM,aA.aT,aA.aN,aA.aP,aA.aO,aA.aJ,aA.aD,aA.aE,aA.aK,aA.aQ,aA.aW⟩:iY)).out ZJ) rfl (fun _ _=>rfl)) (by decide) ?_
  obtain ⟨G5,TG,hS⟩:=dU hS
  refine VD.SY fun hcl => ?_
  refine VG.fork (l:=[5,10]) (n:=8) (by kernel_rfl) rfl fun i hi => ?_
  obtain rfl | rfl:i=5∨i=10:=by simpa using hi
  ·
   refine pX.of rfl ?_
   refine VL.jF ((L7 (⟨aA.bF,aA.aY⟩:oH) MS).out TG) rfl (by decide) ?_
   rintro ⟨gW,CL,CM⟩ rfl
   try dsimp only
   refine zB (bl 14 63) Pz ?_
   refine VG.ord [(6,true),(7,true),(8,true),(9,true),(10,false),(11,false),(12,true),(13,true)] (by kernel_rfl) (eF (by kernel_rfl)) (by kernel_rfl) ?_
   refine ZX ?_
   refine VD.one rfl (dG fun LL=>eL (Pk 9 (Pk 8 (Pk 7 (Pk 6 Pz)))) ?_)
   refine VD.one rfl ?_
   refine Zv  (vc:=[gW.back.val,gW.kR.val]) (cs':=[gW.back.val,gW.kR.val]) rfl aB0 ?_
   refine eL (Pk 9 (Pk 8 Pz)) ?_
   refine ZX ?_
   refine VD.mt (LL,CL,CM,gW.back,gW.kR) [1,2,4,5,6] (fun _ _ h=>h) hS rfl
  refine pX.of rfl ?_
  refine dG fun LL => ?_
  refine VL.ER (D':=[(4,str MS),(3,.agg #[aA.aU.val,aA.aS.val,aA.aZ.val,str aA.aH,i64 aA.aG,str aA.aR,i64 aA.aM,str aA.aT,aA.aN.val,aA.aP.val,i64 aA.aO,str aA.aJ,str aA.aD,i64 aA.aE,aA.aK.val,aA.aQ.val,aA.aW.val]),(2,ptr iS 0),(1,.agg #[aA.bF.val,aA.aY.val]),(0,ptr iS 18)]) (listed' := #[true,true,true,true,true,false,false,false,false,false,true,false,false,false]) (bR.cons rfl (eT ((C2 (⟨aA.aU,aA.aS,aA.aZ,aA.aH,aA.aG,aA.aR,aA.aM,aA.aT,aA.aN,aA.aP,aA.aO,aA.aJ,aA.aD,aA.aE,aA.aK,aA.aQ,aA.aW⟩:iY)).out ZJ) rfl (fun _ _=>rfl)) (bR.cons rfl (oY (j:=0) (n:=17) QV rfl rfl rfl) (bR.cons rfl (bY nU rfl) (bR.cons rfl (oY (j:=18) (n:=2) VM rfl rfl rfl) (bR.cons rfl (bY TP rfl) (bR.nil)))))) (by kernel_rfl) (by kernel_rfl) ?_
  refine VG.ord [(5,false),(6,true),(7,true),(8,true),(9,true),(11,false),(12,true),(13,true)] (by kernel_rfl) (eF (by kernel_rfl)) (by kernel_rfl) ?_
  refine VD.one rfl ?_
  refine VL.jF ((L7 (⟨aA.bF,aA.aY⟩:oH) MS).out TG) rfl (by decide) ?_
  rintro ⟨gW,CL,CM⟩ rfl
  try dsimp only
  refine eY ?_
  refine ZX ?_
  refine VD.one rfl ?_
  refine Zv  (vc:=[gW.back.val,gW.kR.val]) (cs':=[gW.back.val,gW.kR.val]) rfl aB0 ?_
  refine eL (Pk 9 (Pk 8 Pz)) ?_
  refine ZX ?_
  refine VD.mt (LL,CL,CM,gW.back,gW.kR) [1,2,4,5,6] (fun _ _ h=>h) hS rfl
 rintro ⟨aV9,aAm,ZB,kL,FO⟩ hS
 refine Zq (ZX ?_)
 refine qD hS (fun h20 hS => ?_) (fun h20 hS => ?_)
 ·
  refine ZX ?_
  cases hS
  exact VC.ret (Z4 (aA,(Er.no ZB)) rfl)
 refine ZX ?_
 refine fN hS rfl fun ⟨gX,aRZ⟩ hS => ?_
 try dsimp only
 refine ZX ?_
 refine dG fun a5D=>ZO ?_
 refine Zl ?_
 refine VC.bD [1,2,4,7,8] (Zq (ZX ?_))
 refine qD hS (fun _ hS=>ZE hS) fun h30 hS=>Zk ?_
 refine Zq ?_
 refine hU [(0,true),(1,true),(2,true),(3,false),(4,true),(5,false)] ?_
 refine ZX ?_
 refine VD.one rfl (ZX ?_)
 refine eL (Pk 1 Pz) ?_
 refine ZX ?_
 refine VD.one rfl (ZX ?_)
 refine eY ?_
 refine xE ?_
 refine VC.bD [1,2] (ZX ?_)
 cases hS
 exact VC.ret (Z4 (⟨gX.work,gX.index,gX.refs,gX.cH,gX.cB,gX.fG,gX.eO,gX.fH,gX.dJ,gX.eB,gX.fD,gX.dW,gX.bV,gX.bW,gX.dK,gX.eD,gX.gD,aA.aX,kL,FO,aA.time⟩,.nil) rfl)
instance aVq (dY:Sv bI) (s_1:bI) :
 jG Tryz.prog 57 [dY.val,str s_1] (Sh.zG dY.l s_1) dY.ok (X:=Sv bI) (fun x=>x.val) (fun x=>x.l) (fun x=>x.ok):=by
 refine jO Tryz.func57 Tryz.ntmps57 fun r hS c => ?_
 unfold Sh.zG at hS
 refine ZX ?_
 refine fJ hS rfl fun DI hS=>Zm ?_
 refine tE hS fun a4p hS=>XJ hS fun a6F hS => ?_
 obtain ⟨b14,hS⟩:=bX hS
 refine ZX ?_
 refine Zu (aWk rfl) ?_
 refine VL.shut a6F 9 (fun _ _ _ _=>trivial) ?_
 obtain ⟨b16,hS⟩:=bX hS
 refine VL.aXO Tryz.underlying45 wU rfl rfl b16.1 (b16.2) (by decide) fun bBE a0F => ?_
 replace hS:=dR a0F hS
 exact ZE hS
instance L6 (dY:oH) (GO:bI) :
 jG Tryz.prog 108 [.agg #[dY.back.val,dY.kR.val],str GO] (Sh.w8 dY.pl GO) (dY.back.ok.and dY.kR.ok) (X:=oH×bI×Int) (fun x => .tuple #[.agg (bB.enc x.1).toArray,str x.2.1,i64 x.2.2]) (fun x=>(x.1.pl,x.2.1,x.2.2)) (fun x=>x.1.m):=by
 refine jO Tryz.func108 Tryz.ntmps108 fun r hS c => ?_
 unfold Sh.w8 at hS
 refine cI (kF fun iB=>dG fun xF=>ZX ?_)
 refine Zq (ZX ?_)
 refine Zc hS (fun h12 hS => ?_) (fun h12 hS => ?_)
 ·
  refine cI ?_
  refine Zu (cA (vs:=[]) (cs := #[.slice none 0 0,.slice none 0 0]) rfl (by kernel_rfl)) ?_
  refine ZX ?_
  cases hS
  exact VC.ret (Z4 (⟨⟨none,0,[]⟩,⟨none,0,[]⟩⟩,[],10) rfl)
 refine ZX ?_
 refine fJ hS rfl fun ⟨rZ,AY⟩ hS => ?_
 try dsimp only
 refine ZO ?_
 refine Zl ?_
 refine VC.bD [1,2,4,7,8] (ZX ?_)
 refine fN hS rfl fun aAV hS=>Zm ?_
 refine Zu (cA (vs:=[(0,aAV.val),(1,rZ.val)]) (cs := #[aAV.val,rZ.val]) rfl (by kernel_rfl)) ?_
 refine ZO ?_
 refine Zl ?_
 refine VC.bD [4,5,6] ?_
 refine VC.shut rZ 9 (fun _ _ _ _=>trivial) ?_
 cases hS
 exact VC.ret (Z4 (⟨aAV,rZ⟩,AY,0) rfl)
instance aYc (aA:aL) :
 jG Tryz.prog 55 [.agg (aI aA).toArray] (Sh.CX aA.pl) aA.m (X:=aL×Er) (fun x => .tuple #[.agg (bB.enc x.1).toArray,x.2.val]) (fun x=>(x.1.pl,x.2.pl)) (fun x=>(x.1.m.and x.2.ok)):=by
 refine jO Tryz.func55 Tryz.ntmps55 fun r hS c => ?_
 unfold Sh.CX at hS
 refine cI ?_
 refine qC (aI aA) fun iS => ?_
 refine dG fun B4=>Za ?_
 refine Zl ?_
 refine VC.wT (S:=Nat×bI×Int×Sv bI×Sv bI) (fun sg=>((),sg.2.1,sg.2.2.1,sg.2.2.2.1.l,sg.2.2.2.2.l)) (fun sg=>[(1,ptr iS 0),(2,ptr B4 0),(4,ptr sg.1 0),(5,str sg.2.1),(6,i64 sg.2.2.1)]) (fun sg=>(sg.2.2.2.1.ok.and sg.2.2.2.2.ok)) (fun sg=>Ow.star (bM B4 [.slice none 0 0,.slice none 0 0,.slice none 0 0,str [],i64 0,str [],i64 0,str [],.slice none 0 0,.slice none 0 0,i64 0,str [],str [],i64 0,.slice none 0 0,.slice none 0 0,.slice none 0 0,.slice none 0 0,.slice none 0 0,.slice none 0 0,i64 0] 49) (Ow.star (bM iS (aI aA) 49) (Ow.star (bM sg.1 [sg.2.2.2.1.val,sg.2.2.2.2.val] 47) (Ow.emp)))) hS ?_ ?_
 ·
  intro k8 hS
  refine VC.GA (n:=9) (listed:=bl 14 31) [(0,true),(1,true),(2,true),(3,true),(4,true)] mixed (by kernel_rfl) (by kernel_rfl) (by kernel_rfl) (by kernel_rfl) ?_
  refine VD.q rfl (bY TP rfl) (by decide) ?_
  refine VD.q rfl (oY (j:=18) (n:=2) VM rfl rfl rfl) (by decide) ?_
  refine VD.q rfl (bY nU rfl) (by decide) ?_
  refine VD.q rfl (oY (j:=0) (n:=17) QV rfl rfl rfl) (by decide) ?_
  obtain ⟨MS,ZJ,hS⟩:=dU hS
  refine VD.q rfl (eT ((C2 (⟨aA.aU,aA.aS,aA.aZ,aA.aH,aA.aG,aA.aR,aA.aM,aA.aT,aA.aN,aA.aP,aA.aO,aA.aJ,aA.aD,aA.aE,aA.aK,aA.aQ,aA.aW⟩:iY)).out ZJ) rfl (fun _ _=>rfl)) (by decide) ?_
  obtain ⟨G5,TG,hS⟩:=dU hS
  refine VD.SY fun hcl => ?_
  refine VG.fork (l:=[5,10]) (n:=8) (by kernel_rfl) rfl fun i hi => ?_
  obtain rfl | rfl:i=5∨i=10:=by simpa using hi
  ·
   refine pX.of rfl ?_
   refine VL.jF ((L6 (⟨aA.bF,aA.aY⟩:oH) MS).out TG) rfl (by decide) ?_
   rintro ⟨gW,CL,CM⟩ rfl
   try dsimp only
   refine zB (bl 14 63) Pz ?_
   refine VG.ord [(6,true),(7,true),(8,true),(9,true),(10,false),(11,false),(12,true),(13,true)] (by kernel_rfl) (eF (by kernel_rfl)) (by kernel_rfl) ?_
   refine ZX ?_
   refine VD.one rfl (dG fun LL=>eL (Pk 9 (Pk 8 (Pk 7 (Pk 6 Pz)))) ?_)
   refine VD.one rfl ?_
   refine Zv  (vc:=[gW.back.val,gW.kR.val]) (cs':=[gW.back.val,gW.kR.val]) rfl aB0 ?_
   refine eL (Pk 9 (Pk 8 Pz)) ?_
   refine ZX ?_
   refine VD.mt (LL,CL,CM,gW.back,gW.kR) [1,2,4,5,6] (fun _ _ h=>h) hS rfl
  refine pX.of rfl ?_
  refine dG fun LL => ?_
  refine VL.ER (D':=[(4,str MS),(3,.agg #[aA.aU.val,aA.aS.val,aA.aZ.val,str aA.aH,i64 aA.aG,str aA.aR,i64 aA.aM,str aA.aT,aA.aN.val,aA.aP.val,i64 aA.aO,str aA.aJ,str aA.aD,i64 aA.aE,aA.aK.val,aA.aQ.val,aA.aW.val]),(2,ptr iS 0),(1,.agg #[aA.bF.val,aA.aY.val]),(0,ptr iS 18)]) (listed' := #[true,true,true,true,true,false,false,false,false,false,true,false,false,false]) (bR.cons rfl (eT ((C2 (⟨aA.aU,aA.aS,aA.aZ,aA.aH,aA.aG,aA.aR,aA.aM,aA.aT,aA.aN,aA.aP,aA.aO,aA.aJ,aA.aD,aA.aE,aA.aK,aA.aQ,aA.aW⟩:iY)).out ZJ) rfl (fun _ _=>rfl)) (bR.cons rfl (oY (j:=0) (n:=17) QV rfl rfl rfl) (bR.cons rfl (bY nU rfl) (bR.cons rfl (oY (j:=18) (n:=2) VM rfl rfl rfl) (bR.cons rfl (bY TP rfl) (bR.nil)))))) (by kernel_rfl) (by kernel_rfl) ?_
  refine VG.ord [(5,false),(6,true),(7,true),(8,true),(9,true),(11,false),(12,true),(13,true)] (by kernel_rfl) (eF (by kernel_rfl)) (by kernel_rfl) ?_
  refine VD.one rfl ?_
  refine VL.jF ((L6 (⟨aA.bF,aA.aY⟩:oH) MS).out TG) rfl (by decide) ?_
  rintro ⟨gW,CL,CM⟩ rfl
  try dsimp only
  refine eY ?_
  refine ZX ?_
  refine VD.one rfl ?_
  refine Zv  (vc:=[gW.back.val,gW.kR.val]) (cs':=[gW.back.val,gW.kR.val]) rfl aB0 ?_
  refine eL (Pk 9 (Pk 8 Pz)) ?_
  refine ZX ?_
  refine VD.mt (LL,CL,CM,gW.back,gW.kR) [1,2,4,5,6] (fun _ _ h=>h) hS rfl
 rintro ⟨aV9,aAm,ZB,kL,FO⟩ hS
 refine Zq (ZX ?_)
 refine qD hS (fun h20 hS => ?_) (fun h20 hS => ?_)
 ·
  refine ZX ?_
  cases hS
  exact VC.ret (Z4 (aA,(Er.no ZB)) rfl)
 refine ZX ?_
 refine fN hS rfl fun ⟨gX,aRZ⟩ hS => ?_
 try dsimp only
 refine ZX ?_
 refine dG fun a5D=>ZO ?_
 refine Zl ?_
 refine VC.bD [1,2,4,7,8] (Zq (ZX ?_))
 refine qD hS (fun _ hS=>ZE hS) fun h30 hS=>Zk ?_
 refine Zq ?_
 refine hU [(0,true),(1,true),(2,true),(3,false),(4,true),(5,false)] ?_
 refine ZX ?_
 refine VD.one rfl (ZX ?_)
 refine eL (Pk 1 Pz) ?_
 refine ZX ?_
 refine VD.one rfl (ZX ?_)
 refine eY ?_
 refine xE ?_
 refine VC.bD [1,2] (ZX ?_)
 cases hS
 exact VC.ret (Z4 (⟨gX.work,gX.index,gX.refs,gX.cH,gX.cB,gX.fG,gX.eO,gX.fH,gX.dJ,gX.eB,gX.fD,gX.dW,gX.bV,gX.bW,gX.dK,gX.eD,gX.gD,aA.aX,kL,FO,aA.time⟩,.nil) rfl)
instance aSm (aA:aL) (hG:bI) :
 jG Tryz.prog 109 [.agg (aI aA).toArray,str hG] (Sh.AD aA.pl hG) aA.m (X:=aL×Er) (fun x => .tuple #[.agg (bB.enc x.1).toArray,x.2.val]) (fun x=>(x.1.pl,x.2.pl)) (fun x=>(x.1.m.and x.2.ok)):=by
 refine jO Tryz.func109 Tryz.ntmps109 fun r hS c => ?_
 unfold Sh.AD at hS
 refine cI ?_
 refine qC (aI aA) fun iB => ?_
 refine dG fun xF=>ZX ?_
 refine jU hS rfl fun FI hS=>ZO ?_
 refine Zl ?_
 refine VC.bD [1,2,4,7] (Zq (Zb (ZX ?_)))
 refine Zc hS (fun h14 hS => ?_) (fun h14 hS => ?_)
 ·
  refine ZX ?_
  cases hS
  exact VC.ret (Z4 (aA,(Er.no 7)) rfl)
 refine ZX ?_
 refine VC.bD [1,2,4,22] (iG hS (fun h22 hS => ?_) (fun h22 hS => ?_))
 ·
  refine ZX ?_
  cases hS
  exact VC.ret (Z4 (aA,(Er.no 6)) rfl)
 refine ZX ?_
 refine Zc hS (fun h26 hS => ?_) (fun h26 hS => ?_)
 ·
  refine ZX ?_
  cases hS
  exact VC.ret (Z4 (aA,(Er.no 4)) rfl)
 refine ZX ?_
 refine fN hS rfl fun aWc hS=>ZX ?_
 cases hS
 exact VC.ret (Z4 (aWc,.nil) rfl)
instance a1Y (aA:aL) (hG:bI) :
 jG Tryz.prog 110 [.agg (aI aA).toArray,str hG] (Sh.H8 aA.pl hG) aA.m (X:=aL×Er) (fun x => .tuple #[.agg (bB.enc x.1).toArray,x.2.val]) (fun x=>(x.1.pl,x.2.pl)) (fun x=>(x.1.m.and x.2.ok)):=by
 refine jO Tryz.func110 Tryz.ntmps110 fun r hS c => ?_
 unfold Sh.H8 at hS
 refine cI ?_
 refine qC (aI aA) fun iB => ?_
 refine dG fun xF=>ZX ?_
 refine jU hS rfl fun FI hS=>ZO ?_
 refine Zl ?_
 refine VC.bD [1,2,4,7] (Zq (Zb (ZX ?_)))
 refine iG hS (fun h14 hS => ?_) (fun h14 hS => ?_)
 ·
  refine ZX ?_
  cases hS
  exact VC.ret (Z4 (aA,(Er.no 5)) rfl)
 refine ZX ?_
 refine VC.bD [1,2,4,19] (Zc hS (fun h19 hS => ?_) (fun h19 hS => ?_))
 ·
  refine ZX ?_
  cases hS
  exact VC.ret (Z4 (aA,(Er.no 7)) rfl)
 refine ZX ?_
 refine fN hS rfl fun aW0 hS=>ZX ?_
 cases hS
 exact VC.ret (Z4 (aW0,.nil) rfl)
instance a4n (aA:aL) (cZ:l8) :
 jG Tryz.prog 192 [.agg (aI aA).toArray,.agg #[str cZ.verb,str cZ.name,i64 cZ.n,str cZ.text,.bool cZ.force,cZ.todo.val]] (Sh.MM aA.pl cZ.pl) (aA.m.and cZ.todo.ok) (X:=l5×Er) (fun x => .tuple #[.agg #[str x.1.branch,i64 x.1.cF],x.2.val]) (fun x=>(x.1,x.2.pl)) (fun x=>x.2.ok):=by
 refine jO Tryz.func192 Tryz.ntmps192 fun r hS c => ?_
 unfold Sh.MM at hS
 refine cI ?_
 refine qC (aI aA) fun iB => ?_
 refine kF fun oU=>dG fun BS=>ZX ?_
 refine Zq (ZX ?_)
 refine Zc hS (fun h12 hS => ?_) (fun h12 hS => ?_)
 ·
  refine Zq (ZX ?_)
  refine fN hS rfl fun ⟨nV,CO⟩ hS => ?_
  try dsimp only
  refine ZX ?_
  refine dG fun a4Z=>ZO ?_
  refine Zl ?_
  refine VC.bD [3,4,7] (ZX ?_)
  refine iG hS (fun h21 hS => ?_) (fun h21 hS => ?_)
  ·
   refine cI ?_
   refine Zu (cA (vs:=[]) (cs := #[str [],i64 0]) rfl (by kernel_rfl)) ?_
   refine ZX ?_
   cases hS
   exact VC.ret (Z4 (⟨[],0⟩,(Er.no 1)) rfl)
  refine ZX ?_
  refine Zu (cA (vs:=[(1,i64 cZ.n)]) (cs := #[str [],i64 cZ.n]) rfl (by kernel_rfl)) ?_
  refine ZX ?_
  cases hS
  exact VC.ret (Z4 (⟨[],cZ.n⟩,.nil) rfl)
 refine ZX ?_
 refine jU hS rfl fun YT hS=>ZO ?_
 refine Zl ?_
 refine VC.bD [2,3,4,8,9] (Zq (ZX ?_))
 refine iG hS (fun h35 hS => ?_) (fun h35 hS => ?_)
 ·
  refine cI ?_
  refine Zu (cA (vs:=[]) (cs := #[str [],i64 0]) rfl (by kernel_rfl)) ?_
  refine ZX ?_
  cases hS
  exact VC.ret (Z4 (⟨[],0⟩,(Er.no 5)) rfl)
 refine Zk ?_
 refine Zq ?_
 refine hU [(0,true),(1,true),(2,true),(3,true),(4,true),(5,true),(6,true),(7,true),(8,true),(9,true),(10,false),(11,true)] ?_
 refine ZX ?_
 refine aCk hS rfl fun aFu bAL hS => ?_
 refine ZX ?_
 refine Zw rfl (cA (vs:=[(0,str cZ.name),(1,i64 aFu.cF)]) (cs := #[str cZ.name,i64 aFu.cF]) rfl (by kernel_rfl)) ?_
 refine VD.one rfl (ZX ?_)
 refine eY ?_
 refine ZX ?_
 cases hS
 exact VC.ret (Z4 (⟨cZ.name,aFu.cF⟩,.nil) rfl)
end Go.Proofs.YtaohfeokfcdojaaGreatDoor
end
