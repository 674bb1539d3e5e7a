/- Part of the proofs of: the law TopKeeps: what is changed and not committed is there, or put aside, behind every command that does not say otherwise (any acts, any line), where what is read is of bulk at most 1048576 -/
import Derived.Test.YtaohfeokfcdojaaGreatDoorTWc
set_option linter.unusedVariables false
set_option linter.unusedSimpArgs false
set_option linter.unusedSectionVars false
section
set_option linter.unusedVariables false
namespace Go.Proofs.YtaohfeokfcdojaaGreatDoor
set_option maxHeartbeats 4000000
set_option maxRecDepth 100000
set_option synthInstance.maxSize 2000
set_option synthInstance.maxHeartbeats 1000000
open Go.RowKit Go.V
open Go.S
attribute [local irreducible] Go.V.Qt Go.V.VL Go.V.VC Go.V.HA Go.S.gd Go.S.at_ Go.S.lt Go.S.jn Go.S.go Go.S.up Go.S.iter Sh.FR Sh.BB Sh.HO Sh.nE Sh.vT Sh.uX Sh.gV Sh.eN Sh.jX Sh.wA Sh.kT Sh.jQ Sh.CE Sh.uZ Sh.DD Sh.BI Sh.FU Sh.DE Sh.x7 Sh.HU Sh.CF Sh.CG Sh.x8 Sh.vL Sh.zE Sh.D9 Sh.iH Sh.E8 Sh.DH Sh.HX Sh.tT Sh.HY Sh.qG Sh.iC Sh.iP Sh.bO Sh.cG Sh.cL Sh.fY Sh.fP Sh.iQ Sh.cP Sh.iO Sh.gA Sh.jT Sh.fE Sh.A9 Sh.sZ Sh.yF Sh.F5 Sh.DM Sh.BN Sh.xD Sh.AL Sh.AM Sh.y9
instance:KA Tryz.prog 423 (.slice 428):=⟨Tryz.underlying423⟩
instance:KA Tryz.prog 432 (.slice 436):=⟨Tryz.underlying432⟩
theorem aGI (cE:Sv bI) (b_1:Sv bI) {r:(Unit×cS)⊕(oA×Unit)} (hS:Sh.HO cE.l b_1.l=some r) :
 Ct Tryz.prog 380 [cE.val,b_1.val] (cE.ok.and b_1.ok) (Ow.emp) (X:=(Er)⊕(Nat×r9)) (fun x=>match x with | .inl x => .tuple #[.pointer none,x.val] | .inr x => .tuple #[ptr x.1 0,.nilIface]) (fun x=>match x with | .inl x=>r = .inl ((),x.pl) | .inr x=>r = .inr (x.2.pl,())) (fun x=>match x with | .inl x=>x.ok | .inr x=>(x.2.a.ok.and (x.2.b.ok.and x.2.n.ok))) (fun x=>match x with | .inl x=>Ow.emp | .inr x=>bM x.1 [x.2.a.val,x.2.b.val,x.2.n.val] 450):=by
 refine Zo Tryz.func380 Tryz.ntmps380 fun c => ?_
 unfold Sh.HO at hS
 refine ZX ?_
 refine Zq (ZX ?_)
 refine Zc hS (fun h12 hS => ?_) (fun h12 hS => ?_)
 ·
  refine ZX ?_
  refine Zu (cA (vs:=[(0,str [108,105,110,101,115]),(1,i64 0),(2,(Er.no 4).val)]) (cs := #[str [108,105,110,101,115],i64 0,(Er.no 4).val]) rfl (by kernel_rfl)) ?_
  refine kF fun aTP => ?_
  refine VL.DV aTP ?_
  refine ZX ?_
  cases hS
  exact VC.ret (Z2 (.inl (Er.fault aTP [108,105,110,101,115] 0 (Er.no 4))))
 refine Zk ?_
 refine Zq (ZX ?_)
 refine Zc hS (fun h19 hS => ?_) (fun h19 hS => ?_)
 ·
  refine ZX ?_
  refine Zu (cA (vs:=[(0,str [108,105,110,101,115]),(1,i64 1),(2,(Er.no 4).val)]) (cs := #[str [108,105,110,101,115],i64 1,(Er.no 4).val]) rfl (by kernel_rfl)) ?_
  refine kF fun aTQ => ?_
  refine VL.DV aTQ ?_
  refine ZX ?_
  cases hS
  exact VC.ret (Z2 (.inl (Er.fault aTQ [108,105,110,101,115] 1 (Er.no 4))))
 obtain ⟨b28,hS⟩:=bX hS
 obtain ⟨b31,hS⟩:=bX hS
 obtain ⟨b32,hS⟩:=bX hS
 obtain ⟨b33,hS⟩:=bX hS
 refine ZX ?_
 refine VL.make (α:=Int) (z:=0) Tryz.underlying59 a81 (by decide) rfl rfl b33.1 (Int.le_refl _) (by omega) (by omega) (by decide) (fun aM8 a0U => ?_)
 replace hS:=dR a0U hS
 refine Zu (cA (vs:=[(0,cE.val),(1,b_1.val),(2,aM8.val)]) (cs := #[cE.val,b_1.val,aM8.val]) rfl (by kernel_rfl)) ?_
 refine kF fun S7=>Za ?_
 refine Zl ?_
 refine VC.bD [0,1,6] ?_
 obtain ⟨b38,hS⟩:=bX hS
 refine Zq (ZX ?_)
 refine Zb ?_
 refine VC.iter (S:=Int×Sv Int) (fun sg=>(sg.1,sg.2.l)) (fun sg=>[(0,cE.val),(1,b_1.val),(6,ptr S7 0),(7,i64 sg.1)]) (fun sg=>Mo.tt) (fun sg=>Ow.star (bM S7 [cE.val,b_1.val,sg.2.val] 450) (Ow.star (Sv.own sg.2 3) (Ow.emp))) (((cE.l.length:Int) - 1),aM8) [0,1,6,7] hS rfl ?_
 rintro ⟨HE,aG2⟩ m1 y1 hS hK1
 refine Zq (ZX ?_)
 refine Zc hS (fun h40 hS => ?_) (fun h40 hS => ?_)
 ·
  obtain ⟨b45,hS⟩:=bX hS
  refine Zk ?_
  refine Zq (Zb (ZX ?_))
  refine Zb ?_
  refine VC.iter (S:=Int×Sv Int) (fun sg=>(sg.1,sg.2.l)) (fun sg=>[(0,cE.val),(1,b_1.val),(6,ptr S7 0),(7,i64 HE),(8,i64 sg.1)]) (fun sg=>Mo.tt) (fun sg=>Ow.star (bM S7 [cE.val,b_1.val,sg.2.val] 450) (Ow.star (Sv.own sg.2 3) (Ow.emp))) (((b_1.l.length:Int) - 1),aG2) [0,1,6,7,8] hS rfl ?_
  rintro ⟨KS,yI⟩ m2 y2 hS hK2
  refine Zq (ZX ?_)
  refine Zc hS (fun h47 hS => ?_) (fun h47 hS => ?_)
  ·
   obtain ⟨b52,hS⟩:=bX hS
   refine Zk ?_
   refine Zq (Zb (ZX ?_))
   obtain ⟨aPW,aUG,hS⟩:=dU hS
   refine Zu (lW ((xG S7 (⟨cE,b_1,yI⟩:r9) (HE+1) KS).out aUG) rfl (fun _ _=>rfl)) ?_
   obtain ⟨b58,hS⟩:=bX hS
   refine ZX ?_
   obtain ⟨aP1,aUJ,hS⟩:=dU hS
   refine Zu (lW ((xG S7 (⟨cE,b_1,yI⟩:r9) HE (KS+1)).out aUJ) rfl (fun _ _=>rfl)) ?_
   refine Zu (aWk rfl) (Za ?_)
   refine Zl ?_
   refine VC.bD [0,1,6,7,8,9] ?_
   refine VC.cJ [0,1,6,7,8] (fun (TY:Int)=>TY) (fun TY ρ=>(9,i64 TY)::ρ) hS ?_ ?_
   ·
    intro k13 hS
    refine Zq ?_
    refine hU ((List.range 9).map fun k=>(k,true)) ?_
    refine ZX ?_
    refine aCk hS rfl fun aPw a8c hS => ?_
    refine ZX ?_
    refine aCk hS rfl fun aPy a8d hS => ?_
    refine ZX ?_
    refine VC.bD [0,1,6,7,8,9,69] (Zc hS (fun h69 hS => ?_) (fun h69 hS => ?_))
    ·
     obtain ⟨b72,hS⟩:=bX hS
     obtain ⟨b74,hS⟩:=bX hS
     refine Zr (ZX ?_)
     obtain ⟨aIe,aUN,hS⟩:=dU hS
     refine Zu (lW ((xG S7 (⟨cE,b_1,yI⟩:r9) (HE+1) (KS+1)).out aUN) rfl (fun _ _=>rfl)) ?_
     exact ZE hS
    exact ZE hS
   rintro TY hS
   obtain ⟨b84,hS⟩:=bX hS
   obtain ⟨b85,hS⟩:=bX hS
   obtain ⟨b87,hS⟩:=bX hS
   refine Zr (ZX ?_)
   obtain ⟨a4P,aKh,aKE,hS⟩:=gQ hS
   refine Zu (lC (s:=yI) Tryz.underlying59 DP rfl rfl aKh (bQ aKh aKE)) ?_
   refine VL.nD (s:=yI) (T:=3) (j:=0) (vc:=[i64 TY]) (TY:Int) (by decide) rfl rfl aKE rfl DP rfl rfl (Nat.le_of_ble_eq_true rfl) rfl (fun w18 hw18 haw18 hcw18 hvw18 hbw18 how18 => ?_)
   rw [← hvw18]
   replace hS:=dR hw18 hS
   exact ZE hS
  exact ZE hS
 replace hS:=lQ hS hK1
 refine Zx ?_
 refine cI (ZO ?_)
 refine Zl ?_
 refine VC.shut aG2 3 (fun _ _ _ _=>trivial) ?_
 cases hS
 exact VC.ret (Z2 (.inr (S7,⟨cE,b_1,aG2⟩)))
instance EE (aA:Sv iL) :
 jG Tryz.prog 382 [aA.val] (Sh.iC aA.l) aA.ok (X:=Sv iL) (fun x=>x.val) (fun x=>x.l) (fun x=>x.ok):=by
 refine jO Tryz.func382 Tryz.ntmps382 fun r hS c => ?_
 unfold Sh.iC at hS
 obtain ⟨b8,hS⟩:=bX hS
 refine ZX ?_
 refine VL.SH Tryz.underlying432 aNt rfl rfl rfl b8.1 (b8.2) (by decide) fun NW rP => ?_
 replace hS:=dR rP hS
 exact ZE hS
instance WS (YC:Nat) (AK:r9) (i_1:Int) (TU:Int) :
 gS Tryz.prog 381 [ptr YC 0,i64 i_1,i64 TU] (Sh.vT AK.pl i_1 TU) (AK.m.and (Cells YC 0 [AK.a.val,AK.b.val,AK.n.val])) (fun r=>i64 r):=by
 refine gU Tryz.func381 Tryz.ntmps381 fun r hS c => ?_
 unfold Sh.vT at hS
 refine ZX ?_
 refine Zq (Zb ?_)
 refine VC.cJ [0,1,2] (fun (aGv:Bool)=>aGv) (fun aGv ρ=>(7,.bool aGv)::ρ) hS ?_ ?_
 ·
  intro k2 hS
  refine hU ((List.range 34).map fun k=>(k,true)) ?_
  refine ZX ?_
  refine Zw rfl (ED qO rfl rfl) ?_
  refine ZX ?_
  refine VD.wO 15 rfl (fun h15 => ?_) (fun h15 => ?_)
  ·
   replace hS:=KR h15 hS
   refine ZX ?_
   refine Zi rfl (ED qO rfl rfl) ?_
   refine ZX ?_
   refine VD.wO 24 rfl (fun h24 => ?_) (fun h24 => ?_)
   ·
    replace hS:=KR h24 hS
    refine ZX ?_
    refine Zi rfl (ED qO rfl rfl) ?_
    refine ZX ?_
    refine aTJ hS rfl fun aYS bAG hS => ?_
    refine ZX ?_
    refine Zi rfl (ED qO rfl rfl) ?_
    exact ZE hS
   replace hS:=W7 h24 hS
   exact ZE hS
  replace hS:=W7 h15 hS
  exact ZE hS
 rintro aGv hS
 refine iG hS (fun _ hS=>ZE hS) fun h7 hS => ?_
 refine VC.cJ [] (fun (aC0:Bool)=>aC0) (fun aC0 ρ=>(41,.bool aC0)::ρ) hS ?_ ?_
 ·
  intro k6 hS
  refine Zr (ZX ?_)
  refine Zu (ED qO rfl rfl) (Zu (J0 (s:=AK.a) Tryz.underlying45 rfl) (Zu (qU rfl rfl) (Zm ?_)))
  refine oT 49 hS (fun h49 hS => ?_) (fun h49 hS => ?_)
  ·
   refine ZX ?_
   refine Zh (ED qO rfl rfl) ?_
   refine Zh (J0 (s:=AK.b) Tryz.underlying45 rfl) ?_
   refine Zh (KE rfl rfl) ?_
   refine Zg ?_
   refine oT 57 hS (fun _ hS=>ZE hS) fun h57 hS => ?_
   obtain ⟨b60,hS⟩:=bX hS
   refine ZX ?_
   obtain ⟨aYE,aZf,hS⟩:=dU hS
   refine Zh (eT ((xG YC AK (i_1+1) TU).out aZf) rfl (fun _ _=>rfl)) ?_
   obtain ⟨b66,hS⟩:=bX hS
   refine ZX ?_
   obtain ⟨aYG,aZg,hS⟩:=dU hS
   refine Zh (eT ((xG YC AK i_1 (TU+1)).out aZg) rfl (fun _ _=>rfl)) ?_
   exact ZE hS
  exact ZE hS
 rintro aC0 hS
 exact ZE hS
instance aT9 (cE:Sv bI) (b_1:Sv bI) :
 jG Tryz.prog 373 [cE.val,b_1.val] (Sh.FR cE.l b_1.l) (cE.ok.and b_1.ok) (X:=Sv iL×Er) (fun x => .tuple #[x.1.val,x.2.val]) (fun x=>(x.1.l,x.2.pl)) (fun x=>(x.1.ok.and x.2.ok)):=by
 refine jO Tryz.func373 Tryz.ntmps373 fun r hS c => ?_
 unfold Sh.FR at hS
 refine ZX ?_
 obtain ⟨YM,aZQ,hS⟩:=dU hS
 refine VL.nW (aGI cE b_1 aZQ) rfl (by decide) ?_
 rintro (PN | ⟨PN,MB⟩) rfl
 ·
  try dsimp only at hS
  try dsimp only
  refine ZO ?_
  refine Zl ?_
  refine VC.bD [0,1,6,7] (Zq (ZX ?_))
  refine qD hS (fun h20 hS => ?_) (fun h20 hS => ?_)
  ·
   refine ZX ?_
   cases hS
   exact VC.ret (Z2 (⟨none,0,[]⟩,PN))
  refine Zk ?_
  refine cI (Za ?_)
  refine Zl ?_
  refine VC.cJ [8] (fun (_:Unit)=>()) (fun _ ρ=>ρ) hS ?_ ?_
  ·
   intro k2 hS
   refine ZX ?_
   refine Zb ?_
   refine VC.iJ [0,1,6,8,9,10] (fun (_:Unit)=>()) (fun _ ρ=>ρ) () [0,1,6,8,9,10] hS ?_
   rintro _ m1 y1 hS hK1
   refine VC.cJ [0,1,6,8,9,10] (fun (_:Unit)=>()) (fun _ ρ=>ρ) hS ?_ ?_
   ·
    intro k3 hS
    refine cI (Zm ?_)
    refine Zm (Zu (J0 (s:=cE) Tryz.underlying45 rfl) (Zu (qU rfl rfl) (Zm ?_)))
    refine oT 26 hS (fun h26 hS => ?_) (fun h26 hS => ?_)
    ·
     refine VL.runs 5 [(31,some true)] (by kernel_rfl) ?_
     refine Zl ?_
     refine VC.DB rfl ?_
     exact ZE hS
    exact ZE hS
   rintro _ hS
   exact ZE hS
  rintro _ hS
  refine ZX ?_
  refine HB hS (EE ⟨none,0,[]⟩).out fun aWf hS=>ZX ?_
  cases hS
  exact VC.ret (Z2 (aWf,.nil))
 try dsimp only at hS
 try dsimp only
 refine ZO ?_
 refine Zl ?_
 refine VC.bD [0,1,6,7] (Zq (ZX ?_))
 refine Zu (aLH Tryz.underlying28 rfl) ?_
 refine Zl ?_
 refine VC.uW rfl ?_
 refine Zk ?_
 refine cI (Za ?_)
 refine Zl ?_
 refine VC.wT (S:=Sv iL) (fun (xK:Sv iL)=>xK.l) (fun (xK:Sv iL)=>[(8,xK.val)]) (fun (xK:Sv iL)=>Mo.tt) (fun (xK:Sv iL)=>Ow.star (bM PN [MB.a.val,MB.b.val,MB.n.val] 450) (Ow.star (Sv.own xK 436) (Ow.emp))) hS ?_ ?_
 ·
  intro k6 hS
  refine ZX ?_
  refine Zb ?_
  refine VC.lU (⟨none,0,[]⟩:Sv iL) 436 ⟨rfl,rfl⟩ ?_
  refine VC.iter (S:=Sv iL×Int×Int) (fun sg=>(sg.1.l,sg.2.1,sg.2.2)) (fun sg=>[(0,cE.val),(1,b_1.val),(6,ptr PN 0),(8,sg.1.val),(9,i64 sg.2.1),(10,i64 sg.2.2)]) (fun sg=>Mo.tt) (fun sg=>Ow.star (bM PN [MB.a.val,MB.b.val,MB.n.val] 450) (Ow.star (Sv.own sg.1 436) (Ow.emp))) (⟨none,0,[]⟩,0,0) [0,1,6,8,9,10] hS rfl ?_
  rintro ⟨aDZ,aAD,LX⟩ m1 y1 hS hK1
  refine VC.cJ [0,1,6,8,9,10] (fun (_:Unit)=>()) (fun _ ρ=>ρ) hS ?_ ?_
  ·
   intro k10 hS
   refine cI (Zm ?_)
   refine Zm (Zu (J0 (s:=cE) Tryz.underlying45 rfl) (Zu (qU rfl rfl) (Zm ?_)))
   refine oT 26 hS (fun h26 hS => ?_) (fun h26 hS => ?_)
   ·
    refine VL.runs 5 [(31,some true)] (by kernel_rfl) ?_
    refine Zl ?_
    refine VC.DB rfl ?_
    exact ZE hS
   exact ZE hS
  rintro _ hS
  refine Zb (ZX ?_)
  obtain ⟨R1,aTm,hS⟩:=dU hS
  refine Zu (lW ((WS PN MB aAD LX).out aTm) rfl (fun _ _=>rfl)) ?_
  refine Za ?_
  refine Zl ?_
  refine cI (Za ?_)
  refine Zl ?_
  refine VC.cJ [0,1,6,8,11] (fun (sg:Int×Int×bI)=>(sg.1,sg.2.1,sg.2.2)) (fun sg ρ=>(9,i64 sg.1)::(10,i64 sg.2.1)::(12,str sg.2.2)::ρ) hS ?_ ?_
  ·
   intro k15 hS
   refine ZX ?_
   refine Zb (Zq (Zb ?_))
   exact VC.cJ [0,1,6,8,9,11] (fun (aAG:Int)=>aAG) (fun aAG ρ=>(10,i64 aAG)::ρ) hS (fun _ hS=>ZE hS) fun _ hS=>ZE hS
  rintro ⟨aVW,aOI,Q2⟩ hS
  refine Zr (ZX ?_)
  refine Zu (cA (vs:=[(0,i64 R1),(1,str Q2)]) (cs := #[i64 R1,str Q2]) rfl (by kernel_rfl)) ?_
  exact ZE hS
 rintro xK hS
 refine ZX ?_
 refine VL.shut xK 436 (fun _ _ _ _=>trivial) ?_
 refine fN hS rfl fun aRs hS=>ZX ?_
 cases hS
 exact VC.ret (Z2 (aRs,.nil))
instance V2 (aA:Sv gC) :
 jG Tryz.prog 374 [aA.val] (Sh.iP aA.l) aA.ok (X:=Sv gC) (fun x=>x.val) (fun x=>x.l) (fun x=>x.ok):=by
 refine jO Tryz.func374 Tryz.ntmps374 fun r hS c => ?_
 unfold Sh.iP at hS
 obtain ⟨b8,hS⟩:=bX hS
 refine ZX ?_
 refine VL.SH Tryz.underlying423 aDP rfl rfl rfl b8.1 (b8.2) (by decide) fun NW rP => ?_
 replace hS:=dR rP hS
 exact ZE hS
instance aQP (cE:Sv bI) (b_1:Sv bI) :
 jG Tryz.prog 367 [cE.val,b_1.val] (Sh.BB cE.l b_1.l) (cE.ok.and b_1.ok) (X:=Sv gC×Er) (fun x => .tuple #[x.1.val,x.2.val]) (fun x=>(x.1.l,x.2.pl)) (fun x=>(x.1.ok.and x.2.ok)):=by
 refine jO Tryz.func367 Tryz.ntmps367 fun r hS c => ?_
 unfold Sh.BB at hS
 refine ZX ?_
 refine fN hS rfl fun ⟨GQ,aKr⟩ hS => ?_
 try dsimp only
 refine ZO ?_
 refine Zl ?_
 refine VC.bD [6,7] (Zq (ZX ?_))
 refine qD hS (fun h21 hS => ?_) (fun h21 hS => ?_)
 ·
  refine ZX ?_
  cases hS
  exact VC.ret (Z2 (⟨none,0,[]⟩,aKr))
 refine ZX ?_
 refine Zq (ZX ?_)
 refine Zb ?_
 refine VC.lU (⟨none,0,[]⟩:Sv gC) 428 ⟨rfl,rfl⟩ ?_
 refine VC.iter (S:=Sv gC×Int×Int×Bool×Int) (fun sg=>(sg.1.l,sg.2.1,sg.2.2.1,sg.2.2.2.1,sg.2.2.2.2)) (fun sg=>[(8,sg.1.val),(9,i64 sg.2.1),(10,i64 sg.2.2.1),(11,.bool sg.2.2.2.1),(23,GQ.val),(24,i64 (GQ.l.length:Int)),(25,i64 sg.2.2.2.2)]) (fun sg=>Mo.tt) (fun sg=>Ow.star (Sv.own sg.1 428) (Ow.emp)) (⟨none,0,[]⟩,0,0,false,0) [8,9,10,11,23,24,25] hS rfl ?_
 rintro ⟨Q4,aAC,LW,aLM,BP⟩ m1 y1 hS hK1
 refine ZX ?_
 refine Zq (Zc hS (fun h26 hS => ?_) (fun h26 hS => ?_))
 ·
  refine Zk ?_
  refine Zq (Zb (cI (BY hS rfl fun KO bAB hS=>ZX ?_)))
  refine dG fun aDx=>ZO ?_
  refine Zl ?_
  refine VC.wT (S:=Sv gC) (fun (u5:Sv gC)=>u5.l) (fun (u5:Sv gC)=>[(8,u5.val),(9,i64 aAC),(10,i64 LW),(13,ptr aDx 0),(23,GQ.val),(24,i64 (GQ.l.length:Int)),(25,i64 BP)]) (fun (u5:Sv gC)=>Mo.tt) (fun (u5:Sv gC)=>Ow.star (bM aDx [i64 KO.op,str KO.line] 436) (Ow.star (Sv.own u5 428) (Ow.emp))) hS ?_ ?_
  ·
   intro k10 hS
   refine ZX ?_
   refine Zc hS (fun h31 hS => ?_) (fun h31 hS => ?_)
   ·
    refine VC.wT (S:=Sv gC) (fun (qT:Sv gC)=>qT.l) (fun (qT:Sv gC)=>[(8,qT.val),(9,i64 aAC),(10,i64 LW),(13,ptr aDx 0),(23,GQ.val),(24,i64 (GQ.l.length:Int)),(25,i64 BP)]) (fun (qT:Sv gC)=>Mo.tt) (fun (qT:Sv gC)=>Ow.star (bM aDx [i64 KO.op,str KO.line] 436) (Ow.star (Sv.own qT 428) (Ow.emp))) hS ?_ ?_
    ·
     intro k12 hS
     refine ZX ?_
     refine VC.bD [8,9,10,23,24,25,13,33] (iG hS (fun h33 hS => ?_) (fun h33 hS => ?_))
     ·
      refine Zr (ZX ?_)
      refine Zu (cA (vs:=[(0,i64 aAC),(1,i64 LW)]) (cs := #[i64 aAC,i64 LW,i64 0]) rfl (by kernel_rfl)) ?_
      exact ZE hS
     exact ZE hS
    rintro qT hS
    obtain ⟨b43,hS⟩:=bX hS
    refine Zr (ZX ?_)
    obtain ⟨aBJ,aK0,aJr,hS⟩:=gQ hS
    refine Zu (lC (s:=qT) Tryz.underlying423 aDP rfl rfl aK0 (bQ aK0 aJr)) ?_
    refine ZX ?_
    refine Zu (yQ (s:=qT) v8 rfl aJr rfl) ?_
    obtain ⟨b47,hS⟩:=bX hS
    refine ZX ?_
    obtain ⟨aBL,aK5,aJv,hS⟩:=gQ hS
    refine Zu (lC (s:=qT) Tryz.underlying423 aDP rfl rfl aK5 (bQ aK5 aJv)) ?_
    refine ZX ?_
    refine VL.nD (s:=qT) (T:=428) (j:=2) (vc:=[i64 (aBJ.n+1)]) (⟨aBL.a,aBL.b,(aBJ.n+1)⟩:gC) (by decide) rfl rfl aJv rfl DP rfl rfl (Nat.le_of_ble_eq_true rfl) rfl (fun w19 hw19 haw19 hcw19 hvw19 hbw19 how19 => ?_)
    rw [← hvw19]
    replace hS:=dR hw19 hS
    exact ZE hS
   exact ZE hS
  rintro u5 hS
  refine cI (ZO ?_)
  refine Zl ?_
  refine VC.cJ [8,10,11,13,23,24,25] (fun (QY:Int)=>QY) (fun QY ρ=>(9,i64 QY)::ρ) hS (fun _ hS=>ZE hS) ?_
  rintro QY hS
  refine ZX ?_
  refine qD hS (fun h60 hS => ?_) (fun h60 hS => ?_)
  ·
   obtain ⟨b62,hS⟩:=bX hS
   obtain ⟨b63,hS⟩:=bX hS
   refine Zr (ZX ?_)
   refine Zr (ZX ?_)
   refine VL.PX (u5,QY,(LW+1),(decide (KO.op=1)),(BP+1)) [8,9,10,11,23,24,25] (fun _ _ h=>h) (go2 hS hK1) rfl
  obtain ⟨b63,hS⟩:=bX hS
  refine Zk ?_
  refine Zr (ZX ?_)
  refine VL.PX (u5,QY,LW,(decide (KO.op=1)),(BP+1)) [8,9,10,11,23,24,25] (fun _ _ h=>h) (go2 hS hK1) rfl
 replace hS:=lQ hS hK1
 refine Zx ?_
 refine ZX ?_
 refine VL.shut Q4 428 (fun _ _ _ _=>trivial) ?_
 refine fN hS rfl fun aRu hS=>ZX ?_
 cases hS
 exact VC.ret (Z2 (aRu,.nil))
instance aRO (eV:Sv bI) (AX:Sv bI) :
 jG Tryz.prog 360 [eV.val,AX.val] (Sh.x8 eV.l AX.l) (eV.ok.and AX.ok) (X:=Sv Int×Er) (fun x => .tuple #[x.1.val,x.2.val]) (fun x=>(x.1.l,x.2.pl)) (fun x=>(x.1.ok.and x.2.ok)):=by
 refine jO Tryz.func360 Tryz.ntmps360 fun r hS c => ?_
 unfold Sh.x8 at hS
 refine ZX ?_
 refine fN hS rfl fun ⟨aAP,aWJ⟩ hS => ?_
 try dsimp only
 refine ZO ?_
 refine Zl ?_
 refine VC.bD [0,6,7] (Zq (ZX ?_))
 refine qD hS (fun h19 hS => ?_) (fun h19 hS => ?_)
 ·
  refine ZX ?_
  cases hS
  exact VC.ret (Z2 (⟨none,0,[]⟩,aWJ))
 refine ZX ?_
 refine tE hS fun a6N hS=>ZX ?_
 refine x6 hS (aLK a6N (eV.l.length:Int)) fun aWS hS=>ZX ?_
 refine Zq (ZX ?_)
 refine VC.bD [8,25,26,27] (Zb ?_)
 refine VC.iter (S:=Sv Int×Int) (fun sg=>(sg.1.l,sg.2)) (fun sg=>[(8,sg.1.val),(25,aAP.val),(26,i64 (aAP.l.length:Int)),(27,i64 sg.2)]) (fun sg=>Mo.tt) (fun sg=>Ow.star (Sv.own sg.1 3) (Ow.emp)) (aWS,0) [8,25,26,27] hS rfl ?_
 rintro ⟨xK,aCQ⟩ m1 y1 hS hK1
 refine ZX ?_
 refine Zq (Zc hS (fun h28 hS => ?_) (fun h28 hS => ?_))
 ·
  refine Zk ?_
  refine Zq (Zb (cI (BY hS rfl fun IZ bAD hS=>ZX ?_)))
  refine dG fun aTN=>ZX ?_
  refine Zb ?_
  refine VC.iter (S:=Sv Int×Int) (fun sg=>(sg.1.l,sg.2)) (fun sg=>[(8,sg.1.val),(10,ptr aTN 0),(25,aAP.val),(26,i64 (aAP.l.length:Int)),(27,i64 aCQ),(32,i64 IZ.n),(33,i64 sg.2)]) (fun sg=>Mo.tt) (fun sg=>Ow.star (bM aTN [i64 IZ.a,i64 IZ.b,i64 IZ.n] 428) (Ow.star (Sv.own sg.1 3) (Ow.emp))) (xK,0) [8,10,25,26,27,32,33] hS rfl ?_
  rintro ⟨u5,G2⟩ m2 y2 hS hK2
  refine ZX ?_
  refine Zq (Zc hS (fun h34 hS => ?_) (fun h34 hS => ?_))
  ·
   obtain ⟨b40,hS⟩:=bX hS
   obtain ⟨b44,hS⟩:=bX hS
   refine Zk ?_
   refine Zq (Zb (ZX ?_))
   refine Zr (ZX ?_)
   obtain ⟨a4G,aK1,aJs,hS⟩:=gQ hS
   refine Zu (lC (s:=u5) Tryz.underlying59 DP rfl rfl aK1 (bQ aK1 aJs)) ?_
   refine VL.nD (s:=u5) (T:=3) (j:=0) (vc:=[i64 (IZ.b+G2)]) ((IZ.b+G2):Int) (by decide) rfl rfl aJs rfl DP rfl rfl (Nat.le_of_ble_eq_true rfl) rfl (fun w12 hw12 haw12 hcw12 hvw12 hbw12 how12 => ?_)
   rw [← hvw12]
   replace hS:=dR hw12 hS
   exact ZE hS
  exact ZE hS
 replace hS:=lQ hS hK1
 refine Zx ?_
 refine cI (ZO ?_)
 refine Zl ?_
 refine VC.shut xK 3 (fun _ _ _ _=>trivial) ?_
 cases hS
 exact VC.ret (Z2 (xK,.nil))
instance aBu (aA:Sv bI) :
 uL Tryz.prog 119 [aA.val] (Sh.fY aA.l) aA.ok (Ow.emp) (X:=Sv bI) (fun x=>x.val) (fun x=>x.l) (fun x=>Mo.tt) (fun x=>Sv.own x 9):=by
 refine uV Tryz.func119 Tryz.ntmps119 fun r hS c => ?_
 unfold Sh.fY at hS
 refine ZX ?_
 refine Zq (ZX ?_)
 refine Zu (J1 (s:=aA) Tryz.underlying45 rfl) ?_
 refine Zl ?_
 refine VC.slnil (s:=aA) rfl (fun h4 => ?_) ?_
 ·
  have hS:(some [])=some r:=by
    simp [lt,gd,h4] at hS ⊢
    try exact hS
  refine cI (Za ?_)
  refine Zl ?_
  refine VC.lU (⟨none,0,[]⟩:Sv bI) 9 ⟨rfl,rfl⟩ ?_
  cases hS
  exact VC.ret (Z1 ⟨none,0,[]⟩)
 refine ZX ?_
 refine VL.aCq (α:=bI) Tryz.underlying45 a5Z (by decide) (fun KT uY AA => ?_)
 refine VL.lU KT 9 ⟨AA,uY⟩ ?_
 replace hS:=dR uY hS
 exact ZE hS
instance aVh (dY:Sv bI) :
 uL Tryz.prog 376 [dY.val] (Sh.vL dY.l) dY.ok (Ow.emp) (X:=Sv bI) (fun x=>x.val) (fun x=>x.l) (fun x=>Mo.tt) (fun x=>Sv.own x 9):=by
 refine uV Tryz.func376 Tryz.ntmps376 fun r hS c => ?_
 unfold Sh.vL at hS
 exact ZE hS
instance aBv (C1:Sv bI) (F3:Sv bI) :
 gS Tryz.prog 377 [C1.val,F3.val] (Sh.iO C1.l F3.l) (C1.ok.and F3.ok) (fun r => .bool r):=by
 refine gU Tryz.func377 Tryz.ntmps377 fun r hS c => ?_
 unfold Sh.iO at hS
 refine ZX ?_
 refine Zq (ZX ?_)
 refine qD hS (fun _ hS=>ZE hS) fun h10 hS=>Zk ?_
 refine Zq (ZX ?_)
 refine VC.bD [0,1,12,13] (Zb ?_)
 refine VC.iJ [0,1,12] (fun (yG:Int)=>yG) (fun yG ρ=>(13,i64 yG)::ρ) 0 [13,0,1,12] hS ?_
 rintro yG m1 y1 hS hK1
 refine ZX ?_
 refine Zq (Zc hS (fun h14 hS => ?_) (fun h14 hS => ?_))
 ·
  refine Zk ?_
  refine Zq (Zb (ZX ?_))
  refine Zq ?_
  refine hU ((List.range 9).map fun k=>(k,true)) ?_
  exact ZE hS
 exact ZE hS
instance aGP (eV:Sv bI) (dL:Sv bI) (cV:Sv bI) :
 jG Tryz.prog 369 [eV.val,dL.val,cV.val] (Sh.HU eV.l dL.l cV.l) (eV.ok.and (dL.ok.and cV.ok)) (X:=iM) (fun x => .agg (bB.enc x).toArray) (fun x=>x.pl) (fun x=>x.m):=by
 refine jO Tryz.func369 Tryz.ntmps369 fun r hS c => ?_
 unfold Sh.HU at hS
 refine cI (dG fun bBZ=>ZX ?_)
 refine fJ hS rfl fun BV hS=>Zm ?_
 refine fJ hS rfl fun CI hS=>Zm ?_
 refine fJ hS rfl fun CJ hS => ?_
 refine Zu (cA (vs:=[(0,BV.val),(1,CI.val),(2,CJ.val)]) (cs := #[BV.val,CI.val,CJ.val,.bool false,.slice none 0 0]) rfl (by kernel_rfl)) ?_
 refine dG fun aG1=>ZO ?_
 refine Zl ?_
 refine VC.bD [0,1,2,6,7] (Zq (Zb (ZX ?_)))
 refine jU hS rfl fun U8 hS=>ZX ?_
 refine iG hS (fun h16 hS => ?_) (fun h16 hS => ?_)
 ·
  refine Zr (Zm ?_)
  refine fJ hS rfl fun aKy hS=>ZO ?_
  refine Zl ?_
  refine VC.bD [6,7] (cI (ZO ?_))
  refine Zl ?_
  refine VC.shut BV 9 (fun _ _ _ _=>trivial) ?_
  refine VC.shut CI 9 (fun _ _ _ _=>trivial) ?_
  refine VC.shut CJ 9 (fun _ _ _ _=>trivial) ?_
  refine VC.shut aKy 9 (fun _ _ _ _=>trivial) ?_
  cases hS
  exact VC.ret (Z4 ⟨BV,CI,CJ,false,aKy⟩ rfl)
 refine VC.cJ [1,6,7] (fun (aCN:Bool)=>aCN) (fun aCN ρ=>(23,.bool aCN)::ρ) hS (fun _ hS=>ZE hS) ?_
 rintro aCN hS
 refine iG hS (fun h23 hS => ?_) (fun h23 hS => ?_)
 ·
  refine Zr (Zm ?_)
  refine fJ hS rfl fun aGg hS=>ZO ?_
  refine Zl ?_
  refine cI (ZO ?_)
  refine Zl ?_
  refine VC.shut BV 9 (fun _ _ _ _=>trivial) ?_
  refine VC.shut CI 9 (fun _ _ _ _=>trivial) ?_
  refine VC.shut CJ 9 (fun _ _ _ _=>trivial) ?_
  refine VC.shut aGg 9 (fun _ _ _ _=>trivial) ?_
  cases hS
  exact VC.ret (Z4 ⟨BV,CI,CJ,false,aGg⟩ rfl)
 refine Zr (ZO ?_)
 refine Zl ?_
 refine cI (ZO ?_)
 refine Zl ?_
 refine VC.shut BV 9 (fun _ _ _ _=>trivial) ?_
 refine VC.shut CI 9 (fun _ _ _ _=>trivial) ?_
 refine VC.shut CJ 9 (fun _ _ _ _=>trivial) ?_
 cases hS
 exact VC.ret (Z4 ⟨BV,CI,CJ,true,⟨none,0,[]⟩⟩ rfl)
theorem aQq:cC Tryz.prog 415 3 3:=bK (n:=0) (f:=⟨_,_,3,_,_,_,_⟩) Tryz.underlying415 rfl (by kernel_rfl)
instance:j7 Tryz.prog 415 3 3:=⟨aQq⟩
theorem aQr:cC Tryz.prog 415 4 4:=bK (n:=0) (f:=⟨_,_,4,_,_,_,_⟩) Tryz.underlying415 rfl (by kernel_rfl)
instance:j7 Tryz.prog 415 4 4:=⟨aQr⟩
theorem aQs:cC Tryz.prog 415 5 5:=bK (n:=0) (f:=⟨_,_,5,_,_,_,_⟩) Tryz.underlying415 rfl (by kernel_rfl)
instance:j7 Tryz.prog 415 5 5:=⟨aQs⟩
theorem aQt:cC Tryz.prog 415 6 6:=bK (n:=0) (f:=⟨_,_,6,_,_,_,_⟩) Tryz.underlying415 rfl (by kernel_rfl)
instance:j7 Tryz.prog 415 6 6:=⟨aQt⟩
theorem aUw:OneCell Tryz.prog 399:=kU Tryz.underlying399 rfl
instance:KV Tryz.prog 399:=⟨aUw⟩
theorem aQn:cC Tryz.prog 415 0 0:=bK (n:=0) (f:=⟨_,_,0,_,_,_,_⟩) Tryz.underlying415 rfl (by kernel_rfl)
instance:j7 Tryz.prog 415 0 0:=⟨aQn⟩
theorem aQo:cC Tryz.prog 415 1 1:=bK (n:=0) (f:=⟨_,_,1,_,_,_,_⟩) Tryz.underlying415 rfl (by kernel_rfl)
instance:j7 Tryz.prog 415 1 1:=⟨aQo⟩
theorem aQp:cC Tryz.prog 415 2 2:=bK (n:=0) (f:=⟨_,_,2,_,_,_,_⟩) Tryz.underlying415 rfl (by kernel_rfl)
instance:j7 Tryz.prog 415 2 2:=⟨aQp⟩
theorem aE8:((Tryz.prog.info? 407).map fun i=>(i.size,i.zero.isSome))=some (5,true):=by kernel_rfl
instance:JC Tryz.prog 407 5:=⟨aE8⟩
theorem aEX:((Tryz.prog.info? 407).map fun i=>(i.size,i.bytes,(i.zero.map fun z=>z.cells.size)))=some (5,104,some 5):=by kernel_rfl
instance:LI Tryz.prog 407 5 104:=⟨aEX⟩
theorem aZt:(Tryz.prog.info? 399).map (·.size)=some 1:=by kernel_rfl
instance:yM Tryz.prog 399 1:=⟨aZt⟩
theorem aQu:cC Tryz.prog 415 7 7:=bK (n:=0) (f:=⟨_,_,7,_,_,_,_⟩) Tryz.underlying415 rfl (by kernel_rfl)
instance:j7 Tryz.prog 415 7 7:=⟨aQu⟩
theorem aG8:cC Tryz.prog 407 0 0:=bK (n:=0) (f:=⟨_,_,0,_,_,_,_⟩) Tryz.underlying407 rfl (by kernel_rfl)
instance:j7 Tryz.prog 407 0 0:=⟨aG8⟩
theorem Y7 (s:Sv bI):Ct Tryz.prog 33 [s.val] s.ok Ow.emp (X:=Sv bI) Sv.val (fun q=>q.l=s.l) (fun q=>q.ok) (fun _=>Ow.emp):=by
 refine Zo Tryz.func33 Tryz.ntmps33 fun c => ?_
 refine ZX ?_
 refine VL.part (s:=s) (0) (((s.l.length:Int)).toNat) Tryz.underlying45 wU rfl rfl rfl rfl (by simp) (by simp) (by simp) (by simp) (by omega) (by omega) (by decide) (fun s8 hs8 => ?_)
 refine ZX ?_
 exact VC.ret (aME (.inr rfl) rfl rfl s8 rfl ((by simpa using hs8)) (fun _ _=>trivial))
theorem aQN (s:Sv Ck):Ct Tryz.prog 363 [s.val] s.ok Ow.emp (X:=Sv Ck) Sv.val (fun q=>q.l=s.l) (fun q=>q.ok) (fun _=>Ow.emp):=by
 refine Zo Tryz.func363 Tryz.ntmps363 fun c => ?_
 refine ZX ?_
 refine Zu (J0 (s:=s) Tryz.underlying399 rfl) (Zm (Zu (J0 (s:=s) Tryz.underlying399 rfl) ?_))
 refine VL.part (s:=s) (0) (((s.l.length:Int)).toNat) Tryz.underlying399 Z6 rfl rfl rfl rfl (by simp) (by simp) (by simp) (by simp) (by omega) (by omega) (by decide) (fun s8 hs8 => ?_)
 refine ZX ?_
 exact VC.ret (aME (.inr rfl) rfl rfl s8 rfl ((by simpa using hs8)) (fun _ _=>trivial))
theorem aLV (p:Nat) (bv ov tv:Sv bI) (o:Sv Ck) (fr:List Ck) (x:Ck) (s:Sh.DS) (i' j' k':Int) {r:Sh.DS} (hS:Sh.zE bv.l ov.l tv.l s i' j' k'=some r) (hR:Rel s o fr x) :
 Ct Tryz.prog 361 [ptr p 0,i64 i',i64 j',i64 k'] ((MA fr).and (bv.ok.and (ov.ok.and tv.ok))) (Ow.star (bM p [bv.val,ov.val,tv.val,i64 s.i,i64 s.j,i64 s.k,o.val,.bool s.op] 415) (Ow.star (o.own 407) (N3 s.op x))) (X:=Sv Ck×List Ck×Ck) (fun _ => .tuple #[]) (fun y=>Rel r y.1 y.2.1 y.2.2) (fun y=>MA y.2.1) (fun y=>Ow.star (bM p [bv.val,ov.val,tv.val,i64 r.i,i64 r.j,i64 r.k,y.1.val,.bool r.op] 415) (Ow.star (y.1.own 407) (N3 r.op y.2.2))):=by
 refine Zo Tryz.func361 Tryz.ntmps361 fun c => ?_
 refine Zq ?_
 refine VC.a8S [(0,ptr p 0),(1,i64 i'),(2,i64 j'),(3,i64 k'),(29,.bool (decide (s.i < i'∨s.j < j'∨s.k < k')))] ?_ ?_
 ·
  refine Zr (ZX ?_)
  refine VL.wO 14 rfl (fun h14 => ?_) (fun h14 => ?_)
  ·
   refine ZX ?_
   refine VL.F4 29 (v' := .bool (decide (s.i < i'∨s.j < j'∨s.k < k'))) rfl (congrArg Value.bool (by simp [h14])) ?_
   refine VL.meet (ks:=[0,1,2,3,29]) (fun _ _ h=>h) rfl
  refine ZX ?_
  refine VL.wO 22 rfl (fun h22 => ?_) (fun h22 => ?_)
  ·
   refine ZX ?_
   refine VL.F4 29 (v' := .bool (decide (s.i < i'∨s.j < j'∨s.k < k'))) rfl (congrArg Value.bool (by simp [h14,h22])) ?_
   refine VL.meet (ks:=[0,1,2,3,29]) (fun _ _ h=>h) rfl
  refine ZX ?_
  refine VL.F4 29 (v' := .bool (decide (s.i < i'∨s.j < j'∨s.k < k'))) rfl (congrArg Value.bool (by simp [h14,h22])) ?_
  refine VL.meet (ks:=[0,1,2,3,29]) (fun _ _ h=>h) rfl
 refine VC.mY rfl (fun hput => ?_) (fun hput => ?_)
 ·
  rw [Sh.zE,if_pos hput] at hS
  unfold Sh.CG at hS
  obtain ⟨⟨c1,c2,c3⟩,hS⟩:=bX hS
  obtain ⟨⟨c4,c5,c6⟩,hS⟩:=bX hS
  obtain ⟨⟨c7,c8,c9⟩,hS⟩:=bX hS
  obtain ⟨g,hg,hS⟩:=dU hS
  obtain ⟨hl,hS⟩:=bX hS
  cases hS
  have hl:o.l.length≤1048576:=by have:=congrArg List.length hR.out; rw [List.length_map] at this; omega
  refine VC.aN8 s.op rfl hR ?_
  refine Zq ?_
  refine hU [(0,true),(1,true),(2,true),(3,true),(4,true),(5,true),(6,true),(7,true),(8,true),(9,true),(10,true),(11,true),(12,true),(13,true),(14,true),(15,true),(16,true),(17,true),(18,true),(19,true),(20,true),(21,true),(22,true),(23,true),(24,true),(25,true),(26,true),(27,true),(28,true),(29,true),(30,true),(31,true),(32,true),(33,true),(34,true),(35,false),(36,false),(37,false),(38,true),(39,true),(40,false)] ?_
  refine ZX ?_
  refine VD.part (s:=bv) rfl ((s.i).toNat) ((i').toNat) Tryz.underlying45 wU rfl rfl rfl rfl (by show s.i=_; omega) (by show i'=_; omega) (.inl rfl) (fun h=>by cases h) (by omega) (by omega) (by decide) (fun s44 _ hs44 => ?_)
  refine ZX ?_
  refine VD.part (s:=ov) rfl ((s.j).toNat) ((j').toNat) Tryz.underlying45 wU rfl rfl rfl rfl (by show s.j=_; omega) (by show j'=_; omega) (.inl rfl) (fun h=>by cases h) (by omega) (by omega) (by decide) (fun s54 _ hs54 => ?_)
  refine ZX ?_
  refine VD.part (s:=tv) rfl ((s.k).toNat) ((k').toNat) Tryz.underlying45 wU rfl rfl rfl rfl (by show s.k=_; omega) (by show k'=_; omega) (.inl rfl) (fun h=>by cases h) (by omega) (by omega) (by decide) (fun s64 _ hs64 => ?_)
  refine VD.one rfl ?_
  refine VL.jF ((aGP s44 s54 s64).out (by rw [hs44,hs54,hs64]; exact hg)) rfl (by decide) ?_
  rintro x1 hx
  refine eL (Pk 4 (Pk 3 (Pk 2 Pz))) ?_
  refine VD.one rfl ?_
  refine VL.lit (α:=Ck) (xs:=[.tmp 65]) (vs:=[.agg #[x1.base.val,x1.ours.val,x1.cR.val,.bool x1.pF,x1.out.val]]) [x1] Tryz.underlying399 aE8 (by decide) rfl rfl rfl rfl (by decide) (fun h m z hz=>by cases List.mem_singleton.1 hz; exact dM.out (X:=x1.m) h m) (by decide) (fun s66 hs66 => ?_) (by decide)
  refine eL (Pk 4 (Pk 3 (Pk 2 Pz))) ?_
  refine VD.one rfl ?_
  refine VL.app (s:=o) (r:=s66) Tryz.underlying399 aEX (by decide) rfl Fo.out (by rw [hs66]; simp; omega) (by rw [hs66]; simp; omega) (by decide) (fun s67 hs67 => ?_)
  refine eY ?_
  refine ZX ?_
  refine VD.one rfl (ZX ?_)
  refine eY ?_
  refine ZX ?_
  refine Zr (ZX ?_)
  refine Zr (ZX ?_)
  refine VL.LK (MA s67.l) (fun hp q=>by rw [hs67,hs66]; exact MA.snoc (M:=_) (dM.out (X:=MA o.l)) (dM.out (X:=x1.m)) hp q) ?_
  exact VL.nil (aMD (.inl rfl) rfl (s67,s67.l,aMP) rfl (⟨(fun q=>by cases q),(fun _=>⟨rfl,rfl⟩),(by rw [hs67,hs66,List.map_append,hR.out]; simp [hx])⟩) fL.out)
 refine Zk ?_
 refine Zr (ZO ?_)
 rw [Sh.zE,if_neg hput] at hS
 cases hS
 exact VL.nil (aMD (.inl rfl) rfl (o,fr,x) rfl (⟨hR.yes,hR.no,hR.out⟩) fL.out)
theorem aV7 (p:Nat) (bv ov tv:Sv bI) (out:Sv Ck) (op:Bool) (fr:List Ck) (x:Ck) (line:bI) (i j k:Int) (hout:op=true→out.l=fr++[x]) (hnew:op=false→fr=out.l∧x=(⟨⟨none,0,[]⟩,⟨none,0,[]⟩,⟨none,0,[]⟩,false,⟨none,0,[]⟩⟩:Ck)) (hline:bv.l[i.toNat]? = some line) (i0:0≤i) (j0:0≤j) (k0:0≤k) (i1:i≤1048576) (j1:j≤1048576) (k1:k≤1048576) (hl:out.l.length≤1048576)
 (hx1:x.base.l.length≤1048576) (hx2:x.ours.l.length≤1048576) (hx3:x.cR.l.length≤1048576) (hx4:x.out.l.length≤1048576) :
 Ct Tryz.prog 362 [ptr p 0] bv.ok (Ow.star (bM p [bv.val,ov.val,tv.val,i64 i,i64 j,i64 k,out.val,.bool op] 415) (Ow.star (out.own 407) (N3 op x))) (X:=Sv Ck×Ck) (fun _ => .tuple #[]) (fun x'=>x'.1.l=fr++[x'.2]∧x'.2.base.l=x.base.l++[line]∧x'.2.ours.l=x.ours.l++[line]∧x'.2.cR.l=x.cR.l++[line]∧x'.2.out.l=x.out.l++[line]∧x'.2.pF=x.pF) (fun _=>Mo.tt) (fun x=>Ow.star (bM p [bv.val,ov.val,tv.val,i64 (i+1),i64 (j+1),i64 (k+1),x.1.val,.bool true] 415) (Ow.star (x.1.own 407) (Ow.star (x.2.base.own 9) (Ow.star (x.2.ours.own 9) (Ow.star (x.2.cR.own 9) (x.2.out.own 9)))))):=by
 refine Zo Tryz.func362 Tryz.ntmps362 fun c => ?_
 refine Zq ?_
 obtain ⟨hi2,_⟩:=List.getElem?_eq_some_iff.1 hline
 refine hU ((List.range 11).map fun k=>(k,true)) ?_
 refine ZX ?_
 refine Zw rfl (jY (s:=bv) Tryz.underlying45 wU rfl rfl (by omega) (by omega)) ?_
 refine Zw rfl (JZ  (s:=bv) oV rfl hline rfl) ?_
 refine ZD ?_
 refine xE ?_
 refine VC.cut (S:=Sv Ck) (fun sg=>sg.l=fr++[x]∧sg.l.length≤1048577) (fun sg=>[(0,ptr p 0),(2,str line)]) (fun sg=>Mo.tt) (fun sg=>Ow.star (bM p [bv.val,ov.val,tv.val,i64 i,i64 j,i64 k,sg.val,.bool true] 415) (Ow.star (Sv.own sg 407) (Ow.star (Sv.own x.base 9) (Ow.star (Sv.own x.ours 9) (Ow.star (Sv.own x.cR 9) (Ow.star (Sv.own x.out 9) (Ow.emp))))))) ?_ ?_
 ·
  refine ZX ?_
  refine VC.cond rfl (fun h18 => ?_) (fun h18 => ?_)
  ·
   obtain rfl:op=false:=by simpa using h18
   obtain ⟨hfr,hxn⟩:=hnew rfl
   refine VC.mono (fun _ h=>h) (E':=Ow.star (bM p [bv.val,ov.val,tv.val,i64 i,i64 j,i64 k,out.val,.bool false] 415) (Ow.star (Sv.own out 407) (Ow.emp))) (fun _ h=>h) ?_
   refine ZX ?_
   refine Zu (cA (vs:=[]) (cs := #[.slice none 0 0,.slice none 0 0,.slice none 0 0,.bool false,.slice none 0 0]) rfl (by kernel_rfl)) ?_
   refine VL.lit (α:=Ck) (xs:=[.tmp 24]) (vs:=[.agg #[.slice none 0 0,.slice none 0 0,.slice none 0 0,.bool false,.slice none 0 0]]) [(⟨⟨none,0,[]⟩,⟨none,0,[]⟩,⟨none,0,[]⟩,false,⟨none,0,[]⟩⟩:Ck)] Tryz.underlying399 aE8 (by decide) rfl rfl rfl rfl (by decide) (fun h m z hz=>by cases List.mem_singleton.1 hz; exact dM.out (M:=Mo.tt) (X:=iM.m (⟨⟨none,0,[]⟩,⟨none,0,[]⟩,⟨none,0,[]⟩,false,⟨none,0,[]⟩⟩:Ck)) h trivial) (by decide) (fun s25 hs25 => ?_) (by decide)
   refine VL.app (s:=out) (r:=s25) Tryz.underlying399 aEX (by decide) rfl Fo.out (by rw [hs25]; simp; omega) (by rw [hs25]; simp; omega) (by decide) (fun s26 hs26 => ?_)
   refine ZO ?_
   refine Zl ?_
   refine VC.lU x.out 9 ⟨by rw [hxn],by rw [hxn]⟩ ?_
   refine VC.lU x.cR 9 ⟨by rw [hxn],by rw [hxn]⟩ ?_
   refine VC.lU x.ours 9 ⟨by rw [hxn],by rw [hxn]⟩ ?_
   refine VC.lU x.base 9 ⟨by rw [hxn],by rw [hxn]⟩ ?_
   refine Zr (ZX ?_)
   refine VL.anyI s26 [0,2] (fun _ _ h=>h) ?_ rfl (by (try dsimp only); exact fL.out)
   try dsimp only
   exact ⟨by rw [hs26,hs25,hfr,hxn],by rw [hs26,hs25]; simp; omega⟩
  obtain rfl:op=true:=by simpa using h18
  refine VC.mono (fun _ h=>h) (E':=Ow.star (bM p [bv.val,ov.val,tv.val,i64 i,i64 j,i64 k,out.val,.bool true] 415) (Ow.star (out.own 407) (Ow.star (x.base.own 9) (Ow.star (x.ours.own 9) (Ow.star (x.cR.own 9) (x.out.own 9)))))) (fun _ h=>h) ?_
  refine VC.aMc out [0,2] (fun _ _ h=>h) ?_ rfl (by (try dsimp only); exact fL.out)
  try dsimp only
  exact ⟨hout rfl,by omega⟩
 rintro o hI
 try dsimp only at hI
 clear hout hnew
 obtain ⟨hout,hol⟩:=hI
 refine Zq ?_
 refine hU ((List.range 12).map fun k=>(k,true)) ?_
 refine ZX ?_
 refine Zw rfl (J0 (s:=o) Tryz.underlying399 rfl) ?_
 refine Zw rfl (MI rfl rfl ⟨by omega,by omega⟩) ?_
 have hx:=aRK hout
 have hpos:0 < o.l.length:=by rw [hout]; simp
 refine Zw rfl (lC (s:=o) Tryz.underlying399 Z6 rfl rfl (by omega) (by omega)) ?_
 refine ZX ?_
 refine Zq ?_
 refine VC.aXd Mo.tt ?_
 have ex:ElC o.l (((o.l.length:Int) - 1).toNat) x:=⟨hx⟩
 refine VC.GA (n:=20) (listed:=(bl 44 1048377855)) [(0,true),(1,true),(2,true),(3,true),(4,true),(5,true),(6,true),(7,true),(8,true),(11,true),(12,true),(13,true),(14,true),(15,true),(18,true),(19,true),(20,true),(21,true),(22,true),(25,true),(26,true),(27,true),(28,true),(29,true)] mixed (by kernel_rfl) (by kernel_rfl) (by kernel_rfl) (by kernel_rfl) ?_
 refine VD.q rfl (fR rfl) (by decide) ?_
 refine VD.q rfl (fR rfl) (by decide) ?_
 refine VD.q rfl (fR rfl) (by decide) ?_
 refine VD.q rfl (fR rfl) (by decide) ?_
 refine VD.q rfl (fR rfl) (by decide) ?_
 refine VD.q rfl (lX rfl) (by decide) ?_
 refine VD.q rfl (bY aG8 rfl) (by decide) ?_
 refine VD.q rfl (yQ (s:=o) qO rfl hx rfl) (by decide) ?_
 refine VD.q rfl (fR rfl) (by decide) ?_
 refine VD.q rfl (fR rfl) (by decide) ?_
 refine VD.q rfl (lX rfl) (by decide) ?_
 refine VD.q rfl (bY aBZ rfl) (by decide) ?_
 refine VD.q rfl (yQ (s:=o) qO rfl hx rfl) (by decide) ?_
 refine VD.q rfl (fR rfl) (by decide) ?_
 refine VD.q rfl (fR rfl) (by decide) ?_
 refine VD.q rfl (lX rfl) (by decide) ?_
 refine VD.q rfl (bY VN rfl) (by decide) ?_
 refine VD.q rfl (yQ (s:=o) qO rfl hx rfl) (by decide) ?_
 refine VD.q rfl (fR rfl) (by decide) ?_
 refine VD.q rfl (fR rfl) (by decide) ?_
 refine VD.q rfl (lX rfl) (by decide) ?_
 refine VD.q rfl (bY PB rfl) (by decide) ?_
 refine VD.q rfl (yQ (s:=o) qO rfl hx rfl) (by decide) ?_
 refine VD.q rfl (fR rfl) (by decide) ?_
 refine VD.SY fun hc => ?_
 refine VG.via (S:=Sv bI×Sv bI×Sv bI×Sv bI) (fun sg=>sg.1.l=x.base.l++[line]∧sg.2.1.l=x.ours.l++[line]∧sg.2.2.1.l=x.cR.l++[line]∧sg.2.2.2.l=x.out.l++[line]) 12 (fun _=>kD4 o x) (bl 44 4294967295) (fun sg=>kB p o line [(53,sg.1.val),(60,sg.2.1.val),(67,sg.2.2.1.val),(74,sg.2.2.2.val)]) (fun sg=>Mo.tt) (fun sg=>kE p bv ov tv i j k o sg.1 sg.2.1 sg.2.2.1 sg.2.2.2) ?_ fun key255 => ?_
 ·
  rintro ⟨s53,s60,s67,s74⟩ ⟨hs53,hs60,hs67,hs74⟩
  try dsimp only at hs53 hs60 hs67 hs74
  dsimp only [kB,kE,Zp]
  refine VG.ord [(32,true),(33,true),(34,false),(35,true),(36,true),(37,false),(38,true),(39,true),(40,false),(41,true),(42,true),(43,false)] (by kernel_rfl) (eF (by kernel_rfl)) (by kernel_rfl) ?_
  refine ZX ?_
  refine VD.one rfl ?_
  refine VL.nD (s:=o) (T:=407) (j:=0) (vc:=[s53.val]) (⟨s53,x.ours,x.cR,x.pF,x.out⟩:Ck) (by decide) rfl rfl hx rfl QW rfl rfl (Nat.le_of_ble_eq_true rfl) rfl (fun w0 hw0 haw0 hcw0 hvw0 hbw0 how0 => ?_)
  rw [← hvw0]
  try rw [← hbw0]
  try rw [← how0]
  have hew0:w0.l[(((o.l.length:Int) - 1)).toNat]? = some (⟨s53,x.ours,x.cR,x.pF,x.out⟩:Ck):=by rw [hw0]; exact List.getElem?_set_self (List.getElem?_eq_some_iff.1 hx).1
  refine eY ?_
  refine ZX ?_
  refine VD.one rfl ?_
  refine VL.nD (s:=w0) (T:=407) (j:=1) (vc:=[s60.val]) (⟨s53,s60,x.cR,x.pF,x.out⟩:Ck) (by decide) rfl rfl hew0 rfl QW rfl rfl (Nat.le_of_ble_eq_true rfl) rfl (fun w1 hw1 haw1 hcw1 hvw1 hbw1 how1 => ?_)
  rw [← hvw1]
  try rw [← hbw1]
  try rw [← how1]
  have hew1:w1.l[(((o.l.length:Int) - 1)).toNat]? = some (⟨s53,s60,x.cR,x.pF,x.out⟩:Ck):=by rw [hw1]; exact List.getElem?_set_self (List.getElem?_eq_some_iff.1 hew0).1
  refine eY ?_
  refine ZX ?_
  refine VD.one rfl ?_
  refine VL.nD (s:=w1) (T:=407) (j:=2) (vc:=[s67.val]) (⟨s53,s60,s67,x.pF,x.out⟩:Ck) (by decide) rfl rfl hew1 rfl QW rfl rfl (Nat.le_of_ble_eq_true rfl) rfl (fun w2 hw2 haw2 hcw2 hvw2 hbw2 how2 => ?_)
  rw [← hvw2]
  try rw [← hbw2]
  try rw [← how2]
  have hew2:w2.l[(((o.l.length:Int) - 1)).toNat]? = some (⟨s53,s60,s67,x.pF,x.out⟩:Ck):=by rw [hw2]; exact List.getElem?_set_self (List.getElem?_eq_some_iff.1 hew1).1
  refine eY ?_
  refine ZX ?_
  refine VD.one rfl ?_
  refine VL.nD (s:=w2) (T:=407) (j:=4) (vc:=[s74.val]) (⟨s53,s60,s67,x.pF,s74⟩:Ck) (by decide) rfl rfl hew2 rfl QW rfl rfl (Nat.le_of_ble_eq_true rfl) rfl (fun w3 hw3 haw3 hcw3 hvw3 hbw3 how3 => ?_)
  rw [← hvw3]
  try rw [← hbw3]
  try rw [← how3]
  have hew3:w3.l[(((o.l.length:Int) - 1)).toNat]? = some (⟨s53,s60,s67,x.pF,s74⟩:Ck):=by rw [hw3]; exact List.getElem?_set_self (List.getElem?_eq_some_iff.1 hew2).1
  refine eY ?_
  refine ZX ?_
  refine hU [(0,true),(1,true),(2,true),(3,true),(4,true),(5,true),(6,true),(7,true),(8,true),(9,true),(10,true),(11,true),(12,true),(13,true),(14,true),(15,true),(16,true),(17,true),(18,true),(19,true),(20,false),(21,true),(22,true),(23,false),(24,true),(25,true),(26,false)] ?_
  refine ZX ?_
  refine Zw rfl (lN rfl rfl ⟨by omega,by omega⟩) ?_
  refine ZX ?_
  refine Zw rfl (lN rfl rfl ⟨by omega,by omega⟩) ?_
  refine ZX ?_
  refine Zw rfl (lN rfl rfl ⟨by omega,by omega⟩) ?_
  refine ZX ?_
  refine VD.one rfl ?_
  refine Zv  (vc:=[i64 (i+1)]) (cs':=[bv.val,ov.val,tv.val,i64 (i+1),i64 j,i64 k,w3.val,.bool true]) rfl DP ?_
  refine QA [(17,i64 (k+1)),(12,i64 (j+1))] (bR.cons rfl (lN rfl rfl ⟨by omega,by omega⟩) (bR.cons rfl (lN rfl rfl ⟨by omega,by omega⟩) bR.nil)) ?_
  refine ZX ?_
  refine VD.one rfl ?_
  refine Zv  (vc:=[i64 (j+1)]) (cs':=[bv.val,ov.val,tv.val,i64 (i+1),i64 (j+1),i64 k,w3.val,.bool true]) rfl DP ?_
  refine QA [(17,i64 (k+1))] (bR.cons rfl (lN rfl rfl ⟨by omega,by omega⟩) bR.nil) ?_
  refine ZX ?_
  refine VD.one rfl ?_
  refine Zv  (vc:=[i64 (k+1)]) (cs':=[bv.val,ov.val,tv.val,i64 (i+1),i64 (j+1),i64 (k+1),w3.val,.bool true]) rfl DP ?_
  refine eY ?_
  have hidx:=aRL hout
  have hfin:w3.l=fr++[(⟨s53,s60,s67,x.pF,s74⟩:Ck)]:=by
    rw [hw3,hw2,hw1,hw0,hidx,hout,VR,VR,VR,VR]
  exact VD.nil (aMD (.inl rfl) rfl (w3,⟨s53,s60,s67,x.pF,s74⟩) rfl (⟨hfin,hs53,hs60,hs67,hs74,rfl⟩) fL.out)
 refine VG.via (S:=Sv bI×Sv bI×Sv bI×Sv bI) (fun sg=>sg.1.l=x.base.l++[line]∧sg.2.1.l=x.ours.l++[line]∧sg.2.2.1.l=x.cR.l++[line]∧sg.2.2.2.l=[line]) 13 (fun _=>kD3 o x) (bl 44 2147483647) (fun sg=>kB p o line (kA o 68 4 x.out.val (73,sg.2.2.2.val) [(53,sg.1.val),(60,sg.2.1.val),(67,sg.2.2.1.val)])) (fun sg=>(sg.2.2.2.ok.and Mo.tt)) (fun sg=>kE p bv ov tv i j k o sg.1 sg.2.1 sg.2.2.1 x.out) ?_ fun key127 => ?_
 ·
  rintro ⟨s53,s60,s67,s73⟩ ⟨hs53,hs60,hs67,hs73⟩
  exact VG.fork (l:=[31]) (by kernel_rfl) rfl (al1 (LY rfl (fun s hs=>key255 (s53,s60,s67,s) ⟨hs53,hs60,hs67,hs⟩) hs73 hx4 (fun _=>bR.nil)))
 refine VG.via (S:=Sv bI×Sv bI×Sv bI) (fun sg=>sg.1.l=x.base.l++[line]∧sg.2.1.l=x.ours.l++[line]∧sg.2.2.l=x.cR.l++[line]) 14 (fun _=>kD3 o x) (bl 44 1073741823) (fun sg=>kB p o line (kA o 68 4 x.out.val (72,str line) [(53,sg.1.val),(60,sg.2.1.val),(67,sg.2.2.val)])) (fun sg=>Mo.tt) (fun sg=>kE p bv ov tv i j k o sg.1 sg.2.1 sg.2.2 x.out) ?_ fun key63 => ?_
 ·
  rintro ⟨s53,s60,s67⟩ ⟨hs53,hs60,hs67⟩
  exact VG.fork (l:=[30]) (by kernel_rfl) rfl (al1 (mR rfl (fun s hs=>key127 (s53,s60,s67,s) ⟨hs53,hs60,hs67,hs⟩) (fun _=>(kP 28 27 26 Pz).out)))
 refine VG.via (S:=Sv bI×Sv bI×Sv bI×Sv bI) (fun sg=>sg.1.l=x.base.l++[line]∧sg.2.1.l=x.ours.l++[line]∧sg.2.2.1.l=[line]∧sg.2.2.2.l=[line]) 14 (fun _=>kD2 o x) (bl 44 2130706431) (fun sg=>kB p o line (kA o 61 2 x.cR.val (66,sg.2.2.1.val) (kA o 68 4 x.out.val (73,sg.2.2.2.val) [(53,sg.1.val),(60,sg.2.1.val)]))) (fun sg=>(sg.2.2.2.ok.and (sg.2.2.1.ok.and Mo.tt))) (fun sg=>kE p bv ov tv i j k o sg.1 sg.2.1 x.cR x.out) ?_ fun key95 => ?_
 ·
  rintro ⟨s53,s60,s66,s73⟩ ⟨hs53,hs60,hs66,hs73⟩
  exact VG.fork (l:=[24]) (by kernel_rfl) rfl (al1 (LY rfl (fun s hs=>key127 (s53,s60,s,s73) ⟨hs53,hs60,hs,hs73⟩) hs66 hx3 (fun _=>(kP 28 27 26 Pz).out)))
 refine VG.via (S:=Sv bI×Sv bI×Sv bI) (fun sg=>sg.1.l=x.base.l++[line]∧sg.2.1.l=x.ours.l++[line]∧sg.2.2.l=[line]) 15 (fun _=>kD2 o x) (bl 44 1056964607) (fun sg=>kB p o line (kA o 61 2 x.cR.val (66,sg.2.2.val) (kA o 68 4 x.out.val (72,str line) [(53,sg.1.val),(60,sg.2.1.val)]))) (fun sg=>(sg.2.2.ok.and Mo.tt)) (fun sg=>kE p bv ov tv i j k o sg.1 sg.2.1 x.cR x.out) ?_ fun key31 => ?_
 ·
  rintro ⟨s53,s60,s66⟩ ⟨hs53,hs60,hs66⟩
  exact VG.fork (l:=[24,30]) (by kernel_rfl) rfl (al2 (LY rfl (fun s hs=>key63 (s53,s60,s) ⟨hs53,hs60,hs⟩) hs66 hx3 (fun _=>(kP 28 27 26 Pz).out)) (mR rfl (fun s hs=>key95 (s53,s60,s66,s) ⟨hs53,hs60,hs66,hs⟩) (fun _=>(kP 28 27 26 (kP 21 20 19 Pz)).out)))
 refine VG.via (S:=Sv bI×Sv bI×Sv bI) (fun sg=>sg.1.l=x.base.l++[line]∧sg.2.1.l=x.ours.l++[line]∧sg.2.2.l=[line]) 15 (fun _=>kD2 o x) (bl 44 2122317823) (fun sg=>kB p o line (kA o 61 2 x.cR.val (65,str line) (kA o 68 4 x.out.val (73,sg.2.2.val) [(53,sg.1.val),(60,sg.2.1.val)]))) (fun sg=>(sg.2.2.ok.and Mo.tt)) (fun sg=>kE p bv ov tv i j k o sg.1 sg.2.1 x.cR x.out) ?_ fun key79 => ?_
 ·
  rintro ⟨s53,s60,s73⟩ ⟨hs53,hs60,hs73⟩
  exact VG.fork (l:=[23]) (by kernel_rfl) rfl (al1 (mR rfl (fun s hs=>key95 (s53,s60,s,s73) ⟨hs53,hs60,hs,hs73⟩) (fun _=>(kP 28 27 26 (kP 21 20 19 Pz)).out)))
 refine VG.via (S:=Sv bI×Sv bI×Sv bI×Sv bI) (fun sg=>sg.1.l=x.base.l++[line]∧sg.2.1.l=[line]∧sg.2.2.1.l=[line]∧sg.2.2.2.l=[line]) 15 (fun _=>kD1 o x) (bl 44 2130575359) (fun sg=>kB p o line (kA o 54 1 x.ours.val (59,sg.2.1.val) (kA o 61 2 x.cR.val (66,sg.2.2.1.val) (kA o 68 4 x.out.val (73,sg.2.2.2.val) [(53,sg.1.val)])))) (fun sg=>(sg.2.2.2.ok.and (sg.2.2.1.ok.and (sg.2.1.ok.and Mo.tt)))) (fun sg=>kE p bv ov tv i j k o sg.1 x.ours x.cR x.out) ?_ fun key87 => ?_
 ·
  rintro ⟨s53,s59,s66,s73⟩ ⟨hs53,hs59,hs66,hs73⟩
  exact VG.fork (l:=[17]) (by kernel_rfl) rfl (al1 (LY rfl (fun s hs=>key95 (s53,s,s66,s73) ⟨hs53,hs,hs66,hs73⟩) hs59 hx2 (fun _=>(kP 28 27 26 (kP 21 20 19 Pz)).out)))
 refine VG.via (S:=Sv bI×Sv bI) (fun sg=>sg.1.l=x.base.l++[line]∧sg.2.l=x.ours.l++[line]) 16 (fun _=>kD2 o x) (bl 44 1048575999) (fun sg=>kB p o line (kA o 61 2 x.cR.val (65,str line) (kA o 68 4 x.out.val (72,str line) [(53,sg.1.val),(60,sg.2.val)]))) (fun sg=>Mo.tt) (fun sg=>kE p bv ov tv i j k o sg.1 sg.2 x.cR x.out) ?_ fun key15 => ?_
 ·
  rintro ⟨s53,s60⟩ ⟨hs53,hs60⟩
  exact VG.fork (l:=[23,30]) (by kernel_rfl) rfl (al2 (mR rfl (fun s hs=>key31 (s53,s60,s) ⟨hs53,hs60,hs⟩) (fun _=>(kP 28 27 26 (kP 21 20 19 Pz)).out)) (mR rfl (fun s hs=>key79 (s53,s60,s) ⟨hs53,hs60,hs⟩) (fun _=>(kP 28 27 26 (kP 21 20 19 Pz)).out)))
 refine VG.via (S:=Sv bI×Sv bI×Sv bI) (fun sg=>sg.1.l=x.base.l++[line]∧sg.2.1.l=[line]∧sg.2.2.l=[line]) 16 (fun _=>kD1 o x) (bl 44 1056833535) (fun sg=>kB p o line (kA o 54 1 x.ours.val (59,sg.2.1.val) (kA o 61 2 x.cR.val (66,sg.2.2.val) (kA o 68 4 x.out.val (72,str line) [(53,sg.1.val)])))) (fun sg=>(sg.2.2.ok.and (sg.2.1.ok.and Mo.tt))) (fun sg=>kE p bv ov tv i j k o sg.1 x.ours x.cR x.out) ?_ fun key23 => ?_
 ·
  rintro ⟨s53,s59,s66⟩ ⟨hs53,hs59,hs66⟩
  exact VG.fork (l:=[17,30]) (by kernel_rfl) rfl (al2 (LY rfl (fun s hs=>key31 (s53,s,s66) ⟨hs53,hs,hs66⟩) hs59 hx2 (fun _=>(kP 28 27 26 (kP 21 20 19 Pz)).out)) (mR rfl (fun s hs=>key87 (s53,s59,s66,s) ⟨hs53,hs59,hs66,hs⟩) (fun _=>(kP 28 27 26 (kP 21 20 19 (kP 14 13 12 Pz))).out)))
 refine VG.via (S:=Sv bI×Sv bI×Sv bI) (fun sg=>sg.1.l=x.base.l++[line]∧sg.2.1.l=[line]∧sg.2.2.l=[line]) 16 (fun _=>kD1 o x) (bl 44 2122186751) (fun sg=>kB p o line (kA o 54 1 x.ours.val (59,sg.2.1.val) (kA o 61 2 x.cR.val (65,str line) (kA o 68 4 x.out.val (73,sg.2.2.val) [(53,sg.1.val)])))) (fun sg=>(sg.2.2.ok.and (sg.2.1.ok.and Mo.tt))) (fun sg=>kE p bv ov tv i j k o sg.1 x.ours x.cR x.out) ?_ fun key71 => ?_
 ·
  rintro ⟨s53,s59,s73⟩ ⟨hs53,hs59,hs73⟩
  exact VG.fork (l:=[17,23]) (by kernel_rfl) rfl (al2 (LY rfl (fun s hs=>key79 (s53,s,s73) ⟨hs53,hs,hs73⟩) hs59 hx2 (fun _=>(kP 28 27 26 (kP 21 20 19 Pz)).out)) (mR rfl (fun s hs=>key87 (s53,s59,s,s73) ⟨hs53,hs59,hs,hs73⟩) (fun _=>(kP 28 27 26 (kP 21 20 19 (kP 14 13 12 Pz))).out)))
 refine VG.via (S:=Sv bI×Sv bI×Sv bI) (fun sg=>sg.1.l=x.base.l++[line]∧sg.2.1.l=[line]∧sg.2.2.l=[line]) 16 (fun _=>kD1 o x) (bl 44 2130509823) (fun sg=>kB p o line (kA o 54 1 x.ours.val (58,str line) (kA o 61 2 x.cR.val (66,sg.2.1.val) (kA o 68 4 x.out.val (73,sg.2.2.val) [(53,sg.1.val)])))) (fun sg=>(sg.2.2.ok.and (sg.2.1.ok.and Mo.tt))) (fun sg=>kE p bv ov tv i j k o sg.1 x.ours x.cR x.out) ?_ fun key83 => ?_
 ·
  rintro ⟨s53,s66,s73⟩ ⟨hs53,hs66,hs73⟩
  exact VG.fork (l:=[16]) (by kernel_rfl) rfl (al1 (mR rfl (fun s hs=>key87 (s53,s,s66,s73) ⟨hs53,hs,hs66,hs73⟩) (fun _=>(kP 28 27 26 (kP 21 20 19 (kP 14 13 12 Pz))).out)))
 refine VG.via (S:=Sv bI×Sv bI×Sv bI×Sv bI) (fun sg=>sg.1.l=[line]∧sg.2.1.l=[line]∧sg.2.2.1.l=[line]∧sg.2.2.2.l=[line]) 16 (fun _=>X3 o x) (bl 44 2130574335) (fun sg=>kB p o line (kA o 47 0 x.base.val (52,sg.1.val) (kA o 54 1 x.ours.val (59,sg.2.1.val) (kA o 61 2 x.cR.val (66,sg.2.2.1.val) (kA o 68 4 x.out.val (73,sg.2.2.2.val) []))))) (fun sg=>(sg.2.2.2.ok.and (sg.2.2.1.ok.and (sg.2.1.ok.and (sg.1.ok.and Mo.tt))))) (fun sg=>kE p bv ov tv i j k o x.base x.ours x.cR x.out) ?_ fun key85 => ?_
 ·
  rintro ⟨s52,s59,s66,s73⟩ ⟨hs52,hs59,hs66,hs73⟩
  exact VG.fork (l:=[10]) (by kernel_rfl) rfl (al1 (LY rfl (fun s hs=>key87 (s,s59,s66,s73) ⟨hs,hs59,hs66,hs73⟩) hs52 hx1 (fun _=>(kP 28 27 26 (kP 21 20 19 (kP 14 13 12 Pz))).out)))
 refine VG.via (S:=Sv bI×Sv bI) (fun sg=>sg.1.l=x.base.l++[line]∧sg.2.l=[line]) 17 (fun _=>kD1 o x) (bl 44 1048444927) (fun sg=>kB p o line (kA o 54 1 x.ours.val (59,sg.2.val) (kA o 61 2 x.cR.val (65,str line) (kA o 68 4 x.out.val (72,str line) [(53,sg.1.val)])))) (fun sg=>(sg.2.ok.and Mo.tt)) (fun sg=>kE p bv ov tv i j k o sg.1 x.ours x.cR x.out) ?_ fun key7 => ?_
 ·
  rintro ⟨s53,s59⟩ ⟨hs53,hs59⟩
  exact VG.fork (l:=[17,23,30]) (by kernel_rfl) rfl (al3 (LY rfl (fun s hs=>key15 (s53,s) ⟨hs53,hs⟩) hs59 hx2 (fun _=>(kP 28 27 26 (kP 21 20 19 Pz)).out)) (mR rfl (fun s hs=>key23 (s53,s59,s) ⟨hs53,hs59,hs⟩) (fun _=>(kP 28 27 26 (kP 21 20 19 (kP 14 13 12 Pz))).out)) (mR rfl (fun s hs=>key71 (s53,s59,s) ⟨hs53,hs59,hs⟩) (fun _=>(kP 28 27 26 (kP 21 20 19 (kP 14 13 12 Pz))).out)))
 refine VG.via (S:=Sv bI×Sv bI) (fun sg=>sg.1.l=x.base.l++[line]∧sg.2.l=[line]) 17 (fun _=>kD1 o x) (bl 44 1056767999) (fun sg=>kB p o line (kA o 54 1 x.ours.val (58,str line) (kA o 61 2 x.cR.val (66,sg.2.val) (kA o 68 4 x.out.val (72,str line) [(53,sg.1.val)])))) (fun sg=>(sg.2.ok.and Mo.tt)) (fun sg=>kE p bv ov tv i j k o sg.1 x.ours x.cR x.out) ?_ fun key19 => ?_
 ·
  rintro ⟨s53,s66⟩ ⟨hs53,hs66⟩
  exact VG.fork (l:=[16,30]) (by kernel_rfl) rfl (al2 (mR rfl (fun s hs=>key23 (s53,s,s66) ⟨hs53,hs,hs66⟩) (fun _=>(kP 28 27 26 (kP 21 20 19 (kP 14 13 12 Pz))).out)) (mR rfl (fun s hs=>key83 (s53,s66,s) ⟨hs53,hs66,hs⟩) (fun _=>(kP 28 27 26 (kP 21 20 19 (kP 14 13 12 Pz))).out)))
 refine VG.via (S:=Sv bI×Sv bI) (fun sg=>sg.1.l=x.base.l++[line]∧sg.2.l=[line]) 17 (fun _=>kD1 o x) (bl 44 2122121215) (fun sg=>kB p o line (kA o 54 1 x.ours.val (58,str line) (kA o 61 2 x.cR.val (65,str line) (kA o 68 4 x.out.val (73,sg.2.val) [(53,sg.1.val)])))) (fun sg=>(sg.2.ok.and Mo.tt)) (fun sg=>kE p bv ov tv i j k o sg.1 x.ours x.cR x.out) ?_ fun key67 => ?_
 ·
  rintro ⟨s53,s73⟩ ⟨hs53,hs73⟩
  exact VG.fork (l:=[16,23]) (by kernel_rfl) rfl (al2 (mR rfl (fun s hs=>key71 (s53,s,s73) ⟨hs53,hs,hs73⟩) (fun _=>(kP 28 27 26 (kP 21 20 19 (kP 14 13 12 Pz))).out)) (mR rfl (fun s hs=>key83 (s53,s,s73) ⟨hs53,hs,hs73⟩) (fun _=>(kP 28 27 26 (kP 21 20 19 (kP 14 13 12 Pz))).out)))
 refine VG.via (S:=Sv bI×Sv bI×Sv bI) (fun sg=>sg.1.l=[line]∧sg.2.1.l=[line]∧sg.2.2.l=[line]) 17 (fun _=>X3 o x) (bl 44 1056832511) (fun sg=>kB p o line (kA o 47 0 x.base.val (52,sg.1.val) (kA o 54 1 x.ours.val (59,sg.2.1.val) (kA o 61 2 x.cR.val (66,sg.2.2.val) (kA o 68 4 x.out.val (72,str line) []))))) (fun sg=>(sg.2.2.ok.and (sg.2.1.ok.and (sg.1.ok.and Mo.tt)))) (fun sg=>kE p bv ov tv i j k o x.base x.ours x.cR x.out) ?_ fun key21 => ?_
 ·
  rintro ⟨s52,s59,s66⟩ ⟨hs52,hs59,hs66⟩
  exact VG.fork (l:=[10,30]) (by kernel_rfl) rfl (al2 (LY rfl (fun s hs=>key23 (s,s59,s66) ⟨hs,hs59,hs66⟩) hs52 hx1 (fun _=>(kP 28 27 26 (kP 21 20 19 (kP 14 13 12 Pz))).out)) (mR rfl (fun s hs=>key85 (s52,s59,s66,s) ⟨hs52,hs59,hs66,hs⟩) (fun _=>(kP 28 27 26 (kP 21 20 19 (kP 14 13 12 (kP 7 6 5 Pz)))).out)))
 refine VG.via (S:=Sv bI×Sv bI×Sv bI) (fun sg=>sg.1.l=[line]∧sg.2.1.l=[line]∧sg.2.2.l=[line]) 17 (fun _=>X3 o x) (bl 44 2122185727) (fun sg=>kB p o line (kA o 47 0 x.base.val (52,sg.1.val) (kA o 54 1 x.ours.val (59,sg.2.1.val) (kA o 61 2 x.cR.val (65,str line) (kA o 68 4 x.out.val (73,sg.2.2.val) []))))) (fun sg=>(sg.2.2.ok.and (sg.2.1.ok.and (sg.1.ok.and Mo.tt)))) (fun sg=>kE p bv ov tv i j k o x.base x.ours x.cR x.out) ?_ fun key69 => ?_
 ·
  rintro ⟨s52,s59,s73⟩ ⟨hs52,hs59,hs73⟩
  exact VG.fork (l:=[10,23]) (by kernel_rfl) rfl (al2 (LY rfl (fun s hs=>key71 (s,s59,s73) ⟨hs,hs59,hs73⟩) hs52 hx1 (fun _=>(kP 28 27 26 (kP 21 20 19 (kP 14 13 12 Pz))).out)) (mR rfl (fun s hs=>key85 (s52,s59,s,s73) ⟨hs52,hs59,hs,hs73⟩) (fun _=>(kP 28 27 26 (kP 21 20 19 (kP 14 13 12 (kP 7 6 5 Pz)))).out)))
 refine VG.via (S:=Sv bI×Sv bI×Sv bI) (fun sg=>sg.1.l=[line]∧sg.2.1.l=[line]∧sg.2.2.l=[line]) 17 (fun _=>X3 o x) (bl 44 2130508799) (fun sg=>kB p o line (kA o 47 0 x.base.val (52,sg.1.val) (kA o 54 1 x.ours.val (58,str line) (kA o 61 2 x.cR.val (66,sg.2.1.val) (kA o 68 4 x.out.val (73,sg.2.2.val) []))))) (fun sg=>(sg.2.2.ok.and (sg.2.1.ok.and (sg.1.ok.and Mo.tt)))) (fun sg=>kE p bv ov tv i j k o x.base x.ours x.cR x.out) ?_ fun key81 => ?_
 ·
  rintro ⟨s52,s66,s73⟩ ⟨hs52,hs66,hs73⟩
  exact VG.fork (l:=[10,16]) (by kernel_rfl) rfl (al2 (LY rfl (fun s hs=>key83 (s,s66,s73) ⟨hs,hs66,hs73⟩) hs52 hx1 (fun _=>(kP 28 27 26 (kP 21 20 19 (kP 14 13 12 Pz))).out)) (mR rfl (fun s hs=>key85 (s52,s,s66,s73) ⟨hs52,hs,hs66,hs73⟩) (fun _=>(kP 28 27 26 (kP 21 20 19 (kP 14 13 12 (kP 7 6 5 Pz)))).out)))
 refine VG.via (S:=Sv bI×Sv bI×Sv bI) (fun sg=>sg.1.l=[line]∧sg.2.1.l=[line]∧sg.2.2.l=[line]) 17 (fun _=>X3 o x) (bl 44 2130573823) (fun sg=>kB p o line (kA o 47 0 x.base.val (51,str line) (kA o 54 1 x.ours.val (59,sg.1.val) (kA o 61 2 x.cR.val (66,sg.2.1.val) (kA o 68 4 x.out.val (73,sg.2.2.val) []))))) (fun sg=>(sg.2.2.ok.and (sg.2.1.ok.and (sg.1.ok.and Mo.tt)))) (fun sg=>kE p bv ov tv i j k o x.base x.ours x.cR x.out) ?_ fun key84 => ?_
 ·
  rintro ⟨s59,s66,s73⟩ ⟨hs59,hs66,hs73⟩
  exact VG.fork (l:=[9]) (by kernel_rfl) rfl (al1 (mR rfl (fun s hs=>key85 (s,s59,s66,s73) ⟨hs,hs59,hs66,hs73⟩) (fun _=>(kP 28 27 26 (kP 21 20 19 (kP 14 13 12 (kP 7 6 5 Pz)))).out)))
 refine VG.via (S:=Sv bI) (fun sg=>sg.l=x.base.l++[line]) 18 (fun _=>kD1 o x) (bl 44 1048379391) (fun sg=>kB p o line (kA o 54 1 x.ours.val (58,str line) (kA o 61 2 x.cR.val (65,str line) (kA o 68 4 x.out.val (72,str line) [(53,sg.val)])))) (fun sg=>Mo.tt) (fun sg=>kE p bv ov tv i j k o sg x.ours x.cR x.out) ?_ fun key3 => ?_
 ·
  rintro s53 hs53
  exact VG.fork (l:=[16,23,30]) (by kernel_rfl) rfl (al3 (mR rfl (fun s hs=>key7 (s53,s) ⟨hs53,hs⟩) (fun _=>(kP 28 27 26 (kP 21 20 19 (kP 14 13 12 Pz))).out)) (mR rfl (fun s hs=>key19 (s53,s) ⟨hs53,hs⟩) (fun _=>(kP 28 27 26 (kP 21 20 19 (kP 14 13 12 Pz))).out)) (mR rfl (fun s hs=>key67 (s53,s) ⟨hs53,hs⟩) (fun _=>(kP 28 27 26 (kP 21 20 19 (kP 14 13 12 Pz))).out)))
 refine VG.via (S:=Sv bI×Sv bI) (fun sg=>sg.1.l=[line]∧sg.2.l=[line]) 18 (fun _=>X3 o x) (bl 44 1048443903) (fun sg=>kB p o line (kA o 47 0 x.base.val (52,sg.1.val) (kA o 54 1 x.ours.val (59,sg.2.val) (kA o 61 2 x.cR.val (65,str line) (kA o 68 4 x.out.val (72,str line) []))))) (fun sg=>(sg.2.ok.and (sg.1.ok.and Mo.tt))) (fun sg=>kE p bv ov tv i j k o x.base x.ours x.cR x.out) ?_ fun key5 => ?_
 ·
  rintro ⟨s52,s59⟩ ⟨hs52,hs59⟩
  exact VG.fork (l:=[10,23,30]) (by kernel_rfl) rfl (al3 (LY rfl (fun s hs=>key7 (s,s59) ⟨hs,hs59⟩) hs52 hx1 (fun _=>(kP 28 27 26 (kP 21 20 19 (kP 14 13 12 Pz))).out)) (mR rfl (fun s hs=>key21 (s52,s59,s) ⟨hs52,hs59,hs⟩) (fun _=>(kP 28 27 26 (kP 21 20 19 (kP 14 13 12 (kP 7 6 5 Pz)))).out)) (mR rfl (fun s hs=>key69 (s52,s59,s) ⟨hs52,hs59,hs⟩) (fun _=>(kP 28 27 26 (kP 21 20 19 (kP 14 13 12 (kP 7 6 5 Pz)))).out)))
 refine VG.via (S:=Sv bI×Sv bI) (fun sg=>sg.1.l=[line]∧sg.2.l=[line]) 18 (fun _=>X3 o x) (bl 44 1056766975) (fun sg=>kB p o line (kA o 47 0 x.base.val (52,sg.1.val) (kA o 54 1 x.ours.val (58,str line) (kA o 61 2 x.cR.val (66,sg.2.val) (kA o 68 4 x.out.val (72,str line) []))))) (fun sg=>(sg.2.ok.and (sg.1.ok.and Mo.tt))) (fun sg=>kE p bv ov tv i j k o x.base x.ours x.cR x.out) ?_ fun key17 => ?_
 ·
  rintro ⟨s52,s66⟩ ⟨hs52,hs66⟩
  exact VG.fork (l:=[10,16,30]) (by kernel_rfl) rfl (al3 (LY rfl (fun s hs=>key19 (s,s66) ⟨hs,hs66⟩) hs52 hx1 (fun _=>(kP 28 27 26 (kP 21 20 19 (kP 14 13 12 Pz))).out)) (mR rfl (fun s hs=>key21 (s52,s,s66) ⟨hs52,hs,hs66⟩) (fun _=>(kP 28 27 26 (kP 21 20 19 (kP 14 13 12 (kP 7 6 5 Pz)))).out)) (mR rfl (fun s hs=>key81 (s52,s66,s) ⟨hs52,hs66,hs⟩) (fun _=>(kP 28 27 26 (kP 21 20 19 (kP 14 13 12 (kP 7 6 5 Pz)))).out)))
 refine VG.via (S:=Sv bI×Sv bI) (fun sg=>sg.1.l=[line]∧sg.2.l=[line]) 18 (fun _=>X3 o x) (bl 44 2122120191) (fun sg=>kB p o line (kA o 47 0 x.base.val (52,sg.1.val) (kA o 54 1 x.ours.val (58,str line) (kA o 61 2 x.cR.val (65,str line) (kA o 68 4 x.out.val (73,sg.2.val) []))))) (fun sg=>(sg.2.ok.and (sg.1.ok.and Mo.tt))) (fun sg=>kE p bv ov tv i j k o x.base x.ours x.cR x.out) ?_ fun key65 => ?_
 ·
  rintro ⟨s52,s73⟩ ⟨hs52,hs73⟩
  exact VG.fork (l:=[10,16,23]) (by kernel_rfl) rfl (al3 (LY rfl (fun s hs=>key67 (s,s73) ⟨hs,hs73⟩) hs52 hx1 (fun _=>(kP 28 27 26 (kP 21 20 19 (kP 14 13 12 Pz))).out)) (mR rfl (fun s hs=>key69 (s52,s,s73) ⟨hs52,hs,hs73⟩) (fun _=>(kP 28 27 26 (kP 21 20 19 (kP 14 13 12 (kP 7 6 5 Pz)))).out)) (mR rfl (fun s hs=>key81 (s52,s,s73) ⟨hs52,hs,hs73⟩) (fun _=>(kP 28 27 26 (kP 21 20 19 (kP 14 13 12 (kP 7 6 5 Pz)))).out)))
 refine VG.via (S:=Sv bI×Sv bI) (fun sg=>sg.1.l=[line]∧sg.2.l=[line]) 18 (fun _=>X3 o x) (bl 44 1056831999) (fun sg=>kB p o line (kA o 47 0 x.base.val (51,str line) (kA o 54 1 x.ours.val (59,sg.1.val) (kA o 61 2 x.cR.val (66,sg.2.val) (kA o 68 4 x.out.val (72,str line) []))))) (fun sg=>(sg.2.ok.and (sg.1.ok.and Mo.tt))) (fun sg=>kE p bv ov tv i j k o x.base x.ours x.cR x.out) ?_ fun key20 => ?_
 ·
  rintro ⟨s59,s66⟩ ⟨hs59,hs66⟩
  exact VG.fork (l:=[9,30]) (by kernel_rfl) rfl (al2 (mR rfl (fun s hs=>key21 (s,s59,s66) ⟨hs,hs59,hs66⟩) (fun _=>(kP 28 27 26 (kP 21 20 19 (kP 14 13 12 (kP 7 6 5 Pz)))).out)) (mR rfl (fun s hs=>key84 (s59,s66,s) ⟨hs59,hs66,hs⟩) (fun _=>(kP 28 27 26 (kP 21 20 19 (kP 14 13 12 (kP 7 6 5 Pz)))).out)))
 refine VG.via (S:=Sv bI×Sv bI) (fun sg=>sg.1.l=[line]∧sg.2.l=[line]) 18 (fun _=>X3 o x) (bl 44 2122185215) (fun sg=>kB p o line (kA o 47 0 x.base.val (51,str line) (kA o 54 1 x.ours.val (59,sg.1.val) (kA o 61 2 x.cR.val (65,str line) (kA o 68 4 x.out.val (73,sg.2.val) []))))) (fun sg=>(sg.2.ok.and (sg.1.ok.and Mo.tt))) (fun sg=>kE p bv ov tv i j k o x.base x.ours x.cR x.out) ?_ fun key68 => ?_
 ·
  rintro ⟨s59,s73⟩ ⟨hs59,hs73⟩
  exact VG.fork (l:=[9,23]) (by kernel_rfl) rfl (al2 (mR rfl (fun s hs=>key69 (s,s59,s73) ⟨hs,hs59,hs73⟩) (fun _=>(kP 28 27 26 (kP 21 20 19 (kP 14 13 12 (kP 7 6 5 Pz)))).out)) (mR rfl (fun s hs=>key84 (s59,s,s73) ⟨hs59,hs,hs73⟩) (fun _=>(kP 28 27 26 (kP 21 20 19 (kP 14 13 12 (kP 7 6 5 Pz)))).out)))
 refine VG.via (S:=Sv bI×Sv bI) (fun sg=>sg.1.l=[line]∧sg.2.l=[line]) 18 (fun _=>X3 o x) (bl 44 2130508287) (fun sg=>kB p o line (kA o 47 0 x.base.val (51,str line) (kA o 54 1 x.ours.val (58,str line) (kA o 61 2 x.cR.val (66,sg.1.val) (kA o 68 4 x.out.val (73,sg.2.val) []))))) (fun sg=>(sg.2.ok.and (sg.1.ok.and Mo.tt))) (fun sg=>kE p bv ov tv i j k o x.base x.ours x.cR x.out) ?_ fun key80 => ?_
 ·
  rintro ⟨s66,s73⟩ ⟨hs66,hs73⟩
  exact VG.fork (l:=[9,16]) (by kernel_rfl) rfl (al2 (mR rfl (fun s hs=>key81 (s,s66,s73) ⟨hs,hs66,hs73⟩) (fun _=>(kP 28 27 26 (kP 21 20 19 (kP 14 13 12 (kP 7 6 5 Pz)))).out)) (mR rfl (fun s hs=>key84 (s,s66,s73) ⟨hs,hs66,hs73⟩) (fun _=>(kP 28 27 26 (kP 21 20 19 (kP 14 13 12 (kP 7 6 5 Pz)))).out)))
 refine VG.via (S:=Sv bI) (fun sg=>sg.l=[line]) 19 (fun _=>X3 o x) (bl 44 1048378367) (fun sg=>kB p o line (kA o 47 0 x.base.val (52,sg.val) (kA o 54 1 x.ours.val (58,str line) (kA o 61 2 x.cR.val (65,str line) (kA o 68 4 x.out.val (72,str line) []))))) (fun sg=>(sg.ok.and Mo.tt)) (fun sg=>kE p bv ov tv i j k o x.base x.ours x.cR x.out) ?_ fun key1 => ?_
 ·
  rintro s52 hs52
  exact VG.fork (l:=[10,16,23,30]) (by kernel_rfl) rfl (al4 (LY rfl (fun s hs=>key3 s hs) hs52 hx1 (fun _=>(kP 28 27 26 (kP 21 20 19 (kP 14 13 12 Pz))).out)) (mR rfl (fun s hs=>key5 (s52,s) ⟨hs52,hs⟩) (fun _=>(kP 28 27 26 (kP 21 20 19 (kP 14 13 12 (kP 7 6 5 Pz)))).out)) (mR rfl (fun s hs=>key17 (s52,s) ⟨hs52,hs⟩) (fun _=>(kP 28 27 26 (kP 21 20 19 (kP 14 13 12 (kP 7 6 5 Pz)))).out)) (mR rfl (fun s hs=>key65 (s52,s) ⟨hs52,hs⟩) (fun _=>(kP 28 27 26 (kP 21 20 19 (kP 14 13 12 (kP 7 6 5 Pz)))).out)))
 refine VG.via (S:=Sv bI) (fun sg=>sg.l=[line]) 19 (fun _=>X3 o x) (bl 44 1048443391) (fun sg=>kB p o line (kA o 47 0 x.base.val (51,str line) (kA o 54 1 x.ours.val (59,sg.val) (kA o 61 2 x.cR.val (65,str line) (kA o 68 4 x.out.val (72,str line) []))))) (fun sg=>(sg.ok.and Mo.tt)) (fun sg=>kE p bv ov tv i j k o x.base x.ours x.cR x.out) ?_ fun key4 => ?_
 ·
  rintro s59 hs59
  exact VG.fork (l:=[9,23,30]) (by kernel_rfl) rfl (al3 (mR rfl (fun s hs=>key5 (s,s59) ⟨hs,hs59⟩) (fun _=>(kP 28 27 26 (kP 21 20 19 (kP 14 13 12 (kP 7 6 5 Pz)))).out)) (mR rfl (fun s hs=>key20 (s59,s) ⟨hs59,hs⟩) (fun _=>(kP 28 27 26 (kP 21 20 19 (kP 14 13 12 (kP 7 6 5 Pz)))).out)) (mR rfl (fun s hs=>key68 (s59,s) ⟨hs59,hs⟩) (fun _=>(kP 28 27 26 (kP 21 20 19 (kP 14 13 12 (kP 7 6 5 Pz)))).out)))
 refine VG.via (S:=Sv bI) (fun sg=>sg.l=[line]) 19 (fun _=>X3 o x) (bl 44 1056766463) (fun sg=>kB p o line (kA o 47 0 x.base.val (51,str line) (kA o 54 1 x.ours.val (58,str line) (kA o 61 2 x.cR.val (66,sg.val) (kA o 68 4 x.out.val (72,str line) []))))) (fun sg=>(sg.ok.and Mo.tt)) (fun sg=>kE p bv ov tv i j k o x.base x.ours x.cR x.out) ?_ fun key16 => ?_
 ·
  rintro s66 hs66
  exact VG.fork (l:=[9,16,30]) (by kernel_rfl) rfl (al3 (mR rfl (fun s hs=>key17 (s,s66) ⟨hs,hs66⟩) (fun _=>(kP 28 27 26 (kP 21 20 19 (kP 14 13 12 (kP 7 6 5 Pz)))).out)) (mR rfl (fun s hs=>key20 (s,s66) ⟨hs,hs66⟩) (fun _=>(kP 28 27 26 (kP 21 20 19 (kP 14 13 12 (kP 7 6 5 Pz)))).out)) (mR rfl (fun s hs=>key80 (s66,s) ⟨hs66,hs⟩) (fun _=>(kP 28 27 26 (kP 21 20 19 (kP 14 13 12 (kP 7 6 5 Pz)))).out)))
 refine VG.via (S:=Sv bI) (fun sg=>sg.l=[line]) 19 (fun _=>X3 o x) (bl 44 2122119679) (fun sg=>kB p o line (kA o 47 0 x.base.val (51,str line) (kA o 54 1 x.ours.val (58,str line) (kA o 61 2 x.cR.val (65,str line) (kA o 68 4 x.out.val (73,sg.val) []))))) (fun sg=>(sg.ok.and Mo.tt)) (fun sg=>kE p bv ov tv i j k o x.base x.ours x.cR x.out) ?_ fun key64 => ?_
 ·
  rintro s73 hs73
  exact VG.fork (l:=[9,16,23]) (by kernel_rfl) rfl (al3 (mR rfl (fun s hs=>key65 (s,s73) ⟨hs,hs73⟩) (fun _=>(kP 28 27 26 (kP 21 20 19 (kP 14 13 12 (kP 7 6 5 Pz)))).out)) (mR rfl (fun s hs=>key68 (s,s73) ⟨hs,hs73⟩) (fun _=>(kP 28 27 26 (kP 21 20 19 (kP 14 13 12 (kP 7 6 5 Pz)))).out)) (mR rfl (fun s hs=>key80 (s,s73) ⟨hs,hs73⟩) (fun _=>(kP 28 27 26 (kP 21 20 19 (kP 14 13 12 (kP 7 6 5 Pz)))).out)))
 exact VG.fork (l:=[9,16,23,30]) (by kernel_rfl) rfl (al4 (mR rfl (fun s hs=>key1 s hs) (fun _=>(kP 28 27 26 (kP 21 20 19 (kP 14 13 12 (kP 7 6 5 Pz)))).out)) (mR rfl (fun s hs=>key4 s hs) (fun _=>(kP 28 27 26 (kP 21 20 19 (kP 14 13 12 (kP 7 6 5 Pz)))).out)) (mR rfl (fun s hs=>key16 s hs) (fun _=>(kP 28 27 26 (kP 21 20 19 (kP 14 13 12 (kP 7 6 5 Pz)))).out)) (mR rfl (fun s hs=>key64 s hs) (fun _=>(kP 28 27 26 (kP 21 20 19 (kP 14 13 12 (kP 7 6 5 Pz)))).out)))
theorem a0g {b:List bI} {s r:Sh.DS} {o:Sv Ck} {fr:List Ck} {x:Ck} (hS:Sh.CF b s=some r) (hR:Rel s o fr x) : ∃ line,b[s.i.toNat]? = some line∧(o.l.length≤1048576∧0≤s.i∧s.i≤1048576∧0≤s.j∧s.j≤1048576∧0≤s.k∧s.k≤1048576)∧(x.base.l.length≤1048576∧x.ours.l.length≤1048576∧x.cR.l.length≤1048576∧x.out.l.length≤1048576) ∧
 r=⟨fr.map iM.pl++[⟨x.base.l++[line],x.ours.l++[line],x.cR.l++[line],x.pF,x.out.l++[line]⟩],s.i+1,s.j+1,s.k+1,true⟩:=by
 unfold Sh.CF at hS
 obtain ⟨line,n0,hl,hS⟩:=gQ hS
 obtain ⟨hb,hS⟩:=bX hS
 have e:(if s.op=true then s.out else s.out++[⟨[],[],[],false,[]⟩])=fr.map iM.pl++[x.pl]:=by
   cases hop:s.op with
   | true=>rw [if_pos rfl,← hR.out,hR.yes hop,List.map_append]; rfl
   | false =>
     obtain ⟨e1,e2⟩:=hR.no hop
     rw [if_neg (by decide),← hR.out,e1,e2]; rfl
 rw [e] at hS
 unfold Go.S.lt at hS
 simp only [List.getLast?_append,List.getLast?_singleton,Option.some_or,List.dropLast_concat] at hS
 obtain ⟨hc,hS⟩:=bX hS
 cases hS
 exact ⟨line,hl,by rw [← hR.out,List.length_map] at hb; exact hb,hc,rfl⟩
theorem aRH (p:Nat) (bv ov tv:Sv bI) (o:Sv Ck) (fr:List Ck) (x:Ck) (s:Sh.DS) {r:Sh.DS} (hS:Sh.CF bv.l s=some r) (hR:Rel s o fr x) :
 Ct Tryz.prog 362 [ptr p 0] ((MA fr).and bv.ok) (Ow.star (bM p [bv.val,ov.val,tv.val,i64 s.i,i64 s.j,i64 s.k,o.val,.bool s.op] 415) (Ow.star (o.own 407) (N3 s.op x))) (X:=Sv Ck×List Ck×Ck) (fun _ => .tuple #[]) (fun y=>Rel r y.1 y.2.1 y.2.2) (fun y=>MA y.2.1) (fun y=>Ow.star (bM p [bv.val,ov.val,tv.val,i64 r.i,i64 r.j,i64 r.k,y.1.val,.bool r.op] 415) (Ow.star (y.1.own 407) (N3 r.op y.2.2))):=by
 obtain ⟨line,hline,⟨hl,i0,i1,j0,j1,k0,k1⟩,⟨x1,x2,x3,x4⟩,rfl⟩:=a0g hS hR
 have hc:=aV7 p bv ov tv o s.op fr x line s.i s.j s.k hR.yes hR.no hline i0 j0 k0 i1 j1 k1 hl x1 x2 x3 x4
 refine ⟨hc.entry,fun w h e m ee d l kk => ?_⟩
 have st:=St.start m ee d l kk
 exact (Ct.at hc (dM.out) (nC.all) st).mono fun en w' ⟨r,h1,y,h2,⟨q1,q2,q3,q4,q5,q6⟩,h4⟩=>⟨r,h1,(y.1,fr,y.2),h2,⟨fun _=>q1,fun q=>(by cases q),by rw [q1,List.map_append,List.map_singleton]; simp [iM.pl,q2,q3,q4,q5,q6]⟩,h4.mono (fun hp q=>q.2.1) (by dsimp only [N3]; exact fL.out)⟩
instance a5I (a b d:Sv bI) :
 jG Tryz.prog 352 [a.val,b.val,d.val] (Sh.BI a.l b.l d.l) (a.ok.and (b.ok.and d.ok)) (X:=Sv iM×Er) (fun x => .tuple #[x.1.val,x.2.val]) (fun x=>(x.1.l.map iM.pl,x.2.pl)) (fun x=>x.1.ok.and x.2.ok):=by
 refine jO Tryz.func352 Tryz.ntmps352 fun r hS c => ?_
 refine Zq ?_
 unfold Sh.BI at hS
 refine Zr (ZX ?_)
 refine fN hS rfl fun ⟨s18,r18⟩ hS => ?_
 try dsimp only at hS
 refine ZX ?_
 refine Zq (ZX ?_)
 refine qD hS (fun h22 hS => ?_) (fun h22 hS => ?_)
 ·
  refine ZX ?_
  cases hS
  exact VC.ret (aMF (.inr rfl) rfl rfl rfl (⟨none,0,[]⟩,r18) rfl (rfl) (fun _ _=>trivial))
 refine ZX ?_
 refine fN hS rfl fun ⟨s27,r27⟩ hS => ?_
 try dsimp only at hS
 refine ZX ?_
 refine Zq (ZX ?_)
 refine qD hS (fun h31 hS => ?_) (fun h31 hS => ?_)
 ·
  refine ZX ?_
  cases hS
  exact VC.ret (aMF (.inr rfl) rfl rfl rfl (⟨none,0,[]⟩,r27) rfl (rfl) (fun _ _=>trivial))
 obtain ⟨gb,hS⟩:=bX hS
 obtain ⟨l,hW,hS⟩:=dU hS
 cases hS
 have hS:=hW
 unfold Sh.D9 at hS
 refine ZX ?_
 refine Zu (cA (vs:=[(0,a.val),(1,b.val),(2,d.val)]) (cs := #[a.val,b.val,d.val,i64 0,i64 0,i64 0,.slice none 0 0,.bool false]) rfl (by kernel_rfl)) ?_
 refine kF fun b37=>ZX ?_
 refine Zq (ZX ?_)
 refine Zb ?_
 refine VC.lU (⟨none,0,[]⟩:Sv Ck) 407 ⟨rfl,rfl⟩ ?_
 refine VC.mono (fun _ h=>h) (E':=Ow.star ((⟨none,0,[]⟩:Sv Ck).own 407) (Ow.star (bM b37 [a.val,b.val,d.val,i64 0,i64 0,i64 0,(⟨none,0,[]⟩:Sv Ck).val,.bool false] 415) Ow.emp)) (fun _ h=>h) ?_
 refine VC.iter (S:=Int×Wr) (fun sg=>(sg.1,sg.2.s)) (fun sg=>[(0,a.val),(1,b.val),(2,d.val),(6,.slice none 0 0),(7,.nilIface),(8,s18.val),(9,r27.val),(10,s27.val),(11,ptr b37 0),(39,i64 (a.l.length:Int)),(40,i64 sg.1)]) (fun sg=>MA sg.2.fr) (fun sg=>Ow.star (bM b37 [a.val,b.val,d.val,i64 sg.2.s.i,i64 sg.2.s.j,i64 sg.2.s.k,sg.2.o.val,.bool sg.2.s.op] 415) (Ow.star (Sv.own sg.2.o 407) (Ow.star (N3 sg.2.s.op sg.2.x) (Ow.emp)))) (0,wr0) [0,1,2,6,7,8,9,10,11,39,40] hS rfl (i:=⟨fun _ _ z hz=>by cases hz⟩) (l:=⟨by dsimp only [wr0]; exact fL.out⟩) ?_
 rintro ⟨n,⟨s,o,fr,x,hR⟩⟩ m1 y1 hS hK1
 refine ZX ?_
 refine Zq (Zc hS (fun h41 hS => ?_) (fun h41 hS => ?_))
 ·
  refine Zk ?_
  refine Zq (Zb (ZX ?_))
  obtain ⟨z45,nz45,hz45,hS⟩:=gQ hS
  refine Zu (jY (s:=s18) Tryz.underlying59 DP rfl rfl nz45 (bQ nz45 hz45)) (Zu (JZ  (s:=s18) v8 rfl hz45 rfl) (Zu (MH rfl rfl) (Zm ?_)))
  refine oT 48 hS (fun h48 hS => ?_) (fun h48 hS => ?_)
  ·
   obtain ⟨z51,nz51,hz51,hS⟩:=gQ hS
   refine ZX ?_
   refine Zh (jY (s:=s27) Tryz.underlying59 DP rfl rfl nz51 (bQ nz51 hz51)) ?_
   refine Zh (JZ  (s:=s27) v8 rfl hz51 rfl) ?_
   refine ZX ?_
   refine Zc hS (fun h54 hS => ?_) (fun h54 hS => ?_)
   ·
    refine Zq ?_
    refine hU [(0,true),(1,true),(2,true),(3,true),(4,true),(5,true),(6,true),(7,true),(8,true),(9,true),(10,false)] ?_
    refine ZX ?_
    refine Zw rfl (jY (s:=s18) Tryz.underlying59 DP rfl rfl nz45 (bQ nz45 hz45)) ?_
    refine Zw rfl (JZ  (s:=s18) v8 rfl hz45 rfl) ?_
    refine ZX ?_
    refine Zw rfl (jY (s:=s27) Tryz.underlying59 DP rfl rfl nz51 (bQ nz51 hz51)) ?_
    refine Zw rfl (JZ  (s:=s27) v8 rfl hz51 rfl) ?_
    refine VD.one rfl ?_
    obtain ⟨w1,e1,hS⟩:=dU hS
    refine VL.nW (aLV b37 a b d o fr x s n z45 z51 e1 hR) rfl (by decide) ?_
    rintro ⟨o1,fr1,x1⟩ hR1
    dsimp only at hR1
    refine eY ?_
    refine ZX ?_
    refine Zr (Zm ?_)
    obtain ⟨w2,e2,hS⟩:=dU hS
    refine VL.nW (aRH b37 a b d o1 fr1 x1 w1 e2 hR1) rfl (by decide) ?_
    rintro ⟨o2,fr2,x2⟩ hR2
    dsimp only at hR2
    refine Zl ?_
    refine Zr ?_
    refine Zu (lN rfl rfl ⟨by omega,by omega⟩) ?_
    refine Zm ?_
    refine VL.PX (n+1,⟨w2,o2,fr2,x2,hR2⟩) [0,1,2,6,7,8,9,10,11,39,40] (fun _ _ h=>h) (go2 hS hK1) rfl
   refine Zk ?_
   refine Zr ?_
   refine Zu (lN rfl rfl ⟨by omega,by omega⟩) ?_
   refine Zm ?_
   refine VL.PX (n+1,⟨s,o,fr,x,hR⟩) [0,1,2,6,7,8,9,10,11,39,40] (fun _ _ h=>h) (go2 hS hK1) rfl
  refine ZX ?_
  refine VC.uW rfl ?_
  refine Zk ?_
  refine Zr ?_
  refine Zu (lN rfl rfl ⟨by omega,by omega⟩) ?_
  refine Zm ?_
  refine VL.PX (n+1,⟨s,o,fr,x,hR⟩) [0,1,2,6,7,8,9,10,11,39,40] (fun _ _ h=>h) (go2 hS hK1) rfl
 replace hS:=lQ hS hK1
 refine Zx ?_
 refine ZX ?_
 obtain ⟨w1,e1,hS⟩:=dU hS
 refine VL.nW (aLV b37 a b d o fr x s (a.l.length:Int) (b.l.length:Int) (d.l.length:Int) e1 hR) rfl (by decide) ?_
 rintro ⟨o1,fr1,x1⟩ hR1
 dsimp only at hR1
 refine Zl ?_
 refine Zq (Zq ?_)
 cases hS
 refine Zr (ZX ?_)
 refine Zu (J0 (s:=o1) Tryz.underlying399 rfl) ?_
 refine ZX ?_
 refine Zb ?_
 refine VC.aN8 w1.op rfl hR1 ?_
 refine VC.aXd (MA o1.l) ?_
 refine VC.a4e o1 fun lc1 lc2 => ?_
 refine VC.a5j (S:=Int×Sv Ck) (fun sg=>0≤sg.1∧sg.1≤sg.2.l.length∧sg.2.l.length=o1.l.length∧sg.2.l.map iM.pl=w1.out) (fun sg=>[(0,a.val),(1,b.val),(2,d.val),(6,.slice none 0 0),(7,.nilIface),(8,s18.val),(9,r27.val),(10,s27.val),(11,ptr b37 0),(39,i64 (a.l.length:Int)),(40,i64 n),(81,i64 (o1.l.length:Int)),(82,i64 sg.1)]) (fun sg=>MA sg.2.l) (fun sg=>Ow.star (bM b37 [a.val,b.val,d.val,i64 w1.i,i64 w1.j,i64 w1.k,sg.2.val,.bool w1.op] 415) (Ow.star (Sv.own sg.2 407) (Ow.emp))) (fun sg=>(sg.2.l.length - sg.1).toNat) (0,o1) [0,1,2,6,7,8,9,10,11,39,40,81,82] (by (try dsimp only); exact ⟨by omega,by omega,rfl,hR1.out⟩) rfl (fun _ q=>q) (by (try dsimp only); exact fL.out) ?_
 rintro ⟨m,o3⟩ hI
 try dsimp only at hI
 obtain ⟨m0,m1,hol3,hmap⟩:=hI
 refine ZX ?_
 refine Zq ?_
 refine VC.mY rfl (fun h83 => ?_) (fun h83 => ?_)
 ·
  refine Zk ?_
  refine Zq (Zb (ZX ?_))
  obtain ⟨z90,hz90⟩ : ∃ z,o3.l[(m).toNat]? = some z:=⟨_,List.getElem?_eq_getElem (by omega)⟩
  refine Zu (lC (s:=o3) Tryz.underlying399 Z6 rfl rfl (by omega) (by omega)) ?_
  refine Za ?_
  refine Zl ?_
  refine VC.LK z90.m (fun h q=>q z90 (List.mem_of_getElem? hz90)) ?_
  refine hU [(0,true),(1,true),(2,true),(3,true),(4,true),(5,true),(6,true),(7,true),(9,true),(10,true),(11,true),(12,true),(14,true),(15,true),(16,true),(17,true),(19,true),(20,true),(21,true),(22,true),(8,false),(13,false),(18,false),(23,false),(24,true),(25,true),(26,false),(27,true),(28,true),(29,false),(30,true),(31,true),(32,false),(33,true),(34,true),(35,false)] ?_
  refine ZX ?_
  refine Zw rfl (yQ (s:=o3) qO rfl hz90 rfl) ?_
  refine ZX ?_
  refine Zw rfl (yQ (s:=o3) qO rfl hz90 rfl) ?_
  refine ZX ?_
  refine Zw rfl (yQ (s:=o3) qO rfl hz90 rfl) ?_
  refine ZX ?_
  refine Zw rfl (yQ (s:=o3) qO rfl hz90 rfl) ?_
  refine VD.one rfl ?_
  refine VL.jF (Y7 z90.base) rfl (by decide) ?_
  rintro s99 hs99
  refine QA [(22,z90.out.val),(21,ptr o3.b (o3.o+((m).toNat)*bB.sz Ck+4)),(20,ptr o3.b (o3.o+((m).toNat)*bB.sz Ck+0)),(17,z90.cR.val),(16,ptr o3.b (o3.o+((m).toNat)*bB.sz Ck+2)),(15,ptr o3.b (o3.o+((m).toNat)*bB.sz Ck+0)),(12,z90.ours.val),(11,ptr o3.b (o3.o+((m).toNat)*bB.sz Ck+1)),(10,ptr o3.b (o3.o+((m).toNat)*bB.sz Ck+0))] (bR.cons rfl (yQ (s:=o3) qO rfl hz90 rfl) (bR.cons rfl (bY PB rfl) (bR.cons rfl (lX rfl) (bR.cons rfl (yQ (s:=o3) qO rfl hz90 rfl) (bR.cons rfl (bY VN rfl) (bR.cons rfl (lX rfl) (bR.cons rfl (yQ (s:=o3) qO rfl hz90 rfl) (bR.cons rfl (bY aBZ rfl) (bR.cons rfl (lX rfl) bR.nil))))))))) ?_
  refine VD.one rfl ?_
  refine VL.jF (Y7 z90.ours) rfl (by decide) ?_
  rintro s104 hs104
  refine QA [(22,z90.out.val),(21,ptr o3.b (o3.o+((m).toNat)*bB.sz Ck+4)),(20,ptr o3.b (o3.o+((m).toNat)*bB.sz Ck+0)),(17,z90.cR.val),(16,ptr o3.b (o3.o+((m).toNat)*bB.sz Ck+2)),(15,ptr o3.b (o3.o+((m).toNat)*bB.sz Ck+0))] (bR.cons rfl (yQ (s:=o3) qO rfl hz90 rfl) (bR.cons rfl (bY PB rfl) (bR.cons rfl (lX rfl) (bR.cons rfl (yQ (s:=o3) qO rfl hz90 rfl) (bR.cons rfl (bY VN rfl) (bR.cons rfl (lX rfl) bR.nil)))))) ?_
  refine VD.one rfl ?_
  refine VL.jF (Y7 z90.cR) rfl (by decide) ?_
  rintro s109 hs109
  refine QA [(22,z90.out.val),(21,ptr o3.b (o3.o+((m).toNat)*bB.sz Ck+4)),(20,ptr o3.b (o3.o+((m).toNat)*bB.sz Ck+0))] (bR.cons rfl (yQ (s:=o3) qO rfl hz90 rfl) (bR.cons rfl (bY PB rfl) (bR.cons rfl (lX rfl) bR.nil))) ?_
  refine VD.one rfl ?_
  refine VL.jF (Y7 z90.out) rfl (by decide) ?_
  rintro s114 hs114
  refine eY ?_
  refine ZX ?_
  refine VD.one rfl ?_
  refine VL.nD (s:=o3) (T:=407) (j:=0) (vc:=[s99.val]) (⟨s99,z90.ours,z90.cR,z90.pF,z90.out⟩:Ck) (by decide) rfl rfl hz90 rfl QW rfl rfl (Nat.le_of_ble_eq_true rfl) rfl (fun w0 hw0 haw0 hcw0 hvw0 hbw0 how0 => ?_)
  rw [← hvw0]
  try rw [← hbw0]
  try rw [← how0]
  have hew0:w0.l[(m).toNat]? = some (⟨s99,z90.ours,z90.cR,z90.pF,z90.out⟩:Ck):=by rw [hw0]; exact List.getElem?_set_self (List.getElem?_eq_some_iff.1 hz90).1
  refine eY ?_
  refine ZX ?_
  refine VD.one rfl ?_
  refine VL.nD (s:=w0) (T:=407) (j:=1) (vc:=[s104.val]) (⟨s99,s104,z90.cR,z90.pF,z90.out⟩:Ck) (by decide) rfl rfl hew0 rfl QW rfl rfl (Nat.le_of_ble_eq_true rfl) rfl (fun w1 hw1 haw1 hcw1 hvw1 hbw1 how1 => ?_)
  rw [← hvw1]
  try rw [← hbw1]
  try rw [← how1]
  have hew1:w1.l[(m).toNat]? = some (⟨s99,s104,z90.cR,z90.pF,z90.out⟩:Ck):=by rw [hw1]; exact List.getElem?_set_self (List.getElem?_eq_some_iff.1 hew0).1
  refine eY ?_
  refine ZX ?_
  refine VD.one rfl ?_
  refine VL.nD (s:=w1) (T:=407) (j:=2) (vc:=[s109.val]) (⟨s99,s104,s109,z90.pF,z90.out⟩:Ck) (by decide) rfl rfl hew1 rfl QW rfl rfl (Nat.le_of_ble_eq_true rfl) rfl (fun w2 hw2 haw2 hcw2 hvw2 hbw2 how2 => ?_)
  rw [← hvw2]
  try rw [← hbw2]
  try rw [← how2]
  have hew2:w2.l[(m).toNat]? = some (⟨s99,s104,s109,z90.pF,z90.out⟩:Ck):=by rw [hw2]; exact List.getElem?_set_self (List.getElem?_eq_some_iff.1 hew1).1
  refine eY ?_
  refine ZX ?_
  refine VD.one rfl ?_
  refine VL.nD (s:=w2) (T:=407) (j:=4) (vc:=[s114.val]) (⟨s99,s104,s109,z90.pF,s114⟩:Ck) (by decide) rfl rfl hew2 rfl QW rfl rfl (Nat.le_of_ble_eq_true rfl) rfl (fun w3 hw3 haw3 hcw3 hvw3 hbw3 how3 => ?_)
  rw [← hvw3]
  try rw [← hbw3]
  try rw [← how3]
  have hew3:w3.l[(m).toNat]? = some (⟨s99,s104,s109,z90.pF,s114⟩:Ck):=by rw [hw3]; exact List.getElem?_set_self (List.getElem?_eq_some_iff.1 hew2).1
  refine eY ?_
  refine ZX ?_
  have hw:w3.l=o3.l.set m.toNat ⟨s99,s104,s109,z90.pF,s114⟩:=by rw [hw3,hw2,hw1,hw0,List.set_set,List.set_set,List.set_set]
  refine Zr ?_
  refine Zu (lN rfl rfl ⟨by omega,by omega⟩) ?_
  refine Zm ?_
  refine VL.any ((m+1),w3) [0,1,2,6,7,8,9,10,11,39,40,81,82] (fun _ _ h=>h) ?_ rfl (fun hp ⟨q4,q3,q2,q1,_,qm⟩=>by rw [hw]; exact MA.set (l:=o3.l) qm ⟨q1,q2,q3,q4⟩) (by (try dsimp only); exact fL.out)
  try dsimp only
  exact ⟨⟨by omega,by rw [hw]; simp; omega,by rw [hw]; simp; omega,by rw [hw,aKN hz90 (by simp [iM.pl,hs99,hs104,hs109,hs114])]; exact hmap⟩,by rw [hw]; simp; omega⟩
 refine Zx ?_
 refine Zq ?_
 refine VC.shut o3 407 (fun _ q z hz=>q z hz) ?_
 refine Zr (ZX ?_)
 refine VL.jF (aQN o3) rfl (by decide) ?_
 rintro s128 hs128
 refine ZX ?_
 exact VC.ret (aMF (.inr rfl) rfl rfl rfl (s128,.nil) rfl ((by rw [hs128,hmap]; rfl)) (fun _ _=>trivial))
theorem aV4 (s:Sv bI) (sep:bI) (hb:s.l.length≤4294967296∧(Go.S.TV s.l sep).length≤4294967296):Ct Tryz.prog 366 [s.val,str sep] s.ok Ow.emp (X:=Unit) (fun _=>str (Go.S.TV s.l sep)) (fun _=>True) (fun _=>Mo.tt) (fun _=>Ow.emp) :=
  Ct.aHu (vU Tryz.func366 rfl (by kernel_rfl)) fun w h m l=>by
    by_cases hl:s.l=[]
    . have:=Tryz.strings_Join_none s.a s.c ⟨⟨sep⟩⟩ w
      have e1:s.val = .slice s.a 0 s.c:=by unfold Sv.val; rw [hl]; rfl
      rw [e1]
      exact this.mono fun e w' ⟨h1,h2⟩=>⟨by rw [h1,hl]; rfl,h2▸Gr.refl w⟩
    . obtain ⟨h1,_,h3,h4,_⟩:=m
      have ha:=h3 hl
      have hx:(s.l.map fun z=>(⟨⟨z⟩⟩:ByteArray)).map (·.data.toList)=s.l:=by rw [List.map_map]; exact (List.map_congr_left fun z _=>rfl).trans (List.map_id _)
      have hc : ∀ (j:Nat) x,(s.l.map fun z=>(⟨⟨z⟩⟩:ByteArray))[j]? = some x→w.cell? ⟨s.b,s.o+j,none⟩=some (.string x):=fun j x hj=>by
        rw [List.getElem?_map] at hj
        cases hz:s.l[j]? with
        | none=>rw [hz] at hj; cases hj
        | some z =>
          rw [hz] at hj; cases hj
          have:=h4 j z hz 0 (str z) rfl
          have hs:bB.sz bI=1:=rfl
          rw [hs,Nat.mul_one] at this
          exact tQ l (by simpa using this)
      have hlt:s.b < w.heap.size:=by
        have h0:0 < s.l.length:=List.length_pos_iff.2 hl
        have:=hc 0 ⟨⟨s.l[0]⟩⟩ (by simp [h0])
        rcases Nat.lt_or_ge s.b w.heap.size with q | q
        . exact q
        . simp [World.cell?,Array.getElem?_eq_none q] at this
      have:=Tryz.strings_Join s.b s.o s.c (s.l.map fun z=>⟨⟨z⟩⟩) ⟨⟨sep⟩⟩ w hc hlt (by rw [List.length_map]; omega) (by rw [List.length_map]; exact h1) (by rw [hx]; have:=hb.2; unfold Go.S.TV at this; show (Lib.join s.l sep).length≤_; omega)
      rw [hx,List.length_map] at this
      have e1:s.val = .slice (some ⟨s.b,s.o,none⟩) s.l.length s.c:=by unfold Sv.val; rw [ha]
      rw [e1]
      exact this.mono fun e w' ⟨h1,h2⟩=>⟨h1,Gr.aB8 h2⟩
instance aVc (dY:Sv bI) :
 gS Tryz.prog 356 [dY.val] (Sh.CE dY.l) dY.ok (fun r=>str r):=by
 refine gU Tryz.func356 Tryz.ntmps356 fun r hS c => ?_
 unfold Sh.CE at hS
 obtain ⟨b4,hS⟩:=bX hS
 refine ZX ?_
 obtain ⟨aGw,a5M,hS⟩:=p9 hS
 refine Zu (eT (aV4 dY [] b4) rfl (fun _ _=>congrArg str a5M)) ?_
 exact ZE hS
instance X2 (aA:bI) (uK:bI) :
 gS Tryz.prog 385 [str aA,str uK] (Sh.jQ aA uK) Mo.tt (fun r => .bool r):=by
 refine gU Tryz.func385 Tryz.ntmps385 fun r hS c => ?_
 unfold Sh.jQ at hS
 refine cI (Za ?_)
 refine Zl ?_
 refine cI (Zm ?_)
 refine Zu (xN Tryz.underlying9 rfl) (Zm (Zu (xN Tryz.underlying9 rfl) (Zu (MH rfl rfl) (Zm ?_))))
 refine oT 10 hS (fun h10 hS => ?_) (fun h10 hS => ?_)
 ·
  obtain ⟨b16,hS⟩:=bX hS
  obtain ⟨b17,hS⟩:=bX hS
  refine ZX ?_
  obtain ⟨DX,aZS,hS⟩:=p9 hS
  refine Zh (F0 Tryz.underlying9 rfl rfl b17.1 b17.2 aZS) ?_
  exact ZE hS
 exact ZE hS
instance SX (aA:bI) (uK:bI) :
 gS Tryz.prog 378 [str aA,str uK] (Sh.sZ aA uK) Mo.tt (fun r => .bool r):=by
 refine gU Tryz.func378 Tryz.ntmps378 fun r hS c => ?_
 unfold Sh.sZ at hS
 exact ZE hS
instance aSj (aA:bI) :
 gS Tryz.prog 371 [str aA] (Sh.DD aA) Mo.tt (fun r => .bool r):=by
 refine gU Tryz.func371 Tryz.ntmps371 fun r hS c => ?_
 unfold Sh.DD at hS
 refine cI (Za ?_)
 refine Zl ?_
 refine cI (Zm ?_)
 refine Zs ?_
 refine Zm ?_
 refine oT 5 hS (fun _ hS=>ZE hS) fun h5 hS => ?_
 refine ZX ?_
 obtain ⟨kK,E4,hS⟩:=dU hS
 refine Zh (eT ((SX aA [10]).out E4) rfl (fun _ _=>rfl)) ?_
 exact ZE hS
instance PE (dY:Sv bI) :
 gS Tryz.prog 365 [dY.val] (Sh.x7 dY.l) dY.ok (fun r=>str r):=by
 refine gU Tryz.func365 Tryz.ntmps365 fun r hS c => ?_
 unfold Sh.x7 at hS
 refine ZX ?_
 refine jU hS rfl fun aBF hS=>ZX ?_
 refine Zq (ZX ?_)
 refine jU hS rfl fun o8 hS=>ZX ?_
 refine iG hS (fun h8 hS => ?_) (fun h8 hS => ?_)
 ·
  obtain ⟨b10,hS⟩:=bX hS
  refine Zr (Zm ?_)
  obtain ⟨kH,aZH,hS⟩:=p9 hS
  refine Zu (yP rfl rfl b10 aZH) ?_
  exact ZE hS
 exact ZE hS
instance aSk (cX:iM) (a_1:bI) (b_2:bI) :
 gS Tryz.prog 355 [.agg #[cX.base.val,cX.ours.val,cX.cR.val,.bool cX.pF,cX.out.val],str a_1,str b_2] (Sh.DE cX.pl a_1 b_2) cX.m (fun r=>str r):=by
 refine gU Tryz.func355 Tryz.ntmps355 fun r hS c => ?_
 unfold Sh.DE at hS
 refine cI (kF fun rX=>ZX ?_)
 refine Zq ?_
 refine hU ((List.range 17).map fun k=>(k,true)) ?_
 obtain ⟨b8,hS⟩:=bX hS
 refine ZX ?_
 obtain ⟨mH,a5N,hS⟩:=p9 hS
 refine Zw rfl (yP rfl rfl b8 a5N) ?_
 obtain ⟨b9,hS⟩:=bX hS
 obtain ⟨P7,aMB,hS⟩:=p9 hS
 refine Zw rfl (yP rfl rfl b9 aMB) ?_
 refine ZX ?_
 obtain ⟨IM,aHT,hS⟩:=dU hS
 refine Zw rfl (eT ((PE cX.ours).out aHT) rfl (fun _ _=>rfl)) ?_
 obtain ⟨b13,hS⟩:=bX hS
 obtain ⟨YL,aZK,hS⟩:=p9 hS
 refine Zw rfl (yP rfl rfl b13 aZK) ?_
 obtain ⟨b14,hS⟩:=bX hS
 obtain ⟨aC7,aZN,hS⟩:=p9 hS
 refine Zw rfl (yP rfl rfl b14 aZN) ?_
 refine ZX ?_
 obtain ⟨MU,aZT,hS⟩:=dU hS
 refine Zw rfl (eT ((PE cX.cR).out aZT) rfl (fun _ _=>rfl)) ?_
 obtain ⟨b18,hS⟩:=bX hS
 obtain ⟨aCa,aZY,hS⟩:=p9 hS
 refine Zw rfl (yP rfl rfl b18 aZY) ?_
 obtain ⟨b19,hS⟩:=bX hS
 obtain ⟨aMr,aZ0,hS⟩:=p9 hS
 refine Zw rfl (yP rfl rfl b19 aZ0) ?_
 obtain ⟨b21,hS⟩:=bX hS
 refine ZX ?_
 obtain ⟨aIN,aTh,hS⟩:=p9 hS
 refine Zw rfl (yP rfl rfl b21 aTh) ?_
 obtain ⟨b22,hS⟩:=bX hS
 obtain ⟨aOz,aTi,hS⟩:=p9 hS
 refine Zw rfl (yP rfl rfl b22 aTi) ?_
 exact ZE hS
instance:UnD Tryz.prog 399 (.slice 407):=⟨Tryz.underlying399⟩
instance aVg (eV:bI) (dL:bI) (cV:bI) (S6:bI) (TB:bI) :
 jG Tryz.prog 345 [str eV,str dL,str cV,str S6,str TB] (Sh.FU eV dL cV S6 TB) Mo.tt (X:=bI×Int×Er) (fun x => .tuple #[str x.1,i64 x.2.1,x.2.2.val]) (fun x=>(x.1,x.2.1,x.2.2.pl)) (fun x=>x.2.2.ok):=by
 refine jO Tryz.func345 Tryz.ntmps345 fun r hS c => ?_
 unfold Sh.FU at hS
 refine ZX ?_
 refine fJ hS rfl fun aWR hS=>Zm ?_
 refine fJ hS rfl fun UB hS=>Zm ?_
 refine fJ hS rfl fun aWU hS => ?_
 refine VL.shut aWR 9 (fun _ _ _ _=>trivial) ?_
 refine VL.shut UB 9 (fun _ _ _ _=>trivial) ?_
 refine VL.shut aWU 9 (fun _ _ _ _=>trivial) ?_
 refine fN hS rfl fun ⟨ME,aWV⟩ hS => ?_
 try dsimp only
 refine ZO ?_
 refine Zl ?_
 refine VC.bD [3,4,13,14] (Zq (ZX ?_))
 refine qD hS (fun h30 hS => ?_) (fun h30 hS => ?_)
 ·
  refine ZX ?_
  cases hS
  exact VC.ret (aER (.inr rfl) rfl rfl rfl rfl ([],0,aWV) rfl rfl (by (try dsimp only); exact dM.out) (fun _ _=>trivial))
 refine ZX ?_
 refine dG fun XM => ?_
 refine VL.a9a 5 XM ?_
 refine ZX ?_
 refine Zq (ZX ?_)
 refine Zb ?_
 refine VC.iter (S:=Int×Int×bI) (fun sg=>(sg.1,sg.2.1,sg.2.2)) (fun sg=>[(3,str S6),(4,str TB),(15,ptr XM 0),(16,i64 sg.1),(32,ME.val),(33,i64 ((ME.l.map iM.pl).length:Int)),(34,i64 sg.2.1)]) (fun sg=>Mo.tt) (fun sg=>Ow.star (Bd 405 5 XM sg.2.2) (Ow.emp)) (0,0,[]) [3,4,15,16,32,33,34] hS rfl ?_
 rintro ⟨aB7,YK,N4⟩ m1 y1 hS hK1
 refine ZX ?_
 refine Zq (Zc hS (fun h35 hS => ?_) (fun h35 hS => ?_))
 ·
  refine Zk ?_
  refine Zq (Zb (cI ?_))
  obtain ⟨aFt,aOX,aHh,hS⟩:=DT hS
  refine VL.deep aFt.m aHh (fun _ q=>q) ?_
  refine Zu (jY (s:=ME) Tryz.underlying399 Z6 rfl rfl aOX (bQ aOX aHh)) (Zu (sR  (s:=ME) aJ6 rfl rfl aHh) ?_)
  refine dG fun a9q=>ZX ?_
  refine Zq (ZX ?_)
  refine iG hS (fun h39 hS => ?_) (fun h39 hS => ?_)
  ·
   obtain ⟨b41,hS⟩:=bX hS
   refine cI (ZO ?_)
   refine Zl ?_
   refine VC.bD [3,4,15,16,32,33,34,18] (ZX ?_)
   refine jU hS rfl fun aD9 hS => ?_
   obtain ⟨b46,hS⟩:=bX hS
   refine VL.nW (SM XM N4 aD9 b46) rfl (by decide) ?_
   rintro _ _
   obtain ⟨aGZ,aLw,hS⟩:=p9 hS
   rw [aLw]
   exact ZE hS
  refine Zk ?_
  refine Zr (ZX ?_)
  refine jU hS rfl fun aDc hS => ?_
  obtain ⟨b50,hS⟩:=bX hS
  refine VL.nW (SM XM N4 aDc b50) rfl (by decide) ?_
  rintro _ _
  obtain ⟨aG0,aLx,hS⟩:=p9 hS
  rw [aLx]
  exact ZE hS
 replace hS:=lQ hS hK1
 refine Zx ?_
 refine cI ?_
 refine VL.nW (aMg XM N4) rfl (by decide) ?_
 rintro _ _
 refine ZX ?_
 cases hS
 exact VC.ret (aER (.inr rfl) rfl rfl rfl rfl (N4,aB7,.nil) rfl rfl (by (try dsimp only); exact dM.out) (fun _ _=>trivial))
instance aSv (eV:lB) (dL:lB) (cV:lB) (S6:bI) (TB:bI) :
 gS Tryz.prog 331 [.agg #[str eV.bU,i64 eV.cK,str eV.bS,.bool eV.is],.agg #[str dL.bU,i64 dL.cK,str dL.bS,.bool dL.is],.agg #[str cV.bU,i64 cV.cK,str cV.bS,.bool cV.is],str S6,str TB] (Sh.DM eV dL cV S6 TB) Mo.tt (fun r => .tuple #[.agg #[str r.1.path,i64 r.1.mode,str r.1.data],.bool r.2]):=by
 refine gU Tryz.func331 Tryz.ntmps331 fun r hS c => ?_
 unfold Sh.DM at hS
 refine cI (kF fun S9=>kF fun O6=>kF fun aTY=>dG fun bAg=>ZX ?_)
 refine Zq ?_
 refine hU [(0,true),(1,true),(2,true),(3,true),(4,true),(5,true),(6,true),(7,true),(8,true),(9,true),(10,true),(11,false),(12,false)] ?_
 refine ZX ?_
 obtain ⟨q9,aNh,hS⟩:=dU hS
 refine Zw rfl (eT ((SJ eV dL cV).out aNh) rfl (fun _ _=>rfl)) ?_
 refine ZX ?_
 refine Zw rfl (cA (vs:=[(0,str dL.bU),(1,i64 q9),(2,str dL.bS)]) (cs := #[str dL.bU,i64 q9,str dL.bS]) rfl (by kernel_rfl)) ?_
 refine VD.one rfl (dG fun bAk => ?_)
 refine QA [(10,.agg #[str dL.bU,i64 q9,str dL.bS]),(9,str dL.bS),(8,ptr O6 2),(7,ptr O6 0),(6,i64 q9),(5,.agg #[str cV.bU,i64 cV.cK,str cV.bS,.bool cV.is]),(4,.agg #[str dL.bU,i64 dL.cK,str dL.bS,.bool dL.is]),(3,.agg #[str eV.bU,i64 eV.cK,str eV.bS,.bool eV.is]),(2,str dL.bU),(1,ptr O6 0),(0,ptr O6 0)] (bR.cons rfl (cA (vs:=[(0,str dL.bU),(1,i64 q9),(2,str dL.bS)]) (cs := #[str dL.bU,i64 q9,str dL.bS]) rfl (by kernel_rfl)) (bR.cons rfl (nI oV rfl rfl) (bR.cons rfl (bY Z0 rfl) (bR.cons rfl (bY aBY rfl) (bR.cons rfl (eT ((SJ eV dL cV).out aNh) rfl (fun _ _=>rfl)) (bR.cons rfl (rQ ZN rfl rfl) (bR.cons rfl (rQ ZN rfl rfl) (bR.cons rfl (rQ ZN rfl rfl) (bR.cons rfl (nI oV rfl rfl) (bR.cons rfl (bY aJc rfl) (bR.cons rfl (bY aBY rfl) bR.nil))))))))))) ?_
 refine VD.one rfl ?_
 refine Zv  (vc:=[str dL.bU,i64 q9,str dL.bS]) (cs':=[str dL.bU,i64 q9,str dL.bS]) rfl j9 ?_
 refine eY ?_
 refine xE ?_
 refine VC.bD [3,4,5,6,7,10,12] (Zq (Zb ?_))
 refine VC.cJ [3,4,5,6,7,10,12] (fun (AO:Bool)=>AO) (fun AO ρ=>(27,.bool AO)::ρ) hS (fun _ hS=>ZE hS) ?_
 rintro AO hS
 refine iG hS (fun _ hS=>ZE hS) fun h27 hS => ?_
 refine VC.cJ [3,4,5,6,7,10,12] (fun (aC1:Bool)=>aC1) (fun aC1 ρ=>(49,.bool aC1)::ρ) hS (fun _ hS=>ZE hS) ?_
 rintro aC1 hS
 refine iG hS (fun _ hS=>ZE hS) fun h49 hS=>ZX ?_
 refine fN hS rfl fun ⟨aSE,a7o,a7p⟩ hS => ?_
 try dsimp only
 refine ZO ?_
 refine Zl ?_
 refine VC.bD [6,10,12,13,14,15] (Zq ?_)
 refine VC.cJ [6,10,12,13,14] (fun (WG:Bool)=>WG) (fun WG ρ=>(88,.bool WG)::ρ) hS ?_ ?_
 ·
  intro k13 hS
  refine Zr (Zm (Zu (aO7 Tryz.underlying28 rfl) (Zm ?_)))
  refine S5 84 hS (fun _ hS=>ZE hS) fun h84 hS => ?_
  refine ZX ?_
  refine VL.mt (decide (4096 < (aSE.length:Int))) [88,6,10,12,13,14] (fun _ _ h=>h) hS rfl
 rintro WG hS
 refine iG hS (fun h88 hS => ?_) (fun h88 hS => ?_)
 ·
  refine ZX ?_
  refine Zu (cA (vs:=[(0,str dL.bU),(1,i64 q9),(2,str dL.bS)]) (cs := #[str dL.bU,i64 q9,str dL.bS]) rfl (by kernel_rfl)) ?_
  exact ZE hS
 exact ZE hS
instance aXU (BZ:bI) (F8:Sv aC) (aAN:Sv aC) (P3:Sv aC) (a_4:bI) (b_5:bI) :
 gS Tryz.prog 308 [str BZ,F8.val,aAN.val,P3.val,str a_4,str b_5] (Sh.F5 BZ F8.l aAN.l P3.l a_4 b_5) (F8.ok.and (aAN.ok.and P3.ok)) (fun r => .tuple #[.agg #[str r.1.path,i64 r.1.mode,str r.1.data],.bool r.2.1,.bool r.2.2]):=by
 refine gU Tryz.func308 Tryz.ntmps308 fun r hS c => ?_
 unfold Sh.F5 at hS
 refine cI (dG fun bAi=>ZX ?_)
 refine jU hS rfl fun BQ hS=>ZX ?_
 refine jU hS rfl fun l7 hS=>ZX ?_
 refine jU hS rfl fun kD hS=>dG fun XM=>dG fun bAl=>dG fun bAm=>ZO ?_
 refine Zl ?_
 refine VC.bD [4,5,12,15,16,17] (Zq (Zb ?_))
 refine VC.cJ [4,5,12,15,16,17] (fun (aCR:Bool)=>aCR) (fun aCR ρ=>(27,.bool aCR)::ρ) hS ?_ ?_
 ·
  intro k9 hS
  refine Zr (ZX ?_)
  refine Zu (PV aEZ (aE1 l7.bU l7.cK l7.bS l7.is kD.bU kD.cK kD.bS kD.is) rfl rfl) (Zm ?_)
  refine oT 31 hS (fun _ hS=>ZE hS) fun h31 hS => ?_
  refine ZX ?_
  refine Zh (PV aEZ (aE1 BQ.bU BQ.cK BQ.bS BQ.is kD.bU kD.cK kD.bS kD.is) rfl rfl) ?_
  exact ZE hS
 rintro aCR hS
 refine iG hS (fun h27 hS => ?_) (fun h27 hS => ?_)
 ·
  refine Zq ?_
  refine hU [(0,true),(1,true),(2,true),(3,true),(4,false),(5,true),(6,true)] ?_
  refine ZX ?_
  refine Zw rfl (oY (j:=0) (n:=3) z7 rfl rfl rfl) ?_
  refine ZX ?_
  refine VD.one rfl ?_
  refine Zv  (vc:=[str l7.bU,i64 l7.cK,str l7.bS]) (cs':=[str l7.bU,i64 l7.cK,str l7.bS]) rfl j9 ?_
  refine eL (Pk 3 (Pk 2 Pz)) ?_
  exact ZE hS
 refine ZX ?_
 refine Zu (PV aEZ (aE1 BQ.bU BQ.cK BQ.bS BQ.is l7.bU l7.cK l7.bS l7.is) rfl rfl) ?_
 refine ZX ?_
 refine Zc hS (fun h40 hS => ?_) (fun h40 hS => ?_)
 ·
  refine Zq ?_
  refine hU [(0,true),(1,true),(2,true),(3,true),(4,false),(5,true),(6,true)] ?_
  refine ZX ?_
  refine Zw rfl (oY (j:=0) (n:=3) z7 rfl rfl rfl) ?_
  refine ZX ?_
  refine VD.one rfl ?_
  refine Zv  (vc:=[str kD.bU,i64 kD.cK,str kD.bS]) (cs':=[str kD.bU,i64 kD.cK,str kD.bS]) rfl j9 ?_
  refine eL (Pk 3 (Pk 2 Pz)) ?_
  exact ZE hS
 refine VC.cJ [4,5,12,15,16,17] (fun (WB:Bool)=>WB) (fun WB ρ=>(48,.bool WB)::ρ) hS (fun _ hS=>ZE hS) ?_
 rintro WB hS
 refine iG hS (fun _ hS=>ZE hS) fun h48 hS=>ZX ?_
 refine iG hS (fun h66 hS => ?_) (fun h66 hS => ?_)
 ·
  refine ZX ?_
  refine Zu (oY (j:=0) (n:=3) z7 rfl rfl rfl) ?_
  refine Zv  (vc:=[str l7.bU,i64 l7.cK,str l7.bS]) (cs':=[str l7.bU,i64 l7.cK,str l7.bS]) rfl j9 ?_
  exact ZE hS
 refine ZX ?_
 refine Zu (oY (j:=0) (n:=3) z7 rfl rfl rfl) ?_
 refine Zv  (vc:=[str kD.bU,i64 kD.cK,str kD.bS]) (cs':=[str kD.bU,i64 kD.cK,str kD.bS]) rfl j9 ?_
 exact ZE hS
instance aOr (BZ:bI) (GW:Sv (Sv aC)) :
 uL Tryz.prog 309 [str BZ,GW.val] (Sh.y9 BZ (GW.l.map Sv.l)) GW.ok (Ow.emp) (X:=Sv IndexEntry) (fun x=>x.val) (fun x=>x.l) (fun x=>Mo.tt) (fun x=>Sv.own x 121):=by
 refine uV Tryz.func309 Tryz.ntmps309 fun r hS c => ?_
 unfold Sh.y9 at hS
 refine ZX ?_
 refine Zq (ZX ?_)
 refine Zu (wW Sv.l (s:=GW) Tryz.underlying292 rfl) ?_
 refine ZX ?_
 refine Zb ?_
 refine VC.lU (⟨none,0,[]⟩:Sv IndexEntry) 121 ⟨rfl,rfl⟩ ?_
 refine VC.iter (S:=Sv IndexEntry×Int) (fun sg=>(sg.1.l,sg.2)) (fun sg=>[(0,str BZ),(5,sg.1.val),(10,GW.val),(11,i64 ((GW.l.map Sv.l).length:Int)),(12,i64 sg.2)]) (fun sg=>Mo.tt) (fun sg=>Ow.star (Sv.own sg.1 121) (Ow.emp)) (⟨none,0,[]⟩,0) [0,5,10,11,12] hS rfl ?_
 rintro ⟨EL,MR⟩ m1 y1 hS hK1
 refine ZX ?_
 refine Zq (Zc hS (fun h13 hS => ?_) (fun h13 hS => ?_))
 ·
  refine Zk ?_
  refine Zq (Zb (ZX ?_))
  obtain ⟨VE,K0,I4,hS⟩:=DT hS
  refine VL.deep VE.ok I4 (fun _ q=>q) ?_
  refine Zu (jY (s:=GW) Tryz.underlying292 aEa rfl rfl K0 (bQ K0 I4)) (Zu (JZ  (s:=GW) z8 rfl I4 rfl) ?_)
  refine ZX ?_
  refine jU hS rfl fun VA hS=>ZX ?_
  refine dG fun a45=>ZO ?_
  refine Zl ?_
  refine VC.bD [0,5,10,11,12,6,8,9] (ZX ?_)
  refine iG hS (fun h23 hS => ?_) (fun h23 hS => ?_)
  ·
   obtain ⟨b27,hS⟩:=bX hS
   refine Zr (ZX ?_)
   refine Zu (cA (vs:=[(0,str BZ),(1,i64 (MR+1)),(2,i64 VA.1.mode),(3,str VA.1.data)]) (cs := #[str BZ,i64 (MR+1),i64 VA.1.mode,str VA.1.data,i64 0,i64 0]) rfl (by kernel_rfl)) ?_
   exact ZE hS
  exact ZE hS
 exact ZE hS
instance YD (qM:aC) (hO:Nat) (a_1:aC) :
 gS Tryz.prog 332 [.agg #[str qM.path,i64 qM.mode,str qM.data],ptr hO 0] (Sh.xD qM a_1) (Cells hO 0 [str a_1.path,i64 a_1.mode,str a_1.data]) (fun r => .bool r):=by
 refine gU Tryz.func332 Tryz.ntmps332 fun r hS c => ?_
 unfold Sh.xD at hS
 refine cI (kF fun iB=>ZX ?_)
 refine Zu (ED oV rfl rfl) ?_
 exact ZE hS
instance y6 (aA:Sv aC) (dQ:Nat) (dI:aC) :
 gS Tryz.prog 221 [aA.val,.func (.func 332) #[] #[ptr dQ 0]] (Sh.gA aA.l dI) (aA.ok.and (Cells dQ 0 [str dI.path,i64 dI.mode,str dI.data])) (fun r=>i64 r):=by
 refine gU Tryz.func221 Tryz.ntmps221 fun r hS c => ?_
 unfold Sh.gA at hS
 refine ZX ?_
 refine Zq (ZX ?_)
 refine Zb ?_
 refine VC.iJ [0,1,7] (fun (dD:Int)=>dD) (fun dD ρ=>(8,i64 dD)::ρ) 0 [8,0,1,7] hS ?_
 rintro dD m1 y1 hS hK1
 refine ZX ?_
 refine Zq (Zc hS (fun h9 hS => ?_) (fun h9 hS => ?_))
 ·
  refine Zk ?_
  refine Zq (Zb (ZX ?_))
  obtain ⟨eW,qS,oB,hS⟩:=gQ hS
  refine Zu (jY (s:=aA) Tryz.underlying33 j9 rfl rfl qS (bQ qS oB)) (Zu (sR  (s:=aA) z7 rfl rfl oB) ?_)
  obtain ⟨nJ,tF,hS⟩:=dU hS
  refine Zu (sQ (vs:=[.agg #[str eW.path,i64 eW.mode,str eW.data]]) (caps:=[ptr dQ 0]) ((YD eW dQ dI).out tF) rfl rfl (fun _ _=>rfl)) ?_
  exact ZE hS
 exact ZE hS
instance xR (aA:Sv aC) (dQ:Nat) (dI:aC) :
 gS Tryz.prog 226 [aA.val,.func (.func 332) #[] #[ptr dQ 0]] (Sh.fP aA.l dI) (aA.ok.and (Cells dQ 0 [str dI.path,i64 dI.mode,str dI.data])) (fun r => .bool r):=by
 refine gU Tryz.func226 Tryz.ntmps226 fun r hS c => ?_
 unfold Sh.fP at hS
 refine ZX ?_
 obtain ⟨kK,E4,hS⟩:=dU hS
 refine Zu (lW ((y6 aA dQ dI).out E4) rfl (fun _ _=>rfl)) ?_
 exact ZE hS
instance aS8 (dO:Sv aC) :
 jG Tryz.prog 310 [dO.val] (Sh.BN dO.l) dO.ok (X:=Er) (fun x=>x.val) (fun x=>x.pl) (fun x=>x.ok):=by
 refine jO Tryz.func310 Tryz.ntmps310 fun r hS c => ?_
 unfold Sh.BN at hS
 refine ZX ?_
 refine Zq (ZX ?_)
 refine Zc hS (fun h7 hS => ?_) (fun h7 hS => ?_)
 ·
  refine ZX ?_
  refine Zu (cA (vs:=[(0,str [102,105,108,101]),(1,i64 64),(2,(Er.no 4).val)]) (cs := #[str [102,105,108,101],i64 64,(Er.no 4).val]) rfl (by kernel_rfl)) ?_
  refine kF fun N5 => ?_
  refine VL.DV N5 ?_
  refine ZX ?_
  cases hS
  exact VC.ret (Z1 (Er.fault N5 [102,105,108,101] 64 (Er.no 4)))
 refine Zk ?_
 refine Zq (ZX ?_)
 refine Zb ?_
 refine VC.iJ [0,12,13] (fun (p8:Int)=>p8) (fun p8 ρ=>(14,i64 p8)::ρ) 0 [14,0,12,13] hS ?_
 rintro p8 m1 y1 hS hK1
 refine ZX ?_
 refine Zq (Zc hS (fun h15 hS => ?_) (fun h15 hS => ?_))
 ·
  refine Zk ?_
  refine Zq (Zb (ZX ?_))
  refine BY hS rfl fun aND a9s hS=>ZX ?_
  refine dG fun a8G => ?_
  obtain ⟨b21,hS⟩:=bX hS
  refine ZX ?_
  refine VL.sto Tryz.underlying33 j9 rfl rfl b21.1 (b21.2) (by decide) fun a6O a0I => ?_
  replace hS:=dR a0I hS
  refine ZX ?_
  obtain ⟨YP,aZ5,hS⟩:=dU hS
  refine Zu (lW ((xR a6O a8G aND).out aZ5) rfl (fun _ _=>rfl)) ?_
  refine Zl ?_
  refine VC.bD [0,12,13,14,3,23] (iG hS (fun h23 hS => ?_) (fun h23 hS => ?_))
  ·
   refine ZX ?_
   refine Zu (cA (vs:=[(0,str [102,105,108,101]),(1,i64 p8),(2,(Er.no 11).val)]) (cs := #[str [102,105,108,101],i64 p8,(Er.no 11).val]) rfl (by kernel_rfl)) ?_
   refine kF fun aTT => ?_
   refine VL.DV aTT ?_
   refine ZX ?_
   replace hS:=lQ hS hK1
   cases hS
   exact VC.ret (Z1 (Er.fault aTT [102,105,108,101] p8 (Er.no 11)))
  exact ZE hS
 replace hS:=lQ hS hK1
 refine Zx ?_
 refine ZX ?_
 cases hS
 exact VC.ret (Z1 .nil)
instance aS7 (eV:Sv aC) (dL:Sv aC) (cV:Sv aC) (S6:bI) (TB:bI) :
 jG Tryz.prog 259 [eV.val,dL.val,cV.val,str S6,str TB] (Sh.yF eV.l dL.l cV.l S6 TB) (eV.ok.and (dL.ok.and cV.ok)) (X:=cQ×Er) (fun x => .tuple #[.agg (bB.enc x.1).toArray,x.2.val]) (fun x=>(x.1.pl,x.2.pl)) (fun x=>(x.1.m.and x.2.ok)):=by
 refine jO Tryz.func259 Tryz.ntmps259 fun r hS c => ?_
 unfold Sh.yF at hS
 refine cI (dG fun N5=>ZX ?_)
 refine Zq (ZX ?_)
 refine VL.lit (α:=Sv aC) (xs:=[.tmp 22,.tmp 23,.tmp 24]) (vs:=[eV.val,dL.val,cV.val]) [eV,dL,cV] Tryz.underlying292 VO (by decide) rfl rfl rfl rfl (by decide) (fun h m=>List.forall_mem_cons.2 ⟨dM.out (X:=eV.ok) h m,List.forall_mem_cons.2 ⟨dM.out (X:=dL.ok) h m,List.forall_mem_cons.2 ⟨dM.out (X:=cV.ok) h m,fun _ h=>by cases h⟩⟩⟩) (by decide) (fun aM7 a0M => ?_) (by decide)
 replace hS:=dR (congrArg (List.map Sv.l) a0M) hS
 refine Zu (wW Sv.l (s:=aM7) Tryz.underlying292 rfl) ?_
 refine ZX ?_
 refine Zb ?_
 refine VC.iJ [0,1,2,3,4,10,25,26] (fun (RP:Int)=>RP) (fun RP ρ=>(27,i64 RP)::ρ) 0 [27,0,1,2,3,4,10,25,26] hS ?_
 rintro RP m1 y1 hS hK1
 refine ZX ?_
 refine Zq (Zc hS (fun h28 hS => ?_) (fun h28 hS => ?_))
 ·
  refine Zk ?_
  refine Zq (Zb (cI ?_))
  obtain ⟨aNM,aOU,aHe,hS⟩:=DT hS
  refine VL.deep aNM.ok aHe (fun _ q=>q) ?_
  refine Zu (jY (s:=aM7) Tryz.underlying292 aEa rfl rfl aOU (bQ aOU aHe)) (Zu (JZ  (s:=aM7) z8 rfl aHe rfl) ?_)
  refine ZX ?_
  refine fN hS rfl fun UF hS=>ZX ?_
  refine VC.bD [0,1,2,3,4,10,25,26,27,14,34] (qD hS (fun h34 hS => ?_) (fun h34 hS => ?_))
  ·
   refine cI ?_
   refine Zu (cA (vs:=[]) (cs := #[.slice none 0 0,.slice none 0 0,.slice none 0 0]) rfl (by kernel_rfl)) ?_
   refine ZX ?_
   replace hS:=lQ hS hK1
   cases hS
   exact VC.ret (Z4 (⟨⟨none,0,[]⟩,⟨none,0,[]⟩,⟨none,0,[]⟩⟩,UF) rfl)
  exact ZE hS
 replace hS:=lQ hS hK1
 refine Zx ?_
 refine cI (dG fun aDy=>Zl ?_)
 refine Zq (ZX ?_)
 refine VL.lit (α:=Sv aC) (xs:=[.tmp 38,.tmp 39,.tmp 40]) (vs:=[eV.val,dL.val,cV.val]) [eV,dL,cV] Tryz.underlying292 VO (by decide) rfl rfl rfl rfl (by decide) (fun h m=>List.forall_mem_cons.2 ⟨dM.out (X:=eV.ok) h m,List.forall_mem_cons.2 ⟨dM.out (X:=dL.ok) h m,List.forall_mem_cons.2 ⟨dM.out (X:=cV.ok) h m,fun _ h=>by cases h⟩⟩⟩) (by decide) (fun bBU a0W => ?_) (by decide)
 replace hS:=dR (congrArg (List.map Sv.l) a0W) hS
 refine fJ hS rfl fun BK hS=>ZX ?_
 refine VC.bD [0,1,2,3,4,10,15,42,43,44] (Zb ?_)
 refine VC.lU (⟨none,0,[]⟩:Sv aC) 89 ⟨rfl,rfl⟩ ?_
 refine VC.lU (⟨none,0,[]⟩:Sv IndexEntry) 121 ⟨rfl,rfl⟩ ?_
 refine VC.lU (⟨none,0,[]⟩:Sv bI) 9 ⟨rfl,rfl⟩ ?_
 refine VC.YA aDy (cs':=[(⟨none,0,[]⟩:Sv aC).val,(⟨none,0,[]⟩:Sv IndexEntry).val,(⟨none,0,[]⟩:Sv bI).val]) rfl ?_
 refine VC.iter (S:=Int×Sv aC×Sv IndexEntry×Sv bI) (fun sg=>(sg.1,sg.2.1.l,sg.2.2.1.l,sg.2.2.2.l)) (fun sg=>[(0,eV.val),(1,dL.val),(2,cV.val),(3,str S6),(4,str TB),(10,ptr N5 0),(15,ptr aDy 0),(42,BK.val),(43,i64 (BK.l.length:Int)),(44,i64 sg.1)]) (fun sg=>Mo.tt) (fun sg=>Ow.star (bM aDy [sg.2.1.val,sg.2.2.1.val,sg.2.2.2.val] 232) (Ow.star (bM N5 [.slice none 0 0,.slice none 0 0,.slice none 0 0] 232) (Ow.star (Sv.own BK 9) (Ow.star (Sv.own sg.2.1 89) (Ow.star (Sv.own sg.2.2.1 121) (Ow.star (Sv.own sg.2.2.2 9) (Ow.emp))))))) (0,(⟨none,0,[]⟩:Sv aC),(⟨none,0,[]⟩:Sv IndexEntry),(⟨none,0,[]⟩:Sv bI)) [0,1,2,3,4,10,15,42,43,44] hS rfl ?_
 rintro ⟨N0,XO,F9,HI⟩ m1 y1 hS hK1
 refine ZX ?_
 refine Zq (Zc hS (fun h45 hS => ?_) (fun h45 hS => ?_))
 ·
  refine Zk ?_
  refine Zq (Zb (cI ?_))
  obtain ⟨aBK,aK2,aJt,hS⟩:=gQ hS
  refine Zu (lC (s:=BK) Tryz.underlying45 wU rfl rfl aK2 (bQ aK2 aJt)) (Zu (GS (s:=BK) 9 oV rfl aJt rfl) ?_)
  refine ZX ?_
  refine jU hS rfl fun EP hS=>ZX ?_
  refine dG fun aYx=>ZO ?_
  refine Zl ?_
  refine VC.bD [0,1,2,3,4,10,15,42,43,44,17,18,19,20] ?_
  refine VC.wT (S:=Sv aC) (fun (N6:Sv aC)=>N6.l) (fun (N6:Sv aC)=>[(0,eV.val),(1,dL.val),(2,cV.val),(3,str S6),(4,str TB),(10,ptr N5 0),(15,ptr aDy 0),(17,str aBK),(20,.bool EP.2.2),(42,BK.val),(43,i64 (BK.l.length:Int)),(44,i64 N0)]) (fun (N6:Sv aC)=>Mo.tt) (fun (N6:Sv aC)=>Ow.star (bM aYx [str EP.1.path,i64 EP.1.mode,str EP.1.data] 89) (Ow.star (bM aDy [N6.val,F9.val,HI.val] 232) (Ow.star (bM N5 [.slice none 0 0,.slice none 0 0,.slice none 0 0] 232) (Ow.star (Sv.own BK 9) (Ow.star (Sv.own F9 121) (Ow.star (Sv.own HI 9) (Ow.star (Sv.own N6 89) (Ow.emp)))))))) hS (fun _ hS=>ZE hS) ?_
  rintro N6 hS
  refine ZX ?_
  refine iG hS (fun h66 hS => ?_) (fun h66 hS => ?_)
  ·
   refine ZX ?_
   refine tE hS fun bA3 hS=>XJ hS fun bA4 hS => ?_
   refine ZO ?_
   refine Zl ?_
   refine VC.bD [0,1,2,3,4,10,15,17,42,43,44] ?_
   refine hU [(0,true),(1,true),(2,true),(3,true),(4,true),(5,true),(6,false),(7,false),(8,false),(9,true),(10,false)] ?_
   refine ZX ?_
   refine VD.one rfl ?_
   refine VL.lit (α:=Sv aC) (xs:=[.tmp 76,.tmp 77,.tmp 78]) (vs:=[eV.val,dL.val,cV.val]) [eV,dL,cV] Tryz.underlying292 VO (by decide) rfl rfl rfl rfl (by decide) (fun h m=>List.forall_mem_cons.2 ⟨dM.out (X:=eV.ok) h m,List.forall_mem_cons.2 ⟨dM.out (X:=dL.ok) h m,List.forall_mem_cons.2 ⟨dM.out (X:=cV.ok) h m,fun _ h=>by cases h⟩⟩⟩) (by decide) (fun bA6 aVO => ?_) (by decide)
   replace hS:=dR (congrArg (List.map Sv.l) aVO) hS
   refine eL (Pk 1 (Pk 0 Pz)) ?_
   refine VD.one rfl (fJ hS rfl fun aSI hS=>eL (Pk 1 (Pk 0 Pz)) ?_)
   refine VD.one rfl ?_
   refine VL.shut aSI 121 (fun _ _ _ _=>trivial) ?_
   refine XJ hS fun bA7 hS => ?_
   refine eY ?_
   refine ZX ?_
   refine VD.one rfl (ZX ?_)
   refine eY ?_
   exact ZE hS
  exact ZE hS
 replace hS:=lQ hS hK1
 refine Zx ?_
 refine VC.bD [10,15] (Zq (ZX ?_))
 refine VL.shut XO 89 (fun _ _ _ _=>trivial) ?_
 refine fN hS rfl fun aSL hS=>ZX ?_
 refine qD hS (fun h88 hS => ?_) (fun h88 hS => ?_)
 ·
  refine cI ?_
  refine Zu (cA (vs:=[]) (cs := #[.slice none 0 0,.slice none 0 0,.slice none 0 0]) rfl (by kernel_rfl)) ?_
  refine ZX ?_
  cases hS
  exact VC.ret (Z4 (⟨⟨none,0,[]⟩,⟨none,0,[]⟩,⟨none,0,[]⟩⟩,aSL) rfl)
 refine Zk ?_
 refine Zq ?_
 refine hU [(0,true),(1,true),(3,true),(4,true),(6,true),(7,true),(2,false),(5,false),(8,false),(9,true),(10,false),(11,true)] ?_
 refine ZX ?_
 refine VD.one rfl (fN hS rfl fun aBn hS=>eL (Pk 7 (Pk 6 (Pk 4 (Pk 3 Pz)))) ?_)
 refine VD.one rfl ?_
 refine VL.shut F9 121 (fun _ _ _ _=>trivial) ?_
 refine fN hS rfl fun aBo hS=>eL (Pk 7 (Pk 6 Pz)) ?_
 refine VD.one rfl (fJ hS rfl fun VY hS=>eY ?_)
 refine Zw rfl (cA (vs:=[(0,aBn.val),(1,aBo.val),(2,VY.val)]) (cs := #[aBn.val,aBo.val,VY.val]) rfl (by kernel_rfl)) ?_
 refine VD.one rfl (ZX ?_)
 refine eY ?_
 refine ZD ?_
 refine xE ?_
 refine VC.bD [10,11] ?_
 refine VC.shut VY 9 (fun _ _ _ _=>trivial) ?_
 cases hS
 exact VC.ret (Z4 (⟨aBn,aBo,VY⟩,.nil) rfl)
instance JT (dO:Sv aC) (p_1:bI) :
 gS Tryz.prog 257 [dO.val,str p_1] (Sh.tT dO.l p_1) dO.ok (fun r => .agg #[str r.bU,i64 r.cK,str r.bS,.bool r.is]):=by
 refine gU Tryz.func257 Tryz.ntmps257 fun r hS c => ?_
 unfold Sh.tT at hS
 refine cI (dG fun W4=>ZX ?_)
 refine jU hS rfl fun jM hS=>ZX ?_
 refine dG fun Y5=>ZO ?_
 refine Zl ?_
 refine VC.bD [4,5,6] (ZX ?_)
 refine Zu (cA (vs:=[(0,.agg #[str jM.1.path,i64 jM.1.mode,str jM.1.data]),(1,.bool jM.2)]) (cs := #[str jM.1.path,i64 jM.1.mode,str jM.1.data,.bool jM.2]) rfl (by kernel_rfl)) ?_
 exact ZE hS
instance aRR (gT:Sv aC) (r_1:cQ) :
 uL Tryz.prog 314 [gT.val,.agg #[r_1.files.val,r_1.entries.val,r_1.conflicts.val]] (Sh.qG gT.l r_1.pl) (gT.ok.and r_1.m) (Ow.emp) (X:=Sv bI) (fun x=>x.val) (fun x=>x.l) (fun x=>Mo.tt) (fun x=>Sv.own x 9):=by
 refine uV Tryz.func314 Tryz.ntmps314 fun r hS c => ?_
 unfold Sh.qG at hS
 refine cI (kF fun rX=>ZX ?_)
 refine Zq (ZX ?_)
 refine VL.lit (α:=Sv aC) (xs:=[.tmp 8,.tmp 10]) (vs:=[gT.val,r_1.files.val]) [gT,r_1.files] Tryz.underlying292 VO (by decide) rfl rfl rfl rfl (by decide) (fun h m=>List.forall_mem_cons.2 ⟨dM.out (X:=gT.ok) h m,List.forall_mem_cons.2 ⟨dM.out (X:=r_1.files.ok) h m,fun _ h=>by cases h⟩⟩) (by decide) (fun bBA a0A => ?_) (by decide)
 replace hS:=dR (congrArg (List.map Sv.l) a0A) hS
 refine fJ hS rfl fun GP hS=>ZX ?_
 refine Zb ?_
 refine VC.lU (⟨none,0,[]⟩:Sv bI) 9 ⟨rfl,rfl⟩ ?_
 refine VC.iter (S:=Sv bI×Int) (fun sg=>(sg.1.l,sg.2)) (fun sg=>[(0,gT.val),(3,ptr rX 0),(5,sg.1.val),(12,GP.val),(13,i64 (GP.l.length:Int)),(14,i64 sg.2)]) (fun sg=>Mo.tt) (fun sg=>Ow.star (bM rX [r_1.files.val,r_1.entries.val,r_1.conflicts.val] 232) (Ow.star (Sv.own GP 9) (Ow.star (Sv.own sg.1 9) (Ow.emp)))) (⟨none,0,[]⟩,0) [0,3,5,12,13,14] hS rfl ?_
 rintro ⟨VS,YG⟩ m1 y1 hS hK1
 refine ZX ?_
 refine Zq (Zc hS (fun h15 hS => ?_) (fun h15 hS => ?_))
 ·
  refine Zk ?_
  refine Zq (Zb (cI ?_))
  obtain ⟨aCi,aOO,aOA,hS⟩:=gQ hS
  refine Zu (lC (s:=GP) Tryz.underlying45 wU rfl rfl aOO (bQ aOO aOA)) (Zu (GS (s:=GP) 9 oV rfl aOA rfl) ?_)
  refine ZX ?_
  refine Zq ?_
  refine hU ((List.range 8).map fun k=>(k,true)) ?_
  refine ZX ?_
  obtain ⟨FJ,aZ1,hS⟩:=dU hS
  refine Zw rfl (eT ((JT gT aCi).out aZ1) rfl (fun _ _=>rfl)) ?_
  refine ZX ?_
  obtain ⟨wX,aZ6,hS⟩:=dU hS
  refine Zw rfl (eT ((JT r_1.files aCi).out aZ6) rfl (fun _ _=>rfl)) ?_
  refine Zw rfl (aFT aEY (aE0 FJ.bU FJ.cK FJ.bS FJ.is wX.bU wX.cK wX.bS wX.is) rfl rfl) ?_
  exact ZE hS
 replace hS:=lQ hS hK1
 refine Zx ?_
 refine ZX ?_
 refine XJ hS fun a1d hS => ?_
 refine Za ?_
 refine Zl ?_
 refine VC.bD [5] ?_
 obtain ⟨b36,hS⟩:=bX hS
 refine ZX ?_
 refine VL.nW (UR a1d b36) rfl (by decide) ?_
 rintro a1v ⟨aVS,aX7⟩
 try dsimp only
 rw [← aX7]
 replace hS:=dR aVS hS
 obtain ⟨b38,hS⟩:=bX hS
 refine ZX ?_
 refine VL.nW (LP a1v b38) rfl (by decide) ?_
 rintro bAa aVT
 try dsimp only
 replace hS:=dR aVT hS
 exact ZE hS
instance p7 (aA:Sv bI) (v_1:bI) :
 gS Tryz.prog 208 [aA.val,str v_1] (Sh.cP aA.l v_1) aA.ok (fun r => .bool r):=by
 refine gU Tryz.func208 Tryz.ntmps208 fun r hS c => ?_
 unfold Sh.cP at hS
 exact ZE hS
instance aY7 (gT:Sv aC) (yU:Sv IndexEntry) (V7:Sv aC) (p_3:bI) :
 gS Tryz.prog 338 [gT.val,yU.val,V7.val,str p_3] (Sh.HY gT.l yU.l V7.l p_3) (gT.ok.and (yU.ok.and V7.ok)) (fun r => .bool r):=by
 refine gU Tryz.func338 Tryz.ntmps338 fun r hS c => ?_
 unfold Sh.HY at hS
 refine ZX ?_
 refine fN hS rfl fun aKl hS=>Zm ?_
 refine jU hS rfl fun uT hS=>dG fun a8M=>ZX ?_
 refine Zq ?_
 refine hU [(0,true),(1,true),(2,true),(3,true),(4,true),(5,true),(6,true),(7,true),(8,true),(9,true),(10,true),(11,true),(12,true),(13,true),(15,true),(14,false),(16,true),(17,true),(18,true),(19,true)] ?_
 refine ZX ?_
 obtain ⟨s9,ZK,hS⟩:=dU hS
 refine Zw rfl (eT ((JT V7 p_3).out ZK) rfl (fun _ _=>rfl)) ?_
 refine ZX ?_
 refine Zw rfl (PV aEY (aE0 s9.bU s9.cK s9.bS s9.is uT.bU uT.cK uT.bS uT.is) rfl rfl) ?_
 refine ZX ?_
 refine VD.wO 19 rfl (fun h19 => ?_) (fun h19 => ?_)
 ·
  replace hS:=KR h19 hS
  refine ZX ?_
  obtain ⟨IW,aZ3,hS⟩:=dU hS
  refine Zi rfl (eT ((JT gT p_3).out aZ3) rfl (fun _ _=>rfl)) ?_
  refine Zi rfl (PV aEY (aE0 uT.bU uT.cK uT.bS uT.is IW.bU IW.cK IW.bS IW.is) rfl rfl) ?_
  refine ZX ?_
  refine VD.wO 26 rfl (fun h26 => ?_) (fun h26 => ?_)
  ·
   replace hS:=KR h26 hS
   refine ZX ?_
   refine VD.a4j rfl rfl rfl ?_
   refine VL.guard rfl rfl ?_
   refine fJ hS rfl fun aWX hS => ?_
   refine QA [(15,str p_3)] (bR.aHQ rfl rfl rfl (fR rfl) bR.nil) ?_
   obtain ⟨FK,aZa,hS⟩:=dU hS
   refine Zi rfl (lW ((p7 aWX p_3).out aZa) rfl (fun _ _=>rfl)) ?_
   exact ZE hS
  replace hS:=W7 h26 hS
  refine ZX ?_
  refine VD.aVp (D':=[(15,undef)]) rfl rfl rfl (by decide) (by decide) (by kernel_rfl) (bR.aEH rfl rfl rfl rfl (bR.nil)) ?_
  exact ZE hS
 replace hS:=W7 h19 hS
 refine ZX ?_
 refine VD.aVp (D':=[(15,undef)]) rfl rfl rfl (by decide) (by decide) (by kernel_rfl) (bR.aEH rfl rfl rfl rfl (bR.nil)) ?_
 exact ZE hS
instance aCz (BZ:bI) (hO:Nat) (a_1:cQ) (aTK:Nat) (a_2:aC) :
 gS Tryz.prog 340 [str BZ,ptr hO 0,ptr aTK 0] (Sh.DH BZ a_1.pl a_2) (a_1.m.and ((Cells hO 0 [a_1.files.val,a_1.entries.val,a_1.conflicts.val]).and (Cells aTK 0 [str a_2.path,i64 a_2.mode,str a_2.data]))) (fun r => .bool r):=by
 refine gU Tryz.func340 Tryz.ntmps340 fun r hS c => ?_
 unfold Sh.DH at hS
 refine ZX ?_
 refine Zu (ED z8 rfl rfl) (Zm ?_)
 refine jU hS rfl fun EJ hS => ?_
 refine Zu (aMY Tryz.underlying307 rfl KC rfl rfl) (Zm ?_)
 refine B3 10 hS (fun h10 hS => ?_) (fun h10 hS => ?_)
 ·
  refine ZX ?_
  refine Zh (ED oV rfl rfl) ?_
  obtain ⟨IQ,aZL,hS⟩:=dU hS
  refine Zh (eT ((aEv BZ a_2.path).out aZL) rfl (fun _ _=>rfl)) ?_
  exact ZE hS
 exact ZE hS
instance FC (aA:Sv bI) (dQ:Nat) (dI:cQ) (JM:Nat) (E5:aC) :
 gS Tryz.prog 350 [aA.val,.func (.func 340) #[] #[ptr dQ 0,ptr JM 0]] (Sh.jT aA.l dI.pl E5) (aA.ok.and (dI.m.and ((Cells dQ 0 [dI.files.val,dI.entries.val,dI.conflicts.val]).and (Cells JM 0 [str E5.path,i64 E5.mode,str E5.data])))) (fun r=>i64 r):=by
 refine gU Tryz.func350 Tryz.ntmps350 fun r hS c => ?_
 unfold Sh.jT at hS
 refine ZX ?_
 refine Zq (ZX ?_)
 refine Zb ?_
 refine VC.iJ [0,1,7] (fun (dD:Int)=>dD) (fun dD ρ=>(8,i64 dD)::ρ) 0 [8,0,1,7] hS ?_
 rintro dD m1 y1 hS hK1
 refine ZX ?_
 refine Zq (Zc hS (fun h9 hS => ?_) (fun h9 hS => ?_))
 ·
  refine Zk ?_
  refine Zq (Zb (ZX ?_))
  obtain ⟨eW,qS,oB,hS⟩:=gQ hS
  refine Zu (jY (s:=aA) Tryz.underlying45 wU rfl rfl qS (bQ qS oB)) (Zu (JZ  (s:=aA) oV rfl oB rfl) ?_)
  obtain ⟨nJ,tF,hS⟩:=dU hS
  refine Zu (sQ (vs:=[str eW]) (caps:=[ptr dQ 0,ptr JM 0]) ((aCz eW dQ dI JM E5).out tF) rfl rfl (fun _ _=>rfl)) ?_
  exact ZE hS
 exact ZE hS
instance DK (aA:Sv bI) (dQ:Nat) (dI:cQ) (JM:Nat) (E5:aC) :
 gS Tryz.prog 339 [aA.val,.func (.func 340) #[] #[ptr dQ 0,ptr JM 0]] (Sh.iQ aA.l dI.pl E5) (aA.ok.and (dI.m.and ((Cells dQ 0 [dI.files.val,dI.entries.val,dI.conflicts.val]).and (Cells JM 0 [str E5.path,i64 E5.mode,str E5.data])))) (fun r => .bool r):=by
 refine gU Tryz.func339 Tryz.ntmps339 fun r hS c => ?_
 unfold Sh.iQ at hS
 refine ZX ?_
 obtain ⟨kK,E4,hS⟩:=dU hS
 refine Zu (lW ((FC aA dQ dI JM E5).out E4) rfl (fun _ _=>rfl)) ?_
 exact ZE hS
instance aY6 (gT:Sv aC) (r_1:cQ) (DR:Sv IndexEntry) (mW:Sv aC) :
 uL Tryz.prog 313 [gT.val,.agg #[r_1.files.val,r_1.entries.val,r_1.conflicts.val],DR.val,mW.val] (Sh.E8 gT.l r_1.pl DR.l mW.l) (gT.ok.and (r_1.m.and (DR.ok.and mW.ok))) (Ow.emp) (X:=Sv bI) (fun x=>x.val) (fun x=>x.l) (fun x=>Mo.tt) (fun x=>Sv.own x 9):=by
 refine uV Tryz.func313 Tryz.ntmps313 fun r hS c => ?_
 unfold Sh.E8 at hS
 refine cI (kF fun S9=>ZX ?_)
 refine fJ hS rfl fun CN hS=>ZX ?_
 refine Zq (ZX ?_)
 refine Zb ?_
 refine VC.lU (⟨none,0,[]⟩:Sv bI) 9 ⟨rfl,rfl⟩ ?_
 refine VC.iter (S:=Sv bI×Int) (fun sg=>(sg.1.l,sg.2)) (fun sg=>[(0,gT.val),(2,DR.val),(3,mW.val),(5,ptr S9 0),(9,CN.val),(10,sg.1.val),(18,CN.val),(19,i64 (CN.l.length:Int)),(20,i64 sg.2)]) (fun sg=>Mo.tt) (fun sg=>Ow.star (bM S9 [r_1.files.val,r_1.entries.val,r_1.conflicts.val] 232) (Ow.star (Sv.own CN 9) (Ow.star (Sv.own sg.1 9) (Ow.emp)))) (⟨none,0,[]⟩,0) [0,2,3,5,9,10,18,19,20] hS rfl ?_
 rintro ⟨PF,YJ⟩ m1 y1 hS hK1
 refine ZX ?_
 refine Zq (Zc hS (fun h21 hS => ?_) (fun h21 hS => ?_))
 ·
  refine Zk ?_
  refine Zq (Zb (cI ?_))
  obtain ⟨aNJ,aOS,aOE,hS⟩:=gQ hS
  refine Zu (lC (s:=CN) Tryz.underlying45 wU rfl rfl aOS (bQ aOS aOE)) (Zu (GS (s:=CN) 9 oV rfl aOE rfl) ?_)
  exact ZE hS
 replace hS:=lQ hS hK1
 refine Zx ?_
 refine Zq (ZX ?_)
 refine VC.bD [5,9,10,35,36,37] (Zb ?_)
 refine VC.iter (S:=Sv bI×Int) (fun sg=>(sg.1.l,sg.2)) (fun sg=>[(5,ptr S9 0),(9,CN.val),(10,sg.1.val),(35,mW.val),(36,i64 (mW.l.length:Int)),(37,i64 sg.2)]) (fun sg=>Mo.tt) (fun sg=>Ow.star (bM S9 [r_1.files.val,r_1.entries.val,r_1.conflicts.val] 232) (Ow.star (Sv.own CN 9) (Ow.star (Sv.own sg.1 9) (Ow.emp)))) (PF,0) [5,9,10,35,36,37] hS rfl ?_
 rintro ⟨DF,I9⟩ m1 y1 hS hK1
 refine ZX ?_
 refine Zq (Zc hS (fun h38 hS => ?_) (fun h38 hS => ?_))
 ·
  refine Zk ?_
  refine Zq (Zb (cI (BY hS rfl fun N2 a88 hS=>ZX ?_)))
  refine dG fun aN0=>ZO ?_
  refine Zl ?_
  refine VC.cJ [5,9,10,14,35,36,37] (fun (_:Unit)=>()) (fun _ ρ=>ρ) hS ?_ ?_
  ·
   intro k15 hS
   refine ZX ?_
   obtain ⟨aD8,aTu,hS⟩:=dU hS
   refine Zu (lW ((p7 CN N2.path).out aTu) rfl (fun _ _=>rfl)) ?_
   refine Zm ?_
   refine B3 45 hS (fun h45 hS => ?_) (fun h45 hS => ?_)
   ·
    refine ZX ?_
    obtain ⟨aPP,aUA,hS⟩:=dU hS
    refine Zh (eT ((JT r_1.files N2.path).out aUA) rfl (fun _ _=>rfl)) ?_
    refine Zh (aMY Tryz.underlying307 rfl KC rfl rfl) ?_
    exact ZE hS
   refine VL.runs 8 [(53,some false)] (by kernel_rfl) ?_
   refine Zl ?_
   refine VC.keep (ρ':=[(5,ptr S9 0),(9,CN.val),(10,DF.val),(35,mW.val),(36,i64 (mW.l.length:Int)),(37,i64 I9),(14,ptr aN0 0),(53,.bool false)]) [5,9,10,35,36,37,14,53] rfl ?_
   refine VC.uW rfl ?_
   exact ZE hS
  rintro _ hS
  refine ZX ?_
  obtain ⟨aPZ,aUI,hS⟩:=dU hS
  refine Zu (lW ((DK CN S9 r_1 aN0 N2).out aUI) rfl (fun _ _=>rfl)) ?_
  exact ZE hS
 replace hS:=lQ hS hK1
 refine Zx ?_
 obtain ⟨b64,hS⟩:=bX hS
 refine ZX ?_
 refine VL.nW (UR DF b64) rfl (by decide) ?_
 rintro a1w ⟨aVU,aX8⟩
 try dsimp only
 rw [← aX8]
 replace hS:=dR aVU hS
 obtain ⟨b66,hS⟩:=bX hS
 refine ZX ?_
 refine VL.nW (LP a1w b66) rfl (by decide) ?_
 rintro bAb aVV
 try dsimp only
 replace hS:=dR aVV hS
 exact ZE hS
instance a1B (dO:cQ) (yU:Sv IndexEntry) (p_2:bI) :
 jG Tryz.prog 315 [.agg #[dO.files.val,dO.entries.val,dO.conflicts.val],yU.val,str p_2] (Sh.HX dO.pl yU.l p_2) (dO.m.and yU.ok) (X:=Sv IndexEntry) (fun x=>x.val) (fun x=>x.l) (fun x=>x.ok):=by
 refine jO Tryz.func315 Tryz.ntmps315 fun r hS c => ?_
 unfold Sh.HX at hS
 refine cI (kF fun rX=>ZX ?_)
 refine Zq (ZX ?_)
 refine jU hS rfl fun uT hS=>Zl ?_
 refine iG hS (fun h13 hS => ?_) (fun h13 hS => ?_)
 ·
  refine Zq (ZX ?_)
  refine VC.bD [1,2,15,16,17] (Zb ?_)
  refine VC.iJm [2,15,16] (fun (sg:Sv IndexEntry×Int)=>(sg.1.l,sg.2)) (fun sg ρ=>(1,sg.1.val)::(17,i64 sg.2)::ρ) (fun sg=>sg.1.ok) (yU,0) [1,17,2,15,16] hS ?_
  rintro ⟨aHl,s7⟩ m1 y1 hS hK1
  refine ZX ?_
  refine Zq (Zc hS (fun h18 hS => ?_) (fun h18 hS => ?_))
  ·
   refine Zk ?_
   refine Zq (Zb (cI (BY hS rfl fun MX aDS hS=>ZX ?_)))
   exact dG fun bB1=>ZE hS
  exact ZE hS
 refine ZX ?_
 refine jU hS rfl fun FL hS=>dG fun a8O=>ZO ?_
 refine Zl ?_
 refine VC.bD [1,2,9] (Zq (ZX ?_))
 refine iG hS (fun _ hS=>ZE hS) fun h36 hS=>ZX ?_
 refine Zu (cA (vs:=[(0,str p_2),(2,i64 FL.cK),(3,str FL.bS)]) (cs := #[str p_2,i64 0,i64 FL.cK,str FL.bS,i64 0,i64 0]) rfl (by kernel_rfl)) ?_
 exact HB hS (OA yU (⟨p_2,0,FL.cK,FL.bS,0,0⟩:IndexEntry)).out fun a7U hS=>ZE hS
end Go.Proofs.YtaohfeokfcdojaaGreatDoor
end
