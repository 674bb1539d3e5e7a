/- Part of the proofs of: the law TopKeeps: what is changed and not committed is there, or put aside, behind every command that does not say otherwise (any acts, any line), where what is read is of bulk at most 1048576 -/
import Derived.Test.YtaohfeokfcdojaaGreatDoorTWf
set_option linter.unusedVariables false
set_option linter.unusedSimpArgs false
set_option linter.unusedSectionVars false
section
set_option linter.unusedVariables false
namespace Go.Proofs.YtaohfeokfcdojaaGreatDoor
set_option maxHeartbeats 4000000
set_option maxRecDepth 100000
set_option synthInstance.maxSize 2000
set_option synthInstance.maxHeartbeats 1000000
open Go.RowKit Go.V
open Go.S
attribute [local irreducible] Go.V.Qt Go.V.VL Go.V.VC Go.V.HA Go.S.gd Go.S.at_ Go.S.lt Go.S.jn Go.S.go Go.S.up Go.S.iter Sh.zW Sh.eN Sh.kT Sh.FT Sh.zD Sh.vK Sh.wF Sh.x9 Sh.xA Sh.wG Sh.qV Sh.GV Sh.cL Sh.kX
instance aV5 (cE:aL) (b_1:aL) (LO:l8) :
 uL Tryz.prog 9 [.agg (aI cE).toArray,.agg (aI b_1).toArray,.agg #[str LO.verb,str LO.name,i64 LO.n,str LO.text,.bool LO.force,LO.todo.val]] (Sh.FT cE.pl b_1.pl LO.pl) (cE.m.and (b_1.m.and (LO.todo.ok.and Gl))) (Ow.emp) (X:=Sv bI) (fun x=>x.val) (fun x=>x.l) (fun x=>Mo.tt) (fun x=>Sv.own x 9):=by
 refine uV Tryz.func9 Tryz.ntmps9 fun r hS c => ?_
 unfold Sh.FT at hS
 refine cI ?_
 refine qC (aI cE) fun rX => ?_
 refine qC (aI b_1) fun xF => ?_
 refine kF fun Y5=>ZX ?_
 refine Zq ?_
 refine VC.cJ [3,4] (fun (aCO:Bool)=>aCO) (fun aCO ρ=>(25,.bool aCO)::ρ) hS (fun _ hS=>ZE hS) ?_
 rintro aCO hS
 refine iG hS (fun h25 hS => ?_) (fun h25 hS => ?_)
 ·
  refine cI (Za ?_)
  refine Zl ?_
  refine VC.lU (⟨none,0,[]⟩:Sv bI) 9 ⟨rfl,rfl⟩ ?_
  cases hS
  exact VC.ret (Z1 ⟨none,0,[]⟩)
 refine Zk ?_
 refine Zq ?_
 refine hU [(0,true),(1,true),(2,true),(4,true),(5,true),(6,true),(7,true),(8,true),(3,false),(9,false),(10,true),(11,true)] ?_
 refine ZX ?_
 refine VD.one rfl (fN hS rfl fun aLB hS=>eL (Pk 8 (Pk 7 (Pk 6 (Pk 5 (Pk 4 Pz))))) ?_)
 refine VD.one rfl (fN hS rfl fun aLD hS=>eY ?_)
 refine ZD ?_
 refine xE ?_
 refine VC.bD [3,4,7,8] (ZX ?_)
 refine Zq (ZX ?_)
 refine Zb ?_
 refine VC.lU (⟨none,0,[]⟩:Sv bI) 9 ⟨rfl,rfl⟩ ?_
 refine VC.iter (S:=Sv bI×Int) (fun sg=>(sg.1.l,sg.2)) (fun sg=>[(4,ptr xF 0),(7,aLB.val),(8,aLD.val),(9,sg.1.val),(38,cE.aU.val),(39,i64 (cE.aU.l.length:Int)),(40,i64 sg.2)]) (fun sg=>Mo.tt) (fun sg=>Ow.star (bM Y5 [str LO.verb,str LO.name,i64 LO.n,str LO.text,.bool LO.force,LO.todo.val] 26) (Ow.star (bM xF (aI b_1) 49) (Ow.star (bM rX (aI cE) 49) (Ow.star (Sv.own sg.1 9) (Ow.emp))))) (⟨none,0,[]⟩,0) [4,7,8,9,38,39,40] hS rfl ?_
 rintro ⟨aAO,RR⟩ m1 y1 hS hK1
 refine ZX ?_
 refine Zq (Zc hS (fun h41 hS => ?_) (fun h41 hS => ?_))
 ·
  refine Zk ?_
  refine Zq (Zb (cI (BY hS rfl fun G9 a89 hS=>ZX ?_)))
  refine dG fun a9k=>ZX ?_
  refine jU hS rfl fun aBC hS=>ZX ?_
  refine dG fun a9m=>ZO ?_
  refine Zl ?_
  refine VC.bD [4,7,8,9,38,39,40,11,12,13] ?_
  refine VC.cJ [4,7,8,9,11,38,39,40] (fun (WE:Bool)=>WE) (fun WE ρ=>(77,.bool WE)::ρ) hS ?_ ?_
  ·
   intro k16 hS
   refine Zr (ZX ?_)
   refine jU hS rfl fun aPY hS=>Zm ?_
   refine B3 56 hS (fun h56 hS => ?_) (fun h56 hS => ?_)
   ·
    refine ZX ?_
    obtain ⟨aP3,aUL,hS⟩:=dU hS
    refine Zh (eT ((aB5 G9 aLD).out aUL) rfl (fun _ _=>rfl)) ?_
    refine Zt ?_
    refine Zm ?_
    refine B3 61 hS (fun h61 hS => ?_) (fun h61 hS => ?_)
    ·
     refine Zg ?_
     refine Zh (GU rfl) ?_
     refine Zg ?_
     refine B3 64 hS (fun h64 hS => ?_) (fun h64 hS => ?_)
     ·
      refine VL.runs 5 [(69,none)] (by kernel_rfl) ?_
      refine ZX ?_
      obtain ⟨aPe,aUO,hS⟩:=dU hS
      refine Zh (eT ((TW G9 b_1).out aUO) rfl (fun _ _=>rfl)) ?_
      exact ZE hS
     refine Zh (bY Z0 rfl) ?_
     refine Zh (nI oV rfl rfl) ?_
     refine Zh (bY Z0 rfl) ?_
     refine Zh (nI oV rfl rfl) ?_
     refine Zh (KF rfl rfl) ?_
     refine Zh (DJ rfl rfl) ?_
     refine Zt ?_
     refine Zm ?_
     refine S5 72 hS (fun h72 hS => ?_) (fun h72 hS => ?_)
     ·
      refine ZX ?_
      obtain ⟨aPf,aUP,hS⟩:=dU hS
      refine Zh (eT ((TW G9 b_1).out aUP) rfl (fun _ _=>rfl)) ?_
      exact ZE hS
     exact ZE hS
    exact ZE hS
   exact ZE hS
  rintro WE hS
  exact ZE hS
 exact ZE hS
instance SR (dY:Sv iV) (I5:bI) :
 gS Tryz.prog 3 [dY.val,str I5] (Sh.wF dY.l I5) (dY.ok.and Gl) (fun r => .bool r):=by
 refine gU Tryz.func3 Tryz.ntmps3 fun r hS c => ?_
 unfold Sh.wF at hS
 refine ZX ?_
 refine Zq (cI (jU hS rfl fun dB hS=>ZX ?_))
 refine iG hS (fun _ hS=>ZE hS) fun h11 hS=>ZX ?_
 refine fN hS rfl fun ⟨a8n,aWF⟩ hS => ?_
 try dsimp only
 refine ZX ?_
 refine dG fun Y5=>ZO ?_
 refine Zl ?_
 refine VC.bD [0,1,5,6] (Zq ?_)
 refine VC.cJ [0,5] (fun (aCS:Bool)=>aCS) (fun aCS ρ=>(28,.bool aCS)::ρ) hS ?_ ?_
 ·
  intro k5 hS
  refine Zr (Zm ?_)
  refine jU hS rfl fun MV hS => ?_
  refine Zu (GU rfl) (Zm ?_)
  refine B3 20 hS (fun _ hS=>ZE hS) fun h20 hS => ?_
  refine Zg ?_
  refine Zh (xN Tryz.underlying9 rfl) ?_
  refine Zh (wV rfl rfl) ?_
  refine Zf ?_
  refine Zm ?_
  refine oT 25 hS (fun _ hS=>ZE hS) fun h25 hS => ?_
  refine ZX ?_
  refine VL.mt (!decide (aWF.pl.isNil=true)) [28,0,5] (fun _ _ h=>h) hS rfl
 rintro aCS hS
 refine iG hS (fun _ hS=>ZE hS) fun h28 hS=>ZX ?_
 refine fN hS rfl fun UD hS=>dG fun a43=>ZX ?_
 refine fN hS rfl fun ⟨a9J,a9K⟩ hS => ?_
 try dsimp only
 refine ZX ?_
 exact dG fun bAq=>ZE hS
end Go.Proofs.YtaohfeokfcdojaaGreatDoor
end
