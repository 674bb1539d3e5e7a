/- Part of the proofs of: the law TopKeeps: what is changed and not committed is there, or put aside, behind every command that does not say otherwise (any acts, any line), where what is read is of bulk at most 1048576 -/
import Derived.Test.YtaohfeokfcdojaaGreatDoorTWb
set_option linter.unusedVariables false
set_option linter.unusedSimpArgs false
set_option linter.unusedSectionVars false
section
set_option linter.unusedVariables false
namespace Go.Proofs.YtaohfeokfcdojaaGreatDoor
set_option maxHeartbeats 4000000
set_option maxRecDepth 100000
set_option synthInstance.maxSize 2000
set_option synthInstance.maxHeartbeats 1000000
open Go.RowKit Go.V
open Go.S
attribute [local irreducible] Go.V.Qt Go.V.VL Go.V.VC Go.V.HA Go.S.gd Go.S.at_ Go.S.lt Go.S.jn Go.S.go Go.S.up Go.S.iter Sh.B6 Sh.zW Sh.vZ Sh.LC Sh.LD Sh.FP Sh.zX Sh.HK Sh.HL Sh.HM Sh.vM Sh.FQ Sh.cmp_isNaN_int Sh.uX Sh.nF Sh.l9 Sh.eN Sh.vJ Sh.qF Sh.wA Sh.tH Sh.zC Sh.BH Sh.kT Sh.yS Sh.DC Sh.zF Sh.zI Sh.iH Sh.tI Sh.H7 Sh.jC Sh.zJ Sh.BL Sh.CV Sh.IA Sh.bO Sh.cG Sh.cL Sh.b5 Sh.eC Sh.fQ Sh.iD Sh.iF Sh.gR Sh.dF Sh.j5 Sh.gB Sh.jI Sh.jJ Sh.kX Sh.ID Sh.iI Sh.vD Sh.C3
instance:KA Tryz.prog 106 (.slice 68):=⟨Tryz.underlying106⟩
instance aHO (cX:l8) :
 gS Tryz.prog 41 [.agg #[str cX.verb,str cX.name,i64 cX.n,str cX.text,.bool cX.force,cX.todo.val]] (Sh.LD cX.pl) cX.todo.ok (fun r=>i64 r):=by
 refine gU Tryz.func41 Tryz.ntmps41 fun r hS c => ?_
 unfold Sh.LD at hS
 refine cI (kF fun iS=>Za ?_)
 refine Zl ?_
 refine cI (Za ?_)
 refine Zl ?_
 refine VC.cJ [] (fun (aB9:Bool)=>aB9) (fun aB9 ρ=>(3,.bool aB9)::ρ) hS ?_ ?_
 ·
  intro k3 hS
  refine ZX ?_
  refine Zb ?_
  refine VC.cJ [1] (fun (_:Unit)=>()) (fun _ ρ=>ρ) hS ?_ ?_
  ·
   intro k4 hS
   refine Zb ?_
   refine VC.cJ [1] (fun (_:Unit)=>()) (fun _ ρ=>ρ) hS ?_ ?_
   ·
    intro k5 hS
    refine Zb ?_
    refine VC.cJ [1] (fun (_:Unit)=>()) (fun _ ρ=>ρ) hS ?_ ?_
    ·
     intro k6 hS
     refine Zb ?_
     refine VC.cJ [1] (fun (_:Unit)=>()) (fun _ ρ=>ρ) hS ?_ ?_
     ·
      intro k7 hS
      refine Zb (Zq (Zb (Zq (Zq (ZX ?_)))))
      refine Zc hS (fun _ hS=>ZE hS) fun h6 hS=>Zk ?_
      refine Zq (ZX ?_)
      refine Zc hS (fun _ hS=>ZE hS) fun h8 hS=>Zk ?_
      exact VC.cJ [1,3,5] (fun (_:Unit)=>()) (fun _ ρ=>ρ) hS (fun _ hS=>ZE hS) fun _ hS=>ZE hS
     rintro _ hS
     exact ZE hS
    rintro _ hS
    exact ZE hS
   rintro _ hS
   refine cI (Zu (bY aE2 rfl) ?_)
   refine Zu (nI oV rfl rfl) (Zs (Zm ?_))
   refine oT 30 hS (fun _ hS=>ZE hS) fun h30 hS => ?_
   refine ZX ?_
   obtain ⟨aPA,aTl,hS⟩:=dU hS
   refine Zh (eT ((aEr cX.name).out aTl) rfl (fun _ _=>rfl)) ?_
   exact ZE hS
  rintro _ hS
  exact ZE hS
 rintro aB9 hS
 exact ZE hS
instance aEF (cX:l8) :
 gS Tryz.prog 42 [.agg #[str cX.verb,str cX.name,i64 cX.n,str cX.text,.bool cX.force,cX.todo.val]] (Sh.FP cX.pl) cX.todo.ok (fun r=>i64 r):=by
 refine gU Tryz.func42 Tryz.ntmps42 fun r hS c => ?_
 unfold Sh.FP at hS
 refine cI (kF fun iS=>Za ?_)
 refine Zl ?_
 refine cI (ZO ?_)
 refine Zl ?_
 refine VC.cJ [1] (fun (LG:Int)=>LG) (fun LG ρ=>(3,i64 LG)::ρ) hS ?_ ?_
 ·
  intro k3 hS
  refine ZX ?_
  refine Zb (Zq (Zb (Zq (Zb (Zq (Zb (Zq ?_)))))))
  exact VC.cJ [1,3,7] (fun (_:Unit)=>()) (fun _ ρ=>ρ) hS (fun _ hS=>ZE hS) fun _ hS=>ZE hS
 rintro LG hS
 exact ZE hS
theorem Y9 (s t:bI) (b:s.length < 4294967281):Ct Tryz.prog 64 [str s,str t] Gl Ow.emp (X:=Unit) (fun _ => .bool (Lib.contains s t)) (fun _=>True) (fun _=>Mo.tt) (fun _=>Ow.emp) :=
  Ct.aHu (vU Tryz.func64 rfl (by kernel_rfl)) fun w h m l=>by
    obtain ⟨k,hk⟩:=aCj.cell (dM.out (X:=aCj 0) h m) l
    exact (Any.strings_Contains Tryz.aGb.ton144 ⟨⟨s⟩⟩ ⟨⟨t⟩⟩ k w b hk).mono fun e w' ⟨h1,h2⟩=>⟨h1,h2▸Gr.refl w⟩
instance aZD (aA:bI) (aDV:Bool) :
 gS Tryz.prog 80 [str aA,.bool aDV] (Sh.HM aA aDV) Gl (fun r=>i64 r):=by
 refine gU Tryz.func80 Tryz.ntmps80 fun r hS c => ?_
 unfold Sh.HM at hS
 refine ZX ?_
 refine Zq (Zb (ZX ?_))
 refine Zc hS (fun _ hS=>ZE hS) fun h5 hS => ?_
 refine VC.cJ [0] (fun (P6:Bool)=>P6) (fun P6 ρ=>(9,.bool P6)::ρ) hS (fun _ hS=>ZE hS) ?_
 rintro P6 hS
 refine iG hS (fun _ hS=>ZE hS) fun h9 hS => ?_
 obtain ⟨b17,hS⟩:=bX hS
 refine ZX ?_
 refine Zu (eT (Y9 aA [10] b17) rfl (fun _ _=>rfl)) ?_
 exact ZE hS
instance aY2 (dY:Sv bJ) :
 gS Tryz.prog 81 [dY.val] (Sh.HL dY.l) (dY.ok.and Gl) (fun r=>i64 r):=by
 refine gU Tryz.func81 Tryz.ntmps81 fun r hS c => ?_
 unfold Sh.HL at hS
 refine ZX ?_
 refine Zq (ZX ?_)
 refine Zc hS (fun _ hS=>ZE hS) fun h8 hS=>Zk ?_
 refine Zq (ZX ?_)
 refine Zb ?_
 refine VC.iJ [9,10] (fun (MQ:Int)=>MQ) (fun MQ ρ=>(11,i64 MQ)::ρ) 0 [11,9,10] hS ?_
 rintro MQ m1 y1 hS hK1
 refine ZX ?_
 refine Zq (Zc hS (fun h12 hS => ?_) (fun h12 hS => ?_))
 ·
  refine Zk ?_
  refine Zq (Zb (cI (BY hS rfl fun AR aNy hS=>ZX ?_)))
  refine dG fun BS=>ZX ?_
  refine Zq (ZX ?_)
  refine Zb ?_
  refine VC.cJ [4,9,10,11] (fun (s7:Bool)=>s7) (fun s7 ρ=>(17,.bool s7)::ρ) hS (fun _ hS=>ZE hS) ?_
  rintro s7 hS
  refine iG hS (fun h17 hS => ?_) (fun h17 hS => ?_)
  ·
   refine Zk ?_
   refine Zq ?_
   exact VC.cJ [4,9,10,11] (fun (KK:Bool)=>KK) (fun KK ρ=>(31,.bool KK)::ρ) hS (fun _ hS=>ZE hS) fun _ hS=>ZE hS
  exact ZE hS
 exact ZE hS
instance aHN (cX:l8) :
 gS Tryz.prog 43 [.agg #[str cX.verb,str cX.name,i64 cX.n,str cX.text,.bool cX.force,cX.todo.val]] (Sh.LC cX.pl) (cX.todo.ok.and Gl) (fun r=>i64 r):=by
 refine gU Tryz.func43 Tryz.ntmps43 fun r hS c => ?_
 unfold Sh.LC at hS
 refine cI (kF fun iS=>ZX ?_)
 refine Zq (ZX ?_)
 refine Zb ?_
 exact VC.cJ [1,4] (fun (aLY:Bool)=>aLY) (fun aLY ρ=>(5,.bool aLY)::ρ) hS (fun _ hS=>ZE hS) fun _ hS=>ZE hS
instance aFz (cX:l8) :
 jG Tryz.prog 19 [.agg #[str cX.verb,str cX.name,i64 cX.n,str cX.text,.bool cX.force,cX.todo.val]] (Sh.B6 cX.pl) (cX.todo.ok.and Gl) (X:=Er) (fun x=>x.val) (fun x=>x.pl) (fun x=>x.ok):=by
 refine jO Tryz.func19 Tryz.ntmps19 fun r hS c => ?_
 unfold Sh.B6 at hS
 refine cI (kF fun iS=>ZX ?_)
 refine Zq (ZX ?_)
 refine jU hS rfl fun o8 hS=>ZX ?_
 refine Zc hS (fun h8 hS => ?_) (fun h8 hS => ?_)
 ·
  refine ZX ?_
  exact HB hS (I2 cX (Er.no 5)).out fun CI hS=>ZE hS
 refine Zk ?_
 refine Zq (Zq ?_)
 refine hU [(0,true),(1,true),(2,true),(3,true),(4,true),(5,true),(8,true),(6,false),(7,true)] ?_
 refine ZX ?_
 obtain ⟨AP,aZJ,hS⟩:=dU hS
 refine Zw rfl (eT ((aHO cX).out aZJ) rfl (fun _ _=>rfl)) ?_
 refine ZX ?_
 obtain ⟨aC8,aZP,hS⟩:=dU hS
 refine Zw rfl (eT ((aEF cX).out aZP) rfl (fun _ _=>rfl)) ?_
 refine ZX ?_
 obtain ⟨RW,aHW,hS⟩:=dU hS
 refine Zw rfl (eT ((aHN cX).out aHW) rfl (fun _ _=>rfl)) ?_
 refine ZX ?_
 refine VD.one rfl (tE hS fun bBH hS=>eY ?_)
 refine ZX ?_
 refine VC.bD [1,20,18,19] (Zb ?_)
 refine VC.iJ [1,18,19] (fun (RN:Int)=>RN) (fun RN ρ=>(20,i64 RN)::ρ) 0 [20,1,18,19] hS ?_
 rintro RN m1 y1 hS hK1
 refine ZX ?_
 refine Zq (Zc hS (fun h21 hS => ?_) (fun h21 hS => ?_))
 ·
  refine Zk ?_
  refine Zq (Zb (cI (BY hS rfl fun aDl a86 hS=>ZX ?_)))
  refine qD hS (fun h25 hS => ?_) (fun h25 hS => ?_)
  ·
   refine ZX ?_
   exact HB hS (I2 cX (Er.no aDl)).out fun a7H hS=>ZE hS
  exact ZE hS
 replace hS:=lQ hS hK1
 refine Zx ?_
 refine ZX ?_
 cases hS
 exact VC.ret (Z1 .nil)
instance aYW (aA:bI) :
 jG Tryz.prog 5 [str aA] (Sh.zW aA) Gl (X:=l8×Er) (fun x => .tuple #[.agg (bB.enc x.1).toArray,x.2.val]) (fun x=>(x.1.pl,x.2.pl)) (fun x=>(x.1.m.and x.2.ok)):=by
 refine jO Tryz.func5 Tryz.ntmps5 fun r hS c => ?_
 unfold Sh.zW at hS
 refine cI (dG fun iB=>ZX ?_)
 refine jU hS rfl fun IQ hS=>ZO ?_
 refine Zl ?_
 refine VC.bD [2,4,5,6] (ZX ?_)
 refine fN hS rfl fun ⟨r8,a8s⟩ hS => ?_
 try dsimp only
 refine ZX ?_
 refine dG fun aN3=>ZO ?_
 refine Zl ?_
 refine VC.M3 [2,7] (fun (SA:Sv bJ)=>SA.l) (fun SA ρ=>ρ) (fun (SA:Sv bJ)=>SA.ok) aN3 (fun (SA:Sv bJ)=>[str r8.verb,str r8.name,i64 r8.n,str r8.text,.bool r8.force,SA.val]) hS ?_ ?_
 ·
  intro k6 hS
  refine Zb (ZX ?_)
  refine jU hS rfl fun aFf hS=>ZX ?_
  refine VC.bD [2,5,6,7,8,23] (Zc hS (fun h23 hS => ?_) (fun h23 hS => ?_))
  ·
   refine cI ?_
   refine Zu (cA (vs:=[]) (cs := #[str [],str [],i64 0,str [],.bool false,.slice none 0 0]) rfl (by kernel_rfl)) ?_
   refine ZX ?_
   refine HB hS (I2 r8 (Er.no 5)).out fun UE hS=>ZX ?_
   cases hS
   exact VC.ret (Z4 (⟨[],[],0,[],false,⟨none,0,[]⟩⟩,UE) rfl)
  refine VC.cJ [2,5,7] (fun (aCU:Bool)=>aCU) (fun aCU ρ=>(32,.bool aCU)::ρ) hS (fun _ hS=>ZE hS) ?_
  rintro aCU hS
  refine iG hS (fun h32 hS => ?_) (fun h32 hS => ?_)
  ·
   refine cI ?_
   refine Zu (cA (vs:=[]) (cs := #[str [],str [],i64 0,str [],.bool false,.slice none 0 0]) rfl (by kernel_rfl)) ?_
   refine ZX ?_
   refine HB hS (I2 r8 (Er.no 2)).out fun aGj hS=>ZX ?_
   cases hS
   exact VC.ret (Z4 (⟨[],[],0,[],false,⟨none,0,[]⟩⟩,aGj) rfl)
  refine ZX ?_
  refine Zc hS (fun h47 hS => ?_) (fun h47 hS => ?_)
  ·
   refine ZX ?_
   refine fN hS rfl fun ⟨a7Y,a7Z⟩ hS => ?_
   try dsimp only
   refine ZO ?_
   refine Zl ?_
   refine VC.bD [2,7,9,10] (Zq (ZX ?_))
   refine qD hS (fun h57 hS => ?_) (fun h57 hS => ?_)
   ·
    refine cI ?_
    refine Zu (cA (vs:=[]) (cs := #[str [],str [],i64 0,str [],.bool false,.slice none 0 0]) rfl (by kernel_rfl)) ?_
    refine ZX ?_
    refine fN hS rfl fun aBm hS=>ZX ?_
    cases hS
    exact VC.ret (Z4 (⟨[],[],0,[],false,⟨none,0,[]⟩⟩,aBm) rfl)
   exact ZE hS
  exact ZE hS
 rintro SA hS
 refine Zq (ZX ?_)
 refine HB hS (aFz (⟨r8.verb,r8.name,r8.n,r8.text,r8.force,SA⟩:l8)).out fun aRt hS=>ZX ?_
 refine qD hS (fun h67 hS => ?_) (fun h67 hS => ?_)
 ·
  refine cI ?_
  refine Zu (cA (vs:=[]) (cs := #[str [],str [],i64 0,str [],.bool false,.slice none 0 0]) rfl (by kernel_rfl)) ?_
  refine ZX ?_
  cases hS
  exact VC.ret (Z4 (⟨[],[],0,[],false,⟨none,0,[]⟩⟩,aRt) rfl)
 refine ZX ?_
 cases hS
 exact VC.ret (Z4 (⟨r8.verb,r8.name,r8.n,r8.text,r8.force,SA⟩,.nil) rfl)
instance:UnD Tryz.prog 292 (.slice 33):=⟨Tryz.underlying292⟩
instance aSg (dY:Sv (Sv aC)) :
 uL Tryz.prog 164 [dY.val] (Sh.uX (dY.l.map Sv.l)) dY.ok (Ow.emp) (X:=Sv bI) (fun x=>x.val) (fun x=>x.l) (fun x=>Mo.tt) (fun x=>Sv.own x 9):=by
 refine uV Tryz.func164 Tryz.ntmps164 fun r hS c => ?_
 unfold Sh.uX at hS
 refine ZX ?_
 refine VL.a5n (k:=9) (e:=4) (by decide) fun aCl => ?_
 refine ZX ?_
 refine Zq (ZX ?_)
 refine Zu (wW Sv.l (s:=dY) Tryz.underlying292 rfl) ?_
 refine ZX ?_
 refine Zb ?_
 refine VC.iter (S:=Int×List bI) (fun sg=>(sg.1,sg.2)) (fun sg=>[(3,.map (some aCl)),(9,dY.val),(10,i64 ((dY.l.map Sv.l).length:Int)),(11,i64 sg.1)]) (fun sg=>Mo.tt) (fun sg=>Ow.star (MpK Tryz.prog 9 4 aCl sg.2) (Ow.emp)) (0,([]:List bI)) [3,9,10,11] hS rfl ?_
 rintro ⟨DW,aBQ⟩ m1 y1 hS hK1
 refine ZX ?_
 refine Zq (Zc hS (fun h12 hS => ?_) (fun h12 hS => ?_))
 ·
  refine Zk ?_
  refine Zq (Zb (cI ?_))
  obtain ⟨aCh,aON,aHa,hS⟩:=DT hS
  refine VL.deep aCh.ok aHa (fun _ q=>q) ?_
  refine Zu (jY (s:=dY) Tryz.underlying292 aEa rfl rfl aON (bQ aON aHa)) (Zu (JZ  (s:=dY) z8 rfl aHa rfl) ?_)
  refine ZX ?_
  refine Zb ?_
  refine VC.iter (S:=Int×List bI) (fun sg=>(sg.1,sg.2)) (fun sg=>[(3,.map (some aCl)),(9,dY.val),(10,i64 ((dY.l.map Sv.l).length:Int)),(11,i64 DW),(15,aCh.val),(16,i64 (aCh.l.length:Int)),(17,i64 sg.1)]) (fun sg=>Mo.tt) (fun sg=>Ow.star (MpK Tryz.prog 9 4 aCl sg.2) (Ow.emp)) (0,aBQ) [3,9,10,11,15,16,17] hS rfl ?_
  rintro ⟨FG,aDs⟩ m2 y2 hS hK2
  refine ZX ?_
  refine Zq (Zc hS (fun h18 hS => ?_) (fun h18 hS => ?_))
  ·
   refine Zk ?_
   refine Zq (Zb (cI (BY hS rfl fun aIm a9w hS=>ZX ?_)))
   refine dG fun a43 => ?_
   obtain ⟨bs3,hS⟩:=bX hS
   refine ZX ?_
   refine Zr (ZX ?_)
   refine VL.a0i (b:=aCl) (l:=aDs) (s:=aIm.path) Tryz.underlying9 Tryz.underlying4 Tryz.underlying293 Fo.out rfl rfl rfl bs3 ?_
   obtain ⟨aJB,aQQ,hS⟩:=p9 hS
   rw [aQQ]
   exact ZE hS
  exact ZE hS
 replace hS:=lQ hS hK1
 refine Zx ?_
 refine ZX ?_
 refine VL.nW (Ct.mapKeys (b:=aCl) (vU Tryz.func245 rfl (by kernel_rfl)) Tryz.aGO) rfl (by decide) ?_
 intro B27_10 _
 try dsimp only
 obtain ⟨b28,hS⟩:=bX hS
 refine VL.nW (Ct.aLR (it:=290) (T:=293) (b:=aCl) (B:=B27_10) (e:=4) (l:=aBQ) (vU Tryz.func244 rfl (by kernel_rfl)) Tryz.underlying9 (fun D0 nn W h1 h2 h3 h4 h5=>Tryz.sortedKeys_244_245 B27_10 aCl nn D0 _ W h1 h2 h3 h4 h5) b28) rfl (by decide) ?_
 intro bAQ aVH
 try dsimp only
 replace hS:=dR aVH hS
 exact ZE hS
instance aMf (gT:Sv aC) (yU:Sv IndexEntry) :
 uL Tryz.prog 91 [gT.val,yU.val] (Sh.iI gT.l yU.l) (gT.ok.and yU.ok) (Ow.emp) (X:=Sv bI) (fun x=>x.val) (fun x=>x.l) (fun x=>Mo.tt) (fun x=>Sv.own x 9):=by
 refine uV Tryz.func91 Tryz.ntmps91 fun r hS c => ?_
 unfold Sh.iI at hS
 refine ZX ?_
 refine Zq (ZX ?_)
 refine Zb ?_
 refine VC.lU (⟨none,0,[]⟩:Sv aC) 89 ⟨rfl,rfl⟩ ?_
 refine VC.iter (S:=Sv aC×Int) (fun sg=>(sg.1.l,sg.2)) (fun sg=>[(0,gT.val),(5,sg.1.val),(8,yU.val),(9,i64 (yU.l.length:Int)),(10,i64 sg.2)]) (fun sg=>Mo.tt) (fun sg=>Ow.star (Sv.own sg.1 89) (Ow.emp)) (⟨none,0,[]⟩,0) [0,5,8,9,10] hS rfl ?_
 rintro ⟨aCp,II⟩ m1 y1 hS hK1
 refine ZX ?_
 refine Zq (Zc hS (fun h11 hS => ?_) (fun h11 hS => ?_))
 ·
  refine Zk ?_
  refine Zq (Zb (cI ?_))
  obtain ⟨DZ,aAJ,Z9,hS⟩:=gQ hS
  refine Zu (jY (s:=yU) Tryz.underlying34 kS rfl rfl aAJ (bQ aAJ Z9)) (Zu (sR  (s:=yU) AU rfl rfl Z9) ?_)
  refine dG fun aN3=>ZX ?_
  refine Zr (ZX ?_)
  refine Zu (cA (vs:=[(0,str DZ.path)]) (cs := #[str DZ.path,i64 0,str []]) rfl (by kernel_rfl)) ?_
  exact ZE hS
 replace hS:=lQ hS hK1
 refine Zx ?_
 refine ZX ?_
 refine VL.shut aCp 89 (fun _ _ _ _=>trivial) ?_
 refine VL.lit (α:=Sv aC) (xs:=[.tmp 21,.tmp 22]) (vs:=[gT.val,aCp.val]) [gT,aCp] Tryz.underlying292 VO (by decide) rfl rfl rfl rfl (by decide) (fun h m=>List.forall_mem_cons.2 ⟨dM.out (X:=gT.ok) h m,List.forall_mem_cons.2 ⟨dM.out (X:=aCp.ok) h m,fun _ h=>by cases h⟩⟩) (by decide) (fun bBM a0L => ?_) (by decide)
 replace hS:=dR (congrArg (List.map Sv.l) a0L) hS
 exact ZE hS
instance aBr (yN:IndexEntry) (hO:Nat) (a_1:bI) :
 gS Tryz.prog 166 [.agg #[str yN.path,i64 yN.fA,i64 yN.mode,str yN.data,i64 yN.time,i64 yN.size],ptr hO 0] (Sh.BL yN a_1) (Cells hO 0 [str a_1]) (fun r => .bool r):=by
 refine gU Tryz.func166 Tryz.ntmps166 fun r hS c => ?_
 unfold Sh.BL at hS
 refine cI (kF fun iB=>ZX ?_)
 refine Zu (ED oV rfl rfl) ?_
 exact ZE hS
instance y8 (aA:Sv IndexEntry) (dQ:Nat) (dI:bI) :
 gS Tryz.prog 246 [aA.val,.func (.func 166) #[] #[ptr dQ 0]] (Sh.gB aA.l dI) (aA.ok.and (Cells dQ 0 [str dI])) (fun r=>i64 r):=by
 refine gU Tryz.func246 Tryz.ntmps246 fun r hS c => ?_
 unfold Sh.gB at hS
 refine ZX ?_
 refine Zq (ZX ?_)
 refine Zb ?_
 refine VC.iJ [0,1,7] (fun (dD:Int)=>dD) (fun dD ρ=>(8,i64 dD)::ρ) 0 [8,0,1,7] hS ?_
 rintro dD m1 y1 hS hK1
 refine ZX ?_
 refine Zq (Zc hS (fun h9 hS => ?_) (fun h9 hS => ?_))
 ·
  refine Zk ?_
  refine Zq (Zb (ZX ?_))
  obtain ⟨eW,qS,oB,hS⟩:=gQ hS
  refine Zu (jY (s:=aA) Tryz.underlying34 kS rfl rfl qS (bQ qS oB)) (Zu (sR  (s:=aA) AU rfl rfl oB) ?_)
  obtain ⟨nJ,tF,hS⟩:=dU hS
  refine Zu (sQ (vs:=[.agg #[str eW.path,i64 eW.fA,i64 eW.mode,str eW.data,i64 eW.time,i64 eW.size]]) (caps:=[ptr dQ 0]) ((aBr eW dQ dI).out tF) rfl rfl (fun _ _=>rfl)) ?_
  exact ZE hS
 exact ZE hS
instance xS (aA:Sv IndexEntry) (dQ:Nat) (dI:bI) :
 gS Tryz.prog 165 [aA.val,.func (.func 166) #[] #[ptr dQ 0]] (Sh.fQ aA.l dI) (aA.ok.and (Cells dQ 0 [str dI])) (fun r => .bool r):=by
 refine gU Tryz.func165 Tryz.ntmps165 fun r hS c => ?_
 unfold Sh.fQ at hS
 refine ZX ?_
 obtain ⟨kK,E4,hS⟩:=dU hS
 refine Zu (lW ((y8 aA dQ dI).out E4) rfl (fun _ _=>rfl)) ?_
 exact ZE hS
instance aFV (dY:Sv IndexEntry) (p_1:bI) :
 gS Tryz.prog 92 [dY.val,str p_1] (Sh.zJ dY.l p_1) dY.ok (fun r => .bool r):=by
 refine gU Tryz.func92 Tryz.ntmps92 fun r hS c => ?_
 unfold Sh.zJ at hS
 refine cI (kF fun rX=>ZX ?_)
 obtain ⟨o8,aMA,hS⟩:=dU hS
 refine Zu (lW ((xS dY rX p_1).out aMA) rfl (fun _ _=>rfl)) ?_
 exact ZE hS
instance SU (aA:Sv IndexEntry) :
 uL Tryz.prog 172 [aA.val] (Sh.eC aA.l) aA.ok (Ow.emp) (X:=Sv IndexEntry) (fun x=>x.val) (fun x=>x.l) (fun x=>Mo.tt) (fun x=>Sv.own x 121):=by
 refine uV Tryz.func172 Tryz.ntmps172 fun r hS c => ?_
 unfold Sh.eC at hS
 refine ZX ?_
 refine Zq (ZX ?_)
 refine Zu (J1 (s:=aA) Tryz.underlying34 rfl) ?_
 refine Zl ?_
 refine VC.slnil (s:=aA) rfl (fun h4 => ?_) ?_
 ·
  have hS:(some [])=some r:=by
    simp [lt,gd,h4] at hS ⊢
    try exact hS
  refine cI (Za ?_)
  refine Zl ?_
  refine VC.lU (⟨none,0,[]⟩:Sv IndexEntry) 121 ⟨rfl,rfl⟩ ?_
  cases hS
  exact VC.ret (Z1 ⟨none,0,[]⟩)
 refine ZX ?_
 refine VL.aCq (α:=IndexEntry) Tryz.underlying34 aUp (by decide) (fun KT uY AA => ?_)
 refine VL.lU KT 121 ⟨AA,uY⟩ ?_
 replace hS:=dR uY hS
 exact ZE hS
instance PC (jE:IndexEntry) (hO:Nat) (a_1:bI) :
 gS Tryz.prog 173 [.agg #[str jE.path,i64 jE.fA,i64 jE.mode,str jE.data,i64 jE.time,i64 jE.size],ptr hO 0] (Sh.qF jE a_1) (Cells hO 0 [str a_1]) (fun r => .bool r):=by
 refine gU Tryz.func173 Tryz.ntmps173 fun r hS c => ?_
 unfold Sh.qF at hS
 refine cI (kF fun iB=>ZX ?_)
 refine Zu (ED oV rfl rfl) ?_
 exact ZE hS
instance xU (aA:Sv IndexEntry) (dQ:Nat) (dI:bI) :
 gS Tryz.prog 246 [aA.val,.func (.func 173) #[] #[ptr dQ 0]] (Sh.jI aA.l dI) (aA.ok.and (Cells dQ 0 [str dI])) (fun r=>i64 r):=by
 refine gU Tryz.func246 Tryz.ntmps246 fun r hS c => ?_
 unfold Sh.jI at hS
 refine ZX ?_
 refine Zq (ZX ?_)
 refine Zb ?_
 refine VC.iJ [0,1,7] (fun (dD:Int)=>dD) (fun dD ρ=>(8,i64 dD)::ρ) 0 [8,0,1,7] hS ?_
 rintro dD m1 y1 hS hK1
 refine ZX ?_
 refine Zq (Zc hS (fun h9 hS => ?_) (fun h9 hS => ?_))
 ·
  refine Zk ?_
  refine Zq (Zb (ZX ?_))
  obtain ⟨eW,qS,oB,hS⟩:=gQ hS
  refine Zu (jY (s:=aA) Tryz.underlying34 kS rfl rfl qS (bQ qS oB)) (Zu (sR  (s:=aA) AU rfl rfl oB) ?_)
  obtain ⟨nJ,tF,hS⟩:=dU hS
  refine Zu (sQ (vs:=[.agg #[str eW.path,i64 eW.fA,i64 eW.mode,str eW.data,i64 eW.time,i64 eW.size]]) (caps:=[ptr dQ 0]) ((PC eW dQ dI).out tF) rfl rfl (fun _ _=>rfl)) ?_
  exact ZE hS
 exact ZE hS
instance OZ (aA:Sv IndexEntry) (dH:Nat) (cY:bI) :
 uL Tryz.prog 171 [aA.val,.func (.func 173) #[] #[ptr dH 0]] (Sh.iF aA.l cY) Mo.tt (Ow.star (Sv.own aA 121) (bM dH [str cY] 9)) (X:=Sv IndexEntry) (fun x=>x.val) (fun x=>x.l) (fun x=>Mo.tt) (fun x=>Ow.star (Sv.own x 121) (bM dH [str cY] 9)):=by
 refine uV Tryz.func171 Tryz.ntmps171 fun r hS c => ?_
 unfold Sh.iF at hS
 refine ZX ?_
 obtain ⟨dB,GG,hS⟩:=dU hS
 refine Zu (lW ((xU aA dH cY).out GG) rfl (fun _ _=>rfl)) ?_
 refine ZX ?_
 refine Zq (ZX ?_)
 refine Zc hS (fun _ hS=>ZE hS) fun h12 hS => ?_
 obtain ⟨b15,hS⟩:=bX hS
 refine Zk ?_
 refine Zq (ZX ?_)
 refine VC.bD [0,1,5,6] (Zb ?_)
 refine VC.iter (S:=Sv IndexEntry×Int×Int) (fun sg=>(sg.1.l,sg.2.1,sg.2.2)) (fun sg=>[(0,sg.1.val),(1,.func (.func 173) #[] #[ptr dH 0]),(5,i64 sg.2.1),(6,i64 sg.2.2)]) (fun sg=>Mo.tt) (fun sg=>Ow.star (bM dH [str cY] 9) (Ow.star (Sv.own sg.1 121) (Ow.emp))) (aA,dB,(dB+1)) [0,1,5,6] hS rfl ?_
 rintro ⟨fM,jW,pP⟩ m1 y1 hS hK1
 refine Zq (ZX ?_)
 refine Zc hS (fun h19 hS => ?_) (fun h19 hS => ?_)
 ·
  refine Zk ?_
  refine VC.wT (S:=Sv IndexEntry×Int) (fun sg=>(sg.1.l,sg.2)) (fun sg=>[(0,sg.1.val),(1,.func (.func 173) #[] #[ptr dH 0]),(5,i64 sg.2),(6,i64 pP)]) (fun sg=>Mo.tt) (fun sg=>Ow.star (bM dH [str cY] 9) (Ow.star (Sv.own sg.1 121) (Ow.emp))) hS ?_ ?_
  ·
   intro k7 hS
   refine Zb (ZX ?_)
   obtain ⟨cT,xI,wR,hS⟩:=gQ hS
   refine Zu (lC (s:=fM) Tryz.underlying34 kS rfl rfl xI (bQ xI wR)) (Zu (V0 (s:=fM) AU rfl rfl wR) ?_)
   refine dG fun R9=>ZO ?_
   refine Zl ?_
   refine VC.bD [0,1,5,6,7] (ZX ?_)
   obtain ⟨yR,GH,hS⟩:=dU hS
   refine Zu (sQ (vs:=[.agg #[str cT.path,i64 cT.fA,i64 cT.mode,str cT.data,i64 cT.time,i64 cT.size]]) (caps:=[ptr dH 0]) ((PC cT dH cY).out GH) rfl rfl (fun _ _=>rfl)) ?_
   refine ZX ?_
   refine iG hS (fun h29 hS => ?_) (fun h29 hS => ?_)
   ·
    refine ZX ?_
    obtain ⟨LB,xJ,xH,hS⟩:=gQ hS
    refine Zu (lC (s:=fM) Tryz.underlying34 kS rfl rfl xJ (bQ xJ xH)) ?_
    refine VL.nD (s:=fM) (T:=121) (j:=0) (vc:=[str cT.path,i64 cT.fA,i64 cT.mode,str cT.data,i64 cT.time,i64 cT.size]) (⟨cT.path,cT.fA,cT.mode,cT.data,cT.time,cT.size⟩:IndexEntry) (by decide) rfl rfl xH rfl kS rfl rfl (Nat.le_of_ble_eq_true rfl) rfl (fun w12 hw12 haw12 hcw12 hvw12 hbw12 how12 => ?_)
    rw [← hvw12]
    replace hS:=dR hw12 hS
    exact ZE hS
   exact ZE hS
  rintro ⟨J2,JQ⟩ hS
  exact ZE hS
 replace hS:=lQ hS hK1
 refine Zx ?_
 obtain ⟨b38,hS⟩:=bX hS
 refine ZX ?_
 refine VL.fits (s:=fM) (e:=121) Fo.out fun BT => ?_
 refine Zu (EM (s:=fM) Tryz.underlying34 kS rfl rfl b38.1 b38.2 BT) ?_
 refine VL.aCm (s:=fM) (i:=jW.toNat) (.agg #[str [],i64 0,i64 0,str [],i64 0,i64 0]) Tryz.underlying34 aNv rfl rfl rfl (by have:=b38; dsimp only at this ⊢; omega) Fo.out fun K4 GM G1 => ?_
 replace hS:=dR GM hS
 refine Zl ?_
 refine VC.bD [0,5] (ZX ?_)
 refine Zu (VZ (s:=fM) (q:=K4) Tryz.underlying34 kS rfl rfl b38.1 b38.2 BT G1) ?_
 exact ZE hS
instance aVX (dY:Sv IndexEntry) (p_1:bI) :
 jG Tryz.prog 97 [dY.val,str p_1] (Sh.vJ dY.l p_1) dY.ok (X:=Sv IndexEntry) (fun x=>x.val) (fun x=>x.l) (fun x=>x.ok):=by
 refine jO Tryz.func97 Tryz.ntmps97 fun r hS c => ?_
 unfold Sh.vJ at hS
 refine cI (kF fun rX=>ZX ?_)
 refine fJ hS rfl fun aO4 hS=>ZX ?_
 refine fJ hS rfl fun GR hS => ?_
 refine VL.shut GR 121 (fun _ _ _ _=>trivial) ?_
 exact ZE hS
instance aSh (jE:IndexEntry) (e_1:IndexEntry) :
 gS Tryz.prog 248 [.agg #[str jE.path,i64 jE.fA,i64 jE.mode,str jE.data,i64 jE.time,i64 jE.size],.agg #[str e_1.path,i64 e_1.fA,i64 e_1.mode,str e_1.data,i64 e_1.time,i64 e_1.size]] (Sh.DC jE e_1) Mo.tt (fun r => .bool r):=by
 refine gU Tryz.func248 Tryz.ntmps248 fun r hS c => ?_
 unfold Sh.DC at hS
 refine cI (kF fun iB=>kF fun oU=>ZX ?_)
 refine Zq (Zb (ZX ?_))
 refine jU hS rfl fun kH hS=>ZX ?_
 refine VC.bD [2,3,5] ?_
 refine iG hS (fun _ hS=>ZE hS) fun h5 hS=>ZX ?_
 refine qD hS (fun _ hS=>ZE hS) fun h11 hS=>Zk ?_
 refine Zq (ZX ?_)
 refine VC.bD [2,3,18] (Zb ?_)
 exact VC.cJ [2,3] (fun (_:Unit)=>()) (fun _ ρ=>ρ) hS (fun _ hS=>ZE hS) fun _ hS=>ZE hS
instance SB (jE:IndexEntry) (hO:Nat) (a_1:IndexEntry) :
 gS Tryz.prog 247 [.agg #[str jE.path,i64 jE.fA,i64 jE.mode,str jE.data,i64 jE.time,i64 jE.size],ptr hO 0] (Sh.tH jE a_1) (Cells hO 0 [str a_1.path,i64 a_1.fA,i64 a_1.mode,str a_1.data,i64 a_1.time,i64 a_1.size]) (fun r => .bool r):=by
 refine gU Tryz.func247 Tryz.ntmps247 fun r hS c => ?_
 unfold Sh.tH at hS
 refine cI (kF fun iB=>ZX ?_)
 refine Zu (a5y AU rfl rfl) ?_
 exact ZE hS
instance xV (aA:Sv IndexEntry) (dQ:Nat) (dI:IndexEntry) :
 gS Tryz.prog 246 [aA.val,.func (.func 247) #[] #[ptr dQ 0]] (Sh.jJ aA.l dI) (aA.ok.and (Cells dQ 0 [str dI.path,i64 dI.fA,i64 dI.mode,str dI.data,i64 dI.time,i64 dI.size])) (fun r=>i64 r):=by
 refine gU Tryz.func246 Tryz.ntmps246 fun r hS c => ?_
 unfold Sh.jJ at hS
 refine ZX ?_
 refine Zq (ZX ?_)
 refine Zb ?_
 refine VC.iJ [0,1,7] (fun (dD:Int)=>dD) (fun dD ρ=>(8,i64 dD)::ρ) 0 [8,0,1,7] hS ?_
 rintro dD m1 y1 hS hK1
 refine ZX ?_
 refine Zq (Zc hS (fun h9 hS => ?_) (fun h9 hS => ?_))
 ·
  refine Zk ?_
  refine Zq (Zb (ZX ?_))
  obtain ⟨eW,qS,oB,hS⟩:=gQ hS
  refine Zu (jY (s:=aA) Tryz.underlying34 kS rfl rfl qS (bQ qS oB)) (Zu (sR  (s:=aA) AU rfl rfl oB) ?_)
  obtain ⟨nJ,tF,hS⟩:=dU hS
  refine Zu (sQ (vs:=[.agg #[str eW.path,i64 eW.fA,i64 eW.mode,str eW.data,i64 eW.time,i64 eW.size]]) (caps:=[ptr dQ 0]) ((SB eW dQ dI).out tF) rfl rfl (fun _ _=>rfl)) ?_
  exact ZE hS
 exact ZE hS
instance M4 (aA:Sv IndexEntry) (dH:Nat) (cY:IndexEntry) :
 uL Tryz.prog 171 [aA.val,.func (.func 247) #[] #[ptr dH 0]] (Sh.gR aA.l cY) Mo.tt (Ow.star (Sv.own aA 121) (bM dH [str cY.path,i64 cY.fA,i64 cY.mode,str cY.data,i64 cY.time,i64 cY.size] 121)) (X:=Sv IndexEntry) (fun x=>x.val) (fun x=>x.l) (fun x=>Mo.tt) (fun x=>Ow.star (Sv.own x 121) (bM dH [str cY.path,i64 cY.fA,i64 cY.mode,str cY.data,i64 cY.time,i64 cY.size] 121)):=by
 refine uV Tryz.func171 Tryz.ntmps171 fun r hS c => ?_
 unfold Sh.gR at hS
 refine ZX ?_
 obtain ⟨dB,GG,hS⟩:=dU hS
 refine Zu (lW ((xV aA dH cY).out GG) rfl (fun _ _=>rfl)) ?_
 refine ZX ?_
 refine Zq (ZX ?_)
 refine Zc hS (fun _ hS=>ZE hS) fun h12 hS => ?_
 obtain ⟨b15,hS⟩:=bX hS
 refine Zk ?_
 refine Zq (ZX ?_)
 refine VC.bD [0,1,5,6] (Zb ?_)
 refine VC.iter (S:=Sv IndexEntry×Int×Int) (fun sg=>(sg.1.l,sg.2.1,sg.2.2)) (fun sg=>[(0,sg.1.val),(1,.func (.func 247) #[] #[ptr dH 0]),(5,i64 sg.2.1),(6,i64 sg.2.2)]) (fun sg=>Mo.tt) (fun sg=>Ow.star (bM dH [str cY.path,i64 cY.fA,i64 cY.mode,str cY.data,i64 cY.time,i64 cY.size] 121) (Ow.star (Sv.own sg.1 121) (Ow.emp))) (aA,dB,(dB+1)) [0,1,5,6] hS rfl ?_
 rintro ⟨fM,jW,pP⟩ m1 y1 hS hK1
 refine Zq (ZX ?_)
 refine Zc hS (fun h19 hS => ?_) (fun h19 hS => ?_)
 ·
  refine Zk ?_
  refine VC.wT (S:=Sv IndexEntry×Int) (fun sg=>(sg.1.l,sg.2)) (fun sg=>[(0,sg.1.val),(1,.func (.func 247) #[] #[ptr dH 0]),(5,i64 sg.2),(6,i64 pP)]) (fun sg=>Mo.tt) (fun sg=>Ow.star (bM dH [str cY.path,i64 cY.fA,i64 cY.mode,str cY.data,i64 cY.time,i64 cY.size] 121) (Ow.star (Sv.own sg.1 121) (Ow.emp))) hS ?_ ?_
  ·
   intro k7 hS
   refine Zb (ZX ?_)
   obtain ⟨cT,xI,wR,hS⟩:=gQ hS
   refine Zu (lC (s:=fM) Tryz.underlying34 kS rfl rfl xI (bQ xI wR)) (Zu (V0 (s:=fM) AU rfl rfl wR) ?_)
   refine dG fun R9=>ZO ?_
   refine Zl ?_
   refine VC.bD [0,1,5,6,7] (ZX ?_)
   obtain ⟨yR,GH,hS⟩:=dU hS
   refine Zu (sQ (vs:=[.agg #[str cT.path,i64 cT.fA,i64 cT.mode,str cT.data,i64 cT.time,i64 cT.size]]) (caps:=[ptr dH 0]) ((SB cT dH cY).out GH) rfl rfl (fun _ _=>rfl)) ?_
   refine ZX ?_
   refine iG hS (fun h29 hS => ?_) (fun h29 hS => ?_)
   ·
    refine ZX ?_
    obtain ⟨LB,xJ,xH,hS⟩:=gQ hS
    refine Zu (lC (s:=fM) Tryz.underlying34 kS rfl rfl xJ (bQ xJ xH)) ?_
    refine VL.nD (s:=fM) (T:=121) (j:=0) (vc:=[str cT.path,i64 cT.fA,i64 cT.mode,str cT.data,i64 cT.time,i64 cT.size]) (⟨cT.path,cT.fA,cT.mode,cT.data,cT.time,cT.size⟩:IndexEntry) (by decide) rfl rfl xH rfl kS rfl rfl (Nat.le_of_ble_eq_true rfl) rfl (fun w12 hw12 haw12 hcw12 hvw12 hbw12 how12 => ?_)
    rw [← hvw12]
    replace hS:=dR hw12 hS
    exact ZE hS
   exact ZE hS
  rintro ⟨J2,JQ⟩ hS
  exact ZE hS
 replace hS:=lQ hS hK1
 refine Zx ?_
 obtain ⟨b38,hS⟩:=bX hS
 refine ZX ?_
 refine VL.fits (s:=fM) (e:=121) Fo.out fun BT => ?_
 refine Zu (EM (s:=fM) Tryz.underlying34 kS rfl rfl b38.1 b38.2 BT) ?_
 refine VL.aCm (s:=fM) (i:=jW.toNat) (.agg #[str [],i64 0,i64 0,str [],i64 0,i64 0]) Tryz.underlying34 aNv rfl rfl rfl (by have:=b38; dsimp only at this ⊢; omega) Fo.out fun K4 GM G1 => ?_
 replace hS:=dR GM hS
 refine Zl ?_
 refine VC.bD [0,5] (ZX ?_)
 refine Zu (VZ (s:=fM) (q:=K4) Tryz.underlying34 kS rfl rfl b38.1 b38.2 BT G1) ?_
 exact ZE hS
instance aN9 (jE:Int) :
 gS Tryz.prog 323 [i64 jE] (Sh.cmp_isNaN_int jE) Mo.tt (fun r => .bool r):=by
 refine gU Tryz.func323 Tryz.ntmps323 fun r hS c => ?_
 unfold Sh.cmp_isNaN_int at hS
 exact ZE hS
instance WR (jE:Int) (IX:Int) :
 gS Tryz.prog 292 [i64 jE,i64 IX] (Sh.vM jE IX) Mo.tt (fun r=>i64 r):=by
 refine gU Tryz.func292 Tryz.ntmps292 fun r hS c => ?_
 unfold Sh.vM at hS
 exact ZE hS
instance aEG (V5:Sv Int) :
 gS Tryz.prog 291 [V5.val] (Sh.FQ V5.l) V5.ok (fun r=>i64 r):=by
 refine gU Tryz.func291 Tryz.ntmps291 fun r hS c => ?_
 unfold Sh.FQ at hS
 refine ZX ?_
 refine Zq (ZX ?_)
 refine Zb ?_
 refine VC.iJ [3,6,7] (fun (dD:Int)=>dD) (fun dD ρ=>(8,i64 dD)::ρ) 0 [8,3,6,7] hS ?_
 rintro dD m1 y1 hS hK1
 exact ZE hS
instance aAE (cE:IndexEntry) (b_1:IndexEntry) :
 gS Tryz.prog 249 [.agg #[str cE.path,i64 cE.fA,i64 cE.mode,str cE.data,i64 cE.time,i64 cE.size],.agg #[str b_1.path,i64 b_1.fA,i64 b_1.mode,str b_1.data,i64 b_1.time,i64 b_1.size]] (Sh.yS cE b_1) Mo.tt (fun r=>i64 r):=by
 refine gU Tryz.func249 Tryz.ntmps249 fun r hS c => ?_
 unfold Sh.yS at hS
 refine cI (kF fun iB=>kF fun oU=>ZX ?_)
 refine Zq ?_
 refine hU [(0,true),(1,true),(2,true),(3,true),(4,true),(5,true),(6,true),(7,true),(8,true),(9,true),(10,false),(11,true),(12,true)] ?_
 refine ZX ?_
 obtain ⟨P7,aMB,hS⟩:=dU hS
 refine Zw rfl (eT ((PG cE.path b_1.path).out aMB) rfl (fun _ _=>rfl)) ?_
 refine ZX ?_
 obtain ⟨aC5,aZM,hS⟩:=dU hS
 refine Zw rfl (eT ((WR cE.fA b_1.fA).out aZM) rfl (fun _ _=>rfl)) ?_
 refine VD.one rfl (tE hS fun a6I hS=>eY ?_)
 obtain ⟨aIJ,aZR,hS⟩:=dU hS
 refine Zw rfl (eT ((aEG a6I).out aZR) rfl (fun _ _=>rfl)) ?_
 exact ZE hS
theorem aGJ (s v:Sv IndexEntry) (i:Int) (hi:0≤i∧i≤(s.l.length:Int)) (hv:v.l≠[]) (hb:s.l.length+v.l.length≤4294967296):Ct Tryz.prog 250 [s.val,i64 i,v.val] Mo.tt (Ow.star (s.own 121) (v.own 121)) (X:=Sv IndexEntry) (fun q=>q.val) (fun q=>q.l=s.l.take i.toNat++v.l++s.l.drop i.toNat) (fun q=>Mo.tt) (fun q=>q.own 121):=by
 refine Zo Tryz.func250 Tryz.ntmps250 fun c => ?_
 have hvp:0 < v.l.length:=List.length_pos_iff.2 hv
 have hK:bB.sz IndexEntry=6:=rfl
 refine ZX ?_
 refine VL.fits (s:=s) (e:=121) Fo.out fun hf => ?_
 refine Zu (EM (s:=s) Tryz.underlying34 kS rfl rfl hi.1 hi.2 hf) ?_
 refine ZX ?_
 refine Zq (ZX ?_)
 refine VC.mY rfl (fun h16=>absurd h16 (by omega)) (fun h16 => ?_)
 refine ZX ?_
 refine Zq (ZX ?_)
 refine VC.mY rfl (fun h22 => ?_) (fun h22 => ?_)
 ·
  refine ZX ?_
  refine VL.shut v 121 (fun _ _ _ _=>trivial) ?_
  refine VL.aNY (s:=s) (r:=v) Tryz.underlying34 Tryz.underlying34 aEV (by decide) rfl Fo.out (ap1 hb) (ap2 hb (by decide)) (by decide) (fun q hq => ?_)
  refine ZX ?_
  have e1:i.toNat=s.l.length:=by omega
  exact VC.ret (GI (.inr rfl) rfl rfl q rfl (by rw [hq,e1,List.take_length,List.drop_length,List.append_nil]) (fun _ _=>trivial) fL.out)
 have hin:i < (s.l.length:Int):=by omega
 have hne:s.l≠[]:=fun h=>by rw [h] at hin; simp at hin; omega
 have hkq:(s.l.length:Int)+(v.l.length:Int) - i=((s.l.length+v.l.length - i.toNat:Nat):Int):=by omega
 have hLn:(s.l.take i.toNat++v.l++s.l.drop i.toNat).length=s.l.length+v.l.length:=by simp only [List.length_append,List.length_take,List.length_drop]; omega
 have hfl:(s.l.take i.toNat++v.l++s.l.drop i.toNat).flatMap bB.enc=(s.l.take i.toNat).flatMap bB.enc++v.l.flatMap bB.enc++(s.l.drop i.toNat).flatMap bB.enc:=by rw [List.flatMap_append,List.flatMap_append]
 have lA:((s.l.take i.toNat).flatMap bB.enc).length=i.toNat*6:=by rw [gI,List.length_take,hK,Nat.min_eq_left (by omega)]
 have lV:(v.l.flatMap bB.enc).length=v.l.length*6:=by rw [gI,hK]
 have lS:((s.l.drop i.toNat).flatMap bB.enc).length=(s.l.length - i.toNat)*6:=by rw [gI,List.length_drop,hK]
 refine Zk ?_
 refine Zq (ZX ?_)
 refine Zu (lN rfl rfl ⟨by omega,by omega⟩) ?_
 refine Zm (Zu (aD2 (a0:=s.a) (L:=s.l.length) (C:=s.c) Tryz.underlying34 rfl) ?_)
 refine ZX ?_
 refine VC.mY rfl (fun h31 => ?_) (fun h31 => ?_)
 ·
  refine VC.shut s 121 (fun _ _ _ _=>trivial) ?_
  refine VC.shut v 121 (fun _ _ _ _=>trivial) ?_
  refine cI ?_
  refine VL.CC (φ:=s.a=some ⟨s.b,s.o,none⟩) (fun h m=>(dM.out (X:=s.ok) h m).2.2.1 hne) fun hsa => ?_
  refine VL.CC (φ:=v.a=some ⟨v.b,v.o,none⟩) (fun h m=>(dM.out (X:=v.ok) h m).2.2.1 hv) fun hva => ?_
  refine ZX ?_
  refine Zu (OB (a0:=s.a) (L:=s.l.length) (C:=s.c) (K:=6) Tryz.underlying34 kS rfl rfl hi.1 (by omega)) ?_
  refine ZX ?_
  refine Zu (lN rfl rfl ⟨by omega,by omega⟩) ?_
  refine Zm ?_
  refine Zu (MI rfl rfl ⟨by omega,by omega⟩) ?_
  refine VL.F4 39 rfl (congrArg (Value.int .i64) hkq) ?_
  refine VL.aHE (s:=s) (L:=i.toNat) (kq:=s.l.length+v.l.length - i.toNat) Tryz.underlying34 Tryz.underlying3 aEV (by decide) rfl hne (by omega) (by omega) (by omega) (by omega) (by decide) (by decide) fun g cs cp hcl hcp hcm hct => ?_
  rw [hK] at hcl hct
  rw [show i.toNat+(s.l.length+v.l.length - i.toNat)=s.l.length+v.l.length by omega] at hcp ⊢
  have hfit:((s.l.take i.toNat).flatMap bB.enc).length+(v.l.flatMap bB.enc).length+((s.l.drop i.toNat).flatMap bB.enc).length≤cs.length:=by
    rw [lA,lV,lS,hcl,← Nat.add_mul,← Nat.add_mul]; exact Nat.mul_le_mul_right _ (by omega)
  have hic:=NG (V:=v.l.flatMap bB.enc) (S:=(s.l.drop i.toNat).flatMap bB.enc) (by rw [lA]; exact hct) hfit
  rw [← hfl,lA,lV,lS] at hic
  refine ZX ?_
  refine Zu (lD (b:=g) (o:=0) (L:=s.l.length+v.l.length) (C:=cp) (K:=6) Tryz.underlying34 kS rfl rfl hi.1 (by omega) hcp (by omega) rfl) ?_
  refine Zm ?_
  refine VL.F4 44 rfl (show v.val = .slice (some ⟨v.b,v.o+0*bB.sz IndexEntry,none⟩) v.l.length v.c by unfold Sv.val; rw [hva,Nat.zero_mul]; rfl) ?_
  refine VL.DU (src:=v.l.flatMap bB.enc) Tryz.underlying34 kS oS.out rfl (by rw [lV]; congr 1; exact (Nat.min_eq_left (by omega)).symm) (JR (r:=v) (by decide) hv) (oI v.l) (by rw [lV,Nat.zero_add,hcl,← Nat.add_mul]; exact Nat.mul_le_mul_right _ (by omega)) (by decide) ?_
  rw [Nat.zero_add,lV]
  refine Zl ?_
  refine Zq ?_
  refine hU [(0,true),(1,true),(2,true),(3,true),(4,true),(5,true),(6,true),(7,true),(8,false)] ?_
  refine ZX ?_
  refine Zw rfl (lN rfl rfl ⟨by omega,by omega⟩) ?_
  refine Zw rfl (lD (b:=g) (o:=0) (L:=s.l.length+v.l.length) (C:=cp) (K:=6) Tryz.underlying34 kS rfl rfl (by omega) (by omega) hcp (by omega) rfl) ?_
  refine ZX ?_
  refine Zw rfl (lD (b:=s.b) (o:=s.o) (L:=s.l.length) (C:=s.c) (K:=6) Tryz.underlying34 kS (show some s.val=_ by unfold Sv.val; rw [hsa]) rfl hi.1 (by omega) hf (by omega) rfl) ?_
  refine VD.one rfl ?_
  rw [show (i+(v.l.length:Int)).toNat=i.toNat+v.l.length by omega]
  refine VL.DU (src:=(s.l.drop i.toNat).flatMap bB.enc) Tryz.underlying34 kS oS.out rfl (by rw [lS]; congr 1; exact (Nat.min_eq_left (by omega)).symm) (T3 (r:=s) (by decide) hne i.toNat) (oI _) (by rw [lS,Nat.zero_add,hic.1,hcl,← Nat.add_mul]; exact Nat.mul_le_mul_right _ (by omega)) (by decide) ?_
  rw [Nat.zero_add,lS,Nat.add_mul]
  refine eY ?_
  refine ZX ?_
  have ho:=fun F=>EB (F:=F) (e:=121) (b:=g) (l':=s.l.take i.toNat++v.l++s.l.drop i.toNat) (Nat.le_of_eq (hic.2.1.trans hcl).symm) (by rw [gI] at hic; exact hic.2.2) hLn hcp hcm
  exact VC.ret (GI (.inr rfl) rfl rfl ⟨some ⟨g,0,none⟩,cp,_⟩ (ho Ow.emp).1 rfl (fun _ _=>trivial) (ho _).2)
 refine ZX ?_
 refine VL.open (s:=s) (e:=121) Fo.out (by omega) fun b cs hsa hcl hct _ hcm => ?_
 rw [hK] at hcl hct
 have hctA:cs.take ((s.l.take i.toNat).flatMap bB.enc).length=(s.l.take i.toNat).flatMap bB.enc:=by
   rw [lA]
   have:cs.take (i.toNat*6)=(cs.take (s.l.length*6)).take (i.toNat*6):=by rw [List.take_take,Nat.min_eq_left (Nat.mul_le_mul_right _ (by omega))]
   rw [this,hct]
   exact qE s.l i.toNat
 have hfit:((s.l.take i.toNat).flatMap bB.enc).length+(v.l.flatMap bB.enc).length+((s.l.drop i.toNat).flatMap bB.enc).length≤cs.length:=by
   refine Nat.le_trans ?_ hcl; rw [lA,lV,lS,← Nat.add_mul,← Nat.add_mul]; exact Nat.mul_le_mul_right _ (by omega)
 have hic:=NH (V:=v.l.flatMap bB.enc) (S:=(s.l.drop i.toNat).flatMap bB.enc) hctA hfit
 rw [← hfl,lA,lV,lS] at hic
 refine ZX ?_
 refine Zu (lN rfl rfl ⟨by omega,by omega⟩) ?_
 refine Zu (OB (a0:=s.a) (L:=s.l.length) (C:=s.c) (K:=6) Tryz.underlying34 kS rfl rfl (by omega) (by omega)) ?_
 rw [show ((s.l.length:Int)+(v.l.length:Int)).toNat=s.l.length+v.l.length by omega,hsa]
 refine ZX ?_
 refine Zq (ZX ?_)
 refine Zu (lN rfl rfl ⟨by omega,by omega⟩) ?_
 refine Zu (lD (b:=b) (o:=0) (L:=s.l.length+v.l.length) (C:=s.c) (K:=6) Tryz.underlying34 kS rfl rfl (by omega) (by omega) (by omega) (by omega) rfl) ?_
 refine Zu (NT (tS:=34) (tR:=4) (s:=v) (b:=b) Tryz.func293 rfl rfl (by kernel_rfl) (by kernel_rfl) Tryz.underlying34 kS rfl oS.out (fun h=>by rw [h] at hcl; simp at hcl; omega) hv) ?_
 refine ZX ?_
 refine VC.DB rfl ?_
 refine VC.shut v 121 (fun _ _ _ _=>trivial) ?_
 refine Zq ?_
 refine hU [(0,true),(1,true),(2,true),(3,true),(4,true),(5,true),(6,true),(7,true),(8,false)] ?_
 refine ZX ?_
 refine Zw rfl (lN rfl rfl ⟨by omega,by omega⟩) ?_
 refine Zw rfl (lD (b:=b) (o:=0) (L:=s.l.length+v.l.length) (C:=s.c) (K:=6) Tryz.underlying34 kS rfl rfl (by omega) (by omega) (by omega) (by omega) rfl) ?_
 refine ZX ?_
 refine Zw rfl (lD (b:=b) (o:=0) (L:=s.l.length+v.l.length) (C:=s.c) (K:=6) Tryz.underlying34 kS rfl rfl hi.1 (by omega) (by omega) (by omega) rfl) ?_
 refine VD.one rfl ?_
 rw [show (i+(v.l.length:Int)).toNat=i.toNat+v.l.length by omega,Nat.zero_add,Nat.zero_add]
 refine VL.DU (src:=(s.l.drop i.toNat).flatMap bB.enc) Tryz.underlying34 kS oS.out rfl (by rw [lS]; congr 1; simp only [Nat.min_def]; split <;> omega) (Y6 (n:=s.l.length) hct rfl) (oI _) (by refine Nat.le_trans ?_ hcl; rw [lS,← Nat.add_mul]; exact Nat.mul_le_mul_right _ (by omega)) (by decide) ?_
 rw [lS,Nat.add_mul]
 refine eY ?_
 refine ZX ?_
 refine Zu (lD (b:=b) (o:=0) (L:=s.l.length+v.l.length) (C:=s.c) (K:=6) Tryz.underlying34 kS rfl rfl hi.1 (by omega) (by omega) (by omega) rfl) ?_
 refine Zm ?_
 refine VL.CC (φ:=v.a=some ⟨v.b,v.o,none⟩) (fun h m=>(dM.out (X:=v.ok) h m).2.2.1 hv) fun hva => ?_
 refine VL.F4 81 rfl (show v.val = .slice (some ⟨v.b,v.o+0*bB.sz IndexEntry,none⟩) v.l.length v.c by unfold Sv.val; rw [hva,Nat.zero_mul]; rfl) ?_
 rw [Nat.zero_add]
 refine VL.DU (src:=v.l.flatMap bB.enc) Tryz.underlying34 kS oS.out rfl (by rw [lV]; congr 1; exact (Nat.min_eq_left (by omega)).symm) (JR (r:=v) (by decide) hv) (oI v.l) (by rw [hic.1]; refine Nat.le_trans ?_ hcl; rw [lV,← Nat.add_mul]; exact Nat.mul_le_mul_right _ (by omega)) (by decide) ?_
 rw [lV]
 refine ZX ?_
 have ho:=fun F=>EB (F:=F) (e:=121) (b:=b) (l':=s.l.take i.toNat++v.l++s.l.drop i.toNat) (by rw [hic.2.1]; exact hcl) (by rw [gI] at hic; exact hic.2.2) hLn (by omega) hcm
 exact VC.ret (GI (.inr rfl) rfl rfl ⟨some ⟨b,0,none⟩,s.c,_⟩ (ho Ow.emp).1 rfl (fun _ _=>trivial) (ho _).2)
instance OA (dY:Sv IndexEntry) (e_1:IndexEntry) :
 jG Tryz.prog 167 [dY.val,.agg #[str e_1.path,i64 e_1.fA,i64 e_1.mode,str e_1.data,i64 e_1.time,i64 e_1.size]] (Sh.wA dY.l e_1) dY.ok (X:=Sv IndexEntry) (fun x=>x.val) (fun x=>x.l) (fun x=>x.ok):=by
 refine jO Tryz.func167 Tryz.ntmps167 fun r hS c => ?_
 unfold Sh.wA at hS
 refine cI (kF fun rX=>ZX ?_)
 refine fJ hS rfl fun aA1 hS=>ZX ?_
 refine fJ hS rfl fun kJ hS=>Za ?_
 refine Zl ?_
 refine cI (Za ?_)
 refine Zl ?_
 refine VC.cJ [3,5] (fun (W6:Int)=>W6) (fun W6 ρ=>(6,i64 W6)::ρ) hS ?_ ?_
 ·
  intro k5 hS
  refine Zb ?_
  refine VC.iJ [3,5] (fun (TS:Int)=>TS) (fun TS ρ=>(6,i64 TS)::ρ) 0 [6,3,5] hS ?_
  rintro TS m1 y1 hS hK1
  refine Zq (Zq ?_)
  refine hU ((List.range 13).map fun k=>(k,true)) ?_
  refine ZX ?_
  refine VD.wO 15 rfl (fun h15 => ?_) (fun h15 => ?_)
  ·
   replace hS:=KR h15 hS
   refine ZX ?_
   obtain ⟨aNF,aOP,aOC,hS⟩:=gQ hS
   refine Zi rfl (lC (s:=kJ) Tryz.underlying34 kS rfl rfl aOP (bQ aOP aOC)) ?_
   refine Zi rfl (V0 (s:=kJ) AU rfl rfl aOC) ?_
   refine ZX ?_
   obtain ⟨aIO,aZ2,hS⟩:=dU hS
   refine Zi rfl (eT ((aAE aNF e_1).out aZ2) rfl (fun _ _=>rfl)) ?_
   exact ZE hS
  replace hS:=W7 h15 hS
  refine ZX ?_
  refine VC.bD [3,5,6,23] ?_
  refine VC.uW rfl ?_
  exact ZE hS
 rintro W6 hS
 refine ZX ?_
 refine VL.aKL (α:=IndexEntry) (xs:=[.tmp 28]) (vs:=[.agg #[str e_1.path,i64 e_1.fA,i64 e_1.mode,str e_1.data,i64 e_1.time,i64 e_1.size]]) [⟨e_1.path,e_1.fA,e_1.mode,e_1.data,e_1.time,e_1.size⟩] Tryz.underlying34 aJd (by decide) rfl rfl rfl rfl (by decide) (by decide) (fun a6R a0Q => ?_) (by decide)
 replace hS:=dR a0Q hS
 obtain ⟨b30,hS⟩:=bX hS
 refine VL.nW (aGJ kJ a6R W6 b30.1 b30.2.1 b30.2.2) rfl (by decide) ?_
 intro a1b aVI
 replace hS:=dR aVI hS
 refine VL.shut a1b 121 (fun _ _ _ _=>trivial) ?_
 exact ZE hS
instance aYa (dY:Sv IndexEntry) (aAn:Sv aC) (p_2:bI) :
 jG Tryz.prog 93 [dY.val,aAn.val,str p_2] (Sh.IA dY.l aAn.l p_2) (dY.ok.and aAn.ok) (X:=Sv IndexEntry) (fun x=>x.val) (fun x=>x.l) (fun x=>x.ok):=by
 refine jO Tryz.func93 Tryz.ntmps93 fun r hS c => ?_
 unfold Sh.IA at hS
 refine ZX ?_
 refine jU hS rfl fun KL hS=>ZX ?_
 refine dG fun a8K=>ZO ?_
 refine Zl ?_
 refine VC.bD [0,2,7,8] (Zq (ZX ?_))
 refine iG hS (fun _ hS=>ZE hS) fun h16 hS=>ZX ?_
 refine Zu (cA (vs:=[(0,str p_2),(2,i64 KL.1.mode),(3,str KL.1.data)]) (cs := #[str p_2,i64 0,i64 KL.1.mode,str KL.1.data,i64 0,i64 0]) rfl (by kernel_rfl)) ?_
 exact HB hS (OA dY (⟨p_2,0,KL.1.mode,KL.1.data,0,0⟩:IndexEntry)).out fun a9E hS=>ZE hS
instance aB3 (jE:IndexEntry) (IX:IndexEntry) :
 gS Tryz.prog 169 [.agg #[str jE.path,i64 jE.fA,i64 jE.mode,str jE.data,i64 jE.time,i64 jE.size],.agg #[str IX.path,i64 IX.fA,i64 IX.mode,str IX.data,i64 IX.time,i64 IX.size]] (Sh.BH jE IX) Mo.tt (fun r => .bool r):=by
 refine gU Tryz.func169 Tryz.ntmps169 fun r hS c => ?_
 unfold Sh.BH at hS
 refine cI (kF fun iB => ?_)
 exact kF fun oU=>ZE hS
instance EF (C1:Sv IndexEntry) (F3:Sv IndexEntry) :
 gS Tryz.prog 168 [C1.val,F3.val,.func (.func 169) #[] #[]] (Sh.dF C1.l F3.l) (C1.ok.and F3.ok) (fun r => .bool r):=by
 refine gU Tryz.func168 Tryz.ntmps168 fun r hS c => ?_
 unfold Sh.dF at hS
 refine ZX ?_
 refine Zq (ZX ?_)
 refine qD hS (fun _ hS=>ZE hS) fun h14 hS=>Zk ?_
 refine Zq (ZX ?_)
 refine VC.bD [1,2,15,16,17] (Zb ?_)
 refine VC.iJ [1,2,15,16] (fun (OP:Int)=>OP) (fun OP ρ=>(17,i64 OP)::ρ) 0 [17,1,2,15,16] hS ?_
 rintro OP m1 y1 hS hK1
 refine ZX ?_
 refine Zq (Zc hS (fun h18 hS => ?_) (fun h18 hS => ?_))
 ·
  refine Zk ?_
  refine Zq (Zb (ZX ?_))
  refine BY hS rfl fun aNG a9x hS=>ZX ?_
  refine dG fun bB0=>ZX ?_
  refine BY hS rfl fun fF aAB hS=>ZX ?_
  refine dG fun bB5=>ZO ?_
  refine Zl ?_
  refine VC.bD [1,2,15,16,17,8,9] (ZX ?_)
  obtain ⟨aFk,aZ9,hS⟩:=dU hS
  refine Zu (MG ((aB3 aNG fF).out aZ9) rfl rfl (fun _ _=>rfl)) ?_
  exact ZE hS
 exact ZE hS
instance aEk (cE:Sv IndexEntry) (b_1:Sv IndexEntry) :
 gS Tryz.prog 94 [cE.val,b_1.val] (Sh.zC cE.l b_1.l) (cE.ok.and b_1.ok) (fun r => .bool r):=by
 refine gU Tryz.func94 Tryz.ntmps94 fun r hS c => ?_
 unfold Sh.zC at hS
 exact ZE hS
instance a1X (aA:aL) (hG:bI) :
 jG Tryz.prog 48 [.agg (aI aA).toArray,str hG] (Sh.H7 aA.pl hG) aA.m (X:=aL×Er) (fun x => .tuple #[.agg (bB.enc x.1).toArray,x.2.val]) (fun x=>(x.1.pl,x.2.pl)) (fun x=>(x.1.m.and x.2.ok)):=by
 refine jO Tryz.func48 Tryz.ntmps48 fun r hS c => ?_
 unfold Sh.H7 at hS
 refine cI ?_
 refine qC (aI aA) fun iB => ?_
 refine dG fun xF=>ZX ?_
 refine tE hS fun bBB hS=>ZX ?_
 refine jU hS rfl fun q7 hS=>ZX ?_
 refine dG fun a8L=>ZO ?_
 refine Zl ?_
 refine VC.bD [1,2,4,6,8] ?_
 refine VC.cJm [2,4] (fun (DG:Sv bI)=>DG.l) (fun DG ρ=>(6,DG.val)::ρ) (fun (DG:Sv bI)=>DG.ok) hS ?_ ?_
 ·
  intro k8 hS
  refine Zb (ZX ?_)
  refine Zc hS (fun h22 hS => ?_) (fun h22 hS => ?_)
  ·
   refine Zr (ZX ?_)
   refine fJ hS rfl fun aW6 hS=>Za ?_
   refine VL.shut aW6 9 (fun _ _ _ _=>trivial) ?_
   exact ZE hS
  refine VC.cJ [2,4,6] (fun (V8:Bool)=>V8) (fun V8 ρ=>(32,.bool V8)::ρ) hS ?_ ?_
  ·
   intro k11 hS
   refine Zr (Zm (Zu (GU rfl) (Zm ?_)))
   refine B3 35 hS (fun h35 hS => ?_) (fun h35 hS => ?_)
   ·
    refine ZX ?_
    obtain ⟨aPG,aTs,hS⟩:=dU hS
    refine Zh (eT ((aFV aA.aS hG).out aTs) rfl (fun _ _=>rfl)) ?_
    exact ZE hS
   exact ZE hS
  rintro V8 hS
  refine iG hS (fun h32 hS => ?_) (fun h32 hS => ?_)
  ·
   refine ZX ?_
   cases hS
   exact VC.ret (Z4 (aA,(Er.no 5)) rfl)
  exact ZE hS
 rintro DG hS
 refine ZX ?_
 refine dG fun a5E=>ZX ?_
 refine Zq (ZX ?_)
 refine Zb ?_
 refine VC.iJb [2,4,9,46,47] (fun (sg:Int×Sv IndexEntry)=>(sg.1,sg.2.l)) (fun sg ρ=>(48,i64 sg.1)::ρ) (fun sg=>sg.2.ok) a5E (fun sg=>[aA.aU.val,sg.2.val,aA.aZ.val,str aA.aH,i64 aA.aG,str aA.aR,i64 aA.aM,str aA.aT,aA.aN.val,aA.aP.val,i64 aA.aO,str aA.aJ,str aA.aD,i64 aA.aE,aA.aK.val,aA.aQ.val,aA.aW.val,aA.aX.val,aA.bF.val,aA.aY.val,i64 aA.time]) (0,aA.aS) [48,2,4,9,46,47] hS ?_
 rintro ⟨aAp,aBT⟩ m1 y1 hS hK1
 refine ZX ?_
 refine Zq ?_
 refine Zc hS (fun _ hS=>ZE hS) fun h49 hS => ?_
 replace hS:=lQ hS hK1
 refine Zx ?_
 refine Zq (Zb (ZX ?_))
 refine jU hS rfl fun aPc hS=>ZX ?_
 refine VC.bD [2,4,9,63] (iG hS (fun h63 hS => ?_) (fun h63 hS => ?_))
 ·
  refine ZX ?_
  cases hS
  exact VC.ret (Z4 (aA,(Er.no 10)) rfl)
 refine ZX ?_
 refine Zc hS (fun h73 hS => ?_) (fun h73 hS => ?_)
 ·
  refine ZX ?_
  cases hS
  exact VC.ret (Z4 (aA,(Er.no 4)) rfl)
 refine ZX ?_
 cases hS
 exact VC.ret (Z4 (⟨aA.aU,aBT,aA.aZ,aA.aH,aA.aG,aA.aR,aA.aM,aA.aT,aA.aN,aA.aP,aA.aO,aA.aJ,aA.aD,aA.aE,aA.aK,aA.aQ,aA.aW,aA.aX,aA.bF,aA.aY,aA.time⟩,.nil) rfl)
instance SC (dY:Sv IndexEntry) (n_1:Int) :
 jG Tryz.prog 28 [dY.val,i64 n_1] (Sh.kT dY.l n_1) dY.ok (X:=Sv aC) (fun x=>x.val) (fun x=>x.l) (fun x=>x.ok):=by
 refine jO Tryz.func28 Tryz.ntmps28 fun r hS c => ?_
 unfold Sh.kT at hS
 refine ZX ?_
 refine Zq (ZX ?_)
 refine Zb ?_
 refine VC.lU (⟨none,0,[]⟩:Sv aC) 89 ⟨rfl,rfl⟩ ?_
 refine VC.iter (S:=Sv aC×Int) (fun sg=>(sg.1.l,sg.2)) (fun sg=>[(1,i64 n_1),(5,sg.1.val),(8,dY.val),(9,i64 (dY.l.length:Int)),(10,i64 sg.2)]) (fun sg=>Mo.tt) (fun sg=>Ow.star (Sv.own sg.1 89) (Ow.emp)) (⟨none,0,[]⟩,0) [1,5,8,9,10] hS rfl ?_
 rintro ⟨EL,II⟩ m1 y1 hS hK1
 refine ZX ?_
 refine Zq (Zc hS (fun h11 hS => ?_) (fun h11 hS => ?_))
 ·
  refine Zk ?_
  refine Zq (Zb (cI ?_))
  obtain ⟨DZ,aAJ,Z9,hS⟩:=gQ hS
  refine Zu (jY (s:=dY) Tryz.underlying34 kS rfl rfl aAJ (bQ aAJ Z9)) (Zu (sR  (s:=dY) AU rfl rfl Z9) ?_)
  refine dG fun aN3=>ZX ?_
  refine Zc hS (fun h17 hS => ?_) (fun h17 hS => ?_)
  ·
   refine Zr (ZX ?_)
   refine Zu (cA (vs:=[(0,str DZ.path),(1,i64 DZ.mode),(2,str DZ.data)]) (cs := #[str DZ.path,i64 DZ.mode,str DZ.data]) rfl (by kernel_rfl)) ?_
   exact ZE hS
  exact ZE hS
 replace hS:=lQ hS hK1
 refine Zx ?_
 refine ZX ?_
 refine VL.shut EL 89 (fun _ _ _ _=>trivial) ?_
 exact ZE hS
instance aYh (aA:aL) (GN:Int) :
 gS Tryz.prog 61 [.agg (aI aA).toArray,i64 GN] (Sh.ID aA.pl GN) aA.m (fun r => .bool r):=by
 refine gU Tryz.func61 Tryz.ntmps61 fun r hS c => ?_
 unfold Sh.ID at hS
 exact ZE hS
instance GX (aA:aL) (rA:Int) :
 jG Tryz.prog 29 [.agg (aI aA).toArray,i64 rA] (Sh.kX aA.pl rA) aA.m (X:=Sv aC) (fun x=>x.val) (fun x=>x.l) (fun x=>x.ok):=by
 refine jO Tryz.func29 Tryz.ntmps29 fun r hS c => ?_
 unfold Sh.kX at hS
 refine cI ?_
 refine qC (aI aA) fun iB => ?_
 refine ZX ?_
 refine Zq (ZX ?_)
 refine jU hS rfl fun o8 hS=>ZX ?_
 refine iG hS (fun h8 hS => ?_) (fun h8 hS => ?_)
 ·
  refine ZX ?_
  cases hS
  exact VC.ret (Z1 ⟨none,0,[]⟩)
 obtain ⟨b12,hS⟩:=bX hS
 refine ZX ?_
 obtain ⟨OU,aAK,QX,hS⟩:=DT hS
 refine VL.deep OU.m QX (fun _ q=>q) ?_
 refine Zu (jY (s:=aA.aX) Tryz.underlying44 XX rfl rfl aAK (bQ aAK QX)) ?_
 refine ZX ?_
 refine Zu (aFN  (s:=aA.aX) z8 rfl QX rfl) ?_
 refine fJ hS rfl fun aWN hS => ?_
 refine VL.shut aWN 89 (fun _ _ _ _=>trivial) ?_
 exact ZE hS
instance W8 (aA:aL) :
 jG Tryz.prog 96 [.agg (aI aA).toArray] (Sh.jC aA.pl) aA.m (X:=Sv aC) (fun x=>x.val) (fun x=>x.l) (fun x=>x.ok):=by
 refine jO Tryz.func96 Tryz.ntmps96 fun r hS c => ?_
 unfold Sh.jC at hS
 exact ZE hS
instance W9 (cE:Sv aC) (b_1:Sv aC) (p_2:bI) :
 gS Tryz.prog 95 [cE.val,b_1.val,str p_2] (Sh.CV cE.l b_1.l p_2) (cE.ok.and b_1.ok) (fun r => .bool r):=by
 refine gU Tryz.func95 Tryz.ntmps95 fun r hS c => ?_
 unfold Sh.CV at hS
 refine ZX ?_
 refine jU hS rfl fun G4 hS=>ZX ?_
 refine dG fun a8K=>ZO ?_
 refine Zl ?_
 refine VC.bD [1,2,7,8] (ZX ?_)
 refine jU hS rfl fun q8 hS=>ZX ?_
 refine dG fun bB4=>ZO ?_
 refine Zl ?_
 refine VC.bD [7,8,9,10] (ZX ?_)
 refine Zu (PV aH4 (aH5 G4.1.path G4.1.mode G4.1.data q8.1.path q8.1.mode q8.1.data) rfl rfl) (Zm ?_)
 refine oT 26 hS (fun h26 hS => ?_) (fun h26 hS => ?_)
 ·
  refine ZX ?_
  refine Zh (a1O Tryz.underlying4 rfl rfl) ?_
  exact ZE hS
 exact ZE hS
instance KQ (uP:aC) (hO:Nat) (a_1:bI) :
 gS Tryz.prog 146 [.agg #[str uP.path,i64 uP.mode,str uP.data],ptr hO 0] (Sh.l9 uP a_1) (Cells hO 0 [str a_1]) (fun r => .bool r):=by
 refine gU Tryz.func146 Tryz.ntmps146 fun r hS c => ?_
 unfold Sh.l9 at hS
 refine cI (kF fun iB=>ZX ?_)
 refine Zu (ED oV rfl rfl) ?_
 exact ZE hS
instance y5 (aA:Sv aC) (dQ:Nat) (dI:bI) :
 gS Tryz.prog 221 [aA.val,.func (.func 146) #[] #[ptr dQ 0]] (Sh.j5 aA.l dI) (aA.ok.and (Cells dQ 0 [str dI])) (fun r=>i64 r):=by
 refine gU Tryz.func221 Tryz.ntmps221 fun r hS c => ?_
 unfold Sh.j5 at hS
 refine ZX ?_
 refine Zq (ZX ?_)
 refine Zb ?_
 refine VC.iJ [0,1,7] (fun (dD:Int)=>dD) (fun dD ρ=>(8,i64 dD)::ρ) 0 [8,0,1,7] hS ?_
 rintro dD m1 y1 hS hK1
 refine ZX ?_
 refine Zq (Zc hS (fun h9 hS => ?_) (fun h9 hS => ?_))
 ·
  refine Zk ?_
  refine Zq (Zb (ZX ?_))
  obtain ⟨eW,qS,oB,hS⟩:=gQ hS
  refine Zu (jY (s:=aA) Tryz.underlying33 j9 rfl rfl qS (bQ qS oB)) (Zu (sR  (s:=aA) z7 rfl rfl oB) ?_)
  obtain ⟨nJ,tF,hS⟩:=dU hS
  refine Zu (sQ (vs:=[.agg #[str eW.path,i64 eW.mode,str eW.data]]) (caps:=[ptr dQ 0]) ((KQ eW dQ dI).out tF) rfl rfl (fun _ _=>rfl)) ?_
  exact ZE hS
 exact ZE hS
instance OX (aA:Sv aC) (dH:Nat) (cY:bI) :
 uL Tryz.prog 145 [aA.val,.func (.func 146) #[] #[ptr dH 0]] (Sh.iD aA.l cY) Mo.tt (Ow.star (Sv.own aA 89) (bM dH [str cY] 9)) (X:=Sv aC) (fun x=>x.val) (fun x=>x.l) (fun x=>Mo.tt) (fun x=>Ow.star (Sv.own x 89) (bM dH [str cY] 9)):=by
 refine uV Tryz.func145 Tryz.ntmps145 fun r hS c => ?_
 unfold Sh.iD at hS
 refine ZX ?_
 obtain ⟨dB,GG,hS⟩:=dU hS
 refine Zu (lW ((y5 aA dH cY).out GG) rfl (fun _ _=>rfl)) ?_
 refine ZX ?_
 refine Zq (ZX ?_)
 refine Zc hS (fun _ hS=>ZE hS) fun h12 hS => ?_
 obtain ⟨b15,hS⟩:=bX hS
 refine Zk ?_
 refine Zq (ZX ?_)
 refine VC.bD [0,1,5,6] (Zb ?_)
 refine VC.iter (S:=Sv aC×Int×Int) (fun sg=>(sg.1.l,sg.2.1,sg.2.2)) (fun sg=>[(0,sg.1.val),(1,.func (.func 146) #[] #[ptr dH 0]),(5,i64 sg.2.1),(6,i64 sg.2.2)]) (fun sg=>Mo.tt) (fun sg=>Ow.star (bM dH [str cY] 9) (Ow.star (Sv.own sg.1 89) (Ow.emp))) (aA,dB,(dB+1)) [0,1,5,6] hS rfl ?_
 rintro ⟨fM,jW,pP⟩ m1 y1 hS hK1
 refine Zq (ZX ?_)
 refine Zc hS (fun h19 hS => ?_) (fun h19 hS => ?_)
 ·
  refine Zk ?_
  refine VC.wT (S:=Sv aC×Int) (fun sg=>(sg.1.l,sg.2)) (fun sg=>[(0,sg.1.val),(1,.func (.func 146) #[] #[ptr dH 0]),(5,i64 sg.2),(6,i64 pP)]) (fun sg=>Mo.tt) (fun sg=>Ow.star (bM dH [str cY] 9) (Ow.star (Sv.own sg.1 89) (Ow.emp))) hS ?_ ?_
  ·
   intro k7 hS
   refine Zb (ZX ?_)
   obtain ⟨cT,xI,wR,hS⟩:=gQ hS
   refine Zu (lC (s:=fM) Tryz.underlying33 j9 rfl rfl xI (bQ xI wR)) (Zu (V0 (s:=fM) z7 rfl rfl wR) ?_)
   refine dG fun R9=>ZO ?_
   refine Zl ?_
   refine VC.bD [0,1,5,6,7] (ZX ?_)
   obtain ⟨yR,GH,hS⟩:=dU hS
   refine Zu (sQ (vs:=[.agg #[str cT.path,i64 cT.mode,str cT.data]]) (caps:=[ptr dH 0]) ((KQ cT dH cY).out GH) rfl rfl (fun _ _=>rfl)) ?_
   refine ZX ?_
   refine iG hS (fun h29 hS => ?_) (fun h29 hS => ?_)
   ·
    refine ZX ?_
    obtain ⟨LB,xJ,xH,hS⟩:=gQ hS
    refine Zu (lC (s:=fM) Tryz.underlying33 j9 rfl rfl xJ (bQ xJ xH)) ?_
    refine VL.nD (s:=fM) (T:=89) (j:=0) (vc:=[str cT.path,i64 cT.mode,str cT.data]) (⟨cT.path,cT.mode,cT.data⟩:aC) (by decide) rfl rfl xH rfl j9 rfl rfl (Nat.le_of_ble_eq_true rfl) rfl (fun w12 hw12 haw12 hcw12 hvw12 hbw12 how12 => ?_)
    rw [← hvw12]
    replace hS:=dR hw12 hS
    exact ZE hS
   exact ZE hS
  rintro ⟨J2,JQ⟩ hS
  exact ZE hS
 replace hS:=lQ hS hK1
 refine Zx ?_
 obtain ⟨b38,hS⟩:=bX hS
 refine ZX ?_
 refine VL.fits (s:=fM) (e:=89) Fo.out fun BT => ?_
 refine Zu (EM (s:=fM) Tryz.underlying33 j9 rfl rfl b38.1 b38.2 BT) ?_
 refine VL.aCm (s:=fM) (i:=jW.toNat) (.agg #[str [],i64 0,str []]) Tryz.underlying33 aMK rfl rfl rfl (by have:=b38; dsimp only at this ⊢; omega) Fo.out fun K4 GM G1 => ?_
 replace hS:=dR GM hS
 refine Zl ?_
 refine VC.bD [0,5] (ZX ?_)
 refine Zu (VZ (s:=fM) (q:=K4) Tryz.underlying33 j9 rfl rfl b38.1 b38.2 BT G1) ?_
 exact ZE hS
instance aNl (dO:Sv aC) (p_1:bI) :
 jG Tryz.prog 82 [dO.val,str p_1] (Sh.nF dO.l p_1) dO.ok (X:=Sv aC) (fun x=>x.val) (fun x=>x.l) (fun x=>x.ok):=by
 refine jO Tryz.func82 Tryz.ntmps82 fun r hS c => ?_
 unfold Sh.nF at hS
 refine cI (kF fun rX=>ZX ?_)
 refine fJ hS rfl fun aO4 hS=>ZX ?_
 refine fJ hS rfl fun GR hS => ?_
 refine VL.shut GR 89 (fun _ _ _ _=>trivial) ?_
 exact ZE hS
end Go.Proofs.YtaohfeokfcdojaaGreatDoor
end

section
set_option linter.unusedVariables false
namespace Go.Proofs.YtaohfeokfcdojaaGreatDoor
set_option maxHeartbeats 4000000
set_option maxRecDepth 100000
set_option synthInstance.maxSize 2000
set_option synthInstance.maxHeartbeats 1000000
open Go.RowKit Go.V
open Go.S
attribute [local irreducible] Go.V.Qt Go.V.VL Go.V.VC Go.V.HA Go.S.gd Go.S.at_ Go.S.lt Go.S.jn Go.S.go Go.S.up Go.S.iter Sh.mD Sh.nE Sh.gV Sh.nF Sh.eN Sh.jZ Sh.jX Sh.vJ Sh.BG Sh.zC Sh.kT Sh.uZ Sh.u9 Sh.tY Sh.oD Sh.AF Sh.sV Sh.AG Sh.pT Sh.jC Sh.zJ Sh.pH Sh.CV Sh.wL Sh.yA Sh.qH Sh.uR Sh.xP Sh.MK Sh.wM Sh.xC Sh.eX Sh.cG Sh.cL Sh.jD Sh.iZ Sh.gP Sh.lP Sh.iR Sh.lZ Sh.kX Sh.strings_Index Sh.AL Sh.AM
instance a4m (aA:aL) (cZ:l8) :
 jG Tryz.prog 49 [.agg (aI aA).toArray,.agg #[str cZ.verb,str cZ.name,i64 cZ.n,str cZ.text,.bool cZ.force,cZ.todo.val]] (Sh.MK aA.pl cZ.pl) (aA.m.and cZ.todo.ok) (X:=aL×Er) (fun x => .tuple #[.agg (bB.enc x.1).toArray,x.2.val]) (fun x=>(x.1.pl,x.2.pl)) (fun x=>(x.1.m.and x.2.ok)):=by
 refine jO Tryz.func49 Tryz.ntmps49 fun r hS c => ?_
 unfold Sh.MK at hS
 refine cI ?_
 refine qC (aI aA) fun iB => ?_
 refine kF fun oU=>dG fun BS=>ZX ?_
 refine Zq (ZX ?_)
 refine jU hS rfl fun s9 hS=>ZX ?_
 refine VC.bD [2,3,4,17] (iG hS (fun h17 hS => ?_) (fun h17 hS => ?_))
 ·
  refine ZX ?_
  cases hS
  exact VC.ret (Z4 (aA,(Er.no 5)) rfl)
 refine ZX ?_
 refine fN hS rfl fun aFD hS=>ZX ?_
 refine jU hS rfl fun aCe hS=>ZX ?_
 refine dG fun a42=>ZO ?_
 refine Zl ?_
 refine VC.bD [2,3,4,6,8] (ZX ?_)
 refine jU hS rfl fun aFm hS=>ZX ?_
 refine dG fun a8O=>ZO ?_
 refine Zl ?_
 refine VC.bD [2,3,4,6,8,10] (Zq ?_)
 refine VC.cJ [2,3,4] (fun (WD:Bool)=>WD) (fun WD ρ=>(68,.bool WD)::ρ) hS ?_ ?_
 ·
  intro k11 hS
  refine hU [(0,true),(1,true),(2,true),(3,true),(4,true),(5,true),(6,true),(7,true),(8,true),(10,true),(11,true),(9,false),(12,true),(13,true),(14,true),(15,true),(16,true),(17,true),(18,true),(19,true),(20,true),(21,true),(22,true),(23,true),(24,true),(25,true),(26,true),(27,true),(28,true)] ?_
  refine ZX ?_
  refine VD.split 43 rfl (fun h43 => ?_) (fun h43 => ?_)
  ·
   replace hS:=KR h43 hS
   refine ZX ?_
   refine VD.split 46 rfl (fun h46 => ?_) (fun h46 => ?_)
   ·
    replace hS:=KR h46 hS
    refine ZX ?_
    refine VD.aVp (D':=[(11,undef),(10,undef),(7,undef)]) rfl rfl rfl (by decide) (by decide) (by kernel_rfl) (bR.aEH rfl rfl rfl rfl (bR.aEH rfl rfl rfl rfl (bR.aEH rfl rfl rfl rfl (bR.nil)))) ?_
    refine ZX ?_
    refine VD.gu rfl rfl rfl (by decide) ?_
    refine VD.gu rfl rfl rfl (by decide) ?_
    refine VD.gu rfl rfl rfl (by decide) ?_
    refine VD.gu rfl rfl rfl (by decide) ?_
    refine VD.gu rfl rfl rfl (by decide) ?_
    refine VD.gu rfl rfl rfl (by decide) ?_
    refine VD.gu rfl rfl rfl (by decide) ?_
    refine VD.gu rfl rfl rfl (by decide) ?_
    exact ZE hS
   replace hS:=aOH h46 hS
   refine ZX ?_
   refine VD.a4j rfl rfl rfl ?_
   refine VL.guard rfl rfl ?_
   refine fN hS rfl fun aRg hS => ?_
   refine QA [(11,str cZ.name),(10,ptr oU 1),(7,aFD.val)] (bR.aHQ rfl rfl rfl (nI oV rfl rfl) (bR.aHQ rfl rfl rfl (bY aE2 rfl) (bR.aHQ rfl rfl rfl (fR rfl) bR.nil))) ?_
   obtain ⟨aPS,aUE,hS⟩:=dU hS
   refine Zi rfl (eT ((W9 aFD aRg cZ.name).out aUE) rfl (fun _ _=>rfl)) ?_
   refine ZX ?_
   refine VD.split 55 rfl (fun h55 => ?_) (fun h55 => ?_)
   ·
    replace hS:=KR h55 hS
    refine ZX ?_
    refine VD.gu rfl rfl rfl (by decide) ?_
    refine VD.gu rfl rfl rfl (by decide) ?_
    refine VD.gu rfl rfl rfl (by decide) ?_
    refine VD.gu rfl rfl rfl (by decide) ?_
    refine VD.gu rfl rfl rfl (by decide) ?_
    refine VD.gu rfl rfl rfl (by decide) ?_
    refine VD.gu rfl rfl rfl (by decide) ?_
    refine VD.gu rfl rfl rfl (by decide) ?_
    exact ZE hS
   replace hS:=aOH h55 hS
   refine ZX ?_
   refine VD.split 57 rfl (fun h57 => ?_) (fun h57 => ?_)
   ·
    replace hS:=KR h57 hS
    refine ZX ?_
    obtain ⟨aP6,aUM,hS⟩:=dU hS
    refine Zi rfl (eT ((W9 aFD aA.aU cZ.name).out aUM) rfl (fun _ _=>rfl)) ?_
    exact ZE hS
   replace hS:=aOH h57 hS
   exact ZE hS
  replace hS:=aOH h43 hS
  refine ZX ?_
  refine VD.gu rfl rfl rfl (by decide) ?_
  refine VD.gu rfl rfl rfl (by decide) ?_
  refine VD.gu rfl rfl rfl (by decide) ?_
  refine VD.gu rfl rfl rfl (by decide) ?_
  refine VD.a8h (D':=[(11,undef),(10,undef),(7,undef)]) rfl rfl rfl (by decide) (by kernel_rfl) (bR.aLr rfl rfl rfl (bR.aLr rfl rfl rfl (bR.aLr rfl rfl rfl (bR.nil)))) ?_
  refine VD.gu rfl rfl rfl (by decide) ?_
  refine VD.gu rfl rfl rfl (by decide) ?_
  refine ZX ?_
  refine VD.gu rfl rfl rfl (by decide) ?_
  refine VD.gu rfl rfl rfl (by decide) ?_
  refine VD.gu rfl rfl rfl (by decide) ?_
  refine VD.gu rfl rfl rfl (by decide) ?_
  refine VD.gu rfl rfl rfl (by decide) ?_
  refine VD.gu rfl rfl rfl (by decide) ?_
  refine VD.gu rfl rfl rfl (by decide) ?_
  refine VD.gu rfl rfl rfl (by decide) ?_
  refine VD.gu rfl rfl rfl (by decide) ?_
  refine VD.gu rfl rfl rfl (by decide) ?_
  refine VD.gu rfl rfl rfl (by decide) ?_
  exact ZE hS
 rintro WD hS
 refine iG hS (fun h68 hS => ?_) (fun h68 hS => ?_)
 ·
  refine ZX ?_
  cases hS
  exact VC.ret (Z4 (aA,(Er.no 8)) rfl)
 refine Zk ?_
 refine Zq ?_
 refine hU [(0,true),(1,true),(2,true),(3,true),(4,true),(6,true),(7,true),(8,true),(9,true),(10,true),(5,false),(12,true),(13,true),(11,false),(14,false),(15,true),(16,true),(17,false)] ?_
 refine ZX ?_
 refine VD.one rfl (fN hS rfl fun aSD hS=>eL (Pk 10 (Pk 9 (Pk 8 (Pk 7 (Pk 6 Pz))))) ?_)
 refine ZX ?_
 refine VD.one rfl (fN hS rfl fun aSJ hS=>eL (Pk 13 (Pk 12 Pz)) ?_)
 refine VD.one rfl (ZX ?_)
 refine eY ?_
 refine ZX ?_
 refine VD.one rfl (ZX ?_)
 refine eY ?_
 refine xE ?_
 refine VC.bD [2,4] (ZX ?_)
 cases hS
 exact VC.ret (Z4 (⟨aSJ,aSD,aA.aZ,aA.aH,aA.aG,aA.aR,aA.aM,aA.aT,aA.aN,aA.aP,aA.aO,aA.aJ,aA.aD,aA.aE,aA.aK,aA.aQ,aA.aW,aA.aX,aA.bF,aA.aY,aA.time⟩,.nil) rfl)
theorem UR (s:Sv bI) (hb:s.l.length≤4294967296):Ct Tryz.prog 174 [s.val] Mo.tt (s.own 9) (X:=Sv bI) (fun _ => .tuple #[]) (fun q=>q.l=Go.S.rR s.l∧q.val=s.val) (fun _=>Mo.tt) (fun q=>q.own 9) :=
  Ct.sort (vU Tryz.func174 rfl (by kernel_rfl)) (fun blk off cap ss w hH hb hs=>Tryz.slices_Sort_string blk off cap ss w hH hb hs) (fun p cap w=>Tryz.slices_Sort_string_none p cap w) s 9 hb
theorem LP (s:Sv bI) (hb:s.l.length≤4294967296):Ct Tryz.prog 175 [s.val] Mo.tt (s.own 9) (X:=Sv bI) (fun q=>q.val) (fun q=>q.l=Go.S.nO s.l) (fun _=>Mo.tt) (fun q=>q.own 9) :=
  Ct.compact (vU Tryz.func175 rfl (by kernel_rfl)) (fun blk off cap ss w hH hb hs=>Tryz.slices_Compact_string blk off cap ss w hH hb hs) (fun p cap w=>Tryz.slices_Compact_string_empty p cap w) s 9 hb
instance aL9 (dY:Sv IndexEntry) :
 uL Tryz.prog 98 [dY.val] (Sh.jX dY.l) dY.ok (Ow.emp) (X:=Sv bI) (fun x=>x.val) (fun x=>x.l) (fun x=>Mo.tt) (fun x=>Sv.own x 9):=by
 refine uV Tryz.func98 Tryz.ntmps98 fun r hS c => ?_
 unfold Sh.jX at hS
 refine ZX ?_
 refine Zq (ZX ?_)
 refine Zb ?_
 refine VC.lU (⟨none,0,[]⟩:Sv bI) 9 ⟨rfl,rfl⟩ ?_
 refine VC.iter (S:=Sv bI×Int) (fun sg=>(sg.1.l,sg.2)) (fun sg=>[(3,sg.1.val),(6,dY.val),(7,i64 (dY.l.length:Int)),(8,i64 sg.2)]) (fun sg=>Mo.tt) (fun sg=>Ow.star (Sv.own sg.1 9) (Ow.emp)) (⟨none,0,[]⟩,0) [3,6,7,8] hS rfl ?_
 rintro ⟨oC,yL⟩ m1 y1 hS hK1
 refine ZX ?_
 refine Zq (Zc hS (fun h9 hS => ?_) (fun h9 hS => ?_))
 ·
  refine Zk ?_
  refine Zq (Zb (cI ?_))
  obtain ⟨vI,NL,I3,hS⟩:=gQ hS
  refine Zu (jY (s:=dY) Tryz.underlying34 kS rfl rfl NL (bQ NL I3)) (Zu (sR  (s:=dY) AU rfl rfl I3) ?_)
  exact dG fun aTW=>ZE hS
 replace hS:=lQ hS hK1
 refine Zx ?_
 obtain ⟨b22,hS⟩:=bX hS
 refine ZX ?_
 refine VL.nW (UR oC b22) rfl (by decide) ?_
 rintro a65 ⟨a0Y,a1u⟩
 try dsimp only
 rw [← a1u]
 replace hS:=dR a0Y hS
 obtain ⟨b24,hS⟩:=bX hS
 refine ZX ?_
 refine VL.nW (LP a65 b24) rfl (by decide) ?_
 rintro bA9 aVR
 try dsimp only
 replace hS:=dR aVR hS
 exact ZE hS
instance V4 (C1:Sv aC) (F3:Sv aC) :
 gS Tryz.prog 176 [C1.val,F3.val] (Sh.iR C1.l F3.l) (C1.ok.and F3.ok) (fun r => .bool r):=by
 refine gU Tryz.func176 Tryz.ntmps176 fun r hS c => ?_
 unfold Sh.iR at hS
 refine ZX ?_
 refine Zq (ZX ?_)
 refine qD hS (fun _ hS=>ZE hS) fun h10 hS=>Zk ?_
 refine Zq (ZX ?_)
 refine VC.bD [0,1,12,13] (Zb ?_)
 refine VC.iJ [0,1,12] (fun (yG:Int)=>yG) (fun yG ρ=>(13,i64 yG)::ρ) 0 [13,0,1,12] hS ?_
 rintro yG m1 y1 hS hK1
 refine ZX ?_
 refine Zq (Zc hS (fun h14 hS => ?_) (fun h14 hS => ?_))
 ·
  refine Zk ?_
  refine Zq (Zb (ZX ?_))
  refine Zq ?_
  refine hU ((List.range 9).map fun k=>(k,true)) ?_
  refine ZX ?_
  refine aCk hS rfl fun IY aOB hS => ?_
  refine ZX ?_
  refine aCk hS rfl fun R4 bAA hS => ?_
  refine ZX ?_
  refine Zw rfl (aFT aH4 (aH5 IY.path IY.mode IY.data R4.path R4.mode R4.data) rfl rfl) ?_
  exact ZE hS
 exact ZE hS
instance z6 (dO:Sv aC) (q_1:Sv aC) :
 gS Tryz.prog 99 [dO.val,q_1.val] (Sh.jZ dO.l q_1.l) (dO.ok.and q_1.ok) (fun r => .bool r):=by
 refine gU Tryz.func99 Tryz.ntmps99 fun r hS c => ?_
 unfold Sh.jZ at hS
 exact ZE hS
instance SD (dO:dP) (n_1:bI) :
 gS Tryz.prog 262 [.agg #[str dO.name,i64 dO.cF],str n_1] (Sh.AG dO n_1) Mo.tt (fun r=>i64 r):=by
 refine gU Tryz.func262 Tryz.ntmps262 fun r hS c => ?_
 unfold Sh.AG at hS
 refine cI ?_
 exact kF fun iB=>ZE hS
instance KI (jE:Sv dP) (s5:bI) :
 gS Tryz.prog 261 [jE.val,str s5,.func (.func 262) #[] #[]] (Sh.eX jE.l s5) jE.ok (fun r => .tuple #[i64 r.1,.bool r.2]):=by
 refine gU Tryz.func261 Tryz.ntmps261 fun r hS c => ?_
 unfold Sh.eX at hS
 refine ZX ?_
 refine Zq (Zb ?_)
 refine VC.iJ [0,1,2,8] (fun (sg:Int×Int)=>(sg.1,sg.2)) (fun sg ρ=>(9,i64 sg.1)::(10,i64 sg.2)::ρ) (0,(jE.l.length:Int)) [9,10,0,1,2,8] hS ?_
 rintro ⟨AW,CD⟩ m1 y1 hS hK1
 refine Zq (ZX ?_)
 refine Zc hS (fun h17 hS => ?_) (fun h17 hS => ?_)
 ·
  obtain ⟨b20,hS⟩:=bX hS
  refine Zk ?_
  refine Zb (ZX ?_)
  refine Zu (yW Tryz.underlying3 Tryz.underlying192 rfl) ?_
  refine Zu (aFS rfl rfl (by decide)) ?_
  refine Zu (yW Tryz.underlying192 Tryz.underlying3 rfl) (Za ?_)
  refine Zl ?_
  refine VC.bD [0,1,2,8,9,10,11] (ZX ?_)
  refine BY hS rfl fun YZ a07 hS=>ZX ?_
  obtain ⟨OS,aHZ,hS⟩:=dU hS
  refine Zu (MG ((SD YZ s5).out aHZ) rfl rfl (fun _ _=>rfl)) ?_
  exact ZE hS
 replace hS:=lQ hS hK1
 refine Zx ?_
 refine cI (Zm ?_)
 refine Zm (Zm (Zu (qU rfl rfl) (Zm ?_)))
 refine oT 39 hS (fun h39 hS => ?_) (fun h39 hS => ?_)
 ·
  refine ZX ?_
  refine aIz hS rfl fun Y0 a0a hS=>ZX ?_
  obtain ⟨aFo,aH0,hS⟩:=dU hS
  refine Zh (MG ((SD Y0 s5).out aH0) rfl rfl (fun _ _=>rfl)) ?_
  exact ZE hS
 exact ZE hS
instance aGR (aA:aL) (hG:bI) :
 gS Tryz.prog 188 [.agg (aI aA).toArray,str hG] (Sh.sV aA.pl hG) aA.m (fun r => .tuple #[i64 r.1,.bool r.2]):=by
 refine gU Tryz.func188 Tryz.ntmps188 fun r hS c => ?_
 unfold Sh.sV at hS
 exact ZE hS
instance aA9 (aA:aL) :
 gS Tryz.prog 194 [.agg (aI aA).toArray] (Sh.tY aA.pl) aA.m (fun r => .bool r):=by
 refine gU Tryz.func194 Tryz.ntmps194 fun r hS c => ?_
 unfold Sh.tY at hS
 exact ZE hS
instance aYd (aA:aL) :
 gS Tryz.prog 177 [.agg (aI aA).toArray] (Sh.wM aA.pl) aA.m (fun r => .bool r):=by
 refine gU Tryz.func177 Tryz.ntmps177 fun r hS c => ?_
 unfold Sh.wM at hS
 refine cI ?_
 refine qC (aI aA) fun iS => ?_
 refine Za ?_
 refine Zl ?_
 refine cI (Zu (bY ZY rfl) ?_)
 refine Zu (nI aDO rfl rfl) (Zu (wW cD.pl (s:=aA.aX) Tryz.underlying44 rfl) (Zu (qU rfl rfl) (Zm ?_)))
 refine oT 7 hS (fun h7 hS => ?_) (fun h7 hS => ?_)
 ·
  refine ZX ?_
  obtain ⟨G8,a5O,hS⟩:=dU hS
  refine Zh (eT ((aA9 aA).out a5O) rfl (fun _ _=>rfl)) ?_
  exact ZE hS
 exact ZE hS
instance MJ (n_0:Int) :
 gS Tryz.prog 255 [i64 n_0] (Sh.uR n_0) Mo.tt (fun r => .bool r):=by
 refine gU Tryz.func255 Tryz.ntmps255 fun r hS c => ?_
 unfold Sh.uR at hS
 exact ZE hS
instance KJ (aA:Sv Int) :
 gS Tryz.prog 306 [aA.val,.func (.func 255) #[] #[]] (Sh.lZ aA.l) aA.ok (fun r=>i64 r):=by
 refine gU Tryz.func306 Tryz.ntmps306 fun r hS c => ?_
 unfold Sh.lZ at hS
 refine ZX ?_
 refine Zq (ZX ?_)
 refine Zb ?_
 refine VC.iJ [0,1,7] (fun (dD:Int)=>dD) (fun dD ρ=>(8,i64 dD)::ρ) 0 [8,0,1,7] hS ?_
 rintro dD m1 y1 hS hK1
 refine ZX ?_
 refine Zq (Zc hS (fun h9 hS => ?_) (fun h9 hS => ?_))
 ·
  refine Zk ?_
  refine Zq (Zb (ZX ?_))
  refine BY hS rfl fun eW oB hS=>ZX ?_
  obtain ⟨nJ,tF,hS⟩:=dU hS
  refine Zu (MG ((MJ eW).out tF) rfl rfl (fun _ _=>rfl)) ?_
  exact ZE hS
 exact ZE hS
instance aCs (aA:Sv Int) :
 uL Tryz.prog 254 [aA.val,.func (.func 255) #[] #[]] (Sh.lP aA.l) Mo.tt (Sv.own aA 3) (X:=Sv Int) (fun x=>x.val) (fun x=>x.l) (fun x=>Mo.tt) (fun x=>Sv.own x 3):=by
 refine uV Tryz.func254 Tryz.ntmps254 fun r hS c => ?_
 unfold Sh.lP at hS
 refine ZX ?_
 obtain ⟨dB,GG,hS⟩:=dU hS
 refine Zu (lW ((KJ aA).out GG) rfl (fun _ _=>rfl)) ?_
 refine ZX ?_
 refine Zq (ZX ?_)
 refine Zc hS (fun _ hS=>ZE hS) fun h12 hS => ?_
 obtain ⟨b15,hS⟩:=bX hS
 refine Zk ?_
 refine Zq (ZX ?_)
 refine VC.bD [0,1,5,6] (Zb ?_)
 refine VC.iter (S:=Sv Int×Int×Int) (fun sg=>(sg.1.l,sg.2.1,sg.2.2)) (fun sg=>[(0,sg.1.val),(1,.func (.func 255) #[] #[]),(5,i64 sg.2.1),(6,i64 sg.2.2)]) (fun sg=>Mo.tt) (fun sg=>Ow.star (Sv.own sg.1 3) (Ow.emp)) (aA,dB,(dB+1)) [0,1,5,6] hS rfl ?_
 rintro ⟨fM,jW,pP⟩ m1 y1 hS hK1
 refine Zq (ZX ?_)
 refine Zc hS (fun h19 hS => ?_) (fun h19 hS => ?_)
 ·
  refine Zk ?_
  refine VC.wT (S:=Sv Int×Int) (fun sg=>(sg.1.l,sg.2)) (fun sg=>[(0,sg.1.val),(1,.func (.func 255) #[] #[]),(5,i64 sg.2),(6,i64 pP)]) (fun sg=>Mo.tt) (fun sg=>Ow.star (Sv.own sg.1 3) (Ow.emp)) hS ?_ ?_
  ·
   intro k7 hS
   refine Zb (ZX ?_)
   obtain ⟨cT,xI,wR,hS⟩:=gQ hS
   refine Zu (lC (s:=fM) Tryz.underlying59 DP rfl rfl xI (bQ xI wR)) (Zu (GS (s:=fM) 3 v8 rfl wR rfl) (Za ?_))
   refine Zl ?_
   refine VC.bD [0,1,5,6,7] (ZX ?_)
   obtain ⟨aFj,aHY,hS⟩:=dU hS
   refine Zu (MG ((MJ cT).out aHY) rfl rfl (fun _ _=>rfl)) ?_
   refine ZX ?_
   refine iG hS (fun h29 hS => ?_) (fun h29 hS => ?_)
   ·
    refine ZX ?_
    obtain ⟨a4B,aKT,aJk,hS⟩:=gQ hS
    refine Zu (lC (s:=fM) Tryz.underlying59 DP rfl rfl aKT (bQ aKT aJk)) ?_
    refine VL.nD (s:=fM) (T:=3) (j:=0) (vc:=[i64 cT]) (cT:Int) (by decide) rfl rfl aJk rfl DP rfl rfl (Nat.le_of_ble_eq_true rfl) rfl (fun w11 hw11 haw11 hcw11 hvw11 hbw11 how11 => ?_)
    rw [← hvw11]
    replace hS:=dR hw11 hS
    exact ZE hS
   exact ZE hS
  rintro ⟨J2,JQ⟩ hS
  exact ZE hS
 replace hS:=lQ hS hK1
 refine Zx ?_
 obtain ⟨b38,hS⟩:=bX hS
 refine ZX ?_
 refine VL.fits (s:=fM) (e:=3) Fo.out fun aNj => ?_
 refine Zu (EM (s:=fM) Tryz.underlying59 DP rfl rfl b38.1 b38.2 aNj) ?_
 refine VL.aCm (s:=fM) (i:=jW.toNat) (i64 0) Tryz.underlying59 a84 rfl rfl rfl (by have:=b38; dsimp only at this ⊢; omega) Fo.out fun a1n aVQ aX5 => ?_
 replace hS:=dR aVQ hS
 refine Zl ?_
 refine VC.bD [0,5] (ZX ?_)
 refine Zu (VZ (s:=fM) (q:=a1n) Tryz.underlying59 DP rfl rfl b38.1 b38.2 aNj aX5) ?_
 exact ZE hS
instance PW (aA:aL) (AX:Int) :
 uL Tryz.prog 179 [.agg (aI aA).toArray,i64 AX] (Sh.qH aA.pl AX) aA.m (Ow.emp) (X:=Sv Int) (fun x=>x.val) (fun x=>x.l) (fun x=>Mo.tt) (fun x=>Sv.own x 3):=by
 refine uV Tryz.func179 Tryz.ntmps179 fun r hS c => ?_
 unfold Sh.qH at hS
 refine cI ?_
 refine qC (aI aA) fun iB => ?_
 refine ZX ?_
 refine VL.aKL (α:=Int) (xs:=[.tmp 8,.tmp 9]) (vs:=[i64 aA.aG,i64 AX]) [aA.aG,AX] Tryz.underlying59 aUr (by decide) rfl rfl rfl rfl (by decide) (by decide) (fun bAz aZy => ?_) (by decide)
 replace hS:=dR aZy hS
 exact ZE hS
instance qX (aA:Sv cD) :
 uL Tryz.prog 253 [aA.val] (Sh.gP (aA.l.map cD.pl)) aA.ok (Ow.emp) (X:=Sv cD) (fun x=>x.val) (fun x=>(x.l.map cD.pl)) (fun x=>(qB x.l)) (fun x=>Sv.own x 61):=by
 refine uV Tryz.func253 Tryz.ntmps253 fun r hS c => ?_
 unfold Sh.gP at hS
 refine ZX ?_
 refine Zq (ZX ?_)
 refine Zu (J1 (s:=aA) Tryz.underlying44 rfl) ?_
 refine Zl ?_
 refine VC.slnil (s:=aA) rfl (fun h4 => ?_) ?_
 ·
  have hS:(some [])=some r:=by
    simp [lt,gd,h4] at hS ⊢
    try exact hS
  refine cI (Za ?_)
  refine Zl ?_
  refine VC.lU (⟨none,0,[]⟩:Sv cD) 61 ⟨rfl,rfl⟩ ?_
  refine VC.X8 (s:=(⟨none,0,[]⟩:Sv cD)) rfl ?_
  cases hS
  exact VC.ret (Z1 ⟨none,0,[]⟩)
 refine ZX ?_
 refine VL.aCq (α:=cD) Tryz.underlying44 aZk (by decide) (fun KT uY AA => ?_)
 refine VL.lU KT 61 ⟨AA,uY⟩ ?_
 refine VL.X8 uY ?_
 replace hS:=dR (congrArg (List.map cD.pl) uY) hS
 obtain ⟨b7,hS⟩:=bX hS
 refine Zm ?_
 refine VL.app (s:=KT) (r:=aA) Tryz.underlying44 ZP (by decide) rfl Fo.out (ap1 (Y3 b7)) (ap2 (Y3 b7) (by decide)) (by decide) (fun bB7 aVP => ?_)
 replace hS:=dR ((congrArg (List.map cD.pl) aVP).trans List.map_append) hS
 refine VL.X7 aVP ?_
 exact ZE hS
instance WU (aA:Sv dP) :
 uL Tryz.prog 187 [aA.val] (Sh.iZ aA.l) aA.ok (Ow.emp) (X:=Sv dP) (fun x=>x.val) (fun x=>x.l) (fun x=>Mo.tt) (fun x=>Sv.own x 182):=by
 refine uV Tryz.func187 Tryz.ntmps187 fun r hS c => ?_
 unfold Sh.iZ at hS
 refine ZX ?_
 refine Zq (ZX ?_)
 refine Zu (J1 (s:=aA) Tryz.underlying35 rfl) ?_
 refine Zl ?_
 refine VC.slnil (s:=aA) rfl (fun h4 => ?_) ?_
 ·
  have hS:(some [])=some r:=by
    simp [lt,gd,h4] at hS ⊢
    try exact hS
  refine cI (Za ?_)
  refine Zl ?_
  refine VC.lU (⟨none,0,[]⟩:Sv dP) 182 ⟨rfl,rfl⟩ ?_
  cases hS
  exact VC.ret (Z1 ⟨none,0,[]⟩)
 refine ZX ?_
 refine VL.aCq (α:=dP) Tryz.underlying35 aUq (by decide) (fun KT uY AA => ?_)
 refine VL.lU KT 182 ⟨AA,uY⟩ ?_
 replace hS:=dR uY hS
 exact ZE hS
theorem aGH (s:Sv dP) (i j:Int) (hi:0≤i∧i≤j∧j≤(s.l.length:Int)):Ct Tryz.prog 189 [s.val,i64 i,i64 j] Mo.tt (s.own 182) (X:=Sv dP) (fun q=>q.val) (fun q=>q.l=s.l.take i.toNat++s.l.drop j.toNat) (fun q=>Mo.tt) (fun q=>q.own 182):=by
 refine Zo Tryz.func189 Tryz.ntmps189 fun c => ?_
 obtain ⟨i0,ij,jl⟩:=hi
 have hK:bB.sz dP=2:=rfl
 refine VC.seq (VC.region ?_)
 refine Za ?_
 refine Zl ?_
 refine VC.seq (VC.region ?_)
 refine ZX ?_
 refine VL.fits (s:=s) (e:=182) Fo.out fun hf => ?_
 refine Zu (KD (s:=s) (lo':=some i) (hi':=some j) (mx':=some (s.l.length:Int)) i.toNat j.toNat s.l.length Tryz.underlying35 qQ rfl rfl rfl rfl (by simp; omega) (by simp; omega) (by simp) (fun _=>rfl) (by omega) (by omega) hf (by omega)) ?_
 refine Zl ?_
 refine VC.seq (VC.seq (VC.region ?_))
 refine ZX ?_
 refine VC.mY rfl (fun hij => ?_) (fun hij => ?_)
 ·
  refine VC.seq (VC.region ?_)
  refine ZX ?_
  exact VC.ret (GI (.inr rfl) rfl rfl s rfl (by rw [hij,List.take_append_drop]) (fun _ _=>trivial) fL.out)
 have hLn:(s.l.take i.toNat++s.l.drop j.toNat).length=i.toNat+(s.l.length - j.toNat):=by simp only [List.length_append,List.length_take,List.length_drop]; omega
 refine Zk ?_
 refine VC.seq (VC.region ?_)
 refine VL.open (s:=s) (e:=182) Fo.out (by omega) fun b cs hsa hcl hct _ hcm => ?_
 rw [hK] at hcl hct
 refine ZX ?_
 obtain ⟨o2,ho2,hoj⟩ : ∃ o2,(s.sub j.toNat s.l.length s.c).val = .slice (some ⟨b,o2,none⟩) (s.l.length - j.toNat) (s.c - j.toNat)∧(j.toNat < s.c→o2=j.toNat*2):=by
   simp only [Sv.val,Sv.sub,hsa,hK]
   split
   . exact ⟨0,by simp,fun h=>by omega⟩
   . exact ⟨j.toNat*2,by simp [Addr.add]; omega,fun _=>rfl⟩
 have lS:((s.l.drop j.toNat).flatMap bB.enc).length=(s.l.length - j.toNat)*2:=by rw [gI,List.length_drop,hK]
 have lA:((s.l.take i.toNat).flatMap bB.enc).length=i.toNat*2:=by rw [gI,List.length_take,hK,Nat.min_eq_left (by omega)]
 have hw : ∀ k,k≤s.l.length→k*2≤s.l.length*2:=fun k h=>Nat.mul_le_mul_right _ h
 have hcK:s.l.length*2≤s.c*2:=Nat.mul_le_mul_right _ hf
 refine Zq ?_
 refine hU [(0,true),(1,true),(2,true),(3,true),(4,true),(5,true),(6,false),(7,true)] ?_
 refine ZX ?_
 refine Zw rfl (OB (a0:=s.a) (L:=s.l.length) (C:=s.c) (K:=2) Tryz.underlying35 qQ rfl rfl i0 (by omega)) ?_
 refine ZX ?_
 refine Zw rfl (EM (s:=s) Tryz.underlying35 qQ rfl rfl (by omega) jl hf) ?_
 refine VD.one rfl ?_
 refine VL.a4T (b:=b) (L:=i.toNat) (C:=s.c) (m:=s.l.length - j.toNat) (c2:=s.c - j.toNat) (o2:=o2) (K:=2) (src:=(s.l.drop j.toNat).flatMap bB.enc) Tryz.underlying35 qQ oS.out (by rw [← ho2,← hsa]; rfl) (fun k v hk=>by
   by_cases hjc:j.toNat < s.c
   . rw [hoj hjc]
     rw [← BE,hK,List.getElem?_drop,← hct] at hk
     rw [List.getElem?_take] at hk
     split at hk
     . exact hk
     . cases hk
   . have:s.l.drop j.toNat=[]:=List.drop_of_length_le (by omega)
     rw [this] at hk; cases hk) lS (by omega) (by rw [lS,← Nat.add_mul]; exact Nat.le_trans (Nat.mul_le_mul_right _ (by omega)) hcl) (oI _) (by decide) ?_
 have hA:cs.take (i.toNat*2)=(s.l.take i.toNat).flatMap bB.enc:=by
   have:cs.take (i.toNat*2)=(cs.take (s.l.length*2)).take (i.toNat*2):=by rw [List.take_take,Nat.min_eq_left (hw _ (by omega))]
   rw [this,hct]
   exact qE s.l i.toNat
 rw [hA,lS,← Nat.add_mul]
 have hT:(s.l.take i.toNat++s.l.drop j.toNat++s.l.drop (i.toNat+(s.l.length - j.toNat))).length=s.l.length:=by rw [List.length_append,hLn,List.length_drop]; omega
 have hC2:s.c*2≤((s.l.take i.toNat).flatMap bB.enc++(s.l.drop j.toNat).flatMap bB.enc++cs.drop ((i.toNat+(s.l.length - j.toNat))*2)).length:=by
   rw [List.length_append,List.length_append,lA,lS,← Nat.add_mul,List.length_drop]
   have:=hw (i.toNat+(s.l.length - j.toNat)) (by omega)
   omega
 have hT2:((s.l.take i.toNat).flatMap bB.enc++(s.l.drop j.toNat).flatMap bB.enc++cs.drop ((i.toNat+(s.l.length - j.toNat))*2)).take ((s.l.take i.toNat++s.l.drop j.toNat++s.l.drop (i.toNat+(s.l.length - j.toNat))).length*2)=(s.l.take i.toNat++s.l.drop j.toNat++s.l.drop (i.toNat+(s.l.length - j.toNat))).flatMap bB.enc:=by
   rw [hT,List.flatMap_append,List.flatMap_append,List.take_append,List.length_append,lA,lS,← Nat.add_mul,List.take_of_length_le (by rw [List.length_append,lA,lS,← Nat.add_mul]; exact hw _ (by omega))]
   congr 1
   rw [← List.drop_take,hct]
   exact (BE s.l _)
 refine eY ?_
 refine ZD ?_
 refine xE ?_
 have hv:(Value.slice (some ⟨b,0,none⟩) (i.toNat+(s.l.length - j.toNat)) s.c)=(⟨some ⟨b,0,none⟩,s.c,s.l.take i.toNat++s.l.drop j.toNat⟩:Sv dP).val:=by simp only [Sv.val,hLn]
 rw [hv]
 have ho:=EB (F:=Ow.emp) (e:=182) (b:=b) (l':=s.l.take i.toNat++s.l.drop j.toNat++s.l.drop (i.toNat+(s.l.length - j.toNat))) (L:=s.l.length) hC2 hT2 hT hf hcm
 refine VC.seq (VC.region ?_)
 refine ZX ?_
 refine VL.a4a ho.2 ?_
 refine Zu (aD4 (a0:=some ⟨b,0,none⟩) (L:=i.toNat+(s.l.length - j.toNat)) (C:=s.c) (K:=2) (lo':=some ((s.l.take i.toNat++s.l.drop j.toNat).length:Int)) (hi':=some (s.l.length:Int)) (i.toNat+(s.l.length - j.toNat)) s.l.length Tryz.underlying35 qQ (by rw [← hv]; rfl) rfl rfl (by simp [hLn]) (by simp) (by omega) hf) ?_
 refine VL.aCm (s:=⟨some ⟨b,0,none⟩,s.c,s.l.take i.toNat++s.l.drop j.toNat++s.l.drop (i.toNat+(s.l.length - j.toNat))⟩) (i:=i.toNat+(s.l.length - j.toNat)) (.agg #[str [],i64 0]) Tryz.underlying35 aZw (by kernel_rfl) (by kernel_rfl) (by
   show some _=some _
   congr 2
   simp only [Sv.val,Sv.sub,hT,sliced,List.length_drop,List.length_take,hK]
   congr 1
   omega) (by simp only [hT]; omega) Fo.out fun q hq hqv => ?_
 have hql:q.l=s.l.take i.toNat++s.l.drop j.toNat:=by rw [hq]; exact List.take_left' hLn
 refine Zl ?_
 have hv2:(⟨some ⟨b,0,none⟩,s.c,s.l.take i.toNat++s.l.drop j.toNat⟩:Sv dP).val=q.val:=by rw [hqv,← hv]
 rw [hv2]
 refine VC.seq (VC.region ?_)
 refine ZX ?_
 exact VC.ret (GI (.inr rfl) rfl rfl q rfl hql (fun _ _=>trivial) fL.out)
theorem aGL (s v:Sv dP) (i:Int) (hi:0≤i∧i≤(s.l.length:Int)) (hv:v.l≠[]) (hb:s.l.length+v.l.length≤4294967296):Ct Tryz.prog 190 [s.val,i64 i,v.val] Mo.tt (Ow.star (s.own 182) (v.own 182)) (X:=Sv dP) (fun q=>q.val) (fun q=>q.l=s.l.take i.toNat++v.l++s.l.drop i.toNat) (fun q=>Mo.tt) (fun q=>q.own 182):=by
 refine Zo Tryz.func190 Tryz.ntmps190 fun c => ?_
 have hvp:0 < v.l.length:=List.length_pos_iff.2 hv
 have hK:bB.sz dP=2:=rfl
 refine ZX ?_
 refine VL.fits (s:=s) (e:=182) Fo.out fun hf => ?_
 refine Zu (EM (s:=s) Tryz.underlying35 qQ rfl rfl hi.1 hi.2 hf) ?_
 refine ZX ?_
 refine Zq (ZX ?_)
 refine VC.mY rfl (fun h16=>absurd h16 (by omega)) (fun h16 => ?_)
 refine ZX ?_
 refine Zq (ZX ?_)
 refine VC.mY rfl (fun h22 => ?_) (fun h22 => ?_)
 ·
  refine ZX ?_
  refine VL.shut v 182 (fun _ _ _ _=>trivial) ?_
  refine VL.aNY (s:=s) (r:=v) Tryz.underlying35 Tryz.underlying35 aEW (by decide) rfl Fo.out (ap1 hb) (ap2 hb (by decide)) (by decide) (fun q hq => ?_)
  refine ZX ?_
  have e1:i.toNat=s.l.length:=by omega
  exact VC.ret (GI (.inr rfl) rfl rfl q rfl (by rw [hq,e1,List.take_length,List.drop_length,List.append_nil]) (fun _ _=>trivial) fL.out)
 have hin:i < (s.l.length:Int):=by omega
 have hne:s.l≠[]:=fun h=>by rw [h] at hin; simp at hin; omega
 have hkq:(s.l.length:Int)+(v.l.length:Int) - i=((s.l.length+v.l.length - i.toNat:Nat):Int):=by omega
 have hLn:(s.l.take i.toNat++v.l++s.l.drop i.toNat).length=s.l.length+v.l.length:=by simp only [List.length_append,List.length_take,List.length_drop]; omega
 have hfl:(s.l.take i.toNat++v.l++s.l.drop i.toNat).flatMap bB.enc=(s.l.take i.toNat).flatMap bB.enc++v.l.flatMap bB.enc++(s.l.drop i.toNat).flatMap bB.enc:=by rw [List.flatMap_append,List.flatMap_append]
 have lA:((s.l.take i.toNat).flatMap bB.enc).length=i.toNat*2:=by rw [gI,List.length_take,hK,Nat.min_eq_left (by omega)]
 have lV:(v.l.flatMap bB.enc).length=v.l.length*2:=by rw [gI,hK]
 have lS:((s.l.drop i.toNat).flatMap bB.enc).length=(s.l.length - i.toNat)*2:=by rw [gI,List.length_drop,hK]
 refine Zk ?_
 refine Zq (ZX ?_)
 refine Zu (lN rfl rfl ⟨by omega,by omega⟩) ?_
 refine Zm (Zu (aD2 (a0:=s.a) (L:=s.l.length) (C:=s.c) Tryz.underlying35 rfl) ?_)
 refine ZX ?_
 refine VC.mY rfl (fun h31 => ?_) (fun h31 => ?_)
 ·
  refine VC.shut s 182 (fun _ _ _ _=>trivial) ?_
  refine VC.shut v 182 (fun _ _ _ _=>trivial) ?_
  refine cI ?_
  refine VL.CC (φ:=s.a=some ⟨s.b,s.o,none⟩) (fun h m=>(dM.out (X:=s.ok) h m).2.2.1 hne) fun hsa => ?_
  refine VL.CC (φ:=v.a=some ⟨v.b,v.o,none⟩) (fun h m=>(dM.out (X:=v.ok) h m).2.2.1 hv) fun hva => ?_
  refine ZX ?_
  refine Zu (OB (a0:=s.a) (L:=s.l.length) (C:=s.c) (K:=2) Tryz.underlying35 qQ rfl rfl hi.1 (by omega)) ?_
  refine ZX ?_
  refine Zu (lN rfl rfl ⟨by omega,by omega⟩) ?_
  refine Zm ?_
  refine Zu (MI rfl rfl ⟨by omega,by omega⟩) ?_
  refine VL.F4 39 rfl (congrArg (Value.int .i64) hkq) ?_
  refine VL.aHE (s:=s) (L:=i.toNat) (kq:=s.l.length+v.l.length - i.toNat) Tryz.underlying35 Tryz.underlying3 aEW (by decide) rfl hne (by omega) (by omega) (by omega) (by omega) (by decide) (by decide) fun g cs cp hcl hcp hcm hct => ?_
  rw [hK] at hcl hct
  rw [show i.toNat+(s.l.length+v.l.length - i.toNat)=s.l.length+v.l.length by omega] at hcp ⊢
  have hfit:((s.l.take i.toNat).flatMap bB.enc).length+(v.l.flatMap bB.enc).length+((s.l.drop i.toNat).flatMap bB.enc).length≤cs.length:=by
    rw [lA,lV,lS,hcl,← Nat.add_mul,← Nat.add_mul]; exact Nat.mul_le_mul_right _ (by omega)
  have hic:=NG (V:=v.l.flatMap bB.enc) (S:=(s.l.drop i.toNat).flatMap bB.enc) (by rw [lA]; exact hct) hfit
  rw [← hfl,lA,lV,lS] at hic
  refine ZX ?_
  refine Zu (lD (b:=g) (o:=0) (L:=s.l.length+v.l.length) (C:=cp) (K:=2) Tryz.underlying35 qQ rfl rfl hi.1 (by omega) hcp (by omega) rfl) ?_
  refine Zm ?_
  refine VL.F4 44 rfl (show v.val = .slice (some ⟨v.b,v.o+0*bB.sz dP,none⟩) v.l.length v.c by unfold Sv.val; rw [hva,Nat.zero_mul]; rfl) ?_
  refine VL.DU (src:=v.l.flatMap bB.enc) Tryz.underlying35 qQ oS.out rfl (by rw [lV]; congr 1; exact (Nat.min_eq_left (by omega)).symm) (JR (r:=v) (by decide) hv) (oI v.l) (by rw [lV,Nat.zero_add,hcl,← Nat.add_mul]; exact Nat.mul_le_mul_right _ (by omega)) (by decide) ?_
  rw [Nat.zero_add,lV]
  refine Zl ?_
  refine Zq ?_
  refine hU [(0,true),(1,true),(2,true),(3,true),(4,true),(5,true),(6,true),(7,true),(8,false)] ?_
  refine ZX ?_
  refine Zw rfl (lN rfl rfl ⟨by omega,by omega⟩) ?_
  refine Zw rfl (lD (b:=g) (o:=0) (L:=s.l.length+v.l.length) (C:=cp) (K:=2) Tryz.underlying35 qQ rfl rfl (by omega) (by omega) hcp (by omega) rfl) ?_
  refine ZX ?_
  refine Zw rfl (lD (b:=s.b) (o:=s.o) (L:=s.l.length) (C:=s.c) (K:=2) Tryz.underlying35 qQ (show some s.val=_ by unfold Sv.val; rw [hsa]) rfl hi.1 (by omega) hf (by omega) rfl) ?_
  refine VD.one rfl ?_
  rw [show (i+(v.l.length:Int)).toNat=i.toNat+v.l.length by omega]
  refine VL.DU (src:=(s.l.drop i.toNat).flatMap bB.enc) Tryz.underlying35 qQ oS.out rfl (by rw [lS]; congr 1; exact (Nat.min_eq_left (by omega)).symm) (T3 (r:=s) (by decide) hne i.toNat) (oI _) (by rw [lS,Nat.zero_add,hic.1,hcl,← Nat.add_mul]; exact Nat.mul_le_mul_right _ (by omega)) (by decide) ?_
  rw [Nat.zero_add,lS,Nat.add_mul]
  refine eY ?_
  refine ZX ?_
  have ho:=fun F=>EB (F:=F) (e:=182) (b:=g) (l':=s.l.take i.toNat++v.l++s.l.drop i.toNat) (Nat.le_of_eq (hic.2.1.trans hcl).symm) (by rw [gI] at hic; exact hic.2.2) hLn hcp hcm
  exact VC.ret (GI (.inr rfl) rfl rfl ⟨some ⟨g,0,none⟩,cp,_⟩ (ho Ow.emp).1 rfl (fun _ _=>trivial) (ho _).2)
 refine ZX ?_
 refine VL.open (s:=s) (e:=182) Fo.out (by omega) fun b cs hsa hcl hct _ hcm => ?_
 rw [hK] at hcl hct
 have hctA:cs.take ((s.l.take i.toNat).flatMap bB.enc).length=(s.l.take i.toNat).flatMap bB.enc:=by
   rw [lA]
   have:cs.take (i.toNat*2)=(cs.take (s.l.length*2)).take (i.toNat*2):=by rw [List.take_take,Nat.min_eq_left (Nat.mul_le_mul_right _ (by omega))]
   rw [this,hct]
   exact qE s.l i.toNat
 have hfit:((s.l.take i.toNat).flatMap bB.enc).length+(v.l.flatMap bB.enc).length+((s.l.drop i.toNat).flatMap bB.enc).length≤cs.length:=by
   refine Nat.le_trans ?_ hcl; rw [lA,lV,lS,← Nat.add_mul,← Nat.add_mul]; exact Nat.mul_le_mul_right _ (by omega)
 have hic:=NH (V:=v.l.flatMap bB.enc) (S:=(s.l.drop i.toNat).flatMap bB.enc) hctA hfit
 rw [← hfl,lA,lV,lS] at hic
 refine ZX ?_
 refine Zu (lN rfl rfl ⟨by omega,by omega⟩) ?_
 refine Zu (OB (a0:=s.a) (L:=s.l.length) (C:=s.c) (K:=2) Tryz.underlying35 qQ rfl rfl (by omega) (by omega)) ?_
 rw [show ((s.l.length:Int)+(v.l.length:Int)).toNat=s.l.length+v.l.length by omega,hsa]
 refine ZX ?_
 refine Zq (ZX ?_)
 refine Zu (lN rfl rfl ⟨by omega,by omega⟩) ?_
 refine Zu (lD (b:=b) (o:=0) (L:=s.l.length+v.l.length) (C:=s.c) (K:=2) Tryz.underlying35 qQ rfl rfl (by omega) (by omega) (by omega) (by omega) rfl) ?_
 refine Zu (NT (tS:=35) (tR:=4) (s:=v) (b:=b) Tryz.func263 rfl rfl (by kernel_rfl) (by kernel_rfl) Tryz.underlying35 qQ rfl oS.out (fun h=>by rw [h] at hcl; simp at hcl; omega) hv) ?_
 refine ZX ?_
 refine VC.DB rfl ?_
 refine VC.shut v 182 (fun _ _ _ _=>trivial) ?_
 refine Zq ?_
 refine hU [(0,true),(1,true),(2,true),(3,true),(4,true),(5,true),(6,true),(7,true),(8,false)] ?_
 refine ZX ?_
 refine Zw rfl (lN rfl rfl ⟨by omega,by omega⟩) ?_
 refine Zw rfl (lD (b:=b) (o:=0) (L:=s.l.length+v.l.length) (C:=s.c) (K:=2) Tryz.underlying35 qQ rfl rfl (by omega) (by omega) (by omega) (by omega) rfl) ?_
 refine ZX ?_
 refine Zw rfl (lD (b:=b) (o:=0) (L:=s.l.length+v.l.length) (C:=s.c) (K:=2) Tryz.underlying35 qQ rfl rfl hi.1 (by omega) (by omega) (by omega) rfl) ?_
 refine VD.one rfl ?_
 rw [show (i+(v.l.length:Int)).toNat=i.toNat+v.l.length by omega,Nat.zero_add,Nat.zero_add]
 refine VL.DU (src:=(s.l.drop i.toNat).flatMap bB.enc) Tryz.underlying35 qQ oS.out rfl (by rw [lS]; congr 1; simp only [Nat.min_def]; split <;> omega) (Y6 (n:=s.l.length) hct rfl) (oI _) (by refine Nat.le_trans ?_ hcl; rw [lS,← Nat.add_mul]; exact Nat.mul_le_mul_right _ (by omega)) (by decide) ?_
 rw [lS,Nat.add_mul]
 refine eY ?_
 refine ZX ?_
 refine Zu (lD (b:=b) (o:=0) (L:=s.l.length+v.l.length) (C:=s.c) (K:=2) Tryz.underlying35 qQ rfl rfl hi.1 (by omega) (by omega) (by omega) rfl) ?_
 refine Zm ?_
 refine VL.CC (φ:=v.a=some ⟨v.b,v.o,none⟩) (fun h m=>(dM.out (X:=v.ok) h m).2.2.1 hv) fun hva => ?_
 refine VL.F4 81 rfl (show v.val = .slice (some ⟨v.b,v.o+0*bB.sz dP,none⟩) v.l.length v.c by unfold Sv.val; rw [hva,Nat.zero_mul]; rfl) ?_
 rw [Nat.zero_add]
 refine VL.DU (src:=v.l.flatMap bB.enc) Tryz.underlying35 qQ oS.out rfl (by rw [lV]; congr 1; exact (Nat.min_eq_left (by omega)).symm) (JR (r:=v) (by decide) hv) (oI v.l) (by rw [hic.1]; refine Nat.le_trans ?_ hcl; rw [lV,← Nat.add_mul]; exact Nat.mul_le_mul_right _ (by omega)) (by decide) ?_
 rw [lV]
 refine ZX ?_
 have ho:=fun F=>EB (F:=F) (e:=182) (b:=b) (l':=s.l.take i.toNat++v.l++s.l.drop i.toNat) (by rw [hic.2.1]; exact hcl) (by rw [gI] at hic; exact hic.2.2) hLn (by omega) hcm
 exact VC.ret (GI (.inr rfl) rfl rfl ⟨some ⟨b,0,none⟩,s.c,_⟩ (ho Ow.emp).1 rfl (fun _ _=>trivial) (ho _).2)
instance aAa (aA:aL) (hG:bI) (vQ:Int) :
 jG Tryz.prog 105 [.agg (aI aA).toArray,str hG,i64 vQ] (Sh.xC aA.pl hG vQ) aA.m (X:=aL) (fun x => .agg (bB.enc x).toArray) (fun x=>x.pl) (fun x=>x.m):=by
 refine jO Tryz.func105 Tryz.ntmps105 fun r hS c => ?_
 unfold Sh.xC at hS
 refine cI ?_
 refine qC (aI aA) fun rX => ?_
 refine dG fun O6=>ZX ?_
 refine fJ hS rfl fun fX hS=>ZO ?_
 refine Zl ?_
 refine VC.bD [1,2,3,6] (ZX ?_)
 obtain ⟨rU,aZW,hS⟩:=dU hS
 refine Zu (lW ((aGR (⟨aA.aU,aA.aS,fX,aA.aH,aA.aG,aA.aR,aA.aM,aA.aT,aA.aN,aA.aP,aA.aO,aA.aJ,aA.aD,aA.aE,aA.aK,aA.aQ,aA.aW,aA.aX,aA.bF,aA.aY,aA.time⟩:aL) hG).out aZW) rfl (fun _ _=>rfl)) ?_
 refine ZX ?_
 refine Zq (Zb ?_)
 refine VC.cJ [1,2,3,6,7,8] (fun (aCJ:Bool)=>aCJ) (fun aCJ ρ=>(21,.bool aCJ)::ρ) hS (fun _ hS=>ZE hS) ?_
 rintro aCJ hS
 refine iG hS (fun h21 hS => ?_) (fun h21 hS => ?_)
 ·
  obtain ⟨b32,hS⟩:=bX hS
  obtain ⟨b33,hS⟩:=bX hS
  refine Zr (ZX ?_)
  refine VL.nW (aGH fX rU.1 (rU.1+1) b33) rfl (by decide) ?_
  intro aXH a0V
  replace hS:=dR a0V hS
  refine ZO ?_
  refine Zl ?_
  refine VC.bD [3,6] (cI (ZO ?_))
  refine Zl ?_
  refine VC.shut aXH 182 (fun _ _ _ _=>trivial) ?_
  cases hS
  exact VC.ret (Z4 ⟨aA.aU,aA.aS,aXH,aA.aH,aA.aG,aA.aR,aA.aM,aA.aT,aA.aN,aA.aP,aA.aO,aA.aJ,aA.aD,aA.aE,aA.aK,aA.aQ,aA.aW,aA.aX,aA.bF,aA.aY,aA.time⟩ rfl)
 refine ZX ?_
 refine iG hS (fun h36 hS => ?_) (fun h36 hS => ?_)
 ·
  refine Zr (ZX ?_)
  obtain ⟨aNS,aOZ,aOG,hS⟩:=gQ hS
  refine Zu (lC (s:=fX) Tryz.underlying35 qQ rfl rfl aOZ (bQ aOZ aOG)) ?_
  refine ZX ?_
  refine VL.nD (s:=fX) (T:=182) (j:=1) (vc:=[i64 vQ]) (⟨aNS.name,vQ⟩:dP) (by decide) rfl rfl aOG rfl DP rfl rfl (Nat.le_of_ble_eq_true rfl) rfl (fun w10 hw10 haw10 hcw10 hvw10 hbw10 how10 => ?_)
  rw [← hvw10]
  replace hS:=dR hw10 hS
  refine Zl ?_
  refine VC.bD [3,6] (cI (ZO ?_))
  refine Zl ?_
  refine VC.shut w10 182 (fun _ _ _ _=>trivial) ?_
  cases hS
  exact VC.ret (Z4 ⟨aA.aU,aA.aS,w10,aA.aH,aA.aG,aA.aR,aA.aM,aA.aT,aA.aN,aA.aP,aA.aO,aA.aJ,aA.aD,aA.aE,aA.aK,aA.aQ,aA.aW,aA.aX,aA.bF,aA.aY,aA.time⟩ rfl)
 refine ZX ?_
 refine Zc hS (fun h45 hS => ?_) (fun h45 hS => ?_)
 ·
  refine Zr (ZX ?_)
  refine Zu (cA (vs:=[(0,str hG),(1,i64 vQ)]) (cs := #[str hG,i64 vQ]) rfl (by kernel_rfl)) ?_
  refine VL.aKL (α:=dP) (xs:=[.tmp 54]) (vs:=[.agg #[str hG,i64 vQ]]) [⟨hG,vQ⟩] Tryz.underlying35 aJe (by decide) rfl rfl rfl rfl (by decide) (by decide) (fun a1i aVL => ?_) (by decide)
  replace hS:=dR aVL hS
  obtain ⟨b56,hS⟩:=bX hS
  refine VL.nW (aGL fX a1i rU.1 b56.1 b56.2.1 b56.2.2) rfl (by decide) ?_
  intro aOi aVM
  replace hS:=dR aVM hS
  refine ZO ?_
  refine Zl ?_
  refine VC.bD [3,6] (cI (ZO ?_))
  refine Zl ?_
  refine VC.shut aOi 182 (fun _ _ _ _=>trivial) ?_
  cases hS
  exact VC.ret (Z4 ⟨aA.aU,aA.aS,aOi,aA.aH,aA.aG,aA.aR,aA.aM,aA.aT,aA.aN,aA.aP,aA.aO,aA.aJ,aA.aD,aA.aE,aA.aK,aA.aQ,aA.aW,aA.aX,aA.bF,aA.aY,aA.time⟩ rfl)
 refine Zk ?_
 refine VC.bD [3,6] (cI (ZO ?_))
 refine Zl ?_
 refine VC.shut fX 182 (fun _ _ _ _=>trivial) ?_
 cases hS
 exact VC.ret (Z4 ⟨aA.aU,aA.aS,fX,aA.aH,aA.aG,aA.aR,aA.aM,aA.aT,aA.aN,aA.aP,aA.aO,aA.aJ,aA.aD,aA.aE,aA.aK,aA.aQ,aA.aW,aA.aX,aA.bF,aA.aY,aA.time⟩ rfl)
instance aGT (aA:aL) (rA:Int) :
 jG Tryz.prog 196 [.agg (aI aA).toArray,i64 rA] (Sh.yA aA.pl rA) aA.m (X:=aL) (fun x => .agg (bB.enc x).toArray) (fun x=>x.pl) (fun x=>x.m):=by
 refine jO Tryz.func196 Tryz.ntmps196 fun r hS c => ?_
 unfold Sh.yA at hS
 refine cI ?_
 refine qC (aI aA) fun iB => ?_
 refine dG fun xF=>ZX ?_
 refine Zq (ZX ?_)
 refine VC.bD [1,2,4,13] (qD hS (fun h13 hS => ?_) (fun h13 hS => ?_))
 ·
  refine Zr (ZX ?_)
  exact HB hS (aAa (⟨aA.aU,aA.aS,aA.aZ,aA.aH,rA,aA.aR,aA.aM,aA.aT,aA.aN,aA.aP,aA.aO,aA.aJ,aA.aD,aA.aE,aA.aK,aA.aQ,aA.aW,aA.aX,aA.bF,aA.aY,aA.time⟩:aL) aA.aH rA).out fun r8 hS=>ZE hS
 refine ZX ?_
 cases hS
 exact VC.ret (Z4 ⟨aA.aU,aA.aS,aA.aZ,aA.aH,rA,aA.aR,aA.aM,aA.aT,aA.aN,aA.aP,aA.aO,aA.aJ,aA.aD,aA.aE,aA.aK,aA.aQ,aA.aW,aA.aX,aA.bF,aA.aY,aA.time⟩ rfl)
instance I8 (aA:aL) (oF:Sv aC) (nX:Sv Int) (vG:bI) :
 jG Tryz.prog 178 [.agg (aI aA).toArray,oF.val,nX.val,str vG] (Sh.wL aA.pl oF.l nX.l vG) (aA.m.and (oF.ok.and nX.ok)) (X:=aL) (fun x => .agg (bB.enc x).toArray) (fun x=>x.pl) (fun x=>x.m):=by
 refine jO Tryz.func178 Tryz.ntmps178 fun r hS c => ?_
 unfold Sh.wL at hS
 refine cI ?_
 refine qC (aI aA) fun W4 => ?_
 refine dG fun aJJ=>Zl ?_
 refine VC.wT (S:=Sv cD) (fun (ES:Sv cD)=>(ES.l.map cD.pl)) (fun (ES:Sv cD)=>[(4,ptr W4 0),(8,ptr aJJ 0)]) (fun (ES:Sv cD)=>(qB ES.l)) (fun (ES:Sv cD)=>Ow.star (bM aJJ [.slice none 0 0,.slice none 0 0,.slice none 0 0,str [],i64 0,str [],i64 0,str [],.slice none 0 0,.slice none 0 0,i64 0,str [],str [],i64 0,.slice none 0 0,.slice none 0 0,.slice none 0 0,.slice none 0 0,.slice none 0 0,.slice none 0 0,i64 0] 49) (Ow.star (bM W4 [aA.aU.val,aA.aS.val,aA.aZ.val,str aA.aH,i64 aA.aG,str aA.aR,i64 aA.aM,str aA.aT,aA.aN.val,aA.aP.val,i64 aA.aO,str aA.aJ,str aA.aD,i64 aA.aE,aA.aK.val,aA.aQ.val,aA.aW.val,ES.val,aA.bF.val,aA.aY.val,i64 aA.time] 49) (Ow.star (Sv.own ES 61) (Ow.emp)))) hS ?_ ?_
 ·
  intro k4 hS
  refine VC.GA (n:=5) (listed:=bl 13 507) [(0,true),(1,true),(3,true),(4,true),(5,true),(6,true),(7,true),(8,true)] mixed (by kernel_rfl) (by kernel_rfl) (by kernel_rfl) (by kernel_rfl) ?_
  refine VD.q rfl (bY ZY rfl) (by decide) ?_
  refine VD.q rfl (nI aDO rfl rfl) (by decide) ?_
  refine VD.q rfl (fR rfl) (by decide) ?_
  refine VD.q rfl (fR rfl) (by decide) ?_
  refine VD.q rfl (bY aE6 rfl) (by decide) ?_
  refine VD.q rfl (nI v8 rfl rfl) (by decide) ?_
  refine VD.q rfl (fR rfl) (by decide) ?_
  refine VD.q rfl (cA (vs:=[(0,oF.val),(1,nX.val),(2,i64 aA.time),(3,str vG)]) (cs := #[oF.val,nX.val,i64 aA.time,str vG]) rfl (by kernel_rfl)) (by decide) ?_
  obtain ⟨IU,aNf,hS⟩:=p9 hS
  obtain ⟨aMn,aNd,hS⟩:=dU hS
  refine VD.SY fun hcl => ?_
  refine VG.fork (l:=[2,9]) (n:=4) (by kernel_rfl) rfl fun i hi => ?_
  obtain rfl | rfl:i=2∨i=9:=by simpa using hi
  ·
   refine pX.of rfl ?_
   refine VL.nW ((qX aA.aX).out aNd) rfl (by decide) ?_
   rintro T6 rfl
   try dsimp only
   refine VL.ER (D':=[(8,.agg #[oF.val,nX.val,i64 aA.time,str vG]),(6,i64 aA.time),(5,ptr W4 20)]) (listed' := #[true,true,true,true,true,true,true,true,true,false,false,false,false]) (bR.cons rfl (cA (vs:=[(0,oF.val),(1,nX.val),(2,i64 aA.time),(3,str vG)]) (cs := #[oF.val,nX.val,i64 aA.time,str vG]) rfl (by kernel_rfl)) (bR.cons rfl (nI v8 rfl rfl) (bR.cons rfl (bY aE6 rfl) (bR.nil)))) (by kernel_rfl) (by kernel_rfl) ?_
   refine VG.ord [(9,false),(10,false),(11,true),(12,false)] (by kernel_rfl) (eF (by kernel_rfl)) (by kernel_rfl) ?_
   refine VD.one rfl ?_
   refine VL.lit (α:=cD) (xs:=[.tmp 17]) (vs:=[.agg #[oF.val,nX.val,i64 aA.time,str vG]]) [⟨oF,nX,aA.time,vG⟩] Tryz.underlying44 aDM (by decide) rfl rfl rfl rfl (by decide) (fun h m=>List.forall_mem_cons.2 ⟨dM.out (X:=(oF.ok.and nX.ok)) h m,fun _ h=>by cases h⟩) (by decide) (fun PY XY => ?_) (by decide)
   obtain rfl:IU=PY.l.map cD.pl:=aNf.symm.trans (congrArg (List.map cD.pl) XY).symm
   refine eY ?_
   refine VD.one rfl ?_
   obtain ⟨b19,hS⟩:=bX hS
   refine VL.app (s:=T6) (r:=PY) Tryz.underlying44 ZP (by decide) rfl Fo.out (ap1 (Y3 b19)) (ap2 (Y3 b19) (by decide)) (by decide) (fun aBt Z7 => ?_)
   replace hS:=dR ((congrArg (List.map cD.pl) Z7).trans List.map_append) hS
   refine VL.X7 Z7 ?_
   refine eY ?_
   refine ZX ?_
   refine VD.one rfl ?_
   refine Zv  (vc:=[aBt.val]) (cs':=[aA.aU.val,aA.aS.val,aA.aZ.val,str aA.aH,i64 aA.aG,str aA.aR,i64 aA.aM,str aA.aT,aA.aN.val,aA.aP.val,i64 aA.aO,str aA.aJ,str aA.aD,i64 aA.aE,aA.aK.val,aA.aQ.val,aA.aW.val,aBt.val,aA.bF.val,aA.aY.val,i64 aA.time]) rfl aMI ?_
   refine eY ?_
   exact ZE hS
  refine pX.of rfl ?_
  refine VL.lit (α:=cD) (xs:=[.tmp 17]) (vs:=[.agg #[oF.val,nX.val,i64 aA.time,str vG]]) [⟨oF,nX,aA.time,vG⟩] Tryz.underlying44 aDM (by decide) rfl rfl rfl rfl (by decide) (fun h m=>List.forall_mem_cons.2 ⟨dM.out (X:=(oF.ok.and nX.ok)) h m,fun _ h=>by cases h⟩) (by decide) (fun PY XY => ?_) (by decide)
  obtain rfl:IU=PY.l.map cD.pl:=aNf.symm.trans (congrArg (List.map cD.pl) XY).symm
  refine zB (bl 13 1019) (Pk 1 (Pk 0 Pz)) ?_
  refine VG.ord [(2,false),(10,false),(11,true),(12,false)] (by kernel_rfl) (eF (by kernel_rfl)) (by kernel_rfl) ?_
  refine VD.one rfl ?_
  refine VL.nW ((qX aA.aX).out aNd) rfl (by decide) ?_
  rintro T6 rfl
  try dsimp only
  refine eY ?_
  refine VD.one rfl ?_
  obtain ⟨b19,hS⟩:=bX hS
  refine VL.app (s:=T6) (r:=PY) Tryz.underlying44 ZP (by decide) rfl Fo.out (ap1 (Y3 b19)) (ap2 (Y3 b19) (by decide)) (by decide) (fun aBt Z7 => ?_)
  replace hS:=dR ((congrArg (List.map cD.pl) Z7).trans List.map_append) hS
  refine VL.X7 Z7 ?_
  refine eY ?_
  refine ZX ?_
  refine VD.one rfl ?_
  refine Zv  (vc:=[aBt.val]) (cs':=[aA.aU.val,aA.aS.val,aA.aZ.val,str aA.aH,i64 aA.aG,str aA.aR,i64 aA.aM,str aA.aT,aA.aN.val,aA.aP.val,i64 aA.aO,str aA.aJ,str aA.aD,i64 aA.aE,aA.aK.val,aA.aQ.val,aA.aW.val,aBt.val,aA.bF.val,aA.aY.val,i64 aA.time]) rfl aMI ?_
  refine eY ?_
  exact ZE hS
 rintro ES hS
 refine ZX ?_
 refine VL.shut ES 61 (fun h m=>dM.out (X:=qB ES.l) h m) ?_
 exact HB hS (aGT (⟨aA.aU,aA.aS,aA.aZ,aA.aH,aA.aG,aA.aR,aA.aM,aA.aT,aA.aN,aA.aP,aA.aO,aA.aJ,aA.aD,aA.aE,aA.aK,aA.aQ,aA.aW,ES,aA.bF,aA.aY,aA.time⟩:aL) ((ES.l.map cD.pl).length:Int)).out fun a9B hS=>ZE hS
instance aSs (aA:aL) (oF:Sv aC) (RI:bI) :
 jG Tryz.prog 100 [.agg (aI aA).toArray,oF.val,str RI] (Sh.xP aA.pl oF.l RI) (aA.m.and (oF.ok.and Gl)) (X:=aL×Er) (fun x => .tuple #[.agg (bB.enc x.1).toArray,x.2.val]) (fun x=>(x.1.pl,x.2.pl)) (fun x=>(x.1.m.and x.2.ok)):=by
 refine jO Tryz.func100 Tryz.ntmps100 fun r hS c => ?_
 unfold Sh.xP at hS
 refine cI ?_
 refine qC (aI aA) fun rX => ?_
 refine dG fun O6=>ZX ?_
 refine Zq (ZX ?_)
 refine fN hS rfl fun fX hS=>ZX ?_
 refine qD hS (fun h14 hS => ?_) (fun h14 hS => ?_)
 ·
  refine Zq ?_
  refine hU [(0,true),(1,true),(2,false),(3,false),(4,true)] ?_
  refine ZX ?_
  refine VD.one rfl (fN hS rfl fun nV hS=>eL (Pk 0 Pz) ?_)
  refine VD.one rfl (ZX ?_)
  refine eY ?_
  exact ZE hS
 refine Zk ?_
 refine VC.bD [1,2,3,6] (Zq (ZX ?_))
 refine jU hS rfl fun q7 hS=>ZX ?_
 refine iG hS (fun h20 hS => ?_) (fun h20 hS => ?_)
 ·
  refine ZX ?_
  cases hS
  exact VC.ret (Z4 (aA,(Er.no 4)) rfl)
 refine Zk ?_
 refine cI (Za ?_)
 refine Zl ?_
 refine VC.cJ [1,2,3,6] (fun (FV:Int)=>FV) (fun FV ρ=>(9,i64 FV)::ρ) hS (fun _ hS=>ZE hS) ?_
 rintro FV hS
 refine VC.wT (S:=Nat×aL) (fun sg=>((),sg.2.pl)) (fun sg=>[(6,ptr O6 0),(10,ptr sg.1 0)]) (fun sg=>sg.2.m) (fun sg=>Ow.star (bM O6 [.slice none 0 0,.slice none 0 0,.slice none 0 0,str [],i64 0,str [],i64 0,str [],.slice none 0 0,.slice none 0 0,i64 0,str [],str [],i64 0,.slice none 0 0,.slice none 0 0,.slice none 0 0,.slice none 0 0,.slice none 0 0,.slice none 0 0,i64 0] 49) (Ow.star (bM rX (aI aA) 49) (Ow.star (bM sg.1 (aI sg.2) 49) (Ow.emp)))) hS ?_ ?_
 ·
  intro k10 hS
  refine VC.GA (n:=4) (listed:=bl 9 47) [(0,true),(1,true),(2,true),(3,true),(5,true)] mixed (by kernel_rfl) (by kernel_rfl) (by kernel_rfl) (by kernel_rfl) ?_
  refine VD.q rfl (rQ qN rfl rfl) (by decide) ?_
  refine VD.q rfl (fR rfl) (by decide) ?_
  refine VD.q rfl (rQ qN rfl rfl) (by decide) ?_
  refine VD.q rfl (fR rfl) (by decide) ?_
  refine VD.q rfl (fR rfl) (by decide) ?_
  obtain ⟨aPE,aJW,hS⟩:=dU hS
  obtain ⟨aAy,PA,hS⟩:=dU hS
  refine VD.SY fun hcl => ?_
  refine VG.fork (l:=[4,7]) (n:=3) (by kernel_rfl) rfl fun i hi => ?_
  obtain rfl | rfl:i=4∨i=7:=by simpa using hi
  ·
   refine pX.of rfl ?_
   refine VL.nW ((PW aA FV).out aJW) rfl (by decide) ?_
   rintro CQ rfl
   try dsimp only
   refine zB (bl 9 63) (Pk 0 Pz) ?_
   refine VG.fork (l:=[6,7]) (n:=2) (by kernel_rfl) rfl fun i hi => ?_
   obtain rfl | rfl:i=6∨i=7:=by simpa using hi
   ·
    refine pX.of rfl ?_
    refine VL.shut CQ 3 (fun _ _ _ _=>trivial) ?_
    refine VL.jF ((I8 aA oF CQ RI).out PA) rfl (by decide) ?_
    rintro tU rfl
    try dsimp only
    refine zB (bl 9 127) Pz ?_
    refine VG.ord [(7,false),(8,false)] (by kernel_rfl) (eF (by kernel_rfl)) (by kernel_rfl) ?_
    refine VD.one rfl (dG fun O2=>eY ?_)
    refine VD.one rfl ?_
    refine Zv  (vc:=(aI tU)) (cs':=(aI tU)) rfl qR ?_
    refine eY ?_
    refine VD.mt (O2,(tU:aL)) [6,10] (fun _ _ h=>h) hS rfl
   refine pX.of rfl ?_
   refine dG fun O2 => ?_
   refine zB (bl 9 191) (Pk 0 Pz) ?_
   refine VG.ord [(6,false),(8,false)] (by kernel_rfl) (eF (by kernel_rfl)) (by kernel_rfl) ?_
   refine VD.one rfl ?_
   refine VL.shut CQ 3 (fun _ _ _ _=>trivial) ?_
   refine VL.jF ((I8 aA oF CQ RI).out PA) rfl (by decide) ?_
   rintro tU rfl
   try dsimp only
   refine eY ?_
   refine VD.one rfl ?_
   refine Zv  (vc:=(aI tU)) (cs':=(aI tU)) rfl qR ?_
   refine eY ?_
   refine VD.mt (O2,(tU:aL)) [6,10] (fun _ _ h=>h) hS rfl
  refine pX.of rfl ?_
  refine dG fun O2 => ?_
  refine zB (bl 9 175) (Pk 2 (Pk 0 Pz)) ?_
  refine VG.ord [(4,false),(6,false),(8,false)] (by kernel_rfl) (eF (by kernel_rfl)) (by kernel_rfl) ?_
  refine VD.one rfl ?_
  refine VL.nW ((PW aA FV).out aJW) rfl (by decide) ?_
  rintro CQ rfl
  try dsimp only
  refine eL (Pk 0 Pz) ?_
  refine VD.one rfl ?_
  refine VL.shut CQ 3 (fun _ _ _ _=>trivial) ?_
  refine VL.jF ((I8 aA oF CQ RI).out PA) rfl (by decide) ?_
  rintro tU rfl
  try dsimp only
  refine eY ?_
  refine VD.one rfl ?_
  refine Zv  (vc:=(aI tU)) (cs':=(aI tU)) rfl qR ?_
  refine eY ?_
  refine VD.mt (O2,(tU:aL)) [6,10] (fun _ _ h=>h) hS rfl
 rintro ⟨a60,eP⟩ hS
 refine Zq (ZX ?_)
 refine qD hS (fun h43 hS => ?_) (fun h43 hS => ?_)
 ·
  refine Zr ?_
  refine Zu (cA (vs:=[]) (cs := #[str [],i64 0,str [],.slice none 0 0,.slice none 0 0,i64 0,str [],str [],i64 0,.slice none 0 0,.slice none 0 0]) rfl (by kernel_rfl)) ?_
  refine ZX ?_
  cases hS
  exact VC.ret (Z4 (⟨eP.aU,eP.aS,eP.aZ,eP.aH,eP.aG,[],0,[],⟨none,0,[]⟩,⟨none,0,[]⟩,0,[],[],0,⟨none,0,[]⟩,⟨none,0,[]⟩,eP.aW,eP.aX,eP.bF,eP.aY,eP.time⟩,.nil) rfl)
 refine ZX ?_
 cases hS
 exact VC.ret (Z4 (eP,.nil) rfl)
instance aSo (aA:aL) (BW:bI) :
 jG Tryz.prog 50 [.agg (aI aA).toArray,str BW] (Sh.AF aA.pl BW) (aA.m.and Gl) (X:=aL×Er) (fun x => .tuple #[.agg (bB.enc x.1).toArray,x.2.val]) (fun x=>(x.1.pl,x.2.pl)) (fun x=>(x.1.m.and x.2.ok)):=by
 refine jO Tryz.func50 Tryz.ntmps50 fun r hS c => ?_
 unfold Sh.AF at hS
 refine cI ?_
 refine qC (aI aA) fun iB => ?_
 refine dG fun xF=>ZX ?_
 refine fN hS rfl fun kJ hS=>ZX ?_
 refine Zq (Zb (ZX ?_))
 refine fJ hS rfl fun EC hS=>ZX ?_
 refine VC.bD [1,2,4,6,11] (Zc hS (fun h11 hS => ?_) (fun h11 hS => ?_))
 ·
  refine ZX ?_
  cases hS
  exact VC.ret (Z4 (aA,(Er.no 9)) rfl)
 refine VC.wT (S:=Bool) (fun (U4:Bool)=>U4) (fun (U4:Bool)=>[(1,str BW),(2,ptr iB 0),(4,ptr xF 0),(6,kJ.val),(20,.bool U4)]) (fun (U4:Bool)=>Mo.tt) (fun (U4:Bool)=>Ow.star (bM xF [.slice none 0 0,.slice none 0 0,.slice none 0 0,str [],i64 0,str [],i64 0,str [],.slice none 0 0,.slice none 0 0,i64 0,str [],str [],i64 0,.slice none 0 0,.slice none 0 0,.slice none 0 0,.slice none 0 0,.slice none 0 0,.slice none 0 0,i64 0] 49) (Ow.star (bM iB (aI aA) 49) (Ow.emp))) hS ?_ ?_
 ·
  intro k6 hS
  refine Zr (Zu (bY nU rfl) (Zu (bY AV rfl) (Zu (bY ZR rfl) (Zu (nI oV rfl rfl) (Zs (Zm ?_))))))
  refine oT 26 hS (fun h26 hS => ?_) (fun h26 hS => ?_)
  ·
   refine ZX ?_
   refine VL.mt (decide (0 < (aA.aN.l.length:Int))) [1,2,4,6,20] (fun _ _ h=>h) hS rfl
  exact ZE hS
 rintro U4 hS
 refine iG hS (fun h20 hS => ?_) (fun h20 hS => ?_)
 ·
  refine ZX ?_
  cases hS
  exact VC.ret (Z4 (aA,(Er.no 7)) rfl)
 refine VC.cJ [1,2,4,6] (fun (aCW:Bool)=>aCW) (fun aCW ρ=>(36,.bool aCW)::ρ) hS ?_ ?_
 ·
  intro k8 hS
  refine Zr (Zu (bY nU rfl) (Zu (bY AV rfl) (Zu (bY ZR rfl) (Zu (nI oV rfl rfl) (Zu (KF rfl rfl) (Zm ?_))))))
  refine S5 42 hS (fun h42 hS => ?_) (fun h42 hS => ?_)
  ·
   refine ZX ?_
   refine VL.guard rfl rfl ?_
   refine fN hS rfl fun aFL hS => ?_
   obtain ⟨aPL,aTx,hS⟩:=dU hS
   refine Zh (eT ((z6 kJ aFL).out aTx) rfl (fun _ _=>rfl)) ?_
   exact ZE hS
  exact ZE hS
 rintro aCW hS
 refine iG hS (fun h36 hS => ?_) (fun h36 hS => ?_)
 ·
  refine ZX ?_
  cases hS
  exact VC.ret (Z4 (aA,(Er.no 10)) rfl)
 exact ZE hS
instance a0c (dO:Sv aC) :
 jG Tryz.prog 195 [dO.val] (Sh.BG dO.l) dO.ok (X:=Sv IndexEntry) (fun x=>x.val) (fun x=>x.l) (fun x=>x.ok):=by
 refine jO Tryz.func195 Tryz.ntmps195 fun r hS c => ?_
 unfold Sh.BG at hS
 refine ZX ?_
 refine Zq (ZX ?_)
 refine Zb ?_
 refine VC.lU (⟨none,0,[]⟩:Sv IndexEntry) 121 ⟨rfl,rfl⟩ ?_
 refine VC.iter (S:=Sv IndexEntry×Int) (fun sg=>(sg.1.l,sg.2)) (fun sg=>[(3,sg.1.val),(6,dO.val),(7,i64 (dO.l.length:Int)),(8,i64 sg.2)]) (fun sg=>Mo.tt) (fun sg=>Ow.star (Sv.own sg.1 121) (Ow.emp)) (⟨none,0,[]⟩,0) [3,6,7,8] hS rfl ?_
 rintro ⟨oC,yL⟩ m1 y1 hS hK1
 refine ZX ?_
 refine Zq (Zc hS (fun h9 hS => ?_) (fun h9 hS => ?_))
 ·
  refine Zk ?_
  refine Zq (Zb (cI ?_))
  obtain ⟨vI,NL,I3,hS⟩:=gQ hS
  refine Zu (jY (s:=dO) Tryz.underlying33 j9 rfl rfl NL (bQ NL I3)) (Zu (sR  (s:=dO) z7 rfl rfl I3) ?_)
  refine dG fun aTW=>ZX ?_
  refine Zr (ZX ?_)
  refine Zu (cA (vs:=[(0,str vI.path),(2,i64 vI.mode),(3,str vI.data)]) (cs := #[str vI.path,i64 0,i64 vI.mode,str vI.data,i64 0,i64 0]) rfl (by kernel_rfl)) ?_
  exact ZE hS
 replace hS:=lQ hS hK1
 refine Zx ?_
 refine ZX ?_
 refine VL.shut oC 121 (fun _ _ _ _=>trivial) ?_
 exact ZE hS
instance aWu (aA:aL) :
 gS Tryz.prog 180 [.agg (aI aA).toArray] (Sh.oD aA.pl) aA.m (fun r => .bool r):=by
 refine gU Tryz.func180 Tryz.ntmps180 fun r hS c => ?_
 unfold Sh.oD at hS
 refine cI ?_
 refine qC (aI aA) fun iS => ?_
 refine ZX ?_
 refine Zq ?_
 refine hU [(0,true),(1,true),(2,true),(3,true),(4,false),(5,false),(6,true),(7,true)] ?_
 refine ZX ?_
 refine VD.one rfl (fN hS rfl fun yO hS=>eL (Pk 2 (Pk 1 (Pk 0 Pz))) ?_)
 refine VD.one rfl (fN hS rfl fun GR hS=>eL (Pk 2 (Pk 1 (Pk 0 Pz))) ?_)
 obtain ⟨XH,a5P,hS⟩:=dU hS
 refine Zw rfl (eT ((aEk aA.aS GR).out a5P) rfl (fun _ _=>rfl)) ?_
 exact ZE hS
instance a1Z (aA:aL) (GN:Int) :
 jG Tryz.prog 183 [.agg (aI aA).toArray,i64 GN] (Sh.pT aA.pl GN) aA.m (X:=cD×Bool) (fun x => .tuple #[.agg (bB.enc x.1).toArray,.bool x.2]) (fun x=>(x.1.pl,x.2)) (fun x=>x.1.m):=by
 refine jO Tryz.func183 Tryz.ntmps183 fun r hS c => ?_
 unfold Sh.pT at hS
 refine cI ?_
 refine qC (aI aA) fun iB => ?_
 refine dG fun xF=>ZX ?_
 refine Zq ?_
 refine VC.cJ [1,2,4] (fun (aCD:Bool)=>aCD) (fun aCD ρ=>(14,.bool aCD)::ρ) hS ?_ ?_
 ·
  intro k4 hS
  refine Zr (Zm (Zu (qU rfl rfl) (Zm ?_)))
  refine oT 8 hS (fun _ hS=>ZE hS) fun h8 hS => ?_
  refine ZX ?_
  refine VL.mt (decide (((aA.aX.l.map cD.pl).length:Int) < GN)) [14,1,2,4] (fun _ _ h=>h) hS rfl
 rintro aCD hS
 refine iG hS (fun h14 hS => ?_) (fun h14 hS => ?_)
 ·
  refine cI ?_
  refine Zu (cA (vs:=[]) (cs := #[.slice none 0 0,.slice none 0 0,i64 0,str []]) rfl (by kernel_rfl)) ?_
  refine ZX ?_
  cases hS
  exact VC.ret (Z4 (⟨⟨none,0,[]⟩,⟨none,0,[]⟩,0,[]⟩,false) rfl)
 obtain ⟨b19,hS⟩:=bX hS
 refine ZX ?_
 obtain ⟨OV,aOQ,aHb,hS⟩:=DT hS
 refine VL.deep OV.m aHb (fun _ q=>q) ?_
 refine Zu (jY (s:=aA.aX) Tryz.underlying44 XX rfl rfl aOQ (bQ aOQ aHb)) (Zu (sR  (s:=aA.aX) aDL rfl rfl aHb) ?_)
 refine ZX ?_
 cases hS
 exact VC.ret (Z4 (⟨OV.tree,OV.parents,OV.time,OV.text⟩,true) rfl)
instance A6 (aA:aL) (GN:Int) :
 jG Tryz.prog 185 [.agg (aI aA).toArray,i64 GN] (Sh.u9 aA.pl GN) aA.m (X:=Sv aC) (fun x=>x.val) (fun x=>x.l) (fun x=>x.ok):=by
 refine jO Tryz.func185 Tryz.ntmps185 fun r hS c => ?_
 unfold Sh.u9 at hS
 refine cI ?_
 refine qC (aI aA) fun iB => ?_
 refine ZX ?_
 refine fN hS rfl fun ⟨JU,aKj⟩ hS => ?_
 try dsimp only
 refine ZX ?_
 refine dG fun Y5=>ZO ?_
 refine Zl ?_
 refine VC.bD [2,5] (Zq (ZX ?_))
 refine Zc hS (fun h16 hS => ?_) (fun h16 hS => ?_)
 ·
  refine ZX ?_
  cases hS
  exact VC.ret (Z1 ⟨none,0,[]⟩)
 refine Zk ?_
 refine Zq ?_
 refine hU [(0,true),(1,true),(2,true),(3,true),(4,true),(5,false),(6,true)] ?_
 refine ZX ?_
 refine aCk hS rfl fun aYP a9y hS => ?_
 refine ZX ?_
 refine VD.one rfl (fN hS rfl fun a8w hS=>eY ?_)
 exact ZE hS
theorem yT (n:Int) (b:Go.S.bP n):Ct Tryz.prog 186 [i64 n] Gl Ow.emp (X:=Unit) (fun _=>str (Go.S.sO n)) (fun _=>True) (fun _=>Mo.tt) (fun _=>Ow.emp) :=
  Ct.aHu (vU Tryz.func186 rfl (by kernel_rfl)) fun w h m l=>(Tryz.strconv_Itoa n b.1 b.2 w (O1.var (by kernel_rfl) (dM.out (X:=O1 4 _) h m) l)).mono fun e w' ⟨h1,k,os,h2⟩=>⟨by rw [h1,aRF b],h2▸Gr.grown w k os⟩
instance aYi (dO:Sv aC) (p_1:bI) :
 gS Tryz.prog 330 [dO.val,str p_1] (Sh.AM dO.l p_1) dO.ok (fun r => .agg #[str r.bU,i64 r.cK,str r.bS,.bool r.is]):=by
 refine gU Tryz.func330 Tryz.ntmps330 fun r hS c => ?_
 unfold Sh.AM at hS
 refine cI (dG fun W4=>ZX ?_)
 refine jU hS rfl fun jM hS=>ZX ?_
 refine dG fun Y5=>ZO ?_
 refine Zl ?_
 refine VC.bD [4,5,6] (ZX ?_)
 refine Zu (cA (vs:=[(0,.agg #[str jM.1.path,i64 jM.1.mode,str jM.1.data]),(1,.bool jM.2)]) (cs := #[str jM.1.path,i64 jM.1.mode,str jM.1.data,.bool jM.2]) rfl (by kernel_rfl)) ?_
 exact ZE hS
instance SJ (eV:lB) (dL:lB) (cV:lB) :
 gS Tryz.prog 344 [.agg #[str eV.bU,i64 eV.cK,str eV.bS,.bool eV.is],.agg #[str dL.bU,i64 dL.cK,str dL.bS,.bool dL.is],.agg #[str cV.bU,i64 cV.cK,str cV.bS,.bool cV.is]] (Sh.AL eV dL cV) Mo.tt (fun r=>i64 r):=by
 refine gU Tryz.func344 Tryz.ntmps344 fun r hS c => ?_
 unfold Sh.AL at hS
 refine cI (kF fun rX=>kF fun xF=>kF fun Y5=>ZX ?_)
 refine Zq ?_
 exact VC.cJ [4,5] (fun (s7:Bool)=>s7) (fun s7 ρ=>(17,.bool s7)::ρ) hS (fun _ hS=>ZE hS) fun _ hS=>ZE hS
instance aAg (aA:Sv bI) :
 jG Tryz.prog 33 [aA.val] (Sh.jD aA.l) aA.ok (X:=Sv bI) (fun x=>x.val) (fun x=>x.l) (fun x=>x.ok):=by
 refine jO Tryz.func33 Tryz.ntmps33 fun r hS c => ?_
 unfold Sh.jD at hS
 obtain ⟨b8,hS⟩:=bX hS
 refine ZX ?_
 refine VL.SH Tryz.underlying45 wU rfl rfl rfl b8.1 (b8.2) (by decide) fun NW rP => ?_
 replace hS:=dR rP hS
 exact ZE hS
instance aSi (aA:bI) :
 uL Tryz.prog 353 [str aA] (Sh.uZ aA) Mo.tt (Ow.emp) (X:=Sv bI) (fun x=>x.val) (fun x=>x.l) (fun x=>Mo.tt) (fun x=>Sv.own x 9):=by
 refine uV Tryz.func353 Tryz.ntmps353 fun r hS c => ?_
 unfold Sh.uZ at hS
 refine ZX ?_
 refine Zq (Zb ?_)
 refine VC.lU (⟨none,0,[]⟩:Sv bI) 9 ⟨rfl,rfl⟩ ?_
 refine VC.iter (S:=bI×Sv bI) (fun sg=>(sg.1,sg.2.l)) (fun sg=>[(0,str sg.1),(3,sg.2.val)]) (fun sg=>Mo.tt) (fun sg=>Ow.star (Sv.own sg.2 9) (Ow.emp)) (aA,⟨none,0,[]⟩) [0,3] hS rfl ?_
 rintro ⟨qA,EK⟩ m1 y1 hS hK1
 refine Zq (ZX ?_)
 refine qD hS (fun h6 hS => ?_) (fun h6 hS => ?_)
 ·
  refine Zk ?_
  refine Zb (ZX ?_)
  refine jU hS rfl fun C8 hS=>Za ?_
  refine Zl ?_
  refine VC.cJ [0,3] (fun (DQ:Int)=>DQ) (fun DQ ρ=>(4,i64 DQ)::ρ) hS ?_ ?_
  ·
   intro k5 hS
   refine ZX ?_
   refine Zc hS (fun h10 hS => ?_) (fun h10 hS => ?_)
   ·
    obtain ⟨b13,hS⟩:=bX hS
    refine Zr (ZX ?_)
    refine VL.mt ((qA.length:Int) - 1) [4,0,3] (fun _ _ h=>h) hS rfl
   exact ZE hS
  rintro DQ hS
  obtain ⟨b17,hS⟩:=bX hS
  obtain ⟨b18,hS⟩:=bX hS
  refine ZX ?_
  obtain ⟨MV,aZX,hS⟩:=p9 hS
  refine Zu (NU Tryz.underlying9 rfl rfl b18.1 b18.2 aZX) ?_
  refine tE hS fun aBt hS=>XJ hS fun a6M hS => ?_
  obtain ⟨b23,hS⟩:=bX hS
  obtain ⟨b24,hS⟩:=bX hS
  refine ZX ?_
  refine Zr (ZX ?_)
  obtain ⟨aAs,aTj,hS⟩:=p9 hS
  refine Zu (F0 Tryz.underlying9 rfl rfl b24.1 b24.2 aTj) (Za ?_)
  refine VL.PX (aAs,a6M) [0,3] (fun _ _ h=>h) (go2 hS hK1) rfl
 exact ZE hS
instance xG (YC:Nat) (AK:r9) (i_1:Int) (TU:Int) :
 gS Tryz.prog 387 [ptr YC 0,i64 i_1,i64 TU] (Sh.nE AK.pl i_1 TU) (AK.m.and (Cells YC 0 [AK.a.val,AK.b.val,AK.n.val])) (fun r=>i64 r):=by
 refine gU Tryz.func387 Tryz.ntmps387 fun r hS c => ?_
 unfold Sh.nE at hS
 refine ZX ?_
 refine Zq ?_
 refine hU ((List.range 17).map fun k=>(k,true)) ?_
 refine ZX ?_
 refine Zw rfl (ED VP rfl rfl) ?_
 refine ZX ?_
 refine Zw rfl (ED qO rfl rfl) ?_
 exact ZE hS
end Go.Proofs.YtaohfeokfcdojaaGreatDoor
end
