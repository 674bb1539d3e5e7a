/- Part of the proofs of: a plan's folder, laid down by the journal, is on the disk as planned, and outlasts the power (any two trees, any keep) -/
import Derived.Test.YtedhnpjkoeblnaaGreatDoorLF
set_option linter.unusedVariables false
set_option linter.unusedSimpArgs false
set_option linter.unusedSectionVars false
section
set_option linter.unusedVariables false
namespace Go.Proofs.YtedhnpjkoeblnaaGreatDoor
set_option maxHeartbeats 4000000
set_option maxRecDepth 100000
set_option synthInstance.maxSize 2000
set_option synthInstance.maxHeartbeats 1000000
open Go.RowKit Go.V
open Go.S hiding aK
theorem LM (mY:aK) {r:Int} (hS:Sh.vO mY=some r) :
 Cp Tryz.prog 83 [str mY] Mo.tt (i64 r):=by
 refine Zo Tryz.func83 Tryz.ntmps83 fun c => ?_
 unfold Sh.vO at hS
 refine Zq (Zr (Zy ?_))
 refine Zq ?_
 refine VC.gN (S:=Bool) (fun (B5:Bool)=>B5) (fun (B5:Bool)=>[(10,.bool B5)]) (fun (B5:Bool)=>Mo.tt) (fun (B5:Bool)=>Ow.emp) hS ?_ ?_
 ·
  clear hS
  intro k2 hS
  refine Zr (Zm ?_)
  obtain ⟨a4k,a5C,hS⟩:=aO hS
  refine Zu (cH (xV mY a5C) rfl (fun _ _=>rfl)) ?_
  refine Zu (lF rfl rfl) (Zm ?_)
  refine MW 6 hS (fun h6 hS => ?_) (fun h6 hS => ?_)
  ·
   refine VL.runs 4 [(10,some true)] (by kernel_rfl) ?_
   refine VL.mt true [10] (fun _ _ h=>h) hS rfl
  refine Zg ?_
  refine Zh (pN Tryz.underlying9 rfl) ?_
  refine Zh (lE rfl rfl) ?_
  refine Zf ?_
  refine VL.mt (decide (16 < (mY.length:Int))) [10] (fun _ _ h=>h) hS rfl
 clear hS
 rintro B5 hS
 refine gR hS (fun h10 hS => ?_) (fun h10 hS => ?_)
 ·
  refine Zq ?_
  cases hS
 refine Zk ?_
 refine Zq (Zr (Zy ?_))
 cases hS
 exact Ze
theorem aAN (mY:aK) (eC:cO) {r:Int} (hS:Sh.zR mY eC.pl=some r) :
 Cp Tryz.prog 84 [str mY,.agg #[str eC.path,.bool eC.gone,i64 eC.mode,eC.data.val]] eC.data.ok (i64 r):=by
 refine Zo Tryz.func84 Tryz.ntmps84 fun c => ?_
 unfold Sh.zR at hS
 refine Zq (Zr ?_)
 refine kQ [str eC.path,.bool eC.gone,i64 eC.mode,eC.data.val] fun jC => ?_
 refine Zy ?_
 refine Zq (Zq (Zr (Zu (aB F0 rfl) (Zu (aL cQ rfl rfl) ?_))))
 obtain ⟨lR,y9,hS⟩:=aO hS
 refine Zu (cH (xV eC.path y9) rfl (fun _ _=>rfl)) ?_
 refine Zy ?_
 refine Zb (Zq (Zr (Zm (Zu (lF rfl rfl) (Zy ?_)))))
 refine VC.keep (ρ':=[(0,str mY),(3,ptr jC 0),(5,i64 lR),(9,.bool (!decide (lR=0)))]) [0,3,5,9] rfl ?_
 refine o3 hS (fun h9 hS => ?_) (fun h9 hS => ?_)
 ·
  refine Zq ?_
  cases hS
 refine VC.gN (S:=Bool) (fun (WQ:Bool)=>WQ) (fun (WQ:Bool)=>[(13,.bool WQ)]) (fun (WQ:Bool)=>Mo.tt) (fun (WQ:Bool)=>Ow.star (bE jC [str eC.path,.bool eC.gone,i64 eC.mode,eC.data.val] 52) (Ow.emp)) hS ?_ ?_
 ·
  clear hS
  intro k4 hS
  refine Zr (Zu (aB F0 rfl) (Zu (aL cQ rfl rfl) (Zy ?_)))
  refine o4 18 hS (fun h18 hS => ?_) (fun h18 hS => ?_)
  ·
   refine VL.runs 6 [(13,some true)] (by kernel_rfl) ?_
   refine VL.mt true [13] (fun _ _ h=>h) hS rfl
  refine Zh (aB F0 rfl) ?_
  refine Zh (aL cQ rfl rfl) ?_
  refine Zg ?_
  obtain ⟨HN,aJ2,hS⟩:=aO hS
  refine Zh (cH (rQ eC.path mY aJ2) rfl (fun _ _=>rfl)) ?_
  refine Zy ?_
  refine VL.mt HN [13] (fun _ _ h=>h) hS rfl
 clear hS
 rintro WQ hS
 refine gR hS (fun h13 hS => ?_) (fun h13 hS => ?_)
 ·
  refine Zq ?_
  cases hS
 refine Zk ?_
 refine Zq (Zr (Zy ?_))
 cases hS
 exact Ze
theorem aDO (cC:cO) {r:Int} (hS:Sh.DH cC.pl=some r) :
 Cp Tryz.prog 85 [.agg #[str cC.path,.bool cC.gone,i64 cC.mode,cC.data.val]] cC.data.ok (i64 r):=by
 refine Zo Tryz.func85 Tryz.ntmps85 fun c => ?_
 unfold Sh.DH at hS
 refine Zq (Zr ?_)
 refine kQ [str cC.path,.bool cC.gone,i64 cC.mode,cC.data.val] fun jN => ?_
 refine Zy ?_
 refine Zq (Zq (Zr (Zu (aB aL3 rfl) (Zu (aL fL rfl rfl) ?_))))
 refine Zl ?_
 refine Zb ?_
 refine VC.gN (S:=Unit) (fun (_:Unit)=>()) (fun (_:Unit)=>[(1,ptr jN 0)]) (fun (_:Unit)=>Mo.tt) (fun (_:Unit)=>Ow.star (bE jN [str cC.path,.bool cC.gone,i64 cC.mode,cC.data.val] 52) (Ow.emp)) hS ?_ ?_
 ·
  clear hS
  intro k2 hS
  refine Zb (Zb (Zq (Zq (Zq (Zr (Zu (iI rfl rfl) (Zy ?_)))))))
  refine Zc hS (fun h5 hS => ?_) (fun h5 hS => ?_)
  ·
   refine VC.fM () [1] (fun _ _ h=>h) hS rfl
  refine Zk ?_
  refine Zq (Zr (Zu (iI rfl rfl) (Zy ?_)))
  refine Zc hS (fun h7 hS => ?_) (fun h7 hS => ?_)
  ·
   refine VC.fM () [1] (fun _ _ h=>h) hS rfl
  refine Zk ?_
  refine Zx ?_
  refine Zq ?_
  cases hS
 clear hS
 rintro _ hS
 refine Zq (Zq (Zq (Zr (Zu (aB aL4 rfl) (Zu (aL qR rfl rfl) (Zu (eB (s:=cC.data) Tryz.underlying35 rfl) (Zu (lE rfl rfl) ?_)))))))
 refine Zl ?_
 refine Zc hS (fun h12 hS => ?_) (fun h12 hS => ?_)
 ·
  refine Zq ?_
  cases hS
 refine Zk ?_
 refine Zq (Zr (Zy ?_))
 cases hS
 exact Ze
theorem aBn (mY:aK) (l_1:Sv cO) {r:Int} (hS:Sh.BP mY (l_1.l.map cO.pl)=some r) :
 Cp Tryz.prog 43 [str mY,l_1.val] l_1.ok (i64 r):=by
 refine Zo Tryz.func43 Tryz.ntmps43 fun c => ?_
 unfold Sh.BP at hS
 refine Zq (Zr (Zy ?_))
 refine Zq (Zq (Zr (Zm ?_)))
 obtain ⟨iW,CE,hS⟩:=aO hS
 refine Zu (cH (LM mY CE) rfl (fun _ _=>rfl)) ?_
 refine Zy ?_
 refine Zq (Zr (Zm (Zu (lF rfl rfl) ?_)))
 refine Zl ?_
 refine o3 hS (fun h13 hS => ?_) (fun h13 hS => ?_)
 ·
  refine Zq ?_
  cases hS
 refine Zk ?_
 refine Zq (Zr ?_)
 refine VL.aQ3 (β:=Bool) (k:=9) (by decide) fun EL => ?_
 refine Zy ?_
 refine Zq (Zq (Zr (Zm (Zu (qN cO.pl (s:=l_1) Tryz.underlying44 rfl) (Zy ?_)))))
 refine VC.keep (ρ':=[(0,str mY),(6,.map (some EL)),(16,l_1.val),(17,i64 ((l_1.l.map cO.pl).length:Int)),(18,i64 0)]) [0,6,16,17,18] rfl ?_
 refine Zb ?_
 refine VC.iter (S:=(List (aK×Option Bool))×Int) (fun sg=>(sg.1,sg.2)) (fun sg=>[(0,str mY),(6,.map (some EL)),(16,l_1.val),(17,i64 ((l_1.l.map cO.pl).length:Int)),(18,i64 sg.2)]) (fun sg=>(jX sg.1)) (fun sg=>Ow.star (eP Tryz.prog 9 EL sg.1) (Ow.emp)) ([],0) [0,6,16,17,18] hS rfl ?_
 clear hS
 rintro ⟨DR,rD⟩ m1 y1 hS hK1
 refine Zq (Zr (Zu (dW rfl rfl) ?_))
 refine Zl ?_
 refine Zq ?_
 refine Zc hS (fun h19 hS => ?_) (fun h19 hS => ?_)
 ·
  refine Zk ?_
  refine Zq (Zb (Zq (Zr (Zm ?_))))
  obtain ⟨oD,aQk,aJy,hS⟩:=EB hS
  refine VL.deep oD.m aJy (fun _ q=>q) ?_
  refine Zu (eZ (s:=l_1) Tryz.underlying44 OC rfl rfl aQk (bH aQk aJy)) (Zu (nX (s:=l_1) R5 rfl rfl aJy) ?_)
  refine gV [str [],.bool false,i64 0,.slice none 0 0] fun YW => ?_
  refine Za ?_
  refine Zv (cs':=[str oD.path,.bool oD.gone,i64 oD.mode,oD.data.val]) rfl OC ?_
  refine Zl ?_
  refine Zq (Zr (Zm (Zu (cJ R5 rfl rfl) ?_)))
  obtain ⟨JP,aBP,hS⟩:=aO hS
  refine Zu (cH (aAN mY oD aBP) rfl (fun _ _=>rfl)) ?_
  refine Zy ?_
  refine VC.keep (ρ':=[(0,str mY),(6,.map (some EL)),(16,l_1.val),(17,i64 ((l_1.l.map cO.pl).length:Int)),(18,i64 rD),(8,ptr YW 0),(7,i64 rD),(9,i64 JP)]) [0,6,16,17,18,8,7,9] rfl ?_
  refine Zq ?_
  refine VC.gN (S:=Bool) (fun (W4:Bool)=>W4) (fun (W4:Bool)=>[(0,str mY),(6,.map (some EL)),(7,i64 rD),(8,ptr YW 0),(9,i64 JP),(16,l_1.val),(17,i64 ((l_1.l.map cO.pl).length:Int)),(18,i64 rD),(33,.bool W4)]) (fun (W4:Bool)=>Mo.tt) (fun (W4:Bool)=>Ow.star (bE YW [str oD.path,.bool oD.gone,i64 oD.mode,oD.data.val] 52) (Ow.star (eP Tryz.prog 9 EL DR) (Ow.emp))) hS ?_ ?_
  ·
   clear hS
   intro k9 hS
   refine Zr (Zm (Zu (iI rfl rfl) (Zm ?_)))
   refine o4 28 hS (fun h28 hS => ?_) (fun h28 hS => ?_)
   ·
    refine Zg ?_
    refine Zh (aB F0 rfl) ?_
    refine Zh (aL cQ rfl rfl) ?_
    obtain ⟨b32,hS⟩:=bU hS
    obtain ⟨aEm,a2E,aX3,hS⟩:=a7B hS
    refine Zh (aUG (b:=EL) (l:=DR) (a0:=oD.path) (v := .bool aEm) false (Maps.string_keyed Tryz.underlying9) Tryz.underlying157 a6x rfl rfl (NB Tryz.underlying9 b32) aX3 rfl) ?_
    refine Zt ?_
    refine VL.mt aEm [0,6,7,8,9,16,17,18,33] (fun _ _ h=>h) hS rfl
   refine VL.runs 5 [(33,some false)] (by kernel_rfl) ?_
   refine VL.mt false [0,6,7,8,9,16,17,18,33] (fun _ _ h=>h) hS rfl
  clear hS
  rintro W4 hS
  refine gR hS (fun h33 hS => ?_) (fun h33 hS => ?_)
  ·
   cases hS
  refine Zk ?_
  refine VC.gN (S:=Int) (fun (OA:Int)=>OA) (fun (OA:Int)=>[(0,str mY),(6,.map (some EL)),(7,i64 rD),(8,ptr YW 0),(9,i64 OA),(16,l_1.val),(17,i64 ((l_1.l.map cO.pl).length:Int)),(18,i64 rD)]) (fun (OA:Int)=>Mo.tt) (fun (OA:Int)=>Ow.star (bE YW [str oD.path,.bool oD.gone,i64 oD.mode,oD.data.val] 52) (Ow.star (eP Tryz.prog 9 EL DR) (Ow.emp))) hS ?_ ?_
  ·
   clear hS
   intro k12 hS
   refine VC.gN (S:=Bool) (fun (NV:Bool)=>NV) (fun (NV:Bool)=>[(0,str mY),(6,.map (some EL)),(7,i64 rD),(8,ptr YW 0),(9,i64 JP),(16,l_1.val),(17,i64 ((l_1.l.map cO.pl).length:Int)),(18,i64 rD),(40,.bool NV)]) (fun (NV:Bool)=>Mo.tt) (fun (NV:Bool)=>Ow.star (bE YW [str oD.path,.bool oD.gone,i64 oD.mode,oD.data.val] 52) (Ow.star (eP Tryz.prog 9 EL DR) (Ow.emp))) hS ?_ ?_
   ·
    clear hS
    intro k14 hS
    refine Zr (Zm (Zu (iI rfl rfl) (Zm ?_)))
    refine o4 36 hS (fun h36 hS => ?_) (fun h36 hS => ?_)
    ·
     refine Zh (aB UQ rfl) ?_
     refine Zh (aL lK rfl rfl) ?_
     refine Zh (jE rfl) ?_
     refine Zt ?_
     refine VL.mt (!oD.gone) [0,6,7,8,9,16,17,18,40] (fun _ _ h=>h) hS rfl
    refine VL.runs 4 [(40,some false)] (by kernel_rfl) ?_
    refine VL.mt false [0,6,7,8,9,16,17,18,40] (fun _ _ h=>h) hS rfl
   clear hS
   rintro NV hS
   refine gR hS (fun h40 hS => ?_) (fun h40 hS => ?_)
   ·
    refine Zr (Zu (cJ R5 rfl rfl) ?_)
    obtain ⟨aKh,aVP,hS⟩:=aO hS
    refine Zu (cH (aDO oD aVP) rfl (fun _ _=>rfl)) ?_
    refine Za ?_
    refine VL.mt aKh [0,6,7,8,9,16,17,18] (fun _ _ h=>h) hS rfl
   refine VC.iV JP [0,6,7,8,9,16,17,18] (fun _ _ h=>h) hS rfl
  clear hS
  rintro OA hS
  refine Zq ?_
  refine VC.gN (S:=Bool) (fun (N0:Bool)=>N0) (fun (N0:Bool)=>[(0,str mY),(6,.map (some EL)),(8,ptr YW 0),(9,i64 OA),(16,l_1.val),(17,i64 ((l_1.l.map cO.pl).length:Int)),(18,i64 rD),(48,.bool N0)]) (fun (N0:Bool)=>Mo.tt) (fun (N0:Bool)=>Ow.star (bE YW [str oD.path,.bool oD.gone,i64 oD.mode,oD.data.val] 52) (Ow.star (eP Tryz.prog 9 EL DR) (Ow.emp))) hS ?_ ?_
  ·
   clear hS
   intro k17 hS
   refine Zr (Zm (Zu (iI rfl rfl) (Zm ?_)))
   refine o4 45 hS (fun h45 hS => ?_) (fun h45 hS => ?_)
   ·
    refine Zg ?_
    refine Zh (vC rfl rfl) ?_
    refine Zt ?_
    refine VL.mt (decide (256≤rD)) [0,6,8,9,16,17,18,48] (fun _ _ h=>h) hS rfl
   refine VL.runs 3 [(48,some false)] (by kernel_rfl) ?_
   refine VL.mt false [0,6,8,9,16,17,18,48] (fun _ _ h=>h) hS rfl
  clear hS
  rintro N0 hS
  refine gR hS (fun h48 hS => ?_) (fun h48 hS => ?_)
  ·
   cases hS
  refine Zk ?_
  refine Zq (Zq (Zr (Zm (Zu (lF rfl rfl) ?_))))
  refine Zl ?_
  refine o3 hS (fun h50 hS => ?_) (fun h50 hS => ?_)
  ·
   refine Zq ?_
   cases hS
  refine Zk ?_
  refine Zr (Zm (Zu (aB F0 rfl) (Zu (aL cQ rfl rfl) ?_)))
  obtain ⟨bs3,hS⟩:=bU hS
  refine VL.aDh (b:=EL) (l:=DR) (a0:=oD.path) (y0:=true) (.inl rfl) (Maps.string_keyed Tryz.underlying9) Tryz.underlying157 Fo.out rfl rfl rfl (NB Tryz.underlying9 bs3.2) bs3.1 (fun _ _=>trivial) fun a2N aWi => ?_
  replace hS:=bW aWi hS
  refine Zl ?_
  refine VC.keep (ρ':=[(0,str mY),(6,.map (some EL)),(16,l_1.val),(17,i64 ((l_1.l.map cO.pl).length:Int)),(18,i64 rD)]) [0,6,16,17,18] rfl ?_
  refine Zr ?_
  obtain ⟨b55,hS⟩:=bU hS
  refine Zu (cR rfl rfl b55) (Zm ?_)
  refine VL.jU (a2N,(rD+1)) [0,6,16,17,18] (fun _ _ h=>h) (go2 hS hK1) rfl
 replace hS:=iJ hS hK1
 refine Zx ?_
 refine Zq (Zr (Zy ?_))
 cases hS
 exact Ze
theorem NO (bV:Nat) (aD:eL) {r:List aK×Int} (hS:Sh.x9 aD.pl=some r) :
 Ct Tryz.prog 86 [ptr bV 0] ((jX aD.kept.l).and ((jX aD.files.l).and ((mH aD.pending.l).and aD.keep.ok))) (Ow.star (eP Tryz.prog 9 aD.kept.b aD.kept.l) (Ow.star (eP Tryz.prog 9 aD.files.b aD.files.l) (Ow.star (Sv.own aD.pending 98) (bE bV [.map (some aD.kept.b),.map (some aD.files.b),aD.pending.val,i64 aD.cK,i64 aD.now,i64 aD.bX,i64 aD.ops,.bool aD.off,.bool aD.cS,i64 aD.left,aD.keep.val] 93)))) (X:=Sv aK×Int) (fun x => .tuple #[x.1.val,i64 x.2]) (fun x=>r=(x.1.l,x.2)) (fun x=>Mo.tt) (fun x=>Ow.star (Sv.own x.1 9) (Ow.star (bE bV [.map (some aD.kept.b),.map (some aD.files.b),aD.pending.val,i64 aD.cK,i64 aD.now,i64 aD.bX,i64 aD.ops,.bool aD.off,.bool aD.cS,i64 aD.left,aD.keep.val] 93) (Ow.star (eP Tryz.prog 9 aD.kept.b aD.kept.l) (Ow.star (eP Tryz.prog 9 aD.files.b aD.files.l) (Sv.own aD.pending 98))))):=by
 refine Zo Tryz.func86 Tryz.ntmps86 fun c => ?_
 unfold Sh.x9 at hS
 refine Zq (Zr (Zy ?_))
 refine Zq (Zq (Zr (Zm (Zu (aF rfl) (Zu (aB II rfl) (Zu (aL lK rfl rfl) ?_))))))
 refine Zl ?_
 refine gR hS (fun h7 hS => ?_) (fun h7 hS => ?_)
 ·
  refine Zq ?_
  cases hS
 refine Zk ?_
 refine Zq (Zr (Zm (Zu (aF rfl) (Zu (aB tT rfl) (Zu (aL zD rfl rfl) ?_)))))
 refine VL.bL (Ct.mapKeys (b:=aD.files.b) (AB Tryz.func136 rfl (by kernel_rfl)) Tryz.aH9) rfl (by decide) ?_
 intro B12_1 _
 try dsimp only
 obtain ⟨b13,hS⟩:=bU hS
 refine VL.bL (Ct.aUM (it:=188) (T:=90) (b:=aD.files.b) (B:=B12_1) (l:=aD.files.l) (AB Tryz.func79 rfl (by kernel_rfl)) Tryz.underlying9 (fun D0 nn W h1 h2 h3 h4 h5=>Tryz.sortedKeys_79_136 B12_1 aD.files.b nn D0 _ W h1 h2 h3 h4 h5) (aXg b13)) rfl (by decide) ?_
 intro a5x a11
 try dsimp only
 replace hS:=bW (a11.trans (aMW _ _).symm) hS
 obtain ⟨aAe,aJU,hS⟩:=aO hS
 refine VL.bL (lZ a5x aJU) rfl (by decide) ?_
 rintro aMw rfl
 try dsimp only
 refine Zy ?_
 refine VC.keep (ρ':=[(2,aMw.val),(3,i64 0)]) [2,3] rfl ?_
 cases hS
 exact VC.ret (Z2 (aMw,0))
theorem M9 (zT:aK) (jA:Nat) (a_1:aK) {r:Bool} (hS:Sh.rP zT a_1=some r) :
 Cp Tryz.prog 142 [str zT,ptr jA 0] (Cells jA 0 [str a_1]) (.bool r):=by
 refine Zo Tryz.func142 Tryz.ntmps142 fun c => ?_
 unfold Sh.rP at hS
 refine Zq (Zr (Zy ?_))
 refine Zq (Zr (Zm (Zu (VW cQ rfl rfl) ?_)))
 obtain ⟨aEI,aF6,hS⟩:=aO hS
 refine Zu (cH (GB zT a_1 aF6) rfl (fun _ _=>rfl)) ?_
 refine Zu (jE rfl) (Zy ?_)
 cases hS
 exact Ze
theorem CO (aA:Sv aK) (eF:Nat) (fD:aK) {r:Int} (hS:Sh.kG aA.l fD=some r) :
 Cp Tryz.prog 124 [aA.val,.func (.func 142) #[] #[ptr eF 0]] (aA.ok.and (Cells eF 0 [str fD])) (i64 r):=by
 refine Zo Tryz.func124 Tryz.ntmps124 fun c => ?_
 unfold Sh.kG at hS
 refine Zq (Zr (Zy ?_))
 refine Zq (Zq (Zr (Zm (Zu (eB (s:=aA) Tryz.underlying39 rfl) (Zy ?_)))))
 refine Zb ?_
 refine VC.iter (S:=Int) (fun (cV:Int)=>cV) (fun (cV:Int)=>[(0,aA.val),(1,.func (.func 142) #[] #[ptr eF 0]),(7,i64 (aA.l.length:Int)),(8,i64 cV)]) (fun (cV:Int)=>Mo.tt) (fun (cV:Int)=>Ow.emp) 0 [0,1,7,8] hS rfl ?_
 clear hS
 rintro cV m1 y1 hS hK1
 refine Zq (Zr (Zu (dW rfl rfl) ?_))
 refine Zl ?_
 refine Zq ?_
 refine Zc hS (fun h9 hS => ?_) (fun h9 hS => ?_)
 ·
  refine Zk ?_
  refine Zq (Zb (Zq (Zr (Zy ?_))))
  refine Zq (Zr (Zy ?_))
  obtain ⟨eV,nC,lU,hS⟩:=fA hS
  refine Zu (eZ (s:=aA) Tryz.underlying39 pU rfl rfl nC (bH nC lU)) (Zu (zW (s:=aA) cQ rfl lU rfl) ?_)
  obtain ⟨iA,rG,hS⟩:=aO hS
  refine Zu (tJ (vs:=[str eV]) (caps:=[ptr eF 0]) (M9 eV eF fD rG) rfl rfl (fun _ _=>rfl)) ?_
  refine Zl ?_
  refine VC.keep (ρ':=[(0,aA.val),(1,.func (.func 142) #[] #[ptr eF 0]),(7,i64 (aA.l.length:Int)),(8,i64 cV),(5,i64 cV),(16,.bool iA)]) [0,1,7,8,5,16] rfl ?_
  refine gR hS (fun h16 hS => ?_) (fun h16 hS => ?_)
  ·
   refine Zq (Zr (Zy ?_))
   replace hS:=iJ hS hK1
   cases hS
   exact Ze
  refine Zk ?_
  refine Zr ?_
  obtain ⟨b18,hS⟩:=bU hS
  refine Zu (cR rfl rfl b18) (Zm ?_)
  refine VL.jU (cV+1) [0,1,7,8] (fun _ _ h=>h) (go2 hS hK1) rfl
 replace hS:=iJ hS hK1
 refine Zx ?_
 refine Zq (Zr (Zy ?_))
 cases hS
 exact Ze
theorem DV (aA:Sv aK) (cY:Nat) (dY:aK) {r:List aK} (hS:Sh.kY aA.l dY=some r) :
 Ct Tryz.prog 141 [aA.val,.func (.func 142) #[] #[ptr cY 0]] Mo.tt (Ow.star (Sv.own aA 9) (bE cY [str dY] 9)) (X:=Sv aK) (fun x=>x.val) (fun x=>r=x.l) (fun x=>Mo.tt) (fun x=>Ow.star (Sv.own x 9) (bE cY [str dY] 9)):=by
 refine Zo Tryz.func141 Tryz.ntmps141 fun c => ?_
 unfold Sh.kY at hS
 refine Zq (Zr (Zy ?_))
 refine Zq (Zr (Zy ?_))
 obtain ⟨dA,mC,hS⟩:=aO hS
 refine Zu (rT (CO aA cY dY mC) rfl (fun _ _=>rfl)) ?_
 refine Zy ?_
 refine Zq (Zq (Zr (Zm (Zu (iI rfl rfl) ?_))))
 refine Zl ?_
 refine Zc hS (fun h12 hS => ?_) (fun h12 hS => ?_)
 ·
  refine Zq (Zr (Zy ?_))
  cases hS
  exact VC.ret (Z1 aA)
 refine Zk ?_
 refine Zq (Zq (Zr (Zm ?_)))
 obtain ⟨b15,hS⟩:=bU hS
 refine Zu (cR rfl rfl b15) (Zy ?_)
 refine VC.keep (ρ':=[(0,aA.val),(1,.func (.func 142) #[] #[ptr cY 0]),(5,i64 dA),(6,i64 (dA+1))]) [0,1,5,6] rfl ?_
 refine Zb ?_
 refine VC.iter (S:=Sv aK×Int×Int) (fun sg=>(sg.1.l,sg.2.1,sg.2.2)) (fun sg=>[(0,sg.1.val),(1,.func (.func 142) #[] #[ptr cY 0]),(5,i64 sg.2.1),(6,i64 sg.2.2)]) (fun sg=>Mo.tt) (fun sg=>Ow.star (bE cY [str dY] 9) (Ow.star (Sv.own sg.1 9) (Ow.emp))) (aA,dA,(dA+1)) [0,1,5,6] hS rfl ?_
 clear hS
 rintro ⟨eT,gF,kV⟩ m1 y1 hS hK1
 refine Zq (Zq (Zr (Zy ?_)))
 refine Zu (eB (s:=eT) Tryz.underlying39 rfl) (Zu (dW rfl rfl) ?_)
 refine Zl ?_
 refine Zc hS (fun h19 hS => ?_) (fun h19 hS => ?_)
 ·
  refine Zk ?_
  refine VC.gN (S:=Sv aK×Int) (fun sg=>(sg.1.l,sg.2)) (fun sg=>[(0,sg.1.val),(1,.func (.func 142) #[] #[ptr cY 0]),(5,i64 sg.2),(6,i64 kV)]) (fun sg=>Mo.tt) (fun sg=>Ow.star (bE cY [str dY] 9) (Ow.star (Sv.own sg.1 9) (Ow.emp))) hS ?_ ?_
  ·
   clear hS
   intro k7 hS
   refine Zb (Zq (Zr (Zy ?_)))
   obtain ⟨dN,vX,vV,hS⟩:=fA hS
   refine Zu (lN (s:=eT) Tryz.underlying39 pU rfl rfl vX (bH vX vV)) (Zu (AO (s:=eT) 9 cQ rfl vV rfl) (Zy ?_))
   refine VC.keep (ρ':=[(0,eT.val),(1,.func (.func 142) #[] #[ptr cY 0]),(5,i64 gF),(6,i64 kV),(7,str dN)]) [0,1,5,6,7] rfl ?_
   refine Zq (Zr (Zy ?_))
   obtain ⟨aHJ,aJ7,hS⟩:=aO hS
   refine Zu (tJ (vs:=[str dN]) (caps:=[ptr cY 0]) (M9 dN cY dY aJ7) rfl rfl (fun _ _=>rfl)) ?_
   refine Zu (jE rfl) ?_
   refine Zl ?_
   refine gR hS (fun h29 hS => ?_) (fun h29 hS => ?_)
   ·
    refine Zq (Zr (Zy ?_))
    obtain ⟨aKx,U7,UW,hS⟩:=fA hS
    refine Zu (lN (s:=eT) Tryz.underlying39 pU rfl rfl U7 (bH U7 UW)) ?_
    refine VL.wJ (s:=eT) (T:=9) (j:=0) (vc:=[str dN]) (dN:aK) (by decide) rfl rfl UW rfl pU rfl rfl (Nat.le_of_ble_eq_true rfl) rfl (fun w11 hw11 haw11 hcw11 hvw11 hbw11 how11 => ?_)
    rw [← hvw11]
    replace hS:=bW hw11 hS
    refine Zl ?_
    refine VC.keep (ρ':=[(0,w11.val),(1,.func (.func 142) #[] #[ptr cY 0]),(5,i64 gF),(6,i64 kV)]) [0,1,5,6] rfl ?_
    refine Zr (Zm ?_)
    obtain ⟨b35,hS⟩:=bU hS
    refine Zu (cR rfl rfl b35) (Za ?_)
    refine VL.mt (w11,(gF+1)) [0,1,5,6] (fun _ _ h=>h) hS rfl
   refine VC.iV (eT,gF) [0,1,5,6] (fun _ _ h=>h) hS rfl
  clear hS
  rintro ⟨BW,BN⟩ hS
  refine Zr (Zm ?_)
  obtain ⟨b21,hS⟩:=bU hS
  refine Zu (cR rfl rfl b21) (Za ?_)
  refine VL.jU (BW,BN,(kV+1)) [0,1,5,6] (fun _ _ h=>h) (go2 hS hK1) rfl
 replace hS:=iJ hS hK1
 refine Zx ?_
 refine Zq (Zr (Zy ?_))
 obtain ⟨b38,hS⟩:=bU hS
 refine VL.fits (s:=eT) (e:=9) Fo.out fun aBT => ?_
 refine Zu (KC (s:=eT) Tryz.underlying39 pU rfl rfl b38.1 b38.2 aBT) ?_
 refine VL.aHs (s:=eT) (i:=gF.toNat) (str []) Tryz.underlying39 a6z rfl rfl rfl (by have:=b38; dsimp only at this ⊢; omega) Fo.out fun aCZ aFv aGt => ?_
 replace hS:=bW aFv hS
 refine Zl ?_
 refine VC.keep (ρ':=[(0,eT.val),(5,i64 gF)]) [0,5] rfl ?_
 refine Zq (Zr (Zy ?_))
 refine Zu (X4 (s:=eT) (q:=aCZ) Tryz.underlying39 pU rfl rfl b38.1 b38.2 aBT aGt) (Zy ?_)
 cases hS
 exact VC.ret (Z1 aCZ)
theorem TU (bV:Nat) (aD:eL) (eD:aK) {r:List aK×Int} (hS:Sh.CG aD.pl eD=some r) :
 Ct Tryz.prog 95 [ptr bV 0,str eD] ((jX aD.kept.l).and ((jX aD.files.l).and ((mH aD.pending.l).and aD.keep.ok))) (Ow.star (eP Tryz.prog 9 aD.kept.b aD.kept.l) (Ow.star (eP Tryz.prog 9 aD.files.b aD.files.l) (Ow.star (Sv.own aD.pending 98) (bE bV [.map (some aD.kept.b),.map (some aD.files.b),aD.pending.val,i64 aD.cK,i64 aD.now,i64 aD.bX,i64 aD.ops,.bool aD.off,.bool aD.cS,i64 aD.left,aD.keep.val] 93)))) (X:=Sv aK×Int) (fun x => .tuple #[x.1.val,i64 x.2]) (fun x=>r=(x.1.l,x.2)) (fun x=>Mo.tt) (fun x=>Ow.star (Sv.own x.1 9) (Ow.star (bE bV [.map (some aD.kept.b),.map (some aD.files.b),aD.pending.val,i64 aD.cK,i64 aD.now,i64 aD.bX,i64 aD.ops,.bool aD.off,.bool aD.cS,i64 aD.left,aD.keep.val] 93) (Ow.star (eP Tryz.prog 9 aD.kept.b aD.kept.l) (Ow.star (eP Tryz.prog 9 aD.files.b aD.files.l) (Sv.own aD.pending 98))))):=by
 refine Zo Tryz.func95 Tryz.ntmps95 fun c => ?_
 unfold Sh.CG at hS
 refine Zq (Zr ?_)
 refine kQ [str eD] fun jC => ?_
 refine Zy ?_
 refine Zq (Zr (Zm ?_))
 obtain ⟨gD,FQ,hS⟩:=aO hS
 refine VL.bL (NO bV aD FQ) rfl (by decide) ?_
 rintro ⟨aMv,aXv⟩ rfl
 try dsimp only
 refine Zm (Zu (aV rfl rfl) (Zu (aV rfl rfl) (Zy ?_)))
 refine VC.keep (ρ':=[(3,ptr jC 0),(6,aMv.val),(7,i64 aXv)]) [3,6,7] rfl ?_
 refine Zq (Zq (Zr (Zm (Zu (lF rfl rfl) ?_))))
 refine Zl ?_
 refine o3 hS (fun h14 hS => ?_) (fun h14 hS => ?_)
 ·
  refine Zq ?_
  cases hS
 refine Zk ?_
 refine Zq (Zr (Zm (Zu (sJ rfl) ?_)))
 obtain ⟨B8,XL,hS⟩:=aO hS
 refine VL.bL (DV aMv jC eD XL) rfl (by decide) ?_
 rintro aYD rfl
 try dsimp only
 refine Zy ?_
 cases hS
 exact VC.ret (Z2 (aYD,0))
theorem aDN (bV:Nat) (aD:eL) (eD:aK) {r:Bool×Int} (hS:Sh.HS aD.pl eD=some r) :
 Ct Tryz.prog 50 [ptr bV 0,str eD] ((jX aD.kept.l).and ((jX aD.files.l).and ((mH aD.pending.l).and aD.keep.ok))) (Ow.star (eP Tryz.prog 9 aD.kept.b aD.kept.l) (Ow.star (eP Tryz.prog 9 aD.files.b aD.files.l) (Ow.star (Sv.own aD.pending 98) (bE bV [.map (some aD.kept.b),.map (some aD.files.b),aD.pending.val,i64 aD.cK,i64 aD.now,i64 aD.bX,i64 aD.ops,.bool aD.off,.bool aD.cS,i64 aD.left,aD.keep.val] 93)))) (X:=Unit) (fun _ => .tuple #[.bool r.1,i64 r.2]) (fun _=>True) (fun _=>Mo.tt) (fun _=>Ow.star (bE bV [.map (some aD.kept.b),.map (some aD.files.b),aD.pending.val,i64 aD.cK,i64 aD.now,i64 aD.bX,i64 aD.ops,.bool aD.off,.bool aD.cS,i64 aD.left,aD.keep.val] 93) (Ow.star (eP Tryz.prog 9 aD.kept.b aD.kept.l) (Ow.star (eP Tryz.prog 9 aD.files.b aD.files.l) (Sv.own aD.pending 98)))):=by
 refine Zo Tryz.func50 Tryz.ntmps50 fun c => ?_
 unfold Sh.HS at hS
 refine Zq (Zr (Zy ?_))
 refine Zq (Zq (Zr (Zm ?_)))
 obtain ⟨dA,mC,hS⟩:=aO hS
 refine Zu (cH (LM eD mC) rfl (fun _ _=>rfl)) ?_
 refine Zy ?_
 refine Zq (Zr (Zm (Zu (lF rfl rfl) ?_)))
 refine Zl ?_
 refine o3 hS (fun h12 hS => ?_) (fun h12 hS => ?_)
 ·
  refine Zq ?_
  cases hS
 refine Zk ?_
 refine Zq (Zr (Zy ?_))
 obtain ⟨MQ,aJX,hS⟩:=aO hS
 refine VL.bL (TU bV aD eD aJX) rfl (by decide) ?_
 rintro ⟨nE,aMy⟩ rfl
 try dsimp only
 refine Zm (Zu (aV rfl rfl) (Zu (aV rfl rfl) (Zy ?_)))
 refine VC.keep (ρ':=[(7,nE.val),(8,i64 aMy)]) [7,8] rfl ?_
 refine Zq (Zr (Zm (Zu (iI rfl rfl) (Zm ?_))))
 refine o4 22 hS (fun h22 hS => ?_) (fun h22 hS => ?_)
 ·
  refine Zg ?_
  refine Zh (eB (s:=nE) Tryz.underlying39 rfl) ?_
  refine Zh (iI rfl rfl) ?_
  refine Zy ?_
  refine VC.keep (ρ':=[(4,.bool (decide ((nE.l.length:Int)=0))),(5,i64 aMy)]) [4,5] rfl ?_
  cases hS
  exact VC.ret (Z2 ())
 refine VL.runs 4 [(26,some false)] (by kernel_rfl) ?_
 refine Zy ?_
 cases hS
 exact VC.ret (Z2 ())
theorem JX (bV:Nat) (aD:eL) (eD:aK) {r:Int} (hS:Sh.tH aD.pl eD=some r) :
 Ct Tryz.prog 16 [ptr bV 0,str eD] ((jX aD.kept.l).and ((jX aD.files.l).and ((mH aD.pending.l).and aD.keep.ok))) (Ow.star (eP Tryz.prog 9 aD.kept.b aD.kept.l) (Ow.star (eP Tryz.prog 9 aD.files.b aD.files.l) (Ow.star (Sv.own aD.pending 98) (bE bV [.map (some aD.kept.b),.map (some aD.files.b),aD.pending.val,i64 aD.cK,i64 aD.now,i64 aD.bX,i64 aD.ops,.bool aD.off,.bool aD.cS,i64 aD.left,aD.keep.val] 93)))) (X:=Unit) (fun _=>i64 r) (fun _=>True) (fun _=>Mo.tt) (fun _=>Ow.star (bE bV [.map (some aD.kept.b),.map (some aD.files.b),aD.pending.val,i64 aD.cK,i64 aD.now,i64 aD.bX,i64 aD.ops,.bool aD.off,.bool aD.cS,i64 aD.left,aD.keep.val] 93) (Ow.star (eP Tryz.prog 9 aD.kept.b aD.kept.l) (Ow.star (eP Tryz.prog 9 aD.files.b aD.files.l) (Sv.own aD.pending 98)))):=by
 refine Zo Tryz.func16 Tryz.ntmps16 fun c => ?_
 unfold Sh.tH at hS
 refine Zq (Zr (Zy ?_))
 refine Zq (Zr (Zy ?_))
 obtain ⟨S8,aJV,hS⟩:=aO hS
 refine VL.bL (aDN bV aD eD aJV) rfl (by decide) ?_
 rintro _ _
 try dsimp only
 refine Zm (Zu (aV rfl rfl) (Zu (aV rfl rfl) (Zy ?_)))
 refine VC.keep (ρ':=[(0,ptr bV 0),(1,str eD),(5,.bool S8.1),(6,i64 S8.2)]) [0,1,5,6] rfl ?_
 refine Zq (Zq (Zr (Zm (Zu (lF rfl rfl) ?_))))
 refine Zl ?_
 refine o3 hS (fun h19 hS => ?_) (fun h19 hS => ?_)
 ·
  refine Zq ?_
  cases hS
 refine Zk ?_
 refine Zq (Zq (Zr (Zy ?_)))
 refine gR hS (fun h21 hS => ?_) (fun h21 hS => ?_)
 ·
  refine Zq (Zr (Zy ?_))
  cases hS
  exact VC.ret (Z1 ())
 refine Zk ?_
 refine Zq (Zq ?_)
 cases hS
theorem aDQ (bV:Nat) (aD:eL) (eD:aK) (l_2:Sv cO) {r:Bool} (hS:Sh.DJ aD.pl eD (l_2.l.map cO.pl)=some r) :
 Ct Tryz.prog 44 [ptr bV 0,str eD,l_2.val] ((jX aD.kept.l).and ((jX aD.files.l).and ((mH aD.pending.l).and (aD.keep.ok.and l_2.ok)))) (Ow.star (eP Tryz.prog 9 aD.kept.b aD.kept.l) (Ow.star (eP Tryz.prog 9 aD.files.b aD.files.l) (Ow.star (Sv.own aD.pending 98) (bE bV [.map (some aD.kept.b),.map (some aD.files.b),aD.pending.val,i64 aD.cK,i64 aD.now,i64 aD.bX,i64 aD.ops,.bool aD.off,.bool aD.cS,i64 aD.left,aD.keep.val] 93)))) (X:=Unit) (fun _ => .bool r) (fun _=>True) (fun _=>Mo.tt) (fun _=>Ow.star (bE bV [.map (some aD.kept.b),.map (some aD.files.b),aD.pending.val,i64 aD.cK,i64 aD.now,i64 aD.bX,i64 aD.ops,.bool aD.off,.bool aD.cS,i64 aD.left,aD.keep.val] 93) (Ow.star (eP Tryz.prog 9 aD.kept.b aD.kept.l) (Ow.star (eP Tryz.prog 9 aD.files.b aD.files.l) (Sv.own aD.pending 98)))):=by
 refine Zo Tryz.func44 Tryz.ntmps44 fun c => ?_
 unfold Sh.DJ at hS
 refine Zq (Zr (Zy ?_))
 refine Zq (Zr ?_)
 refine VL.aQ3 (β:=Bool) (k:=9) (by decide) fun zH => ?_
 refine Zm ?_
 obtain ⟨bs2,hS⟩:=bU hS
 refine VL.aDh (b:=zH) (l:=[]) (a0:=eD) (y0:=true) (.inr rfl) (Maps.string_keyed Tryz.underlying9) Tryz.underlying157 Fo.out rfl rfl rfl (NB Tryz.underlying9 bs2.2) bs2.1 (fun _ _=>trivial) fun a56 a1U => ?_
 replace hS:=bW a1U hS
 refine Zy ?_
 refine Zq (Zr (Zm ?_))
 obtain ⟨gH,RY,hS⟩:=aO hS
 refine VL.bL (NO bV aD RY) rfl (by decide) ?_
 rintro ⟨gQ,a7I⟩ rfl
 try dsimp only
 refine Zm (Zu (aV rfl rfl) (Zu (aV rfl rfl) (Zy ?_)))
 refine VC.keep (ρ':=[(1,str eD),(2,l_2.val),(7,.map (some zH)),(8,gQ.val)]) [1,2,7,8] rfl ?_
 refine Zq (Zq (Zr (Zm (Zu (eB (s:=gQ) Tryz.underlying39 rfl) (Zy ?_)))))
 refine Zb ?_
 refine VC.iter (S:=(List (aK×Option Bool))×Int) (fun sg=>(sg.1,sg.2)) (fun sg=>[(1,str eD),(2,l_2.val),(7,.map (some zH)),(8,gQ.val),(29,gQ.val),(30,i64 (gQ.l.length:Int)),(31,i64 sg.2)]) (fun sg=>(jX sg.1)) (fun sg=>Ow.star (bE bV [.map (some aD.kept.b),.map (some aD.files.b),aD.pending.val,i64 aD.cK,i64 aD.now,i64 aD.bX,i64 aD.ops,.bool aD.off,.bool aD.cS,i64 aD.left,aD.keep.val] 93) (Ow.star (Sv.own aD.pending 98) (Ow.star (eP Tryz.prog 9 aD.files.b aD.files.l) (Ow.star (eP Tryz.prog 9 aD.kept.b aD.kept.l) (Ow.star (Sv.own gQ 9) (Ow.star (eP Tryz.prog 9 zH sg.1) (Ow.emp))))))) (a56,0) [1,2,7,8,29,30,31] hS rfl ?_
 clear hS
 rintro ⟨KU,C6⟩ m1 y1 hS hK1
 refine Zq (Zr (Zu (dW rfl rfl) ?_))
 refine Zl ?_
 refine Zq ?_
 refine Zc hS (fun h32 hS => ?_) (fun h32 hS => ?_)
 ·
  refine Zk ?_
  refine Zq (Zb (Zq (Zr ?_)))
  obtain ⟨aDy,aQw,aQS,hS⟩:=fA hS
  refine Zu (lN (s:=gQ) Tryz.underlying39 pU rfl rfl aQw (bH aQw aQS)) (Zu (AO (s:=gQ) 9 cQ rfl aQS rfl) (Zy ?_))
  refine Zr (Zy ?_)
  obtain ⟨aPW,a0j,hS⟩:=aO hS
  refine Zu (cH (GB aDy eD a0j) rfl (fun _ _=>rfl)) ?_
  refine Zu (jE rfl) ?_
  obtain ⟨bs6,hS⟩:=bU hS
  refine VL.aDh (b:=zH) (l:=KU) (a0:=aDy) (y0:=(!aPW)) (.inl rfl) (Maps.string_keyed Tryz.underlying9) Tryz.underlying157 Fo.out rfl rfl rfl (NB Tryz.underlying9 bs6.2) bs6.1 (fun _ _=>trivial) fun a5a a1W => ?_
  replace hS:=bW a1W hS
  refine Zl ?_
  refine VC.keep (ρ':=[(1,str eD),(2,l_2.val),(7,.map (some zH)),(8,gQ.val),(29,gQ.val),(30,i64 (gQ.l.length:Int)),(31,i64 C6)]) [1,2,7,8,29,30,31] rfl ?_
  refine Zr ?_
  obtain ⟨b41,hS⟩:=bU hS
  refine Zu (cR rfl rfl b41) (Zm ?_)
  refine VL.jU (a5a,(C6+1)) [1,2,7,8,29,30,31] (fun _ _ h=>h) (go2 hS hK1) rfl
 replace hS:=iJ hS hK1
 refine Zx ?_
 refine Zq (Zq (Zr (Zm (Zu (qN cO.pl (s:=l_2) Tryz.underlying44 rfl) (Zy ?_)))))
 refine Zb ?_
 refine VC.iter (S:=(List (aK×Option Bool))×Int) (fun sg=>(sg.1,sg.2)) (fun sg=>[(1,str eD),(7,.map (some zH)),(8,gQ.val),(42,l_2.val),(43,i64 ((l_2.l.map cO.pl).length:Int)),(44,i64 sg.2)]) (fun sg=>(jX sg.1)) (fun sg=>Ow.star (bE bV [.map (some aD.kept.b),.map (some aD.files.b),aD.pending.val,i64 aD.cK,i64 aD.now,i64 aD.bX,i64 aD.ops,.bool aD.off,.bool aD.cS,i64 aD.left,aD.keep.val] 93) (Ow.star (Sv.own aD.pending 98) (Ow.star (eP Tryz.prog 9 aD.files.b aD.files.l) (Ow.star (eP Tryz.prog 9 aD.kept.b aD.kept.l) (Ow.star (Sv.own gQ 9) (Ow.star (eP Tryz.prog 9 zH sg.1) (Ow.emp))))))) (KU,0) [1,7,8,42,43,44] hS rfl ?_
 clear hS
 rintro ⟨sV,S4⟩ m1 y1 hS hK1
 refine Zq (Zr (Zu (dW rfl rfl) ?_))
 refine Zl ?_
 refine Zq ?_
 refine Zc hS (fun h45 hS => ?_) (fun h45 hS => ?_)
 ·
  refine Zk ?_
  refine Zq (Zb (Zq (Zr ?_)))
  obtain ⟨wL,U8,PW,hS⟩:=EB hS
  refine VL.deep wL.m PW (fun _ q=>q) ?_
  refine Zu (eZ (s:=l_2) Tryz.underlying44 OC rfl rfl U8 (bH U8 PW)) (Zu (nX (s:=l_2) R5 rfl rfl PW) ?_)
  refine gV [str [],.bool false,i64 0,.slice none 0 0] fun a7R => ?_
  refine Zv (cs':=[str wL.path,.bool wL.gone,i64 wL.mode,wL.data.val]) rfl OC ?_
  refine Zl ?_
  refine Zr (Zm (Zu (aB F0 rfl) (Zu (aL cQ rfl rfl) (Zu (aB UQ rfl) (Zu (aL lK rfl rfl) (Zu (jE rfl) ?_))))))
  obtain ⟨bs6,hS⟩:=bU hS
  refine VL.aDh (b:=zH) (l:=sV) (a0:=wL.path) (y0:=(!wL.gone)) (.inl rfl) (Maps.string_keyed Tryz.underlying9) Tryz.underlying157 Fo.out rfl rfl rfl (NB Tryz.underlying9 bs6.2) bs6.1 (fun _ _=>trivial) fun a2P aWk => ?_
  replace hS:=bW aWk hS
  refine Zl ?_
  refine VC.keep (ρ':=[(1,str eD),(7,.map (some zH)),(8,gQ.val),(42,l_2.val),(43,i64 ((l_2.l.map cO.pl).length:Int)),(44,i64 S4)]) [1,7,8,42,43,44] rfl ?_
  refine Zr ?_
  obtain ⟨b54,hS⟩:=bU hS
  refine Zu (cR rfl rfl b54) (Zm ?_)
  refine VL.jU (a2P,(S4+1)) [1,7,8,42,43,44] (fun _ _ h=>h) (go2 hS hK1) rfl
 replace hS:=iJ hS hK1
 refine Zx ?_
 refine Zq (Zr (Zy ?_))
 refine Zq (Zq (Zr (Zm ?_)))
 obtain ⟨aEa,aUe,hS⟩:=wV hS
 refine VL.aRK (b:=zH) (l:=sV) (ks:=aEa) (Maps.string_keyed Tryz.underlying9) Tryz.underlying9 Tryz.underlying157 Fo.out aUe rfl (by decide) fun X8 IB H7 => ?_
 refine Zl ?_
 refine Zb ?_
 refine VC.nU (⟨none,0,[]⟩:Sv aK) 9 ⟨rfl,rfl⟩ ?_
 refine VC.OI (S:=Sv aK×List aK) (fun sg=>(sg.1.l,sg.2)) (fun sg=>[(1,str eD),(8,gQ.val),(14,sg.1.val),(56,ptr X8 0)]) (fun sg=>Mo.tt) (fun sg=>Ow.star (bE bV [.map (some aD.kept.b),.map (some aD.files.b),aD.pending.val,i64 aD.cK,i64 aD.now,i64 aD.bX,i64 aD.ops,.bool aD.off,.bool aD.cS,i64 aD.left,aD.keep.val] 93) (Ow.star (ItE zH X8 IB H7 sg.2) (Ow.star (QU Tryz.prog 9 zH IB H7 sV) (Ow.star (Sv.own aD.pending 98) (Ow.star (eP Tryz.prog 9 aD.files.b aD.files.l) (Ow.star (eP Tryz.prog 9 aD.kept.b aD.kept.l) (Ow.star (Sv.own gQ 9) (Ow.star (Sv.own sg.1 9) (Ow.emp))))))))) (⟨none,0,[]⟩,aEa) [1,8,14,56] hS rfl ?_
 clear hS
 rintro ⟨gZ,aEX⟩ m1 hS
 refine Zq (Zr ?_)
 refine VL.aXi (r:=X8) (b:=zH) (l:=sV) (es:=IB) (clock:=H7) (ks:=aEX) (Maps.string_keyed Tryz.underlying9) Tryz.underlying9 rfl (by decide) fun KA NA aWl => ?_
 obtain ⟨y1,hS,hK1⟩:=hS _ _ aWl
 refine Zu (a4e rfl) ?_
 refine Zl ?_
 refine Zq ?_
 refine gR hS (fun h58 hS => ?_) (fun h58 hS => ?_)
 ·
  refine Zk ?_
  refine Zb (Zq (Zr ?_))
  refine Zu (aUF (r:=X8) (b:=zH) (l:=sV) (es:=IB) (clock:=H7) (ks:=NA) (o:=KA) (Maps.string_keyed Tryz.underlying9) Tryz.underlying9 (by assumption) rfl) ?_
  refine Zu (aV rfl rfl) (Zu (aV rfl rfl) (Zy ?_))
  refine Zq (Zr (Zy ?_))
  refine gR hS (fun h62 hS => ?_) (fun h62 hS => ?_)
  ·
   refine Zr (Zy ?_)
   refine VL.lit (α:=aK) (xs:=[.tmp 64]) (vs:=[str (KA.getD [])]) [(KA.getD [])] Tryz.underlying39 xQ (by decide) rfl rfl rfl rfl (by decide) (fun _ _ _ _=>trivial) (by decide) (fun a3Q aXT => ?_) (by decide)
   replace hS:=bW aXT hS
   obtain ⟨b66,hS⟩:=bU hS
   refine VL.app (s:=gZ) (r:=a3Q) Tryz.underlying39 R6 (by decide) rfl Fo.out (wM b66) (wN b66 (by decide)) (by decide) (fun a3R aXV => ?_)
   replace hS:=bW aXV hS
   refine Za ?_
   refine VL.a7N (a3R,NA) [1,8,14,56] (fun _ _ h=>h) (aW7 hS hK1) rfl
  refine VC.aGm (gZ,NA) [1,8,14,56] (fun _ _ h=>h) (aW7 hS hK1) rfl
 replace hS:=a4g hS hK1
 refine Zx ?_
 refine Zq (Zq (Zr (Zm (Zu (eB (s:=gZ) Tryz.underlying39 rfl) (Zy ?_)))))
 refine Zb ?_
 refine VC.shut gZ 9 (fun _ _ _ _=>trivial) ?_
 refine VC.iter (S:=Int) (fun (uV:Int)=>uV) (fun (uV:Int)=>[(1,str eD),(8,gQ.val),(14,gZ.val),(67,gZ.val),(68,i64 (gZ.l.length:Int)),(69,i64 uV)]) (fun (uV:Int)=>Mo.tt) (fun (uV:Int)=>Ow.star (bE bV [.map (some aD.kept.b),.map (some aD.files.b),aD.pending.val,i64 aD.cK,i64 aD.now,i64 aD.bX,i64 aD.ops,.bool aD.off,.bool aD.cS,i64 aD.left,aD.keep.val] 93) (Ow.star (ItC zH X8 IB H7 NA KA) (Ow.star (QU Tryz.prog 9 zH IB H7 sV) (Ow.star (Sv.own aD.pending 98) (Ow.star (eP Tryz.prog 9 aD.files.b aD.files.l) (Ow.star (eP Tryz.prog 9 aD.kept.b aD.kept.l) (Ow.star (Sv.own gQ 9) (Ow.emp)))))))) 0 [1,8,14,67,68,69] hS rfl ?_
 clear hS
 rintro uV m1 y1 hS hK1
 refine Zq (Zr (Zu (dW rfl rfl) ?_))
 refine Zl ?_
 refine Zq ?_
 refine Zc hS (fun h70 hS => ?_) (fun h70 hS => ?_)
 ·
  refine Zk ?_
  refine Zq (Zb (Zq (Zr (Zm ?_))))
  obtain ⟨YN,aMn,aMD,hS⟩:=fA hS
  refine Zu (eZ (s:=gZ) Tryz.underlying39 pU rfl rfl aMn (bH aMn aMD)) (Zu (zW (s:=gZ) cQ rfl aMD rfl) (Zy ?_))
  refine Zq (Zr (Zy ?_))
  obtain ⟨b76,hS⟩:=bU hS
  refine VL.sto Tryz.underlying39 pU rfl rfl b76.1 (b76.2) (by decide) fun KE aXX => ?_
  replace hS:=bW aXX hS
  refine Zu (eB (s:=KE) Tryz.underlying39 rfl) (Zy ?_)
  refine VC.keep (ρ':=[(1,str eD),(8,gQ.val),(14,gZ.val),(67,gZ.val),(68,i64 (gZ.l.length:Int)),(69,i64 uV),(18,str YN),(76,KE.val),(77,i64 (KE.l.length:Int)),(78,i64 0)]) [1,8,14,67,68,69,18,76,77,78] rfl ?_
  refine Zb ?_
  refine VC.iter (S:=Int) (fun (CR:Int)=>CR) (fun (CR:Int)=>[(1,str eD),(8,gQ.val),(14,gZ.val),(18,str YN),(67,gZ.val),(68,i64 (gZ.l.length:Int)),(69,i64 uV),(76,KE.val),(77,i64 (KE.l.length:Int)),(78,i64 CR)]) (fun (CR:Int)=>Mo.tt) (fun (CR:Int)=>Ow.star (bE bV [.map (some aD.kept.b),.map (some aD.files.b),aD.pending.val,i64 aD.cK,i64 aD.now,i64 aD.bX,i64 aD.ops,.bool aD.off,.bool aD.cS,i64 aD.left,aD.keep.val] 93) (Ow.star (ItC zH X8 IB H7 NA KA) (Ow.star (QU Tryz.prog 9 zH IB H7 sV) (Ow.star (Sv.own aD.pending 98) (Ow.star (eP Tryz.prog 9 aD.files.b aD.files.l) (Ow.star (eP Tryz.prog 9 aD.kept.b aD.kept.l) (Ow.star (Sv.own gQ 9) (Ow.emp)))))))) 0 [1,8,14,18,67,68,69,76,77,78] hS rfl ?_
  clear hS
  rintro CR m2 y2 hS hK2
  refine Zq (Zr (Zu (dW rfl rfl) ?_))
  refine Zl ?_
  refine Zq ?_
  refine Zc hS (fun h79 hS => ?_) (fun h79 hS => ?_)
  ·
   refine Zk ?_
   refine Zq (Zb (Zq (Zr ?_)))
   obtain ⟨aLA,aMr,aMH,hS⟩:=fA hS
   refine Zu (eZ (s:=KE) Tryz.underlying39 pU rfl rfl aMr (bH aMr aMH)) (Zu (zW (s:=KE) cQ rfl aMH rfl) (Zy ?_))
   refine Zq (Zr (Zy ?_))
   obtain ⟨aSX,aWD,hS⟩:=aO hS
   refine Zu (cH (rQ YN aLA aWD) rfl (fun _ _=>rfl)) ?_
   refine Zl ?_
   refine gR hS (fun h84 hS => ?_) (fun h84 hS => ?_)
   ·
    refine Zq ?_
    cases hS
   refine Zk ?_
   refine VC.keep (ρ':=[(1,str eD),(8,gQ.val),(14,gZ.val),(18,str YN),(67,gZ.val),(68,i64 (gZ.l.length:Int)),(69,i64 uV),(76,KE.val),(77,i64 (KE.l.length:Int)),(78,i64 CR)]) [1,8,14,18,67,68,69,76,77,78] rfl ?_
   refine Zr ?_
   obtain ⟨b85,hS⟩:=bU hS
   refine Zu (cR rfl rfl b85) (Zm ?_)
   refine VL.jU (CR+1) [1,8,14,18,67,68,69,76,77,78] (fun _ _ h=>h) (go2 hS hK2) rfl
  replace hS:=iJ hS hK2
  refine Zx ?_
  refine Zr ?_
  obtain ⟨b86,hS⟩:=bU hS
  refine Zu (cR rfl rfl b86) (Zm ?_)
  refine VL.jU (uV+1) [1,8,14,67,68,69] (fun _ _ h=>h) (go2 hS hK1) rfl
 replace hS:=iJ hS hK1
 refine Zx ?_
 refine Zq (Zr (Zy ?_))
 obtain ⟨aKs,aWF,hS⟩:=aO hS
 refine Zu (rT (mM gQ eD aWF) rfl (fun _ _=>rfl)) ?_
 refine Zu (jE rfl) (Zy ?_)
 refine VC.keep (ρ':=[(6,.bool (!aKs))]) [6] rfl ?_
 cases hS
 exact VC.ret (Z1 ())
theorem vQ (j9:Nat) (vA:q6) (l_1:Sv Int) {r:pV} (hS:Sh.oL vA.pl l_1.l=some r) :
 Ct Tryz.prog 88 [ptr j9 0,l_1.val] l_1.ok (Ow.star (Sv.own vA.b 5) (bE j9 [vA.b.val] 169)) (X:=q6) (fun x => .tuple #[]) (fun x=>r=x.pl) (fun x=>Mo.tt) (fun x=>Ow.star (bE j9 [x.b.val] 169) (Sv.own x.b 5)):=by
 refine Zo Tryz.func88 Tryz.ntmps88 fun c => ?_
 unfold Sh.oL at hS
 refine Zq (Zr (Zm (Zu (eB (s:=l_1) Tryz.underlying83 rfl) (Zy ?_))))
 refine Zb ?_
 refine VC.iter (S:=Int×Sv UInt8) (fun sg=>(sg.1,sg.2.l)) (fun sg=>[(0,ptr j9 0),(7,l_1.val),(8,i64 (l_1.l.length:Int)),(9,i64 sg.1)]) (fun sg=>Mo.tt) (fun sg=>Ow.star (bE j9 [sg.2.val] 169) (Ow.star (Sv.own sg.2 5) (Ow.emp))) (0,vA.b) [0,7,8,9] hS rfl ?_
 clear hS
 rintro ⟨uX,BI⟩ m1 y1 hS hK1
 refine Zq (Zr (Zu (dW rfl rfl) ?_))
 refine Zl ?_
 refine Zq ?_
 refine Zc hS (fun h10 hS => ?_) (fun h10 hS => ?_)
 ·
  refine Zk ?_
  refine Zq (Zb (Zq (Zr ?_)))
  obtain ⟨A5,NH,M7,hS⟩:=fA hS
  refine Zu (eZ (s:=l_1) Tryz.underlying83 DE rfl rfl NH (bH NH M7)) (Zu (zW (s:=l_1) fL rfl M7 rfl) (Zy ?_))
  refine Zq (Zr (Zm (Zu (tZ Tryz.underlying3 Tryz.underlying216 rfl) ?_)))
  refine Zu (aOs rfl rfl (by decide)) ?_
  refine Zm ?_
  refine Zu (aA0 rfl rfl (by decide)) ?_
  refine Zu (tZ Tryz.underlying2 Tryz.underlying216 rfl) (Zu (aOt rfl rfl) (Zy ?_))
  refine VC.keep (ρ':=[(0,ptr j9 0),(7,l_1.val),(8,i64 (l_1.l.length:Int)),(9,i64 uX),(6,.int .u64 (PL .u64 (SV .u64 (IntKind.wrap .u64 A5) 1) (IntKind.wrap .u64 (yX .i64 A5 63))))]) [0,7,8,9,6] rfl ?_
  refine Zq (Zb ?_)
  refine VC.iter (S:=Int×Sv UInt8) (fun sg=>(sg.1,sg.2.l)) (fun sg=>[(0,ptr j9 0),(6,.int .u64 sg.1),(7,l_1.val),(8,i64 (l_1.l.length:Int)),(9,i64 uX)]) (fun sg=>Mo.tt) (fun sg=>Ow.star (bE j9 [sg.2.val] 169) (Ow.star (Sv.own sg.2 5) (Ow.emp))) ((PL .u64 (SV .u64 (IntKind.wrap .u64 A5) 1) (IntKind.wrap .u64 (yX .i64 A5 63))),BI) [0,6,7,8,9] hS rfl ?_
  clear hS
  rintro ⟨B4,fO⟩ m2 y2 hS hK2
  refine Zq (Zq (Zr (Zm (Zu (vC rfl rfl) ?_))))
  refine Zl ?_
  refine Zc hS (fun h21 hS => ?_) (fun h21 hS => ?_)
  ·
   refine Zk ?_
   refine Zb (Zq (Zr (Zy ?_)))
   refine Zu (aF rfl) (Zu (aB sE rfl) (Zu (aL qR rfl rfl) (Zm (Zu (aKW rfl rfl) (Zu (tZ Tryz.underlying216 Tryz.underlying5 rfl) ?_)))))
   refine Zu (aY2 rfl rfl) ?_
   obtain ⟨aIy,hS⟩:=bU hS
   obtain ⟨MI,aJP,hS⟩:=wV hS
   refine VL.MC 30 rfl (congrArg (Value.int .u8) (aN0 aIy aJP)) ?_
   refine VL.lit (α:=UInt8) (xs:=[.tmp 30]) (vs:=[.int .u8 (MI.toNat:Int)]) [MI] Tryz.underlying35 aJg (by decide) rfl rfl rfl rfl (by decide) (fun _ _ _ _=>trivial) (by decide) (fun aOz aJt => ?_) (by decide)
   replace hS:=bW aJt hS
   obtain ⟨b32,hS⟩:=bU hS
   refine VL.app (s:=fO) (r:=aOz) Tryz.underlying35 aFe (by decide) rfl Fo.out (wM b32) (wN b32 (by decide)) (by decide) (fun aGk aJu => ?_)
   replace hS:=bW aJu hS
   refine Zu (aF rfl) (Zu (aB sE rfl) ?_)
   refine Zv (cs':=[aGk.val]) rfl aDH ?_
   refine Zl ?_
   refine VC.keep (ρ':=[(0,ptr j9 0),(6,.int .u64 B4),(7,l_1.val),(8,i64 (l_1.l.length:Int)),(9,i64 uX)]) [0,6,7,8,9] rfl ?_
   refine Zr (Zm ?_)
   refine Zu (aA0 rfl rfl (by decide)) ?_
   refine Za ?_
   refine VL.jU ((yX .u64 B4 7),aGk) [0,6,7,8,9] (fun _ _ h=>h) (go2 hS hK2) rfl
  replace hS:=iJ hS hK2
  refine Zx ?_
  refine Zr (Zy ?_)
  refine Zu (aF rfl) (Zu (aB sE rfl) (Zu (aL qR rfl rfl) (Zm (Zu (tZ Tryz.underlying216 Tryz.underlying5 rfl) ?_))))
  obtain ⟨aIz,hS⟩:=bU hS
  obtain ⟨GV,aFW,hS⟩:=wV hS
  refine VL.MC 43 rfl (congrArg (Value.int .u8) (aN0 aIz aFW)) ?_
  refine VL.lit (α:=UInt8) (xs:=[.tmp 43]) (vs:=[.int .u8 (GV.toNat:Int)]) [GV] Tryz.underlying35 aJg (by decide) rfl rfl rfl rfl (by decide) (fun _ _ _ _=>trivial) (by decide) (fun aK0 aFr => ?_) (by decide)
  replace hS:=bW aFr hS
  obtain ⟨b45,hS⟩:=bU hS
  refine VL.app (s:=fO) (r:=aK0) Tryz.underlying35 aFe (by decide) rfl Fo.out (wM b45) (wN b45 (by decide)) (by decide) (fun aCV aFs => ?_)
  replace hS:=bW aFs hS
  refine Zu (aF rfl) (Zu (aB sE rfl) ?_)
  refine Zv (cs':=[aCV.val]) rfl aDH ?_
  refine Zl ?_
  refine VC.keep (ρ':=[(0,ptr j9 0),(7,l_1.val),(8,i64 (l_1.l.length:Int)),(9,i64 uX)]) [0,7,8,9] rfl ?_
  refine Zr ?_
  obtain ⟨b48,hS⟩:=bU hS
  refine Zu (cR rfl rfl b48) (Zm ?_)
  refine VL.jU ((uX+1),aCV) [0,7,8,9] (fun _ _ h=>h) (go2 hS hK1) rfl
 replace hS:=iJ hS hK1
 cases hS
 exact VC.exit (pZ (.inl rfl) rfl ⟨BI⟩ rfl rfl (by (try dsimp only); exact fQ.out) (by (try dsimp only); exact iY.out))
theorem T1 (j9:Nat) (vA:q6) (l_1:Sv aK) {r:pV} (hS:Sh.tN vA.pl l_1.l=some r) :
 Ct Tryz.prog 89 [ptr j9 0,l_1.val] l_1.ok (Ow.star (Sv.own vA.b 5) (bE j9 [vA.b.val] 169)) (X:=q6) (fun x => .tuple #[]) (fun x=>r=x.pl) (fun x=>Mo.tt) (fun x=>Ow.star (bE j9 [x.b.val] 169) (Sv.own x.b 5)):=by
 refine Zo Tryz.func89 Tryz.ntmps89 fun c => ?_
 unfold Sh.tN at hS
 refine Zq (Zr (Zm (Zu (eB (s:=l_1) Tryz.underlying39 rfl) (Zy ?_))))
 refine Zb ?_
 refine VC.iter (S:=Int×Sv UInt8) (fun sg=>(sg.1,sg.2.l)) (fun sg=>[(0,ptr j9 0),(6,l_1.val),(7,i64 (l_1.l.length:Int)),(8,i64 sg.1)]) (fun sg=>Mo.tt) (fun sg=>Ow.star (bE j9 [sg.2.val] 169) (Ow.star (Sv.own sg.2 5) (Ow.emp))) (0,vA.b) [0,6,7,8] hS rfl ?_
 clear hS
 rintro ⟨cV,BI⟩ m1 y1 hS hK1
 refine Zq (Zr (Zu (dW rfl rfl) ?_))
 refine Zl ?_
 refine Zq ?_
 refine Zc hS (fun h9 hS => ?_) (fun h9 hS => ?_)
 ·
  refine Zk ?_
  refine Zq (Zb (Zq (Zr ?_)))
  obtain ⟨jW,GA,F6,hS⟩:=fA hS
  refine Zu (eZ (s:=l_1) Tryz.underlying39 pU rfl rfl GA (bH GA F6)) (Zu (zW (s:=l_1) cQ rfl F6 rfl) (Zy ?_))
  refine Zq (Zr (Zy ?_))
  refine Zu (pN Tryz.underlying9 rfl) ?_
  refine VL.lit (α:=Int) (xs:=[.tmp 14]) (vs:=[i64 (jW.length:Int)]) [(jW.length:Int)] Tryz.underlying83 oS (by decide) rfl rfl rfl rfl (by decide) (fun _ _ _ _=>trivial) (by decide) (fun aOw aJo => ?_) (by decide)
  replace hS:=bW aJo hS
  obtain ⟨DA,aBJ,hS⟩:=aO hS
  refine VL.bL (vQ j9 (⟨BI⟩:q6) aOw aBJ) rfl (by decide) ?_
  rintro QD rfl
  try dsimp only
  refine Zl ?_
  refine VC.keep (ρ':=[(0,ptr j9 0),(6,l_1.val),(7,i64 (l_1.l.length:Int)),(8,i64 cV),(5,str jW)]) [0,6,7,8,5] rfl ?_
  refine Zr (Zy ?_)
  refine Zu (aF rfl) (Zu (aB sE rfl) (Zu (aL qR rfl rfl) (Zm ?_)))
  obtain ⟨b23,hS⟩:=bU hS
  refine VL.a45 (s:=QD.b) (r:=jW) Tryz.underlying35 Tryz.underlying9 aWL rfl Fo.out b23 (by decide) fun aGj aJq _ => ?_
  replace hS:=bW aJq hS
  refine Zu (aF rfl) (Zu (aB sE rfl) ?_)
  refine Zv (cs':=[aGj.val]) rfl aDH ?_
  refine Zl ?_
  refine VC.keep (ρ':=[(0,ptr j9 0),(6,l_1.val),(7,i64 (l_1.l.length:Int)),(8,i64 cV)]) [0,6,7,8] rfl ?_
  refine Zr ?_
  obtain ⟨b26,hS⟩:=bU hS
  refine Zu (cR rfl rfl b26) (Zm ?_)
  refine VL.jU ((cV+1),aGj) [0,6,7,8] (fun _ _ h=>h) (go2 hS hK1) rfl
 replace hS:=iJ hS hK1
 cases hS
 exact VC.exit (pZ (.inl rfl) rfl ⟨BI⟩ rfl rfl (by (try dsimp only); exact fQ.out) (by (try dsimp only); exact iY.out))
theorem aXa (n:Int) (b:Go.S.fE n):Ct Tryz.prog 140 [i64 n] Gl Ow.emp (X:=Unit) (fun _=>str (Go.S.U1 n)) (fun _=>True) (fun _=>Mo.tt) (fun _=>Ow.emp) :=
  Ct.a5d (AB Tryz.func140 rfl (by kernel_rfl)) fun w h m l=>(Tryz.strconv_Itoa n b.1 b.2 w (aAo.var (by kernel_rfl) (fQ.out (X:=aAo 2 _) h m) l)).mono fun e w' ⟨h1,k,os,h2⟩=>⟨by rw [h1,aTM b],h2▸Gr.grown w k os⟩
theorem PY (mY:aK) (i_1:Int) {r:aK} (hS:Sh.AE mY i_1=some r) :
 Cp Tryz.prog 91 [str mY,i64 i_1] Gl (str r):=by
 refine Zo Tryz.func91 Tryz.ntmps91 fun c => ?_
 unfold Sh.AE at hS
 refine Zq (Zr (Zy ?_))
 refine Zq (Zr (Zm ?_))
 obtain ⟨b6,hS⟩:=bU hS
 obtain ⟨aEI,aF6,hS⟩:=wV hS
 refine Zu (HW rfl rfl b6 aF6) (Zm ?_)
 obtain ⟨b8,hS⟩:=bU hS
 refine Zu (cH (aXa i_1 b8) rfl (fun _ _=>rfl)) ?_
 obtain ⟨b9,hS⟩:=bU hS
 obtain ⟨CX,R3,hS⟩:=wV hS
 refine Zu (HW rfl rfl b9 R3) (Zy ?_)
 cases hS
 exact Ze
theorem ER (bV:Nat) (aD:eL) {r:Bool} (hS:Sh.sR aD.pl=some r) :
 Ct Tryz.prog 138 [ptr bV 0] ((jX aD.kept.l).and ((jX aD.files.l).and ((mH aD.pending.l).and aD.keep.ok))) (Ow.star (eP Tryz.prog 9 aD.kept.b aD.kept.l) (Ow.star (eP Tryz.prog 9 aD.files.b aD.files.l) (Ow.star (Sv.own aD.pending 98) (bE bV [.map (some aD.kept.b),.map (some aD.files.b),aD.pending.val,i64 aD.cK,i64 aD.now,i64 aD.bX,i64 aD.ops,.bool aD.off,.bool aD.cS,i64 aD.left,aD.keep.val] 93)))) (X:=Unit) (fun _ => .bool r) (fun _=>True) (fun _=>Mo.tt) (fun _=>Ow.star (bE bV [.map (some aD.kept.b),.map (some aD.files.b),aD.pending.val,i64 aD.cK,i64 aD.now,i64 aD.bX,i64 aD.ops,.bool aD.off,.bool aD.cS,i64 aD.left,aD.keep.val] 93) (Ow.star (eP Tryz.prog 9 aD.kept.b aD.kept.l) (Ow.star (eP Tryz.prog 9 aD.files.b aD.files.l) (Sv.own aD.pending 98)))):=by
 refine Zo Tryz.func138 Tryz.ntmps138 fun c => ?_
 unfold Sh.sR at hS
 refine Zq (Zr (Zy ?_))
 refine Zq (Zq (Zr (Zm (Zu (aF rfl) (Zu (aB aLb rfl) (Zu (aL lK rfl rfl) (Zu (jE rfl) ?_)))))))
 refine Zl ?_
 refine gR hS (fun h7 hS => ?_) (fun h7 hS => ?_)
 ·
  refine Zq (Zr (Zy ?_))
  cases hS
  exact VC.ret (Z1 ())
 refine Zk ?_
 refine Zq ?_
 cases hS
theorem JG (bV:Nat) (aD:eL) (jJ:gM) {r:cB} (hS:Sh.wA aD.pl jJ.pl=some r) :
 Ct Tryz.prog 139 [ptr bV 0,.agg #[i64 jJ.kind,str jJ.path,str jJ.O5,i64 jJ.cN,i64 jJ.oF,i64 jJ.mW,jJ.rH.val]] ((jX aD.kept.l).and ((jX aD.files.l).and ((mH aD.pending.l).and (aD.keep.ok.and jJ.rH.ok)))) (Ow.star (eP Tryz.prog 9 aD.kept.b aD.kept.l) (Ow.star (eP Tryz.prog 9 aD.files.b aD.files.l) (Ow.star (Sv.own aD.pending 98) (bE bV [.map (some aD.kept.b),.map (some aD.files.b),aD.pending.val,i64 aD.cK,i64 aD.now,i64 aD.bX,i64 aD.ops,.bool aD.off,.bool aD.cS,i64 aD.left,aD.keep.val] 93)))) (X:=eL) (fun x => .tuple #[]) (fun x=>r=x.pl) (fun x=>((jX x.files.l).and ((mH x.pending.l).and x.keep.ok))) (fun x=>Ow.star (bE bV [.map (some aD.kept.b),.map (some x.files.b),x.pending.val,i64 x.cK,i64 x.now,i64 x.bX,i64 x.ops,.bool x.off,.bool x.cS,i64 x.left,x.keep.val] 93) (Ow.star (eP Tryz.prog 9 aD.kept.b aD.kept.l) (Ow.star (eP Tryz.prog 9 x.files.b x.files.l) (Sv.own x.pending 98)))):=by
 refine Zo Tryz.func139 Tryz.ntmps139 fun c => ?_
 unfold Sh.wA at hS
 refine Zq (Zr ?_)
 refine kQ [i64 jJ.kind,str jJ.path,str jJ.O5,i64 jJ.cN,i64 jJ.oF,i64 jJ.mW,jJ.rH.val] fun jC => ?_
 refine Zl ?_
 refine Zq ?_
 refine l9 [(0,true),(1,true),(2,true),(3,true),(4,true),(5,false)] ?_
 refine Zw rfl (bB rfl) ?_
 refine Zw rfl (aF rfl) ?_
 refine Zw rfl (aB tT rfl) ?_
 refine Zw rfl (aL zD rfl rfl) ?_
 refine Zw rfl (cJ aE2 rfl rfl) ?_
 refine VD.one rfl ?_
 obtain ⟨CX,R3,hS⟩:=aO hS
 refine VL.bL (TZ aD.files jJ R3) rfl (by decide) ?_
 rintro ⟨SF,a2k⟩ rfl
 try dsimp only
 refine jH ?_
 refine VD.to (fun _ _ h=>h) ?_
 refine Zq ?_
 refine l9 [(0,true),(1,true),(2,true),(3,true),(4,true),(5,true),(6,false),(7,false),(8,true),(9,true),(10,false)] ?_
 refine Zw rfl (bB rfl) ?_
 refine Zw rfl (bB rfl) ?_
 refine Zw rfl (aF rfl) ?_
 refine Zw rfl (aB PT rfl) ?_
 refine Zw rfl (aL aJj rfl rfl) ?_
 refine Zw rfl (cJ aE2 rfl rfl) ?_
 refine VD.one rfl ?_
 refine VL.lit (α:=gM) (xs:=[.tmp 15]) (vs:=[.agg #[i64 jJ.kind,str jJ.path,str jJ.O5,i64 jJ.cN,i64 jJ.oF,i64 jJ.mW,jJ.rH.val]]) [⟨jJ.kind,jJ.path,jJ.O5,jJ.cN,jJ.oF,jJ.mW,jJ.rH⟩] Tryz.underlying91 a1O (by decide) rfl rfl rfl rfl (by decide) (fun h m=>List.forall_mem_cons.2 ⟨fQ.out (X:=jJ.rH.ok) h m,fun _ h=>by cases h⟩) (by decide) (fun SU aB6 => ?_) (by decide)
 replace hS:=bW (congrArg (List.map gM.pl) aB6) hS
 refine jS [(4,aD.pending.val),(3,ptr bV 2),(2,ptr bV 0)] (aI.cons rfl (aL aJj rfl rfl) (aI.cons rfl (aB PT rfl) (aI.cons rfl (aF rfl) aI.nil))) ?_
 refine VD.one rfl ?_
 obtain ⟨b17,hS⟩:=bU hS
 refine VL.app (s:=aD.pending) (r:=SU) Tryz.underlying91 a1I (by decide) rfl Fo.out (wM (apm b17)) (wN (apm b17) (by decide)) (by decide) (fun aOx aPr => ?_)
 replace hS:=bW ((congrArg (List.map gM.pl) aPr).trans List.map_append) hS
 refine VL.aAU aPr ?_
 refine jH ?_
 refine Zw rfl (aF rfl) ?_
 refine Zw rfl (aB PT rfl) ?_
 refine VD.one rfl ?_
 refine Zv (cs':=[.map (some aD.kept.b),.map (some aD.files.b),aOx.val,i64 aD.cK,i64 aD.now,i64 aD.bX,i64 aD.ops,.bool aD.off,.bool aD.cS,i64 aD.left,aD.keep.val]) rfl aO3 ?_
 refine jH ?_
 refine VD.to (fun _ _ h=>h) ?_
 refine VC.keep (ρ':=[(0,ptr bV 0)]) [0] rfl ?_
 refine Zr (Zm (Zu (aF rfl) (Zu (aB aLa rfl) (Zu (aL fL rfl rfl) ?_))))
 obtain ⟨b24,hS⟩:=bU hS
 refine Zu (cR rfl rfl b24) (Zu (aF rfl) (Zu (aB aLa rfl) ?_))
 refine Zv (cs':=[.map (some aD.kept.b),.map (some aD.files.b),aOx.val,i64 aD.cK,i64 aD.now,i64 aD.bX,i64 (aD.ops+1),.bool aD.off,.bool aD.cS,i64 aD.left,aD.keep.val]) rfl DE ?_
 cases hS
 exact VL.nil (pZ (.inl rfl) rfl ⟨aD.kept,(Mh.mk aD.files.b a2k),aOx,aD.cK,aD.now,aD.bX,(aD.ops+1),aD.off,aD.cS,aD.left,aD.keep⟩ rfl rfl (by (try dsimp only); exact fQ.out) (by (try dsimp only); exact iY.out))
theorem MD (bV:Nat) (aD:eL) (p_1:aK) (gK:Int) (wW:Sv UInt8) {r:Int×cB} (hS:Sh.vP aD.pl p_1 gK wW.l=some r) :
 Ct Tryz.prog 90 [ptr bV 0,str p_1,i64 gK,wW.val] ((jX aD.kept.l).and ((jX aD.files.l).and ((mH aD.pending.l).and (aD.keep.ok.and wW.ok)))) (Ow.star (eP Tryz.prog 9 aD.kept.b aD.kept.l) (Ow.star (eP Tryz.prog 9 aD.files.b aD.files.l) (Ow.star (Sv.own aD.pending 98) (bE bV [.map (some aD.kept.b),.map (some aD.files.b),aD.pending.val,i64 aD.cK,i64 aD.now,i64 aD.bX,i64 aD.ops,.bool aD.off,.bool aD.cS,i64 aD.left,aD.keep.val] 93)))) (X:=Int×eL) (fun x=>i64 x.1) (fun x=>r=(x.1,x.2.pl)) (fun x=>((jX x.2.files.l).and ((mH x.2.pending.l).and x.2.keep.ok))) (fun x=>Ow.star (bE bV [.map (some aD.kept.b),.map (some x.2.files.b),x.2.pending.val,i64 x.2.cK,i64 x.2.now,i64 x.2.bX,i64 x.2.ops,.bool x.2.off,.bool x.2.cS,i64 x.2.left,x.2.keep.val] 93) (Ow.star (eP Tryz.prog 9 aD.kept.b aD.kept.l) (Ow.star (eP Tryz.prog 9 x.2.files.b x.2.files.l) (Sv.own x.2.pending 98)))):=by
 refine Zo Tryz.func90 Tryz.ntmps90 fun c => ?_
 unfold Sh.vP at hS
 refine Zq (Zr (Zy ?_))
 refine Zq (Zq (Zr (Zy ?_)))
 obtain ⟨C8,RR,hS⟩:=aO hS
 refine VL.bL (QO bV aD p_1 gK wW RR) rfl (by decide) ?_
 rintro _ _
 try dsimp only
 refine Zy ?_
 refine Zq (Zr (Zm (Zu (lF rfl rfl) ?_)))
 refine Zl ?_
 refine VC.keep (ρ':=[(0,ptr bV 0),(1,str p_1),(2,i64 gK),(3,wW.val),(9,i64 C8),(16,.bool (!decide (C8=0)))]) [0,1,2,3,9,16] rfl ?_
 refine o3 hS (fun h16 hS => ?_) (fun h16 hS => ?_)
 ·
  refine Zq ?_
  cases hS
 refine Zk ?_
 refine Zq (Zq (Zr (Zm ?_)))
 obtain ⟨PB,aBM,hS⟩:=aO hS
 refine VL.bL (ER bV aD aBM) rfl (by decide) ?_
 rintro _ _
 try dsimp only
 refine Zl ?_
 refine gR hS (fun h19 hS => ?_) (fun h19 hS => ?_)
 ·
  refine Zq ?_
  cases hS
 refine Zk ?_
 refine Zq (Zr (Zy ?_))
 obtain ⟨GZ,a0S,hS⟩:=aO hS
 refine VL.bL (QS bV aD p_1 gK wW a0S) rfl (by decide) ?_
 rintro ⟨aYJ,GD⟩ rfl
 try dsimp only
 obtain ⟨gH,RY,hS⟩:=aO hS
 refine VL.bL (JG bV (⟨aD.kept,aD.files,GD.pending,GD.cK,GD.now,GD.bX,GD.ops,GD.off,GD.cS,GD.left,GD.keep⟩:eL) aYJ RY) rfl (by decide) ?_
 rintro gQ rfl
 try dsimp only
 refine Zl ?_
 refine VC.keep (ρ':=[]) [] rfl ?_
 refine Zq (Zr (Zy ?_))
 cases hS
 exact VC.ret (Z1 (0,⟨aD.kept,gQ.files,gQ.pending,gQ.cK,gQ.now,gQ.bX,gQ.ops,gQ.off,gQ.cS,gQ.left,gQ.keep⟩))
theorem v8 (bV:Nat) (aD:eL) {r:Int×cB} (hS:Sh.p8 aD.pl=some r) :
 Ct Tryz.prog 92 [ptr bV 0] ((jX aD.kept.l).and ((jX aD.files.l).and ((mH aD.pending.l).and aD.keep.ok))) (Ow.star (eP Tryz.prog 9 aD.kept.b aD.kept.l) (Ow.star (eP Tryz.prog 9 aD.files.b aD.files.l) (Ow.star (Sv.own aD.pending 98) (bE bV [.map (some aD.kept.b),.map (some aD.files.b),aD.pending.val,i64 aD.cK,i64 aD.now,i64 aD.bX,i64 aD.ops,.bool aD.off,.bool aD.cS,i64 aD.left,aD.keep.val] 93)))) (X:=Int×eL) (fun x=>i64 x.1) (fun x=>r=(x.1,x.2.pl)) (fun x=>((jX x.2.kept.l).and ((mH x.2.pending.l).and x.2.keep.ok))) (fun x=>Ow.star (bE bV [.map (some x.2.kept.b),.map (some aD.files.b),x.2.pending.val,i64 x.2.cK,i64 x.2.now,i64 x.2.bX,i64 x.2.ops,.bool x.2.off,.bool x.2.cS,i64 x.2.left,x.2.keep.val] 93) (Ow.star (eP Tryz.prog 9 x.2.kept.b x.2.kept.l) (Ow.star (eP Tryz.prog 9 aD.files.b aD.files.l) (Sv.own x.2.pending 98)))):=by
 refine Zo Tryz.func92 Tryz.ntmps92 fun c => ?_
 unfold Sh.p8 at hS
 refine Zq (Zr (Zy ?_))
 refine Zq (Zq (Zr (Zm (Zu (aF rfl) (Zu (aB II rfl) (Zu (aL lK rfl rfl) ?_))))))
 refine Zl ?_
 refine gR hS (fun h6 hS => ?_) (fun h6 hS => ?_)
 ·
  refine Zq ?_
  cases hS
 refine Zk ?_
 refine Zq (Zr (Zm ?_))
 obtain ⟨uL,G8,hS⟩:=aO hS
 refine VL.bL (NR bV aD G8) rfl (by decide) ?_
 rintro xA rfl
 try dsimp only
 refine Zl ?_
 refine Zq (Zr (Zy ?_))
 cases hS
 exact VC.ret (Z1 (0,⟨xA.kept,aD.files,xA.pending,xA.cK,xA.now,xA.bX,xA.ops,xA.off,xA.cS,xA.left,xA.keep⟩))
theorem RL (j9:Nat) (vA:q6) {r:List UInt8} (hS:Sh.w6 vA.pl=some r) :
 Ct Tryz.prog 93 [ptr j9 0] Mo.tt (Ow.star (Sv.own vA.b 5) (bE j9 [vA.b.val] 169)) (X:=Sv UInt8) (fun x=>x.val) (fun x=>r=x.l) (fun x=>x.ok) (fun x=>Ow.star (bE j9 [vA.b.val] 169) (Sv.own vA.b 5)):=by
 refine Zo Tryz.func93 Tryz.ntmps93 fun c => ?_
 unfold Sh.w6 at hS
 refine Zq (Zr (Zy ?_))
 refine Zq (Zr (Zm (Zu (aF rfl) (Zu (aB sE rfl) (Zu (aL qR rfl rfl) ?_)))))
 obtain ⟨jO,mD,hS⟩:=aO hS
 refine VL.aJF (nZ vA.b mD) rfl (by decide) ?_
 rintro lJ rfl
 try dsimp only
 refine VL.shut lJ 5 (fun _ _ _ _=>trivial) ?_
 obtain ⟨lR,y9,hS⟩:=aO hS
 refine VL.dK (vG lJ y9) rfl (by decide) ?_
 rintro CL rfl
 try dsimp only
 refine Zy ?_
 cases hS
 exact VC.ret (Z1 CL)
theorem aBo (bV:Nat) (aD:eL) (eD:aK) (l_2:Sv cO) {r:Int×cB} (hS:Sh.BQ aD.pl eD (l_2.l.map cO.pl)=some r) :
 Ct Tryz.prog 45 [ptr bV 0,str eD,l_2.val] ((jX aD.kept.l).and ((jX aD.files.l).and ((mH aD.pending.l).and (aD.keep.ok.and (l_2.ok.and Gl))))) (Ow.star (eP Tryz.prog 9 aD.kept.b aD.kept.l) (Ow.star (eP Tryz.prog 9 aD.files.b aD.files.l) (Ow.star (Sv.own aD.pending 98) (bE bV [.map (some aD.kept.b),.map (some aD.files.b),aD.pending.val,i64 aD.cK,i64 aD.now,i64 aD.bX,i64 aD.ops,.bool aD.off,.bool aD.cS,i64 aD.left,aD.keep.val] 93)))) (X:=Int×eL) (fun x=>i64 x.1) (fun x=>r=(x.1,x.2.pl)) (fun x=>((jX x.2.kept.l).and ((jX x.2.files.l).and ((mH x.2.pending.l).and x.2.keep.ok)))) (fun x=>Ow.star (bE bV [.map (some x.2.kept.b),.map (some x.2.files.b),x.2.pending.val,i64 x.2.cK,i64 x.2.now,i64 x.2.bX,i64 x.2.ops,.bool x.2.off,.bool x.2.cS,i64 x.2.left,x.2.keep.val] 93) (Ow.star (eP Tryz.prog 9 x.2.kept.b x.2.kept.l) (Ow.star (eP Tryz.prog 9 x.2.files.b x.2.files.l) (Sv.own x.2.pending 98)))):=by
 refine Zo Tryz.func45 Tryz.ntmps45 fun c => ?_
 unfold Sh.BQ at hS
 refine Zq (Zr (Zy ?_))
 refine Zq (Zr ?_)
 refine gV [.slice none 0 0] fun UC => ?_
 refine Zl ?_
 refine Zq (Zr (Zm (Zu (qN cO.pl (s:=l_2) Tryz.underlying44 rfl) ?_)))
 refine VL.lit (α:=Int) (xs:=[.tmp 14]) (vs:=[i64 ((l_2.l.map cO.pl).length:Int)]) [((l_2.l.map cO.pl).length:Int)] Tryz.underlying83 oS (by decide) rfl rfl rfl rfl (by decide) (fun _ _ _ _=>trivial) (by decide) (fun a6A a16 => ?_) (by decide)
 replace hS:=bW a16 hS
 refine VL.nU (⟨none,0,[]⟩:Sv UInt8) 5 ⟨rfl,rfl⟩ ?_
 refine VL.SI UC (cs':=[(⟨none,0,[]⟩:Sv UInt8).val]) rfl ?_
 obtain ⟨pT,J5,hS⟩:=aO hS
 refine VL.bL (vQ UC (⟨(⟨none,0,[]⟩:Sv UInt8)⟩:q6) a6A J5) rfl (by decide) ?_
 rintro aCG rfl
 try dsimp only
 refine Zl ?_
 refine Zq (Zq (Zr (Zm (Zu (qN cO.pl (s:=l_2) Tryz.underlying44 rfl) (Zy ?_)))))
 refine Zb ?_
 refine VC.iter (S:=Int×Sv UInt8×Mh cU×Sv gM×Int×Int×Int×Int×Bool×Bool×Int×Sv Bool) (fun sg=>(sg.1,sg.2.1.l,(IP cU.pl sg.2.2.1.l),(sg.2.2.2.1.l.map gM.pl),sg.2.2.2.2.1,sg.2.2.2.2.2.1,sg.2.2.2.2.2.2.1,sg.2.2.2.2.2.2.2.1,sg.2.2.2.2.2.2.2.2.1,sg.2.2.2.2.2.2.2.2.2.1,sg.2.2.2.2.2.2.2.2.2.2.1,sg.2.2.2.2.2.2.2.2.2.2.2.l)) (fun sg=>[(0,ptr bV 0),(1,str eD),(7,ptr UC 0),(17,l_2.val),(18,i64 ((l_2.l.map cO.pl).length:Int)),(19,i64 sg.1)]) (fun sg=>((jX sg.2.2.1.l).and ((mH sg.2.2.2.1.l).and sg.2.2.2.2.2.2.2.2.2.2.2.ok))) (fun sg=>Ow.star (bE UC [sg.2.1.val] 169) (Ow.star (bE bV [.map (some aD.kept.b),.map (some sg.2.2.1.b),sg.2.2.2.1.val,i64 sg.2.2.2.2.1,i64 sg.2.2.2.2.2.1,i64 sg.2.2.2.2.2.2.1,i64 sg.2.2.2.2.2.2.2.1,.bool sg.2.2.2.2.2.2.2.2.1,.bool sg.2.2.2.2.2.2.2.2.2.1,i64 sg.2.2.2.2.2.2.2.2.2.2.1,sg.2.2.2.2.2.2.2.2.2.2.2.val] 93) (Ow.star (eP Tryz.prog 9 aD.kept.b aD.kept.l) (Ow.star (Sv.own sg.2.1 5) (Ow.star (eP Tryz.prog 9 sg.2.2.1.b sg.2.2.1.l) (Ow.star (Sv.own sg.2.2.2.1 98) (Ow.emp))))))) (0,aCG.b,aD.files,aD.pending,aD.cK,aD.now,aD.bX,aD.ops,aD.off,aD.cS,aD.left,aD.keep) [0,1,7,17,18,19] hS rfl ?_
 clear hS
 rintro ⟨GW,aLL,aAw,aFG,aFI,ZJ,ZM,ZP,ZS,ZV,ZZ,QY⟩ m1 y1 hS hK1
 refine Zq (Zr (Zu (dW rfl rfl) ?_))
 refine Zl ?_
 refine Zq ?_
 refine Zc hS (fun h20 hS => ?_) (fun h20 hS => ?_)
 ·
  refine Zk ?_
  refine Zq (Zb (Zq (Zr (Zm ?_))))
  obtain ⟨BC,aMZ,aFx,hS⟩:=EB hS
  refine VL.deep BC.m aFx (fun _ q=>q) ?_
  refine Zu (eZ (s:=l_2) Tryz.underlying44 OC rfl rfl aMZ (bH aMZ aFx)) (Zu (nX (s:=l_2) R5 rfl rfl aFx) ?_)
  refine gV [str [],.bool false,i64 0,.slice none 0 0] fun a4r => ?_
  refine Za ?_
  refine Zv (cs':=[str BC.path,.bool BC.gone,i64 BC.mode,BC.data.val]) rfl OC ?_
  refine Zl ?_
  refine Zq (Zr (Zu (aB F0 rfl) (Zu (aL cQ rfl rfl) ?_)))
  refine VL.lit (α:=aK) (xs:=[.tmp 25]) (vs:=[str BC.path]) [BC.path] Tryz.underlying39 xQ (by decide) rfl rfl rfl rfl (by decide) (fun _ _ _ _=>trivial) (by decide) (fun a2s aWm => ?_) (by decide)
  replace hS:=bW aWm hS
  obtain ⟨aK9,aUl,hS⟩:=aO hS
  refine VL.bL (T1 UC (⟨aLL⟩:q6) a2s aUl) rfl (by decide) ?_
  rintro aI8 rfl
  try dsimp only
  refine Zl ?_
  refine VC.keep (ρ':=[(0,ptr bV 0),(1,str eD),(7,ptr UC 0),(17,l_2.val),(18,i64 ((l_2.l.map cO.pl).length:Int)),(19,i64 GW),(9,ptr a4r 0),(8,i64 GW)]) [0,1,7,17,18,19,9,8] rfl ?_
  refine Zq (Zq (Zr (Zu (aB UQ rfl) (Zu (aL lK rfl rfl) ?_))))
  refine Zl ?_
  refine gR hS (fun h29 hS => ?_) (fun h29 hS => ?_)
  ·
   refine Zq (Zr ?_)
   refine VL.lit (α:=Int) (xs:=[.const (i64 1)]) (vs:=[i64 1]) [1] Tryz.underlying83 oS (by decide) rfl rfl rfl rfl (by decide) (fun _ _ _ _=>trivial) (by decide) (fun a2v aWq => ?_) (by decide)
   replace hS:=bW aWq hS
   obtain ⟨aRc,aUu,hS⟩:=aO hS
   refine VL.bL (vQ UC aI8 a2v aUu) rfl (by decide) ?_
   rintro aT7 rfl
   try dsimp only
   refine Zl ?_
   refine Zx ?_
   refine Zr ?_
   obtain ⟨b46,hS⟩:=bU hS
   refine Zu (cR rfl rfl b46) (Zm ?_)
   refine VL.jU ((GW+1),aT7.b,aAw,aFG,aFI,ZJ,ZM,ZP,ZS,ZV,ZZ,QY) [0,1,7,17,18,19] (fun _ _ h=>h) (go2 hS hK1) rfl
  refine Zk ?_
  refine Zq (Zr ?_)
  refine VL.lit (α:=Int) (xs:=[.const (i64 0)]) (vs:=[i64 0]) [0] Tryz.underlying83 oS (by decide) rfl rfl rfl rfl (by decide) (fun _ _ _ _=>trivial) (by decide) (fun a2x aWs => ?_) (by decide)
  replace hS:=bW aWs hS
  obtain ⟨aRf,aUy,hS⟩:=aO hS
  refine VL.bL (vQ UC aI8 a2x aUy) rfl (by decide) ?_
  rintro aTa rfl
  try dsimp only
  refine Zl ?_
  refine Zq ?_
  refine l9 [(0,true),(1,true),(2,true),(3,true),(4,true),(5,true),(6,true),(7,true),(8,false),(9,true)] ?_
  refine Zw rfl (bB rfl) ?_
  refine Zw rfl (bB rfl) ?_
  refine Zw rfl (bB rfl) ?_
  obtain ⟨aKe,aVI,hS⟩:=aO hS
  refine Zw rfl (cH (PY eD GW aVI) rfl (fun _ _=>rfl)) ?_
  refine Zw rfl (aB aL3 rfl) ?_
  refine Zw rfl (aL fL rfl rfl) ?_
  refine Zw rfl (aB aL4 rfl) ?_
  refine Zw rfl (aL qR rfl rfl) ?_
  refine VD.one rfl ?_
  obtain ⟨D6,aVQ,hS⟩:=aO hS
  refine VL.bL (MD bV (⟨aD.kept,aAw,aFG,aFI,ZJ,ZM,ZP,ZS,ZV,ZZ,QY⟩:eL) aKe BC.mode BC.data aVQ) rfl (by decide) ?_
  rintro ⟨aTm,AH⟩ rfl
  try dsimp only
  refine jH ?_
  refine Zw rfl (gI rfl) ?_
  refine VD.to (fun _ _ h=>h) ?_
  refine VC.keep (ρ':=[(0,ptr bV 0),(1,str eD),(7,ptr UC 0),(17,l_2.val),(18,i64 ((l_2.l.map cO.pl).length:Int)),(19,i64 GW),(10,i64 aTm)]) [0,1,7,17,18,19,10] rfl ?_
  refine Zq (Zr (Zm (Zu (lF rfl rfl) ?_)))
  refine Zl ?_
  refine o3 hS (fun h44 hS => ?_) (fun h44 hS => ?_)
  ·
   refine Zq ?_
   cases hS
  refine Zk ?_
  refine Zr ?_
  obtain ⟨b46,hS⟩:=bU hS
  refine Zu (cR rfl rfl b46) (Zm ?_)
  refine VL.jU ((GW+1),aTa.b,AH.files,AH.pending,AH.cK,AH.now,AH.bX,AH.ops,AH.off,AH.cS,AH.left,AH.keep) [0,1,7,17,18,19] (fun _ _ h=>h) (go2 hS hK1) rfl
 replace hS:=iJ hS hK1
 refine Zx ?_
 refine Zq (Zq (Zr (Zm ?_)))
 obtain ⟨kK,aF1,hS⟩:=aO hS
 refine VL.bL (v8 bV (⟨aD.kept,aAw,aFG,aFI,ZJ,ZM,ZP,ZS,ZV,ZZ,QY⟩:eL) aF1) rfl (by decide) ?_
 rintro ⟨kT,sI⟩ rfl
 try dsimp only
 refine Zy ?_
 refine Zq (Zr (Zm (Zu (lF rfl rfl) ?_)))
 refine Zl ?_
 refine VC.keep (ρ':=[(0,ptr bV 0),(1,str eD),(7,ptr UC 0),(11,i64 kT),(50,.bool (!decide (kT=0)))]) [0,1,7,11,50] rfl ?_
 refine o3 hS (fun h50 hS => ?_) (fun h50 hS => ?_)
 ·
  refine Zq ?_
  cases hS
 refine Zk ?_
 refine Zq (Zq (Zr (Zy ?_)))
 obtain ⟨b54,hS⟩:=bU hS
 obtain ⟨aKm,aV8,hS⟩:=wV hS
 refine Zu (HW rfl rfl b54 aV8) ?_
 obtain ⟨aRz,aVa,hS⟩:=aO hS
 refine VL.bL (RL UC (⟨aLL⟩:q6) aVa) rfl (by decide) ?_
 rintro aTu rfl
 try dsimp only
 obtain ⟨CT,aVe,hS⟩:=aO hS
 refine VL.bL (MD bV (⟨sI.kept,aAw,sI.pending,sI.cK,sI.now,sI.bX,sI.ops,sI.off,sI.cS,sI.left,sI.keep⟩:eL) aKm 1 aTu aVe) rfl (by decide) ?_
 rintro ⟨aTw,x7⟩ rfl
 try dsimp only
 refine Zy ?_
 refine VC.keep (ρ':=[(0,ptr bV 0),(12,i64 aTw)]) [0,12] rfl ?_
 refine Zq (Zr (Zm (Zu (lF rfl rfl) ?_)))
 refine Zl ?_
 refine o3 hS (fun h58 hS => ?_) (fun h58 hS => ?_)
 ·
  refine Zq ?_
  cases hS
 refine Zk ?_
 refine Zq (Zr (Zm ?_))
 obtain ⟨D9,aVk,hS⟩:=aO hS
 refine VL.bL (v8 bV (⟨sI.kept,x7.files,x7.pending,x7.cK,x7.now,x7.bX,x7.ops,x7.off,x7.cS,x7.left,x7.keep⟩:eL) aVk) rfl (by decide) ?_
 rintro ⟨aTz,AK⟩ rfl
 try dsimp only
 refine Zy ?_
 cases hS
 exact VC.ret (Z1 (aTz,⟨AK.kept,x7.files,AK.pending,AK.cK,AK.now,AK.bX,AK.ops,AK.off,AK.cS,AK.left,AK.keep⟩))
theorem JZ (bV:Nat) (aD:eL) (p_1:aK) {r:Int×cB} (hS:Sh.tK aD.pl p_1=some r) :
 Ct Tryz.prog 94 [ptr bV 0,str p_1] ((jX aD.kept.l).and ((jX aD.files.l).and ((mH aD.pending.l).and aD.keep.ok))) (Ow.star (eP Tryz.prog 9 aD.kept.b aD.kept.l) (Ow.star (eP Tryz.prog 9 aD.files.b aD.files.l) (Ow.star (Sv.own aD.pending 98) (bE bV [.map (some aD.kept.b),.map (some aD.files.b),aD.pending.val,i64 aD.cK,i64 aD.now,i64 aD.bX,i64 aD.ops,.bool aD.off,.bool aD.cS,i64 aD.left,aD.keep.val] 93)))) (X:=Int×eL) (fun x=>i64 x.1) (fun x=>r=(x.1,x.2.pl)) (fun x=>((jX x.2.files.l).and ((mH x.2.pending.l).and x.2.keep.ok))) (fun x=>Ow.star (bE bV [.map (some aD.kept.b),.map (some x.2.files.b),x.2.pending.val,i64 x.2.cK,i64 x.2.now,i64 x.2.bX,i64 x.2.ops,.bool x.2.off,.bool x.2.cS,i64 x.2.left,x.2.keep.val] 93) (Ow.star (eP Tryz.prog 9 aD.kept.b aD.kept.l) (Ow.star (eP Tryz.prog 9 x.2.files.b x.2.files.l) (Sv.own x.2.pending 98)))):=by
 refine Zo Tryz.func94 Tryz.ntmps94 fun c => ?_
 unfold Sh.tK at hS
 refine Zq (Zr (Zy ?_))
 refine Zq (Zr (Zm (Zu (aF rfl) (Zu (aB tT rfl) (Zu (aL zD rfl rfl) (Zm ?_))))))
 obtain ⟨b13,hS⟩:=bU hS
 obtain ⟨PC,aKC,aPw,hS⟩:=aDS (g:=cU.pl) (z0:=(⟨0,0,0,(⟨none,0,[]⟩:Sv UInt8)⟩:cU)) hS
 refine VL.aDT PC.b.ok aPw (fun h=>fQ.out (M:=Mo.tt) (X:=((⟨none,0,[]⟩:Sv UInt8).ok)) h trivial) (fun _ q=>q) ?_
 refine Zu (KS (b:=aD.files.b) (l:=aD.files.l) (a0:=p_1) (v := .agg #[i64 PC.mode,i64 PC.time,i64 PC.mI,PC.b.val]) (⟨0,0,0,(⟨none,0,[]⟩:Sv UInt8)⟩:cU) (Maps.string_keyed Tryz.underlying9) Tryz.underlying90 aDL rfl rfl (NB Tryz.underlying9 b13) aPw rfl) ?_
 refine Zm (Zu (aV rfl rfl) (Zu (aV rfl rfl) ?_))
 refine gV [i64 0,i64 0,i64 0,.slice none 0 0] fun aEy => ?_
 refine Zv (cs':=[i64 PC.mode,i64 PC.time,i64 PC.mI,PC.b.val]) rfl OD ?_
 refine Zy ?_
 refine VC.keep (ρ':=[(0,ptr bV 0),(1,str p_1),(6,.bool aKC)]) [0,1,6] rfl ?_
 refine Zq (Zb (Zq (Zr (Zm (Zu (aF rfl) (Zu (aB II rfl) (Zu (aL lK rfl rfl) (Zy ?_))))))))
 refine gR hS (fun h16 hS => ?_) (fun h16 hS => ?_)
 ·
  refine Zq ?_
  cases hS
 refine Zq (Zr (Zm (Zu (jE rfl) (Zy ?_))))
 refine VC.keep (ρ':=[(0,ptr bV 0),(1,str p_1),(21,.bool (!aKC))]) [0,1,21] rfl ?_
 refine gR hS (fun h21 hS => ?_) (fun h21 hS => ?_)
 ·
  refine Zq ?_
  cases hS
 refine Zq (Zr (Zm ?_))
 obtain ⟨TC,aBQ,hS⟩:=aO hS
 refine VL.bL (ER bV aD aBQ) rfl (by decide) ?_
 rintro _ _
 try dsimp only
 refine Zy ?_
 refine gR hS (fun h24 hS => ?_) (fun h24 hS => ?_)
 ·
  refine Zq ?_
  cases hS
 refine Zk ?_
 refine Zq (Zr (Zy ?_))
 refine Zu (fR (vs:=[(0,i64 3),(1,str p_1)]) (cs := #[i64 3,str p_1,str [],i64 0,i64 0,i64 0,.slice none 0 0]) rfl (by kernel_rfl)) ?_
 obtain ⟨uJ,RZ,hS⟩:=aO hS
 refine VL.bL (JG bV aD (⟨3,p_1,[],0,0,0,⟨none,0,[]⟩⟩:gM) RZ) rfl (by decide) ?_
 rintro DM rfl
 try dsimp only
 refine Zl ?_
 refine Zq (Zr (Zy ?_))
 refine VC.keep (ρ':=[(4,i64 0)]) [4] rfl ?_
 cases hS
 exact VC.ret (Z1 (0,⟨aD.kept,DM.files,DM.pending,DM.cK,DM.now,DM.bX,DM.ops,DM.off,DM.cS,DM.left,DM.keep⟩))
theorem YR (bV:Nat) (aD:eL) (vS:aK) (J0:aK) {r:Int×cB} (hS:Sh.yA aD.pl vS J0=some r) :
 Ct Tryz.prog 96 [ptr bV 0,str vS,str J0] ((jX aD.kept.l).and ((jX aD.files.l).and ((mH aD.pending.l).and aD.keep.ok))) (Ow.star (eP Tryz.prog 9 aD.kept.b aD.kept.l) (Ow.star (eP Tryz.prog 9 aD.files.b aD.files.l) (Ow.star (Sv.own aD.pending 98) (bE bV [.map (some aD.kept.b),.map (some aD.files.b),aD.pending.val,i64 aD.cK,i64 aD.now,i64 aD.bX,i64 aD.ops,.bool aD.off,.bool aD.cS,i64 aD.left,aD.keep.val] 93)))) (X:=Int×eL) (fun x=>i64 x.1) (fun x=>r=(x.1,x.2.pl)) (fun x=>((jX x.2.files.l).and ((mH x.2.pending.l).and x.2.keep.ok))) (fun x=>Ow.star (bE bV [.map (some aD.kept.b),.map (some x.2.files.b),x.2.pending.val,i64 x.2.cK,i64 x.2.now,i64 x.2.bX,i64 x.2.ops,.bool x.2.off,.bool x.2.cS,i64 x.2.left,x.2.keep.val] 93) (Ow.star (eP Tryz.prog 9 aD.kept.b aD.kept.l) (Ow.star (eP Tryz.prog 9 x.2.files.b x.2.files.l) (Sv.own x.2.pending 98)))):=by
 refine Zo Tryz.func96 Tryz.ntmps96 fun c => ?_
 unfold Sh.yA at hS
 refine Zq (Zr (Zy ?_))
 refine Zq (Zq (Zr (Zm (Zu (aF rfl) (Zu (aB II rfl) (Zu (aL lK rfl rfl) ?_))))))
 refine Zl ?_
 refine gR hS (fun h13 hS => ?_) (fun h13 hS => ?_)
 ·
  refine Zq ?_
  cases hS
 refine Zk ?_
 refine Zq (Zq (Zr (Zm (Zu (aF rfl) (Zu (aB tT rfl) (Zu (aL zD rfl rfl) (Zm ?_)))))))
 obtain ⟨b20,hS⟩:=bU hS
 obtain ⟨PF,aOa,aQG,hS⟩:=aDS (g:=cU.pl) (z0:=(⟨0,0,0,(⟨none,0,[]⟩:Sv UInt8)⟩:cU)) hS
 refine VL.aDT PF.b.ok aQG (fun h=>fQ.out (M:=Mo.tt) (X:=((⟨none,0,[]⟩:Sv UInt8).ok)) h trivial) (fun _ q=>q) ?_
 refine Zu (KS (b:=aD.files.b) (l:=aD.files.l) (a0:=vS) (v := .agg #[i64 PF.mode,i64 PF.time,i64 PF.mI,PF.b.val]) (⟨0,0,0,(⟨none,0,[]⟩:Sv UInt8)⟩:cU) (Maps.string_keyed Tryz.underlying9) Tryz.underlying90 aDL rfl rfl (NB Tryz.underlying9 b20) aQG rfl) ?_
 refine Zm (Zu (aV rfl rfl) (Zu (aV rfl rfl) ?_))
 refine gV [i64 0,i64 0,i64 0,.slice none 0 0] fun aHp => ?_
 refine Zv (cs':=[i64 PF.mode,i64 PF.time,i64 PF.mI,PF.b.val]) rfl OD ?_
 refine Zy ?_
 refine VC.keep (ρ':=[(0,ptr bV 0),(1,str vS),(2,str J0),(8,.bool aOa)]) [0,1,2,8] rfl ?_
 refine Zq (Zr (Zm (Zu (jE rfl) ?_)))
 refine Zl ?_
 refine gR hS (fun h24 hS => ?_) (fun h24 hS => ?_)
 ·
  refine Zq ?_
  cases hS
 refine Zk ?_
 refine Zq (Zq (Zr (Zm ?_)))
 obtain ⟨TC,aBQ,hS⟩:=aO hS
 refine Zu (cH (xV J0 aBQ) rfl (fun _ _=>rfl)) ?_
 refine Zy ?_
 refine Zq (Zr (Zm (Zu (lF rfl rfl) ?_)))
 refine Zl ?_
 refine o3 hS (fun h28 hS => ?_) (fun h28 hS => ?_)
 ·
  refine Zq ?_
  cases hS
 refine Zk ?_
 refine VC.keep (ρ':=[(0,ptr bV 0),(1,str vS),(2,str J0)]) [0,1,2] rfl ?_
 refine Zq (Zq (Zr (Zm (Zu (aF rfl) (Zu (aB tT rfl) (Zu (aL zD rfl rfl) (Zy ?_)))))))
 obtain ⟨aDx,aJb,hS⟩:=aO hS
 refine VL.bL (D3 aD.files J0 vS aJb) rfl (by decide) ?_
 rintro _ _
 try dsimp only
 refine Zl ?_
 refine gR hS (fun h36 hS => ?_) (fun h36 hS => ?_)
 ·
  refine Zq ?_
  cases hS
 refine Zk ?_
 refine Zq (Zq (Zr (Zy ?_)))
 refine VC.keep (ρ':=[(0,ptr bV 0),(1,str vS),(2,str J0),(39,.bool (decide (vS=J0)))]) [0,1,2,39] rfl ?_
 refine Zc hS (fun h39 hS => ?_) (fun h39 hS => ?_)
 ·
  refine Zq ?_
  cases hS
 refine Zk ?_
 refine Zq (Zq (Zr (Zm ?_)))
 obtain ⟨aZW,a0n,hS⟩:=aO hS
 refine VL.bL (ER bV aD a0n) rfl (by decide) ?_
 rintro _ _
 try dsimp only
 refine Zl ?_
 refine gR hS (fun h41 hS => ?_) (fun h41 hS => ?_)
 ·
  refine Zq ?_
  cases hS
 refine Zk ?_
 refine Zq (Zr (Zy ?_))
 refine Zu (fR (vs:=[(0,i64 2),(1,str vS),(2,str J0)]) (cs := #[i64 2,str vS,str J0,i64 0,i64 0,i64 0,.slice none 0 0]) rfl (by kernel_rfl)) ?_
 obtain ⟨zP,aBS,hS⟩:=aO hS
 refine VL.bL (JG bV aD (⟨2,vS,J0,0,0,0,⟨none,0,[]⟩⟩:gM) aBS) rfl (by decide) ?_
 rintro DP rfl
 try dsimp only
 refine Zl ?_
 refine VC.keep (ρ':=[]) [] rfl ?_
 refine Zq (Zr (Zy ?_))
 cases hS
 exact VC.ret (Z1 (0,⟨aD.kept,DP.files,DP.pending,DP.cK,DP.now,DP.bX,DP.ops,DP.off,DP.cS,DP.left,DP.keep⟩))
theorem aAO (bV:Nat) (aD:eL) (eD:aK) (l_2:Sv cO) {r:Int×cB} (hS:Sh.zS aD.pl eD (l_2.l.map cO.pl)=some r) :
 Ct Tryz.prog 47 [ptr bV 0,str eD,l_2.val] ((jX aD.kept.l).and ((jX aD.files.l).and ((mH aD.pending.l).and (aD.keep.ok.and (l_2.ok.and Gl))))) (Ow.star (eP Tryz.prog 9 aD.kept.b aD.kept.l) (Ow.star (eP Tryz.prog 9 aD.files.b aD.files.l) (Ow.star (Sv.own aD.pending 98) (bE bV [.map (some aD.kept.b),.map (some aD.files.b),aD.pending.val,i64 aD.cK,i64 aD.now,i64 aD.bX,i64 aD.ops,.bool aD.off,.bool aD.cS,i64 aD.left,aD.keep.val] 93)))) (X:=Int×eL) (fun x=>i64 x.1) (fun x=>r=(x.1,x.2.pl)) (fun x=>((jX x.2.kept.l).and ((jX x.2.files.l).and ((mH x.2.pending.l).and x.2.keep.ok)))) (fun x=>Ow.star (bE bV [.map (some x.2.kept.b),.map (some x.2.files.b),x.2.pending.val,i64 x.2.cK,i64 x.2.now,i64 x.2.bX,i64 x.2.ops,.bool x.2.off,.bool x.2.cS,i64 x.2.left,x.2.keep.val] 93) (Ow.star (eP Tryz.prog 9 x.2.kept.b x.2.kept.l) (Ow.star (eP Tryz.prog 9 x.2.files.b x.2.files.l) (Sv.own x.2.pending 98)))):=by
 refine Zo Tryz.func47 Tryz.ntmps47 fun c => ?_
 unfold Sh.zS at hS
 refine Zq (Zr (Zy ?_))
 refine Zq (Zq (Zr (Zm (Zu (qN cO.pl (s:=l_2) Tryz.underlying44 rfl) (Zy ?_)))))
 refine Zb ?_
 refine VC.iter (S:=Int×Mh cU×Sv gM×Int×Int×Int×Int×Bool×Bool×Int×Sv Bool) (fun sg=>(sg.1,(IP cU.pl sg.2.1.l),(sg.2.2.1.l.map gM.pl),sg.2.2.2.1,sg.2.2.2.2.1,sg.2.2.2.2.2.1,sg.2.2.2.2.2.2.1,sg.2.2.2.2.2.2.2.1,sg.2.2.2.2.2.2.2.2.1,sg.2.2.2.2.2.2.2.2.2.1,sg.2.2.2.2.2.2.2.2.2.2.l)) (fun sg=>[(0,ptr bV 0),(1,str eD),(2,l_2.val),(11,l_2.val),(12,i64 ((l_2.l.map cO.pl).length:Int)),(13,i64 sg.1)]) (fun sg=>((jX sg.2.1.l).and ((mH sg.2.2.1.l).and sg.2.2.2.2.2.2.2.2.2.2.ok))) (fun sg=>Ow.star (bE bV [.map (some aD.kept.b),.map (some sg.2.1.b),sg.2.2.1.val,i64 sg.2.2.2.1,i64 sg.2.2.2.2.1,i64 sg.2.2.2.2.2.1,i64 sg.2.2.2.2.2.2.1,.bool sg.2.2.2.2.2.2.2.1,.bool sg.2.2.2.2.2.2.2.2.1,i64 sg.2.2.2.2.2.2.2.2.2.1,sg.2.2.2.2.2.2.2.2.2.2.val] 93) (Ow.star (eP Tryz.prog 9 aD.kept.b aD.kept.l) (Ow.star (eP Tryz.prog 9 sg.2.1.b sg.2.1.l) (Ow.star (Sv.own sg.2.2.1 98) (Ow.emp))))) (0,aD.files,aD.pending,aD.cK,aD.now,aD.bX,aD.ops,aD.off,aD.cS,aD.left,aD.keep) [0,1,2,11,12,13] hS rfl ?_
 clear hS
 rintro ⟨vJ,eY,aFF,aFH,aFJ,aFK,aFL,aFM,aFN,ZY,QX⟩ m1 y1 hS hK1
 refine Zq (Zr (Zu (dW rfl rfl) ?_))
 refine Zl ?_
 refine Zq ?_
 refine Zc hS (fun h14 hS => ?_) (fun h14 hS => ?_)
 ·
  refine Zk ?_
  refine Zq (Zb (Zq (Zr ?_)))
  obtain ⟨CU,aMY,aFw,hS⟩:=EB hS
  refine VL.deep CU.m aFw (fun _ q=>q) ?_
  refine Zu (eZ (s:=l_2) Tryz.underlying44 OC rfl rfl aMY (bH aMY aFw)) (Zu (nX (s:=l_2) R5 rfl rfl aFw) ?_)
  refine gV [str [],.bool false,i64 0,.slice none 0 0] fun a4q => ?_
  refine Zv (cs':=[str CU.path,.bool CU.gone,i64 CU.mode,CU.data.val]) rfl OC ?_
  refine Zl ?_
  refine VC.gN (S:=Bool×Mh cU×Sv gM×Int×Int×Int×Int×Bool×Bool×Int×Sv Bool) (fun sg=>(sg.1,(IP cU.pl sg.2.1.l),(sg.2.2.1.l.map gM.pl),sg.2.2.2.1,sg.2.2.2.2.1,sg.2.2.2.2.2.1,sg.2.2.2.2.2.2.1,sg.2.2.2.2.2.2.2.1,sg.2.2.2.2.2.2.2.2.1,sg.2.2.2.2.2.2.2.2.2.1,sg.2.2.2.2.2.2.2.2.2.2.l)) (fun sg=>[(0,ptr bV 0),(1,str eD),(2,l_2.val),(11,l_2.val),(12,i64 ((l_2.l.map cO.pl).length:Int)),(13,i64 vJ),(25,.bool sg.1)]) (fun sg=>((jX sg.2.1.l).and ((mH sg.2.2.1.l).and sg.2.2.2.2.2.2.2.2.2.2.ok))) (fun sg=>Ow.star (bE a4q [str CU.path,.bool CU.gone,i64 CU.mode,CU.data.val] 52) (Ow.star (bE bV [.map (some aD.kept.b),.map (some sg.2.1.b),sg.2.2.1.val,i64 sg.2.2.2.1,i64 sg.2.2.2.2.1,i64 sg.2.2.2.2.2.1,i64 sg.2.2.2.2.2.2.1,.bool sg.2.2.2.2.2.2.2.1,.bool sg.2.2.2.2.2.2.2.2.1,i64 sg.2.2.2.2.2.2.2.2.2.1,sg.2.2.2.2.2.2.2.2.2.2.val] 93) (Ow.star (eP Tryz.prog 9 aD.kept.b aD.kept.l) (Ow.star (eP Tryz.prog 9 sg.2.1.b sg.2.1.l) (Ow.star (Sv.own sg.2.2.1 98) (Ow.emp)))))) hS ?_ ?_
  ·
   clear hS
   intro k25 hS
   refine Zr (Zu (aB UQ rfl) (Zu (aL lK rfl rfl) (Zm ?_)))
   refine xJ 19 hS (fun h19 hS => ?_) (fun h19 hS => ?_)
   ·
    refine Zg ?_
    refine Zh (aB F0 rfl) ?_
    refine Zh (aL cQ rfl rfl) ?_
    refine VL.guard rfl rfl ?_
    obtain ⟨D5,aUi,hS⟩:=aO hS
    refine VL.bL (JZ bV (⟨aD.kept,eY,aFF,aFH,aFJ,aFK,aFL,aFM,aFN,ZY,QX⟩:eL) CU.path aUi) rfl (by decide) ?_
    rintro ⟨aTY,AG⟩ rfl
    try dsimp only
    refine Zh (iI rfl rfl) ?_
    refine Zt ?_
    refine VL.mt ((decide (aTY=13)),AG.files,AG.pending,AG.cK,AG.now,AG.bX,AG.ops,AG.off,AG.cS,AG.left,AG.keep) [0,1,2,11,12,13,25] (fun _ _ h=>h) hS rfl
   refine VL.runs 6 [(25,some false)] (by kernel_rfl) ?_
   refine VL.mt (false,eY,aFF,aFH,aFJ,aFK,aFL,aFM,aFN,ZY,QX) [0,1,2,11,12,13,25] (fun _ _ h=>h) hS rfl
  clear hS
  rintro ⟨aR2,aNn,aNq,aNt,aNw,aNz,aOC,aOF,aOI,aOL,aJC⟩ hS
  refine gR hS (fun h25 hS => ?_) (fun h25 hS => ?_)
  ·
   refine Zq ?_
   cases hS
  refine Zk ?_
  refine Zr ?_
  obtain ⟨b26,hS⟩:=bU hS
  refine Zu (cR rfl rfl b26) (Zm ?_)
  refine VL.jU ((vJ+1),aNn,aNq,aNt,aNw,aNz,aOC,aOF,aOI,aOL,aJC) [0,1,2,11,12,13] (fun _ _ h=>h) (go2 hS hK1) rfl
 replace hS:=iJ hS hK1
 refine Zx ?_
 refine Zq (Zq (Zr (Zm (Zu (qN cO.pl (s:=l_2) Tryz.underlying44 rfl) (Zy ?_)))))
 refine Zb ?_
 refine VC.iter (S:=Int×Mh cU×Sv gM×Int×Int×Int×Int×Bool×Bool×Int×Sv Bool) (fun sg=>(sg.1,(IP cU.pl sg.2.1.l),(sg.2.2.1.l.map gM.pl),sg.2.2.2.1,sg.2.2.2.2.1,sg.2.2.2.2.2.1,sg.2.2.2.2.2.2.1,sg.2.2.2.2.2.2.2.1,sg.2.2.2.2.2.2.2.2.1,sg.2.2.2.2.2.2.2.2.2.1,sg.2.2.2.2.2.2.2.2.2.2.l)) (fun sg=>[(0,ptr bV 0),(1,str eD),(27,l_2.val),(28,i64 ((l_2.l.map cO.pl).length:Int)),(29,i64 sg.1)]) (fun sg=>((jX sg.2.1.l).and ((mH sg.2.2.1.l).and sg.2.2.2.2.2.2.2.2.2.2.ok))) (fun sg=>Ow.star (bE bV [.map (some aD.kept.b),.map (some sg.2.1.b),sg.2.2.1.val,i64 sg.2.2.2.1,i64 sg.2.2.2.2.1,i64 sg.2.2.2.2.2.1,i64 sg.2.2.2.2.2.2.1,.bool sg.2.2.2.2.2.2.2.1,.bool sg.2.2.2.2.2.2.2.2.1,i64 sg.2.2.2.2.2.2.2.2.2.1,sg.2.2.2.2.2.2.2.2.2.2.val] 93) (Ow.star (eP Tryz.prog 9 aD.kept.b aD.kept.l) (Ow.star (eP Tryz.prog 9 sg.2.1.b sg.2.1.l) (Ow.star (Sv.own sg.2.2.1 98) (Ow.emp))))) (0,eY,aFF,aFH,aFJ,aFK,aFL,aFM,aFN,ZY,QX) [0,1,27,28,29] hS rfl ?_
 clear hS
 rintro ⟨KM,RH,ZG,ZI,ZL,ZO,ZR,ZU,ZX,Z4,Q0⟩ m1 y1 hS hK1
 refine Zq (Zr (Zu (dW rfl rfl) ?_))
 refine Zl ?_
 refine Zq ?_
 refine Zc hS (fun h30 hS => ?_) (fun h30 hS => ?_)
 ·
  refine Zk ?_
  refine Zq (Zb (Zq (Zr (Zm ?_))))
  obtain ⟨CV,aM1,aFy,hS⟩:=EB hS
  refine VL.deep CV.m aFy (fun _ q=>q) ?_
  refine Zu (eZ (s:=l_2) Tryz.underlying44 OC rfl rfl aM1 (bH aM1 aFy)) (Zu (nX (s:=l_2) R5 rfl rfl aFy) ?_)
  refine gV [str [],.bool false,i64 0,.slice none 0 0] fun aZh => ?_
  refine Za ?_
  refine Zv (cs':=[str CV.path,.bool CV.gone,i64 CV.mode,CV.data.val]) rfl OC ?_
  refine Zl ?_
  refine VC.gN (S:=Bool×Mh cU×Sv gM×Int×Int×Int×Int×Bool×Bool×Int×Sv Bool) (fun sg=>(sg.1,(IP cU.pl sg.2.1.l),(sg.2.2.1.l.map gM.pl),sg.2.2.2.1,sg.2.2.2.2.1,sg.2.2.2.2.2.1,sg.2.2.2.2.2.2.1,sg.2.2.2.2.2.2.2.1,sg.2.2.2.2.2.2.2.2.1,sg.2.2.2.2.2.2.2.2.2.1,sg.2.2.2.2.2.2.2.2.2.2.l)) (fun sg=>[(0,ptr bV 0),(1,str eD),(27,l_2.val),(28,i64 ((l_2.l.map cO.pl).length:Int)),(29,i64 KM),(46,.bool sg.1)]) (fun sg=>((jX sg.2.1.l).and ((mH sg.2.2.1.l).and sg.2.2.2.2.2.2.2.2.2.2.ok))) (fun sg=>Ow.star (bE aZh [str CV.path,.bool CV.gone,i64 CV.mode,CV.data.val] 52) (Ow.star (bE bV [.map (some aD.kept.b),.map (some sg.2.1.b),sg.2.2.1.val,i64 sg.2.2.2.1,i64 sg.2.2.2.2.1,i64 sg.2.2.2.2.2.1,i64 sg.2.2.2.2.2.2.1,.bool sg.2.2.2.2.2.2.2.1,.bool sg.2.2.2.2.2.2.2.2.1,i64 sg.2.2.2.2.2.2.2.2.2.1,sg.2.2.2.2.2.2.2.2.2.2.val] 93) (Ow.star (eP Tryz.prog 9 aD.kept.b aD.kept.l) (Ow.star (eP Tryz.prog 9 sg.2.1.b sg.2.1.l) (Ow.star (Sv.own sg.2.2.1 98) (Ow.emp)))))) hS ?_ ?_
  ·
   clear hS
   intro k51 hS
   refine l9 [(0,true),(1,true),(2,true),(3,true),(4,true),(5,true),(6,true),(7,true),(8,true),(9,true),(10,false),(11,true),(12,true)] ?_
   refine Zw rfl (aB UQ rfl) ?_
   refine Zw rfl (aL lK rfl rfl) ?_
   refine Zw rfl (jE rfl) ?_
   refine Zw rfl (bB rfl) ?_
   refine VD.split 37 rfl (fun h37 => ?_) (fun h37 => ?_)
   ·
    replace hS:=EZ h37 hS
    refine Zi rfl (bB rfl) ?_
    refine Zi rfl (bB rfl) ?_
    refine Zi rfl (bB rfl) ?_
    obtain ⟨aKf,aVM,hS⟩:=aO hS
    refine Zi rfl (cH (PY eD KM aVM) rfl (fun _ _=>rfl)) ?_
    refine Zi rfl (aB F0 rfl) ?_
    refine Zi rfl (aL cQ rfl rfl) ?_
    refine VD.aEF rfl rfl rfl ?_
    refine VL.guard rfl rfl ?_
    obtain ⟨D7,aVS,hS⟩:=aO hS
    refine VL.bL (YR bV (⟨aD.kept,RH,ZG,ZI,ZL,ZO,ZR,ZU,ZX,Z4,Q0⟩:eL) aKf CV.path aVS) rfl (by decide) ?_
    rintro ⟨aTo,AI⟩ rfl
    try dsimp only
    refine jH ?_
    refine Zi rfl (iI rfl rfl) ?_
    refine Zw rfl (gS rfl rfl) ?_
    refine VD.mt ((decide (aTo=13)),AI.files,AI.pending,AI.cK,AI.now,AI.bX,AI.ops,AI.off,AI.cS,AI.left,AI.keep) [0,1,27,28,29,46] (fun _ _ h=>h) hS rfl
   replace hS:=a4c h37 hS
   refine Zd ?_
   refine Zd ?_
   refine Zd ?_
   refine Zd ?_
   refine Zd ?_
   refine Zd ?_
   refine VD.Y4 (D':=[]) rfl rfl rfl (by decide) (by decide) (by kernel_rfl) (aI.nil) ?_
   refine Zd ?_
   refine Zw rfl (gL rfl rfl) ?_
   refine VD.mt (false,RH,ZG,ZI,ZL,ZO,ZR,ZU,ZX,Z4,Q0) [0,1,27,28,29,46] (fun _ _ h=>h) hS rfl
  clear hS
  rintro ⟨aR3,aNp,aNs,aNv,aNy,aOB,aOE,aOH,aOK,aON,aJE⟩ hS
  refine gR hS (fun h46 hS => ?_) (fun h46 hS => ?_)
  ·
   refine Zq ?_
   cases hS
  refine Zk ?_
  refine Zr ?_
  obtain ⟨b47,hS⟩:=bU hS
  refine Zu (cR rfl rfl b47) (Zm ?_)
  refine VL.jU ((KM+1),aNp,aNs,aNv,aNy,aOB,aOE,aOH,aOK,aON,aJE) [0,1,27,28,29] (fun _ _ h=>h) (go2 hS hK1) rfl
 replace hS:=iJ hS hK1
 refine Zx ?_
 refine Zq (Zr (Zm ?_))
 obtain ⟨D8,aVZ,hS⟩:=aO hS
 refine VL.bL (v8 bV (⟨aD.kept,RH,ZG,ZI,ZL,ZO,ZR,ZU,ZX,Z4,Q0⟩:eL) aVZ) rfl (by decide) ?_
 rintro ⟨aTr,AJ⟩ rfl
 try dsimp only
 refine Zy ?_
 cases hS
 exact VC.ret (Z1 (aTr,⟨AJ.kept,RH,AJ.pending,AJ.cK,AJ.now,AJ.bX,AJ.ops,AJ.off,AJ.cS,AJ.left,AJ.keep⟩))
theorem aDP (bV:Nat) (aD:eL) (eD:aK) {r:Int×cB} (hS:Sh.DI aD.pl eD=some r) :
 Ct Tryz.prog 46 [ptr bV 0,str eD] ((jX aD.kept.l).and ((jX aD.files.l).and ((mH aD.pending.l).and aD.keep.ok))) (Ow.star (eP Tryz.prog 9 aD.kept.b aD.kept.l) (Ow.star (eP Tryz.prog 9 aD.files.b aD.files.l) (Ow.star (Sv.own aD.pending 98) (bE bV [.map (some aD.kept.b),.map (some aD.files.b),aD.pending.val,i64 aD.cK,i64 aD.now,i64 aD.bX,i64 aD.ops,.bool aD.off,.bool aD.cS,i64 aD.left,aD.keep.val] 93)))) (X:=Int×eL) (fun x=>i64 x.1) (fun x=>r=(x.1,x.2.pl)) (fun x=>((jX x.2.kept.l).and ((jX x.2.files.l).and ((mH x.2.pending.l).and x.2.keep.ok)))) (fun x=>Ow.star (bE bV [.map (some x.2.kept.b),.map (some x.2.files.b),x.2.pending.val,i64 x.2.cK,i64 x.2.now,i64 x.2.bX,i64 x.2.ops,.bool x.2.off,.bool x.2.cS,i64 x.2.left,x.2.keep.val] 93) (Ow.star (eP Tryz.prog 9 x.2.kept.b x.2.kept.l) (Ow.star (eP Tryz.prog 9 x.2.files.b x.2.files.l) (Sv.own x.2.pending 98)))):=by
 refine Zo Tryz.func46 Tryz.ntmps46 fun c => ?_
 unfold Sh.DI at hS
 refine Zq (Zr (Zy ?_))
 refine Zq (Zq (Zr (Zy ?_)))
 obtain ⟨b12,hS⟩:=bU hS
 obtain ⟨A3,aJQ,hS⟩:=wV hS
 refine Zu (HW rfl rfl b12 aJQ) ?_
 obtain ⟨kM,RP,hS⟩:=aO hS
 refine VL.bL (JZ bV aD A3 RP) rfl (by decide) ?_
 rintro ⟨VK,pI⟩ rfl
 try dsimp only
 refine Zu (iI rfl rfl) ?_
 refine Zl ?_
 refine Zc hS (fun h14 hS => ?_) (fun h14 hS => ?_)
 ·
  refine Zq ?_
  cases hS
 refine Zk ?_
 refine Zq (Zq (Zr (Zm ?_)))
 obtain ⟨iA,rG,hS⟩:=aO hS
 refine VL.bL (v8 bV (⟨aD.kept,pI.files,pI.pending,pI.cK,pI.now,pI.bX,pI.ops,pI.off,pI.cS,pI.left,pI.keep⟩:eL) rG) rfl (by decide) ?_
 rintro ⟨IV,jQ⟩ rfl
 try dsimp only
 refine Zy ?_
 refine VC.keep (ρ':=[(0,ptr bV 0),(1,str eD),(5,i64 IV)]) [0,1,5] rfl ?_
 refine Zq (Zr (Zm (Zu (lF rfl rfl) ?_)))
 refine Zl ?_
 refine o3 hS (fun h18 hS => ?_) (fun h18 hS => ?_)
 ·
  refine Zq ?_
  cases hS
 refine Zk ?_
 refine Zq (Zr (Zy ?_))
 obtain ⟨S9,aJ3,hS⟩:=aO hS
 refine VL.bL (TU bV (⟨jQ.kept,pI.files,jQ.pending,jQ.cK,jQ.now,jQ.bX,jQ.ops,jQ.off,jQ.cS,jQ.left,jQ.keep⟩:eL) eD aJ3) rfl (by decide) ?_
 rintro ⟨L1,aYI⟩ rfl
 try dsimp only
 refine Zm (Zu (aV rfl rfl) (Zu (aV rfl rfl) (Zy ?_)))
 refine VC.keep (ρ':=[(0,ptr bV 0),(6,L1.val),(7,i64 aYI)]) [0,6,7] rfl ?_
 refine Zq (Zq (Zr (Zm (Zu (lF rfl rfl) ?_))))
 refine Zl ?_
 refine o3 hS (fun h27 hS => ?_) (fun h27 hS => ?_)
 ·
  refine Zq ?_
  cases hS
 refine Zk ?_
 refine Zq (Zq (Zr (Zm (Zu (eB (s:=L1) Tryz.underlying39 rfl) (Zy ?_)))))
 refine Zb ?_
 refine VC.iter (S:=Unit) (fun (_:Unit)=>()) (fun (_:Unit)=>[(0,ptr bV 0),(29,L1.val),(30,i64 (L1.l.length:Int)),(31,i64 0)]) (fun (_:Unit)=>Mo.tt) (fun (_:Unit)=>Ow.star (bE bV [.map (some jQ.kept.b),.map (some pI.files.b),jQ.pending.val,i64 jQ.cK,i64 jQ.now,i64 jQ.bX,i64 jQ.ops,.bool jQ.off,.bool jQ.cS,i64 jQ.left,jQ.keep.val] 93) (Ow.star (Sv.own jQ.pending 98) (Ow.star (eP Tryz.prog 9 pI.files.b pI.files.l) (Ow.star (eP Tryz.prog 9 jQ.kept.b jQ.kept.l) (Ow.star (Sv.own L1 9) (Ow.emp)))))) () [0,29,30,31] hS rfl ?_
 clear hS
 rintro _ m1 y1 hS hK1
 refine Zq (Zr (Zu (dW rfl rfl) ?_))
 refine Zl ?_
 refine Zq ?_
 refine Zc hS (fun h32 hS => ?_) (fun h32 hS => ?_)
 ·
  refine Zk ?_
  refine Zq (Zb (Zq (Zr ?_)))
  obtain ⟨a6g,aQv,aQR,hS⟩:=fA hS
  refine Zu (lN (s:=L1) Tryz.underlying39 pU rfl rfl aQv (bH aQv aQR)) (Zu (AO (s:=L1) 9 cQ rfl aQR rfl) (Zy ?_))
  refine Zq ?_
  cases hS
 replace hS:=iJ hS hK1
 refine Zx ?_
 refine Zq (Zr (Zm ?_))
 obtain ⟨JR,a0o,hS⟩:=aO hS
 refine VL.bL (v8 bV (⟨jQ.kept,pI.files,jQ.pending,jQ.cK,jQ.now,jQ.bX,jQ.ops,jQ.off,jQ.cS,jQ.left,jQ.keep⟩:eL) a0o) rfl (by decide) ?_
 rintro ⟨aYV,DO⟩ rfl
 try dsimp only
 refine Zy ?_
 cases hS
 exact VC.ret (Z1 (aYV,⟨DO.kept,pI.files,DO.pending,DO.cK,DO.now,DO.bX,DO.ops,DO.off,DO.cS,DO.left,DO.keep⟩))
theorem aGG (bV:Nat) (aD:eL) (eD:aK) (l_2:Sv cO) {r:Int×cB} (hS:Sh.IM aD.pl eD (l_2.l.map cO.pl)=some r) :
 Ct Tryz.prog 13 [ptr bV 0,str eD,l_2.val] ((jX aD.kept.l).and ((jX aD.files.l).and ((mH aD.pending.l).and (aD.keep.ok.and (l_2.ok.and Gl))))) (Ow.star (eP Tryz.prog 9 aD.kept.b aD.kept.l) (Ow.star (eP Tryz.prog 9 aD.files.b aD.files.l) (Ow.star (Sv.own aD.pending 98) (bE bV [.map (some aD.kept.b),.map (some aD.files.b),aD.pending.val,i64 aD.cK,i64 aD.now,i64 aD.bX,i64 aD.ops,.bool aD.off,.bool aD.cS,i64 aD.left,aD.keep.val] 93)))) (X:=Int×eL) (fun x=>i64 x.1) (fun x=>r=(x.1,x.2.pl)) (fun x=>((jX x.2.kept.l).and ((jX x.2.files.l).and ((mH x.2.pending.l).and x.2.keep.ok)))) (fun x=>Ow.star (bE bV [.map (some x.2.kept.b),.map (some x.2.files.b),x.2.pending.val,i64 x.2.cK,i64 x.2.now,i64 x.2.bX,i64 x.2.ops,.bool x.2.off,.bool x.2.cS,i64 x.2.left,x.2.keep.val] 93) (Ow.star (eP Tryz.prog 9 x.2.kept.b x.2.kept.l) (Ow.star (eP Tryz.prog 9 x.2.files.b x.2.files.l) (Sv.own x.2.pending 98)))):=by
 refine Zo Tryz.func13 Tryz.ntmps13 fun c => ?_
 unfold Sh.IM at hS
 refine Zq (Zr (Zy ?_))
 refine Zq (Zq (Zr (Zy ?_)))
 obtain ⟨aZA,aZs,hS⟩:=aO hS
 refine Zu (cH (aBn eD l_2 aZs) rfl (fun _ _=>rfl)) ?_
 refine Zy ?_
 refine Zq (Zr (Zm (Zu (lF rfl rfl) ?_)))
 refine Zl ?_
 refine o3 hS (fun h15 hS => ?_) (fun h15 hS => ?_)
 ·
  refine Zq ?_
  cases hS
 refine Zk ?_
 refine Zq (Zq (Zr (Zy ?_)))
 obtain ⟨PB,aBM,hS⟩:=aO hS
 refine VL.bL (JX bV aD eD aBM) rfl (by decide) ?_
 rintro _ _
 try dsimp only
 refine Zy ?_
 refine VC.keep (ρ':=[(0,ptr bV 0),(1,str eD),(2,l_2.val),(8,i64 PB)]) [0,1,2,8] rfl ?_
 refine Zq (Zr (Zm (Zu (lF rfl rfl) ?_)))
 refine Zl ?_
 refine o3 hS (fun h21 hS => ?_) (fun h21 hS => ?_)
 ·
  refine Zq ?_
  cases hS
 refine Zk ?_
 refine Zq (Zq (Zr (Zy ?_)))
 obtain ⟨TC,aBQ,hS⟩:=aO hS
 refine VL.bL (aDQ bV aD eD l_2 aBQ) rfl (by decide) ?_
 rintro _ _
 try dsimp only
 refine Zu (jE rfl) ?_
 refine Zl ?_
 refine VC.keep (ρ':=[(0,ptr bV 0),(1,str eD),(2,l_2.val),(27,.bool (!TC))]) [0,1,2,27] rfl ?_
 refine gR hS (fun h27 hS => ?_) (fun h27 hS => ?_)
 ·
  refine Zq ?_
  cases hS
 refine Zk ?_
 refine Zq (Zq (Zr (Zy ?_)))
 obtain ⟨TF,aJ9,hS⟩:=aO hS
 refine VL.bL (aBo bV aD eD l_2 aJ9) rfl (by decide) ?_
 rintro ⟨a7J,aYR⟩ rfl
 try dsimp only
 refine Zy ?_
 refine Zq (Zr (Zm (Zu (lF rfl rfl) ?_)))
 refine Zl ?_
 refine o3 hS (fun h33 hS => ?_) (fun h33 hS => ?_)
 ·
  refine Zq (Zq ?_)
  cases hS
 refine Zk ?_
 refine VC.keep (ρ':=[(0,ptr bV 0),(1,str eD),(2,l_2.val)]) [0,1,2] rfl ?_
 refine Zq (Zq (Zr (Zy ?_)))
 obtain ⟨aP0,a0x,hS⟩:=aO hS
 refine VL.bL (aAO bV aYR eD l_2 a0x) rfl (by decide) ?_
 rintro ⟨a7L,aYX⟩ rfl
 try dsimp only
 refine Zy ?_
 refine Zq (Zr (Zm (Zu (lF rfl rfl) ?_)))
 refine Zl ?_
 refine o3 hS (fun h48 hS => ?_) (fun h48 hS => ?_)
 ·
  refine Zq ?_
  cases hS
 refine Zk ?_
 refine Zq (Zr (Zy ?_))
 obtain ⟨DB,aJd,hS⟩:=aO hS
 refine VL.bL (aDP bV aYX eD aJd) rfl (by decide) ?_
 rintro ⟨iK,x6⟩ rfl
 try dsimp only
 refine Zy ?_
 refine VC.keep (ρ':=[(6,i64 iK)]) [6] rfl ?_
 cases hS
 exact VC.ret (Z1 (iK,x6))
theorem ME (aA:Sv Bool) {r:List Bool} (hS:Sh.sK aA.l=some r) :
 Ct Tryz.prog 48 [aA.val] aA.ok (Ow.emp) (X:=Sv Bool) (fun x=>x.val) (fun x=>r=x.l) (fun x=>Mo.tt) (fun x=>Sv.own x 4):=by
 refine Zo Tryz.func48 Tryz.ntmps48 fun c => ?_
 unfold Sh.sK at hS
 refine Zq (Zr (Zy ?_))
 refine Zq (Zq (Zr (Zm (Zu (IZ (s:=aA) Tryz.underlying24 rfl) ?_))))
 refine Zl ?_
 refine VC.slnil (s:=aA) rfl (fun h4 => ?_) ?_
 ·
  have hS:(some [])=some r:=by
    simp [lt,gd,h4] at hS ⊢
    try exact hS
  refine Zq (Zr (Zy ?_))
  refine VC.nU (⟨none,0,[]⟩:Sv Bool) 4 ⟨rfl,rfl⟩ ?_
  cases hS
  exact VC.ret (Z1 ⟨none,0,[]⟩)
 refine Zk ?_
 refine Zq (Zr ?_)
 refine VL.aEE (α:=Bool) Tryz.underlying24 a5L (by decide) (fun BX s6 zE => ?_)
 refine VL.nU BX 4 ⟨zE,s6⟩ ?_
 replace hS:=bW s6 hS
 refine Zm ?_
 obtain ⟨b7,hS⟩:=bU hS
 refine VL.app (s:=BX) (r:=aA) Tryz.underlying24 a5J (by decide) rfl Fo.out (wM b7) (wN b7 (by decide)) (by decide) (fun MB CY => ?_)
 replace hS:=bW CY hS
 refine Zy ?_
 cases hS
 exact VC.ret (Z1 MB)
theorem aDi (bV:Nat) (aD:eL) (XW:Sv Bool) {r:cB} (hS:Sh.DS aD.pl XW.l=some r) :
 Ct Tryz.prog 14 [ptr bV 0,XW.val] ((jX aD.kept.l).and ((jX aD.files.l).and ((mH aD.pending.l).and (aD.keep.ok.and XW.ok)))) (Ow.star (eP Tryz.prog 9 aD.kept.b aD.kept.l) (Ow.star (eP Tryz.prog 9 aD.files.b aD.files.l) (Ow.star (Sv.own aD.pending 98) (bE bV [.map (some aD.kept.b),.map (some aD.files.b),aD.pending.val,i64 aD.cK,i64 aD.now,i64 aD.bX,i64 aD.ops,.bool aD.off,.bool aD.cS,i64 aD.left,aD.keep.val] 93)))) (X:=eL) (fun x => .tuple #[]) (fun x=>r=x.pl) (fun x=>((jX x.files.l).and ((mH x.pending.l).and x.keep.ok))) (fun x=>Ow.star (bE bV [.map (some aD.kept.b),.map (some x.files.b),x.pending.val,i64 x.cK,i64 x.now,i64 x.bX,i64 x.ops,.bool x.off,.bool x.cS,i64 x.left,x.keep.val] 93) (Ow.star (eP Tryz.prog 9 aD.kept.b aD.kept.l) (Ow.star (eP Tryz.prog 9 x.files.b x.files.l) (Sv.own x.pending 98)))):=by
 refine Zo Tryz.func14 Tryz.ntmps14 fun c => ?_
 unfold Sh.DS at hS
 refine Zq (Zr (Zm ?_))
 obtain ⟨jO,mD,hS⟩:=aO hS
 refine VL.bL (ME XW mD) rfl (by decide) ?_
 rintro lJ rfl
 try dsimp only
 refine Zy ?_
 refine Zq (Zq (Zr (Zm (Zu (aF rfl) (Zu (aB PT rfl) (Zu (aL aJj rfl rfl) (Zu (qN gM.pl (s:=aD.pending) Tryz.underlying91 rfl) (Zy ?_))))))))
 refine Zb ?_
 refine VC.iter (S:=Unit) (fun (_:Unit)=>()) (fun (_:Unit)=>[(0,ptr bV 0),(1,lJ.val),(11,aD.pending.val),(12,i64 ((aD.pending.l.map gM.pl).length:Int)),(13,i64 0)]) (fun (_:Unit)=>Mo.tt) (fun (_:Unit)=>Ow.star (bE bV [.map (some aD.kept.b),.map (some aD.files.b),aD.pending.val,i64 aD.cK,i64 aD.now,i64 aD.bX,i64 aD.ops,.bool aD.off,.bool aD.cS,i64 aD.left,aD.keep.val] 93) (Ow.star (Sv.own lJ 4) (Ow.star (eP Tryz.prog 9 aD.kept.b aD.kept.l) (Ow.star (eP Tryz.prog 9 aD.files.b aD.files.l) (Ow.star (Sv.own aD.pending 98) (Ow.emp)))))) () [0,1,11,12,13] hS rfl ?_
 clear hS
 rintro _ m1 y1 hS hK1
 refine Zq (Zr (Zu (dW rfl rfl) ?_))
 refine Zl ?_
 refine Zq ?_
 refine Zc hS (fun h14 hS => ?_) (fun h14 hS => ?_)
 ·
  refine Zk ?_
  refine Zq (Zb (Zq (Zr (Zm ?_))))
  obtain ⟨TJ,aQ8,aJx,hS⟩:=EB hS
  refine VL.a4w TJ.m aJx (fun _ q=>q) ?_
  refine Zu (lN (s:=aD.pending) Tryz.underlying91 aO4 rfl rfl aQ8 (bH aQ8 aJx)) (Zu (X5 (s:=aD.pending) aE2 rfl rfl aJx) ?_)
  refine gV [i64 0,str [],str [],i64 0,i64 0,i64 0,.slice none 0 0] fun UB => ?_
  refine Za ?_
  refine Zv (cs':=[i64 TJ.kind,str TJ.path,str TJ.O5,i64 TJ.cN,i64 TJ.oF,i64 TJ.mW,TJ.rH.val]) rfl aO4 ?_
  refine Zl ?_
  refine Zq ?_
  cases hS
 replace hS:=iJ hS hK1
 refine Zx ?_
 refine Zq (Zr (Zy ?_))
 refine Zu (aF rfl) (Zu (aB aL8 rfl) (Zu (aL zD rfl rfl) ?_))
 refine VL.bL (Ct.aLO (β:=cU) (k:=9) (b:=aD.kept.b) (l:=aD.kept.l) (AB Tryz.func49 rfl (by kernel_rfl)) Tryz.Y3) rfl (by decide) ?_
 intro B41_4 _
 try dsimp only
 refine Zu (aF rfl) (Zu (aB tT rfl) ?_)
 refine Zv (cs':=[.map (some aD.kept.b),.map (some B41_4),aD.pending.val,i64 aD.cK,i64 aD.now,i64 aD.bX,i64 aD.ops,.bool aD.off,.bool aD.cS,i64 aD.left,aD.keep.val]) rfl aWb ?_
 refine Zu (aF rfl) (Zu (aB PT rfl) ?_)
 refine Zv (cs':=[.map (some aD.kept.b),.map (some B41_4),.slice none 0 0,i64 aD.cK,i64 aD.now,i64 aD.bX,i64 aD.ops,.bool aD.off,.bool aD.cS,i64 aD.left,aD.keep.val]) rfl aO3 ?_
 refine Zl ?_
 refine VC.keep (ρ':=[(0,ptr bV 0)]) [0] rfl ?_
 refine Zr (Zy ?_)
 refine Zu (aF rfl) (Zu (aB II rfl) ?_)
 refine Zv (cs':=[.map (some aD.kept.b),.map (some B41_4),.slice none 0 0,i64 aD.cK,i64 aD.now,i64 aD.bX,i64 aD.ops,.bool true,.bool aD.cS,i64 aD.left,aD.keep.val]) rfl qV ?_
 refine Zu (aF rfl) (Zu (aB aLb rfl) ?_)
 refine Zv (cs':=[.map (some aD.kept.b),.map (some B41_4),.slice none 0 0,i64 aD.cK,i64 aD.now,i64 aD.bX,i64 aD.ops,.bool true,.bool false,i64 aD.left,aD.keep.val]) rfl qV ?_
 refine Zu (aF rfl) (Zu (aB aTB rfl) ?_)
 refine Zv (cs':=[.map (some aD.kept.b),.map (some B41_4),.slice none 0 0,i64 aD.cK,i64 aD.now,i64 aD.bX,i64 aD.ops,.bool true,.bool false,i64 aD.left,.slice none 0 0]) rfl a5O ?_
 refine VL.nU (⟨none,0,[]⟩:Sv gM) 98 ⟨rfl,rfl⟩ ?_
 refine VL.JD (s:=(⟨none,0,[]⟩:Sv gM)) rfl ?_
 refine VL.SI bV (cs':=[.map (some aD.kept.b),.map (some B41_4),(⟨none,0,[]⟩:Sv gM).val,i64 aD.cK,i64 aD.now,i64 aD.bX,i64 aD.ops,.bool true,.bool false,i64 aD.left,(⟨none,0,[]⟩:Sv Bool).val]) rfl ?_
 cases hS
 exact VL.nil (pZ (.inl rfl) rfl ⟨aD.kept,(Mh.mk B41_4 aD.kept.l),(⟨none,0,[]⟩:Sv gM),aD.cK,aD.now,aD.bX,aD.ops,true,false,aD.left,(⟨none,0,[]⟩:Sv Bool)⟩ rfl rfl (by (try dsimp only); exact fQ.out) (by (try dsimp only); exact iY.out))
theorem aET (bV:Nat) (aD:eL) {r:cB} (hS:Sh.KF aD.pl=some r) :
 Ct Tryz.prog 15 [ptr bV 0] ((jX aD.kept.l).and ((jX aD.files.l).and ((mH aD.pending.l).and aD.keep.ok))) (Ow.star (eP Tryz.prog 9 aD.kept.b aD.kept.l) (Ow.star (eP Tryz.prog 9 aD.files.b aD.files.l) (Ow.star (Sv.own aD.pending 98) (bE bV [.map (some aD.kept.b),.map (some aD.files.b),aD.pending.val,i64 aD.cK,i64 aD.now,i64 aD.bX,i64 aD.ops,.bool aD.off,.bool aD.cS,i64 aD.left,aD.keep.val] 93)))) (X:=eL) (fun x => .tuple #[]) (fun x=>r=x.pl) (fun x=>((mH x.pending.l).and x.keep.ok)) (fun x=>Ow.star (bE bV [.map (some aD.kept.b),.map (some aD.files.b),x.pending.val,i64 x.cK,i64 x.now,i64 x.bX,i64 x.ops,.bool x.off,.bool x.cS,i64 x.left,x.keep.val] 93) (Ow.star (eP Tryz.prog 9 aD.kept.b aD.kept.l) (Ow.star (eP Tryz.prog 9 aD.files.b aD.files.l) (Sv.own x.pending 98)))):=by
 refine Zo Tryz.func15 Tryz.ntmps15 fun c => ?_
 unfold Sh.KF at hS
 refine Zr (Zm (Zu (aF rfl) (Zu (aB II rfl) ?_)))
 refine Zv (cs':=[.map (some aD.kept.b),.map (some aD.files.b),aD.pending.val,i64 aD.cK,i64 aD.now,i64 aD.bX,i64 aD.ops,.bool false,.bool aD.cS,i64 aD.left,aD.keep.val]) rfl qV ?_
 cases hS
 exact VL.nil (pZ (.inl rfl) rfl ⟨aD.kept,aD.files,aD.pending,aD.cK,aD.now,aD.bX,aD.ops,false,aD.cS,aD.left,aD.keep⟩ rfl rfl (by (try dsimp only); exact fQ.out) (by (try dsimp only); exact iY.out))
theorem NQ (bV:Nat) (aD:eL) (p_1:aK) {r:fS×Int} (hS:Sh.yC aD.pl p_1=some r) :
 Ct Tryz.prog 53 [ptr bV 0,str p_1] ((jX aD.kept.l).and ((jX aD.files.l).and ((mH aD.pending.l).and aD.keep.ok))) (Ow.star (eP Tryz.prog 9 aD.kept.b aD.kept.l) (Ow.star (eP Tryz.prog 9 aD.files.b aD.files.l) (Ow.star (Sv.own aD.pending 98) (bE bV [.map (some aD.kept.b),.map (some aD.files.b),aD.pending.val,i64 aD.cK,i64 aD.now,i64 aD.bX,i64 aD.ops,.bool aD.off,.bool aD.cS,i64 aD.left,aD.keep.val] 93)))) (X:=cU×Int) (fun x => .tuple #[.agg (bM.enc x.1).toArray,i64 x.2]) (fun x=>r=(x.1.pl,x.2)) (fun x=>x.1.m) (fun x=>Ow.star (bE bV [.map (some aD.kept.b),.map (some aD.files.b),aD.pending.val,i64 aD.cK,i64 aD.now,i64 aD.bX,i64 aD.ops,.bool aD.off,.bool aD.cS,i64 aD.left,aD.keep.val] 93) (Ow.star (eP Tryz.prog 9 aD.kept.b aD.kept.l) (Ow.star (eP Tryz.prog 9 aD.files.b aD.files.l) (Sv.own aD.pending 98)))):=by
 refine Zo Tryz.func53 Tryz.ntmps53 fun c => ?_
 unfold Sh.yC at hS
 refine Zq (Zr ?_)
 refine gV [i64 0,i64 0,i64 0,.slice none 0 0] fun tL => ?_
 refine Zy ?_
 refine Zq (Zr (Zm (Zu (aF rfl) (Zu (aB tT rfl) (Zu (aL zD rfl rfl) (Zm ?_))))))
 obtain ⟨b14,hS⟩:=bU hS
 obtain ⟨eV,aKD,lU,hS⟩:=aDS (g:=cU.pl) (z0:=(⟨0,0,0,(⟨none,0,[]⟩:Sv UInt8)⟩:cU)) hS
 refine VL.aDT eV.b.ok lU (fun h=>fQ.out (M:=Mo.tt) (X:=((⟨none,0,[]⟩:Sv UInt8).ok)) h trivial) (fun _ q=>q) ?_
 refine Zu (KS (b:=aD.files.b) (l:=aD.files.l) (a0:=p_1) (v := .agg #[i64 eV.mode,i64 eV.time,i64 eV.mI,eV.b.val]) (⟨0,0,0,(⟨none,0,[]⟩:Sv UInt8)⟩:cU) (Maps.string_keyed Tryz.underlying9) Tryz.underlying90 aDL rfl rfl (NB Tryz.underlying9 b14) lU rfl) ?_
 refine Zm (Zu (aV rfl rfl) (Zu (aV rfl rfl) ?_))
 refine gV [i64 0,i64 0,i64 0,.slice none 0 0] fun aPe => ?_
 refine Zv (cs':=[i64 eV.mode,i64 eV.time,i64 eV.mI,eV.b.val]) rfl OD ?_
 refine Zy ?_
 refine VC.keep (ρ':=[(0,ptr bV 0),(4,ptr tL 0),(6,ptr aPe 0),(7,.bool aKD)]) [0,4,6,7] rfl ?_
 refine Zq (Zb (Zq (Zr (Zm (Zu (aF rfl) (Zu (aB II rfl) (Zu (aL lK rfl rfl) (Zy ?_))))))))
 refine gR hS (fun h17 hS => ?_) (fun h17 hS => ?_)
 ·
  refine Zq ?_
  cases hS
 refine Zq (Zr (Zm (Zu (jE rfl) (Zy ?_))))
 refine VC.keep (ρ':=[(4,ptr tL 0),(6,ptr aPe 0),(23,.bool (!aKD))]) [4,6,23] rfl ?_
 refine gR hS (fun h23 hS => ?_) (fun h23 hS => ?_)
 ·
  refine Zq (Zr ?_)
  refine Zu (fR (vs:=[]) (cs := #[i64 0,i64 0,i64 0,.slice none 0 0]) rfl (by kernel_rfl)) ?_
  refine Zv (cs':=[i64 0,i64 0,i64 0,.slice none 0 0]) rfl OD ?_
  refine Zy ?_
  cases hS
  exact VC.ret (Z3 (⟨0,0,0,⟨none,0,[]⟩⟩,5) [.agg #[i64 0,i64 0,i64 0,.slice none 0 0],i64 5] (fI.cell aBY rfl rfl Rd.blk (fI.tmp rfl (fI.nil))))
 refine Zk ?_
 refine Zq (Zr (Zu (cJ aBY rfl rfl) ?_))
 refine Zv (cs':=[i64 eV.mode,i64 eV.time,i64 eV.mI,eV.b.val]) rfl OD ?_
 refine Zy ?_
 cases hS
 exact VC.ret (Z3 (⟨eV.mode,eV.time,eV.mI,eV.b⟩,0) [.agg #[i64 eV.mode,i64 eV.time,i64 eV.mI,eV.b.val],i64 0] (fI.cell aBY rfl rfl Rd.blk (fI.tmp rfl (fI.nil))))
theorem NP (bV:Nat) (aD:eL) (p_1:aK) {r:List UInt8×Int} (hS:Sh.rU aD.pl p_1=some r) :
 Ct Tryz.prog 17 [ptr bV 0,str p_1] ((jX aD.kept.l).and ((jX aD.files.l).and ((mH aD.pending.l).and aD.keep.ok))) (Ow.star (eP Tryz.prog 9 aD.kept.b aD.kept.l) (Ow.star (eP Tryz.prog 9 aD.files.b aD.files.l) (Ow.star (Sv.own aD.pending 98) (bE bV [.map (some aD.kept.b),.map (some aD.files.b),aD.pending.val,i64 aD.cK,i64 aD.now,i64 aD.bX,i64 aD.ops,.bool aD.off,.bool aD.cS,i64 aD.left,aD.keep.val] 93)))) (X:=Sv UInt8×Int) (fun x => .tuple #[x.1.val,i64 x.2]) (fun x=>r=(x.1.l,x.2)) (fun x=>x.1.ok) (fun x=>Ow.star (bE bV [.map (some aD.kept.b),.map (some aD.files.b),aD.pending.val,i64 aD.cK,i64 aD.now,i64 aD.bX,i64 aD.ops,.bool aD.off,.bool aD.cS,i64 aD.left,aD.keep.val] 93) (Ow.star (eP Tryz.prog 9 aD.kept.b aD.kept.l) (Ow.star (eP Tryz.prog 9 aD.files.b aD.files.l) (Sv.own aD.pending 98)))):=by
 refine Zo Tryz.func17 Tryz.ntmps17 fun c => ?_
 unfold Sh.rU at hS
 refine Zq (Zr (Zy ?_))
 refine Zq (Zr (Zy ?_))
 obtain ⟨iW,CE,hS⟩:=aO hS
 refine VL.bL (NQ bV aD p_1 CE) rfl (by decide) ?_
 rintro ⟨oV,xX⟩ rfl
 try dsimp only
 refine Zm (Zu (aV rfl rfl) (Zu (aV rfl rfl) ?_))
 refine gV [i64 0,i64 0,i64 0,.slice none 0 0] fun CW => ?_
 refine Zv (cs':=[i64 oV.mode,i64 oV.time,i64 oV.mI,oV.b.val]) rfl OD ?_
 refine Zy ?_
 refine VC.keep (ρ':=[(6,ptr CW 0),(7,i64 xX)]) [6,7] rfl ?_
 refine Zq (Zq (Zr (Zm (Zu (lF rfl rfl) ?_))))
 refine Zl ?_
 refine o3 hS (fun h15 hS => ?_) (fun h15 hS => ?_)
 ·
  refine Zq (Zr (Zy ?_))
  cases hS
  exact VC.ret (Z2 (⟨none,0,[]⟩,xX))
 refine Zk ?_
 refine Zq (Zr (Zu (aB LH rfl) (Zu (aL qR rfl rfl) ?_)))
 obtain ⟨GY,aBN,hS⟩:=aO hS
 refine VL.bL (nZ oV.b aBN) rfl (by decide) ?_
 rintro VO rfl
 try dsimp only
 refine VL.shut VO 5 (fun _ _ _ _=>trivial) ?_
 obtain ⟨aZJ,a0F,hS⟩:=aO hS
 refine VL.dK (vG VO a0F) rfl (by decide) ?_
 rintro aYF rfl
 try dsimp only
 refine Zy ?_
 cases hS
 exact VC.ret (Z2 (aYF,0))
theorem aCX (bV:Nat) (aD:eL) (p_1:aK) {r:QV×Int} (hS:Sh.yB aD.pl p_1=some r) :
 Ct Tryz.prog 18 [ptr bV 0,str p_1] ((jX aD.kept.l).and ((jX aD.files.l).and ((mH aD.pending.l).and aD.keep.ok))) (Ow.star (eP Tryz.prog 9 aD.kept.b aD.kept.l) (Ow.star (eP Tryz.prog 9 aD.files.b aD.files.l) (Ow.star (Sv.own aD.pending 98) (bE bV [.map (some aD.kept.b),.map (some aD.files.b),aD.pending.val,i64 aD.cK,i64 aD.now,i64 aD.bX,i64 aD.ops,.bool aD.off,.bool aD.cS,i64 aD.left,aD.keep.val] 93)))) (X:=Unit) (fun _ => .tuple #[.agg #[i64 r.1.size,i64 r.1.time,i64 r.1.mI,i64 r.1.mode],i64 r.2]) (fun _=>True) (fun _=>Mo.tt) (fun _=>Ow.star (bE bV [.map (some aD.kept.b),.map (some aD.files.b),aD.pending.val,i64 aD.cK,i64 aD.now,i64 aD.bX,i64 aD.ops,.bool aD.off,.bool aD.cS,i64 aD.left,aD.keep.val] 93) (Ow.star (eP Tryz.prog 9 aD.kept.b aD.kept.l) (Ow.star (eP Tryz.prog 9 aD.files.b aD.files.l) (Sv.own aD.pending 98)))):=by
 refine Zo Tryz.func18 Tryz.ntmps18 fun c => ?_
 unfold Sh.yB at hS
 refine Zq (Zr ?_)
 refine gV [i64 0,i64 0,i64 0,i64 0] fun tL => ?_
 refine Zy ?_
 refine Zq (Zr (Zy ?_))
 obtain ⟨rE,RO,hS⟩:=aO hS
 refine VL.bL (NQ bV aD p_1 RO) rfl (by decide) ?_
 rintro ⟨nV,aXx⟩ rfl
 try dsimp only
 refine Zm (Zu (aV rfl rfl) (Zu (aV rfl rfl) ?_))
 refine gV [i64 0,i64 0,i64 0,.slice none 0 0] fun aPe => ?_
 refine Zv (cs':=[i64 nV.mode,i64 nV.time,i64 nV.mI,nV.b.val]) rfl OD ?_
 refine Zy ?_
 refine VC.keep (ρ':=[(4,ptr tL 0),(6,ptr aPe 0),(7,i64 aXx)]) [4,6,7] rfl ?_
 refine Zq (Zq (Zr (Zm (Zu (lF rfl rfl) ?_))))
 refine Zl ?_
 refine o3 hS (fun h15 hS => ?_) (fun h15 hS => ?_)
 ·
  refine Zq ?_
  cases hS
 refine Zk ?_
 refine Zq (Zr (Zu (aB LH rfl) (Zu (aL qR rfl rfl) (Zu (eB (s:=nV.b) Tryz.underlying35 rfl) (Zu (aB aW0 rfl) (Zu (aL fL rfl rfl) (Zu (aB aB3 rfl) ?_)))))))
 refine Zu (aL fL rfl rfl) (Zu (aB aWZ rfl) (Zu (aL fL rfl rfl) ?_))
 refine Zu (fR (vs:=[(0,i64 (nV.b.l.length:Int)),(1,i64 nV.time),(2,i64 nV.mI),(3,i64 nV.mode)]) (cs := #[i64 (nV.b.l.length:Int),i64 nV.time,i64 nV.mI,i64 nV.mode]) rfl (by kernel_rfl)) ?_
 refine Zv (cs':=[i64 (nV.b.l.length:Int),i64 nV.time,i64 nV.mI,i64 nV.mode]) rfl aWa ?_
 refine Zy ?_
 refine VC.keep (ρ':=[(4,ptr tL 0),(5,i64 0)]) [4,5] rfl ?_
 cases hS
 exact VC.ret (Z3 () [.agg #[i64 (nV.b.l.length:Int),i64 nV.time,i64 nV.mI,i64 nV.mode],i64 0] (fI.cell a1F rfl rfl Rd.blk (fI.tmp rfl (fI.nil))))
end Go.Proofs.YtedhnpjkoeblnaaGreatDoor
end

section
set_option linter.unusedVariables false
namespace Go.Proofs.YtedhnpjkoeblnaaGreatDoor
set_option maxHeartbeats 4000000
set_option maxRecDepth 100000
set_option synthInstance.maxSize 2000
set_option synthInstance.maxHeartbeats 1000000
open Go.RowKit Go.V
open Go.S hiding aK
theorem V0 (bZ:Sv aC) (b_1:Sv aC) (uQ:Sv Bool) {r:Bool} (hS:Sh.A8 bZ.l b_1.l uQ.l=some r) :
 Cp Tryz.prog 3 [bZ.val,b_1.val,uQ.val] (bZ.ok.and (b_1.ok.and (uQ.ok.and Gl))) (.bool r):=by
 refine Zo Tryz.func3 Tryz.ntmps3 fun c => ?_
 unfold Sh.A8 at hS
 refine Zq (Zr (Zy ?_))
 refine Zq (Zq (Zr ?_))
 obtain ⟨aZL,a0Z,hS⟩:=aO hS
 refine Zu (cH (aA1 a0Z) rfl (fun _ _=>rfl)) ?_
 refine Zu (jE rfl) ?_
 refine Zl ?_
 refine gR hS (fun h28 hS => ?_) (fun h28 hS => ?_)
 ·
  refine Zq (Zr (Zy ?_))
  cases hS
  exact Ze
 refine Zk ?_
 refine Zq ?_
 refine VC.gN (S:=Bool) (fun (W8:Bool)=>W8) (fun (W8:Bool)=>[(0,bZ.val),(1,b_1.val),(2,uQ.val),(51,.bool W8)]) (fun (W8:Bool)=>Mo.tt) (fun (W8:Bool)=>Ow.emp) hS ?_ ?_
 ·
  clear hS
  intro k3 hS
  refine Zr (Zm (Zu (eB (s:=bZ) Tryz.underlying23 rfl) (Zu (lE rfl rfl) (Zm ?_))))
  refine o4 32 hS (fun h32 hS => ?_) (fun h32 hS => ?_)
  ·
   refine VL.runs 19 [(51,some true)] (by kernel_rfl) ?_
   refine VL.mt true [0,1,2,51] (fun _ _ h=>h) hS rfl
  refine Zg ?_
  refine Zh (eB (s:=b_1) Tryz.underlying23 rfl) ?_
  refine Zh (lE rfl rfl) ?_
  refine Zy ?_
  refine o4 37 hS (fun h37 hS => ?_) (fun h37 hS => ?_)
  ·
   refine VL.runs 14 [(51,some true)] (by kernel_rfl) ?_
   refine VL.mt true [0,1,2,51] (fun _ _ h=>h) hS rfl
  refine Zg ?_
  refine Zh (eB (s:=uQ) Tryz.underlying24 rfl) ?_
  refine Zh (lE rfl rfl) ?_
  refine Zy ?_
  refine o4 42 hS (fun h42 hS => ?_) (fun h42 hS => ?_)
  ·
   refine VL.runs 9 [(51,some true)] (by kernel_rfl) ?_
   refine VL.mt true [0,1,2,51] (fun _ _ h=>h) hS rfl
  refine Zg ?_
  refine VL.guard rfl rfl ?_
  obtain ⟨aZZ,a0v,hS⟩:=aO hS
  refine VL.dK (sY bZ a0v) rfl (by decide) ?_
  rintro a7K rfl
  try dsimp only
  refine Zh (o5 Tryz.underlying27 rfl) ?_
  refine Zy ?_
  refine MW 47 hS (fun h47 hS => ?_) (fun h47 hS => ?_)
  ·
   refine VL.runs 4 [(51,some true)] (by kernel_rfl) ?_
   refine VL.mt true [0,1,2,51] (fun _ _ h=>h) hS rfl
  refine Zg ?_
  refine VL.guard rfl rfl ?_
  obtain ⟨aZ2,a0z,hS⟩:=aO hS
  refine VL.dK (sY b_1 a0z) rfl (by decide) ?_
  rintro aYY rfl
  try dsimp only
  refine Zh (o5 Tryz.underlying27 rfl) ?_
  refine Zf ?_
  refine VL.mt (!decide (aYY.pl.isNil=true)) [0,1,2,51] (fun _ _ h=>h) hS rfl
 clear hS
 rintro W8 hS
 refine gR hS (fun h51 hS => ?_) (fun h51 hS => ?_)
 ·
  refine Zq (Zr (Zy ?_))
  cases hS
  exact Ze
 refine Zk ?_
 refine Zq (Zr ?_)
 obtain ⟨DB,aJd,hS⟩:=aO hS
 refine VL.bL (aHi 0 aJd) rfl (by decide) ?_
 rintro ⟨iK,x6⟩ rfl
 try dsimp only
 refine Zy ?_
 refine Zq (Zq (Zr (Zy ?_)))
 refine Zb ?_
 refine VC.iter (S:=Int×Mh cU×Mh cU×Sv gM×Int×Int×Int×Int×Bool×Bool×Int×Sv Bool) (fun sg=>(sg.1,(IP cU.pl sg.2.1.l),(IP cU.pl sg.2.2.1.l),(sg.2.2.2.1.l.map gM.pl),sg.2.2.2.2.1,sg.2.2.2.2.2.1,sg.2.2.2.2.2.2.1,sg.2.2.2.2.2.2.2.1,sg.2.2.2.2.2.2.2.2.1,sg.2.2.2.2.2.2.2.2.2.1,sg.2.2.2.2.2.2.2.2.2.2.1,sg.2.2.2.2.2.2.2.2.2.2.2.l)) (fun sg=>[(0,bZ.val),(1,b_1.val),(2,uQ.val),(7,ptr iK 0),(8,i64 sg.1)]) (fun sg=>((jX sg.2.1.l).and ((jX sg.2.2.1.l).and ((mH sg.2.2.2.1.l).and sg.2.2.2.2.2.2.2.2.2.2.2.ok)))) (fun sg=>Ow.star (bE iK [.map (some sg.2.1.b),.map (some sg.2.2.1.b),sg.2.2.2.1.val,i64 sg.2.2.2.2.1,i64 sg.2.2.2.2.2.1,i64 sg.2.2.2.2.2.2.1,i64 sg.2.2.2.2.2.2.2.1,.bool sg.2.2.2.2.2.2.2.2.1,.bool sg.2.2.2.2.2.2.2.2.2.1,i64 sg.2.2.2.2.2.2.2.2.2.2.1,sg.2.2.2.2.2.2.2.2.2.2.2.val] 93) (Ow.star (eP Tryz.prog 9 sg.2.1.b sg.2.1.l) (Ow.star (eP Tryz.prog 9 sg.2.2.1.b sg.2.2.1.l) (Ow.star (Sv.own sg.2.2.2.1 98) (Ow.emp))))) (0,x6.kept,x6.files,x6.pending,x6.cK,x6.now,x6.bX,x6.ops,x6.off,x6.cS,x6.left,x6.keep) [0,1,2,7,8] hS rfl ?_
 clear hS
 rintro ⟨xR,iZ,sB,sP,uY,uZ,u0,u5,u6,u7,u9,qQ⟩ m1 y1 hS hK1
 refine Zq (Zq (Zr (Zy ?_)))
 refine Zu (eB (s:=bZ) Tryz.underlying23 rfl) (Zu (dW rfl rfl) ?_)
 refine Zl ?_
 refine Zc hS (fun h56 hS => ?_) (fun h56 hS => ?_)
 ·
  refine Zk ?_
  refine Zq (Zb ?_)
  refine VC.gN (S:=Bool×Mh cU×Mh cU×Sv gM×Int×Int×Int×Int×Bool×Bool×Int×Sv Bool) (fun sg=>(sg.1,(IP cU.pl sg.2.1.l),(IP cU.pl sg.2.2.1.l),(sg.2.2.2.1.l.map gM.pl),sg.2.2.2.2.1,sg.2.2.2.2.2.1,sg.2.2.2.2.2.2.1,sg.2.2.2.2.2.2.2.1,sg.2.2.2.2.2.2.2.2.1,sg.2.2.2.2.2.2.2.2.2.1,sg.2.2.2.2.2.2.2.2.2.2.1,sg.2.2.2.2.2.2.2.2.2.2.2.l)) (fun sg=>[(0,bZ.val),(1,b_1.val),(2,uQ.val),(7,ptr iK 0),(8,i64 xR),(103,.bool sg.1)]) (fun sg=>((jX sg.2.1.l).and ((jX sg.2.2.1.l).and ((mH sg.2.2.2.1.l).and sg.2.2.2.2.2.2.2.2.2.2.2.ok)))) (fun sg=>Ow.star (bE iK [.map (some sg.2.1.b),.map (some sg.2.2.1.b),sg.2.2.2.1.val,i64 sg.2.2.2.2.1,i64 sg.2.2.2.2.2.1,i64 sg.2.2.2.2.2.2.1,i64 sg.2.2.2.2.2.2.2.1,.bool sg.2.2.2.2.2.2.2.2.1,.bool sg.2.2.2.2.2.2.2.2.2.1,i64 sg.2.2.2.2.2.2.2.2.2.2.1,sg.2.2.2.2.2.2.2.2.2.2.2.val] 93) (Ow.star (eP Tryz.prog 9 sg.2.1.b sg.2.1.l) (Ow.star (eP Tryz.prog 9 sg.2.2.1.b sg.2.2.1.l) (Ow.star (Sv.own sg.2.2.2.1 98) (Ow.emp))))) hS ?_ ?_
  ·
   clear hS
   intro k31 hS
   refine l9 [(0,true),(1,true),(2,true),(3,true),(4,true),(5,true),(6,true),(7,true),(8,true),(9,true),(10,true),(11,true),(12,true),(13,true),(14,true),(15,true),(16,true),(17,true),(18,true),(19,true),(20,true),(21,true),(22,true),(23,true),(24,true),(25,true),(26,true),(27,true),(28,true),(29,true),(30,true),(31,true),(32,true),(33,true),(34,true),(35,true),(36,true),(37,true),(38,true),(39,true),(40,true),(41,false),(42,false),(43,true),(44,true)] ?_
   refine Zw rfl (bB rfl) ?_
   refine Zw rfl (bB rfl) ?_
   obtain ⟨aS5,aMh,aLy,hS⟩:=fA hS
   refine Zw rfl (eZ (s:=bZ) Tryz.underlying23 fC rfl rfl aMh (bH aMh aLy)) ?_
   refine Zw rfl (aB kU rfl) ?_
   refine Zw rfl (pQ (s:=bZ) cQ rfl aLy rfl) ?_
   refine Zw rfl (EM rfl rfl) ?_
   refine Zw rfl (bB rfl) ?_
   refine VD.rC 65 rfl (fun h65 => ?_) (fun h65 => ?_)
   ·
    replace hS:=EZ h65 hS
    refine Zd ?_
    refine Zd ?_
    refine Zd ?_
    refine Zd ?_
    refine Zd ?_
    refine Zd ?_
    refine Zd ?_
    refine Zd ?_
    refine VD.gu rfl rfl rfl (by decide) ?_
    refine VD.gu rfl rfl rfl (by decide) ?_
    refine VD.gu rfl rfl rfl (by decide) ?_
    refine VD.gu rfl rfl rfl (by decide) ?_
    refine VD.gu rfl rfl rfl (by decide) ?_
    refine VD.gu rfl rfl rfl (by decide) ?_
    refine VD.gu rfl rfl rfl (by decide) ?_
    refine Zd ?_
    refine Zw rfl (gS rfl rfl) ?_
    refine Zw rfl (bB rfl) ?_
    refine Zd ?_
    refine Zd ?_
    refine Zd ?_
    refine Zd ?_
    refine Zd ?_
    refine Zd ?_
    refine Zd ?_
    refine Zd ?_
    refine Zd ?_
    refine Zd ?_
    refine Zd ?_
    refine Zd ?_
    refine Zd ?_
    refine Zd ?_
    refine Zd ?_
    refine Zd ?_
    refine VD.Y4 (D':=[(35,undef),(34,undef),(33,undef),(32,undef),(31,undef),(30,undef),(29,undef),(28,undef),(27,undef),(26,undef),(25,undef)]) rfl rfl rfl (by decide) (by decide) (by kernel_rfl) (aI.jZ rfl rfl rfl rfl (aI.jZ rfl rfl rfl rfl (aI.jZ rfl rfl rfl rfl (aI.jZ rfl rfl rfl rfl (aI.jZ rfl rfl rfl rfl (aI.jZ rfl rfl rfl rfl (aI.jZ rfl rfl rfl rfl (aI.jZ rfl rfl rfl rfl (aI.jZ rfl rfl rfl rfl (aI.jZ rfl rfl rfl rfl (aI.jZ rfl rfl rfl rfl (aI.nil)))))))))))) ?_
    refine VD.Y4 (D':=[]) rfl rfl rfl (by decide) (by decide) (by kernel_rfl) (aI.nil) ?_
    refine Zd ?_
    refine Zw rfl (gS rfl rfl) ?_
    refine VD.mt (true,iZ,sB,sP,uY,uZ,u0,u5,u6,u7,u9,qQ) [0,1,2,7,8,103] (fun _ _ h=>h) hS rfl
   replace hS:=JW h65 hS
   refine Zi rfl (bB rfl) ?_
   refine Zi rfl (bB rfl) ?_
   obtain ⟨aS7,aMm,aMC,hS⟩:=fA hS
   refine Zi rfl (eZ (s:=bZ) Tryz.underlying23 fC rfl rfl aMm (bH aMm aMC)) ?_
   refine Zi rfl (aB kU rfl) ?_
   refine Zi rfl (pQ (s:=bZ) cQ rfl aMC rfl) ?_
   refine Zi rfl (pN Tryz.underlying9 rfl) ?_
   refine Zi rfl (lE rfl rfl) ?_
   refine Zi rfl (bB rfl) ?_
   refine VD.rC 73 rfl (fun h73 => ?_) (fun h73 => ?_)
   ·
    replace hS:=EZ h73 hS
    refine Zi rfl (bB rfl) ?_
    refine Zi rfl (bB rfl) ?_
    obtain ⟨aKz,aMq,aMG,hS⟩:=fA hS
    refine Zi rfl (eZ (s:=bZ) Tryz.underlying23 fC rfl rfl aMq (bH aMq aMG)) ?_
    refine Zi rfl (aB kU rfl) ?_
    refine Zi rfl (pQ (s:=bZ) cQ rfl aMG rfl) ?_
    obtain ⟨b79,hS⟩:=bU hS
    obtain ⟨aST,aVz,hS⟩:=wV hS
    refine Zi rfl (X7 Tryz.underlying9 rfl rfl b79.1 b79.2 aVz) ?_
    refine Zi rfl (EM rfl rfl) ?_
    refine Zi rfl (gS rfl rfl) ?_
    refine Zw rfl (gL rfl rfl) ?_
    refine Zw rfl (bB rfl) ?_
    refine VD.rC 83 rfl (fun h83 => ?_) (fun h83 => ?_)
    ·
     replace hS:=EZ h83 hS
     refine Zd ?_
     refine Zd ?_
     refine Zd ?_
     refine Zd ?_
     refine Zd ?_
     refine Zd ?_
     refine Zd ?_
     refine Zd ?_
     refine Zd ?_
     refine Zd ?_
     refine Zd ?_
     refine Zd ?_
     refine Zd ?_
     refine Zd ?_
     refine Zd ?_
     refine Zd ?_
     refine VD.Y4 (D':=[(35,undef),(34,undef),(33,undef),(32,undef),(31,undef),(30,undef),(29,undef),(28,undef),(27,undef),(26,undef),(25,undef)]) rfl rfl rfl (by decide) (by decide) (by kernel_rfl) (aI.jZ rfl rfl rfl rfl (aI.jZ rfl rfl rfl rfl (aI.jZ rfl rfl rfl rfl (aI.jZ rfl rfl rfl rfl (aI.jZ rfl rfl rfl rfl (aI.jZ rfl rfl rfl rfl (aI.jZ rfl rfl rfl rfl (aI.jZ rfl rfl rfl rfl (aI.jZ rfl rfl rfl rfl (aI.jZ rfl rfl rfl rfl (aI.jZ rfl rfl rfl rfl (aI.nil)))))))))))) ?_
     refine VD.Y4 (D':=[]) rfl rfl rfl (by decide) (by decide) (by kernel_rfl) (aI.nil) ?_
     refine Zd ?_
     refine Zw rfl (gS rfl rfl) ?_
     refine VD.mt (true,iZ,sB,sP,uY,uZ,u0,u5,u6,u7,u9,qQ) [0,1,2,7,8,103] (fun _ _ h=>h) hS rfl
    replace hS:=JW h83 hS
    refine Zi rfl (bB rfl) ?_
    refine Zi rfl (bB rfl) ?_
    refine Zi rfl (bB rfl) ?_
    obtain ⟨aEp,aBz,aBe,hS⟩:=fA hS
    refine Zi rfl (eZ (s:=bZ) Tryz.underlying23 fC rfl rfl aBz (bH aBz aBe)) ?_
    refine Zi rfl (aB kU rfl) ?_
    refine Zi rfl (pQ (s:=bZ) cQ rfl aBe rfl) ?_
    refine Zi rfl (bB rfl) ?_
    refine Zi rfl (bB rfl) ?_
    obtain ⟨aEr,aCB,aBg,hS⟩:=fA hS
    refine Zi rfl (eZ (s:=bZ) Tryz.underlying23 fC rfl rfl aCB (bH aCB aBg)) ?_
    refine Zi rfl (aB xO rfl) ?_
    refine Zi rfl (pQ (s:=bZ) fL rfl aBg rfl) ?_
    refine Zi rfl (bB rfl) ?_
    refine Zi rfl (bB rfl) ?_
    obtain ⟨aLB,aMs,aMI,hS⟩:=fA hS
    refine Zi rfl (eZ (s:=bZ) Tryz.underlying23 fC rfl rfl aMs (bH aMs aMI)) ?_
    refine Zi rfl (aB DD rfl) ?_
    refine Zi rfl (pQ (s:=bZ) cQ rfl aMI rfl) ?_
    refine VD.aEF rfl rfl rfl ?_
    refine VL.guard rfl rfl ?_
    obtain ⟨b100,hS⟩:=bU hS
    refine VL.s2b Tryz.underlying9 Tryz.underlying35 Tryz.underlying5 rfl b100 (by decide) fun aY6 aTE => ?_
    replace hS:=bW aTE hS
    refine jS [(35,i64 aEr.mode),(34,ptr bZ.b (bZ.o+(xR).toNat*bM.sz aC+1)),(33,ptr bZ.b (bZ.o+(xR).toNat*bM.sz aC+0)),(32,i64 xR),(31,bZ.val),(30,str aEp.path),(29,ptr bZ.b (bZ.o+(xR).toNat*bM.sz aC+0)),(28,ptr bZ.b (bZ.o+(xR).toNat*bM.sz aC+0)),(27,i64 xR),(26,bZ.val),(25,ptr iK 0)] (aI.mB rfl rfl rfl (pQ (s:=bZ) fL rfl aBg rfl) (aI.mB rfl rfl rfl (aB xO rfl) (aI.mB rfl rfl rfl (eZ (s:=bZ) Tryz.underlying23 fC rfl rfl aCB (bH aCB aBg)) (aI.mB rfl rfl rfl (bB rfl) (aI.mB rfl rfl rfl (bB rfl) (aI.mB rfl rfl rfl (pQ (s:=bZ) cQ rfl aBe rfl) (aI.mB rfl rfl rfl (aB kU rfl) (aI.mB rfl rfl rfl (eZ (s:=bZ) Tryz.underlying23 fC rfl rfl aBz (bH aBz aBe)) (aI.mB rfl rfl rfl (bB rfl) (aI.mB rfl rfl rfl (bB rfl) (aI.mB rfl rfl rfl (bB rfl) aI.nil))))))))))) ?_
    refine VD.aEF rfl rfl rfl ?_
    refine VL.guard rfl rfl ?_
    obtain ⟨yS,aSg,hS⟩:=aO hS
    refine VL.bL (NN iK (⟨iZ,sB,sP,uY,uZ,u0,u5,u6,u7,u9,qQ⟩:eL) aEp.path aEr.mode aY6 aSg) rfl (by decide) ?_
    rintro ⟨aOl,tV⟩ rfl
    try dsimp only
    refine jH ?_
    refine Zi rfl (lF rfl rfl) ?_
    refine Zw rfl (gL rfl rfl) ?_
    refine VD.mt ((!decide (aOl=0)),tV.kept,tV.files,tV.pending,tV.cK,tV.now,tV.bX,tV.ops,tV.off,tV.cS,tV.left,tV.keep) [0,1,2,7,8,103] (fun _ _ h=>h) hS rfl
   replace hS:=JW h73 hS
   refine Zd ?_
   refine Zd ?_
   refine Zd ?_
   refine Zd ?_
   refine Zd ?_
   refine Zd ?_
   refine Zd ?_
   refine Zi rfl (gL rfl rfl) ?_
   refine Zw rfl (gL rfl rfl) ?_
   refine Zw rfl (bB rfl) ?_
   refine Zi rfl (bB rfl) ?_
   refine Zi rfl (bB rfl) ?_
   refine Zi rfl (bB rfl) ?_
   obtain ⟨aEq,aCA,aBf,hS⟩:=fA hS
   refine Zi rfl (eZ (s:=bZ) Tryz.underlying23 fC rfl rfl aCA (bH aCA aBf)) ?_
   refine Zi rfl (aB kU rfl) ?_
   refine Zi rfl (pQ (s:=bZ) cQ rfl aBf rfl) ?_
   refine Zi rfl (bB rfl) ?_
   refine Zi rfl (bB rfl) ?_
   obtain ⟨aEs,aCC,aBh,hS⟩:=fA hS
   refine Zi rfl (eZ (s:=bZ) Tryz.underlying23 fC rfl rfl aCC (bH aCC aBh)) ?_
   refine Zi rfl (aB xO rfl) ?_
   refine Zi rfl (pQ (s:=bZ) fL rfl aBh rfl) ?_
   refine Zi rfl (bB rfl) ?_
   refine Zi rfl (bB rfl) ?_
   obtain ⟨aLC,aMt,aMJ,hS⟩:=fA hS
   refine Zi rfl (eZ (s:=bZ) Tryz.underlying23 fC rfl rfl aMt (bH aMt aMJ)) ?_
   refine Zi rfl (aB DD rfl) ?_
   refine Zi rfl (pQ (s:=bZ) cQ rfl aMJ rfl) ?_
   refine VD.aEF rfl rfl rfl ?_
   refine VL.guard rfl rfl ?_
   obtain ⟨b100,hS⟩:=bU hS
   refine VL.s2b Tryz.underlying9 Tryz.underlying35 Tryz.underlying5 rfl b100 (by decide) fun aY7 aTF => ?_
   replace hS:=bW aTF hS
   refine jS [(35,i64 aEs.mode),(34,ptr bZ.b (bZ.o+(xR).toNat*bM.sz aC+1)),(33,ptr bZ.b (bZ.o+(xR).toNat*bM.sz aC+0)),(32,i64 xR),(31,bZ.val),(30,str aEq.path),(29,ptr bZ.b (bZ.o+(xR).toNat*bM.sz aC+0)),(28,ptr bZ.b (bZ.o+(xR).toNat*bM.sz aC+0)),(27,i64 xR),(26,bZ.val),(25,ptr iK 0)] (aI.mB rfl rfl rfl (pQ (s:=bZ) fL rfl aBh rfl) (aI.mB rfl rfl rfl (aB xO rfl) (aI.mB rfl rfl rfl (eZ (s:=bZ) Tryz.underlying23 fC rfl rfl aCC (bH aCC aBh)) (aI.mB rfl rfl rfl (bB rfl) (aI.mB rfl rfl rfl (bB rfl) (aI.mB rfl rfl rfl (pQ (s:=bZ) cQ rfl aBf rfl) (aI.mB rfl rfl rfl (aB kU rfl) (aI.mB rfl rfl rfl (eZ (s:=bZ) Tryz.underlying23 fC rfl rfl aCA (bH aCA aBf)) (aI.mB rfl rfl rfl (bB rfl) (aI.mB rfl rfl rfl (bB rfl) (aI.mB rfl rfl rfl (bB rfl) aI.nil))))))))))) ?_
   refine VD.aEF rfl rfl rfl ?_
   refine VL.guard rfl rfl ?_
   obtain ⟨yT,aSh,hS⟩:=aO hS
   refine VL.bL (NN iK (⟨iZ,sB,sP,uY,uZ,u0,u5,u6,u7,u9,qQ⟩:eL) aEq.path aEs.mode aY7 aSh) rfl (by decide) ?_
   rintro ⟨aOm,tW⟩ rfl
   try dsimp only
   refine jH ?_
   refine Zi rfl (lF rfl rfl) ?_
   refine Zw rfl (gL rfl rfl) ?_
   refine VD.mt ((!decide (aOm=0)),tW.kept,tW.files,tW.pending,tW.cK,tW.now,tW.bX,tW.ops,tW.off,tW.cS,tW.left,tW.keep) [0,1,2,7,8,103] (fun _ _ h=>h) hS rfl
  clear hS
  rintro ⟨aN3,aNk,aNo,aNr,aNu,aNx,aOA,aOD,aOG,aOJ,aOM,aJD⟩ hS
  refine gR hS (fun h103 hS => ?_) (fun h103 hS => ?_)
  ·
   refine Zq (Zr (Zy ?_))
   replace hS:=iJ hS hK1
   cases hS
   exact Ze
  refine Zk ?_
  refine Zr (Zm ?_)
  obtain ⟨b58,hS⟩:=bU hS
  refine Zu (cR rfl rfl b58) (Za ?_)
  refine VL.jU ((xR+1),aNk,aNo,aNr,aNu,aNx,aOA,aOD,aOG,aOJ,aOM,aJD) [0,1,2,7,8] (fun _ _ h=>h) (go2 hS hK1) rfl
 replace hS:=iJ hS hK1
 refine Zx ?_
 refine Zq (Zr (Zy ?_))
 refine Zu (fR (vs:=[(0,b_1.val)]) (cs := #[b_1.val,.slice none 0 0,.slice none 0 0]) rfl (by kernel_rfl)) ?_
 refine Zm ?_
 obtain ⟨aN4,aSi,hS⟩:=aO hS
 refine VL.dK (aBi bZ aSi) rfl (by decide) ?_
 rintro aOn rfl
 try dsimp only
 refine Zm ?_
 obtain ⟨aGw,aSj,hS⟩:=aO hS
 refine VL.dK (VE bZ (⟨b_1,⟨none,0,[]⟩,⟨none,0,[]⟩⟩:jL) aOn bZ aSj) rfl (by decide) ?_
 rintro ⟨a5i,aGR,aOo⟩ rfl
 try dsimp only
 refine Zm (Zu (aV rfl rfl) (Zu (aV rfl rfl) (Zu (aV rfl rfl) (Zy ?_))))
 refine VC.keep (ρ':=[(0,bZ.val),(1,b_1.val),(2,uQ.val),(7,ptr iK 0),(10,aGR.val),(11,aOo.val)]) [0,1,2,7,10,11] rfl ?_
 refine Zq ?_
 refine VC.gN (S:=Bool) (fun (I2:Bool)=>I2) (fun (I2:Bool)=>[(0,bZ.val),(1,b_1.val),(2,uQ.val),(7,ptr iK 0),(122,.bool I2)]) (fun (I2:Bool)=>Mo.tt) (fun (I2:Bool)=>Ow.star (bE iK [.map (some iZ.b),.map (some sB.b),sP.val,i64 uY,i64 uZ,i64 u0,i64 u5,.bool u6,.bool u7,i64 u9,qQ.val] 93) (Ow.star (eP Tryz.prog 9 iZ.b iZ.l) (Ow.star (eP Tryz.prog 9 sB.b sB.l) (Ow.star (Sv.own sP 98) (Ow.emp))))) hS ?_ ?_
 ·
  clear hS
  intro k51 hS
  refine Zr (Zm (Zu (o5 Tryz.underlying27 rfl) (Zm ?_)))
  refine MW 117 hS (fun h117 hS => ?_) (fun h117 hS => ?_)
  ·
   refine VL.runs 5 [(122,some true)] (by kernel_rfl) ?_
   refine VL.mt true [0,1,2,7,122] (fun _ _ h=>h) hS rfl
  refine Zy ?_
  obtain ⟨aGx,aSk,hS⟩:=aO hS
  refine Zh (cH (LD aGR b_1 aSk) rfl (fun _ _=>rfl)) ?_
  refine Zh (jE rfl) ?_
  refine Zf ?_
  refine VL.mt (!aGx) [0,1,2,7,122] (fun _ _ h=>h) hS rfl
 clear hS
 rintro I2 hS
 refine gR hS (fun h122 hS => ?_) (fun h122 hS => ?_)
 ·
  refine Zq (Zr (Zy ?_))
  cases hS
  exact Ze
 refine Zk ?_
 refine Zq (Zr (Zy ?_))
 refine Zq (Zr (Zy ?_))
 obtain ⟨MN,aSl,hS⟩:=aO hS
 refine VL.dK (aF8 bZ b_1 aSl) rfl (by decide) ?_
 rintro lD rfl
 try dsimp only
 refine Zy ?_
 refine Zq (Zq (Zr (Zy ?_)))
 refine Zb ?_
 refine VC.nU (⟨none,0,[]⟩:Sv cO) 52 ⟨rfl,rfl⟩ ?_
 refine VC.JD (s:=(⟨none,0,[]⟩:Sv cO)) rfl ?_
 refine VC.iter (S:=Sv cO×Int) (fun sg=>((sg.1.l.map cO.pl),sg.2)) (fun sg=>[(0,bZ.val),(1,b_1.val),(2,uQ.val),(7,ptr iK 0),(12,sg.1.val),(13,lD.val),(14,i64 sg.2)]) (fun sg=>(mH sg.1.l)) (fun sg=>Ow.star (bE iK [.map (some iZ.b),.map (some sB.b),sP.val,i64 uY,i64 uZ,i64 u0,i64 u5,.bool u6,.bool u7,i64 u9,qQ.val] 93) (Ow.star (eP Tryz.prog 9 iZ.b iZ.l) (Ow.star (eP Tryz.prog 9 sB.b sB.l) (Ow.star (Sv.own sP 98) (Ow.star (Sv.own sg.1 52) (Ow.emp)))))) (⟨none,0,[]⟩,0) [0,1,2,7,12,13,14] hS rfl ?_
 clear hS
 rintro ⟨F7,zF⟩ m1 y1 hS hK1
 refine Zq (Zq (Zr (Zy ?_)))
 refine Zu (eB (s:=lD) Tryz.underlying45 rfl) (Zu (dW rfl rfl) ?_)
 refine Zl ?_
 refine Zc hS (fun h129 hS => ?_) (fun h129 hS => ?_)
 ·
  refine Zk ?_
  refine Zq (Zb (Zq (Zr (Zy ?_))))
  obtain ⟨aHO,aIV,aIG,hS⟩:=fA hS
  refine Zu (eZ (s:=lD) Tryz.underlying45 aAF rfl rfl aIV (bH aIV aIG)) (Zu (aB PS rfl) (Zu (pQ (s:=lD) cQ rfl aIG rfl) ?_))
  obtain ⟨n4,aSm,hS⟩:=aO hS
  refine Zu (cH (lT b_1 aHO.path aSm) rfl (fun _ _=>rfl)) ?_
  refine Zm (Zu (aV rfl rfl) (Zu (aV rfl rfl) ?_))
  refine gV [str [],i64 0,str []] fun aEZ => ?_
  refine Zv (cs':=[str n4.1.path,i64 n4.1.mode,str n4.1.data]) rfl fC ?_
  refine Zy ?_
  refine VC.keep (ρ':=[(0,bZ.val),(1,b_1.val),(2,uQ.val),(7,ptr iK 0),(12,F7.val),(13,lD.val),(14,i64 zF),(15,ptr aEZ 0),(16,.bool n4.2)]) [0,1,2,7,12,13,14,15,16] rfl ?_
  refine Zq ?_
  refine VC.gN (S:=Bool) (fun (I3:Bool)=>I3) (fun (I3:Bool)=>[(0,bZ.val),(1,b_1.val),(2,uQ.val),(7,ptr iK 0),(12,F7.val),(13,lD.val),(14,i64 zF),(15,ptr aEZ 0),(16,.bool n4.2),(165,.bool I3)]) (fun (I3:Bool)=>Mo.tt) (fun (I3:Bool)=>Ow.star (bE aEZ [str n4.1.path,i64 n4.1.mode,str n4.1.data] 32) (Ow.star (bE iK [.map (some iZ.b),.map (some sB.b),sP.val,i64 uY,i64 uZ,i64 u0,i64 u5,.bool u6,.bool u7,i64 u9,qQ.val] 93) (Ow.star (eP Tryz.prog 9 iZ.b iZ.l) (Ow.star (eP Tryz.prog 9 sB.b sB.l) (Ow.star (Sv.own sP 98) (Ow.star (Sv.own F7 52) (Ow.emp))))))) hS ?_ ?_
  ·
   clear hS
   intro k60 hS
   refine Zr (Zy ?_)
   obtain ⟨aN7,aIW,aIH,hS⟩:=fA hS
   refine Zu (eZ (s:=lD) Tryz.underlying45 aAF rfl rfl aIW (bH aIW aIH)) (Zu (aB PS rfl) (Zu (pQ (s:=lD) cQ rfl aIH rfl) (Zy ?_)))
   refine o4 148 hS (fun h148 hS => ?_) (fun h148 hS => ?_)
   ·
    refine VL.runs 17 [(165,some true)] (by kernel_rfl) ?_
    refine VL.mt true [0,1,2,7,12,13,14,15,16,165] (fun _ _ h=>h) hS rfl
   refine Zy ?_
   obtain ⟨aN8,aIX,aII,hS⟩:=fA hS
   refine Zh (eZ (s:=lD) Tryz.underlying45 aAF rfl rfl aIX (bH aIX aII)) ?_
   refine Zh (aB PS rfl) ?_
   refine Zh (pQ (s:=lD) cQ rfl aII rfl) ?_
   refine Zh (pN Tryz.underlying9 rfl) ?_
   refine Zh (lE rfl rfl) ?_
   refine Zg ?_
   refine o4 156 hS (fun h156 hS => ?_) (fun h156 hS => ?_)
   ·
    refine Zy ?_
    obtain ⟨aHP,aIY,aIJ,hS⟩:=fA hS
    refine Zh (eZ (s:=lD) Tryz.underlying45 aAF rfl rfl aIY (bH aIY aIJ)) ?_
    refine Zh (aB PS rfl) ?_
    refine Zh (pQ (s:=lD) cQ rfl aIJ rfl) ?_
    obtain ⟨b162,hS⟩:=bU hS
    obtain ⟨aGz,aSn,hS⟩:=wV hS
    refine Zh (X7 Tryz.underlying9 rfl rfl b162.1 b162.2 aSn) ?_
    refine Zh (EM rfl rfl) ?_
    refine Zh (gS rfl rfl) ?_
    refine Zf ?_
    refine VL.mt (decide (aGz=[46,106,47])) [0,1,2,7,12,13,14,15,16,165] (fun _ _ h=>h) hS rfl
   refine VL.runs 7 [(163,none)] (by kernel_rfl) ?_
   refine Zh (gL rfl rfl) ?_
   refine Zf ?_
   refine VL.mt false [0,1,2,7,12,13,14,15,16,165] (fun _ _ h=>h) hS rfl
  clear hS
  rintro I3 hS
  refine gR hS (fun h165 hS => ?_) (fun h165 hS => ?_)
  ·
   refine Zq (Zr (Zy ?_))
   refine VC.keep (ρ':=[(6,.bool true)]) [6] rfl ?_
   replace hS:=iJ hS hK1
   cases hS
   exact Ze
  refine Zk ?_
  refine l9 [(0,true),(1,true),(2,true),(3,true),(4,true),(5,true),(6,true),(7,true),(8,true),(9,true),(10,true),(11,true),(12,false),(13,true),(14,false),(15,false),(16,true)] ?_
  refine Zw rfl (bB rfl) ?_
  refine Zw rfl (bB rfl) ?_
  refine Zw rfl (bB rfl) ?_
  obtain ⟨MV,XX,XV,hS⟩:=fA hS
  refine Zw rfl (eZ (s:=lD) Tryz.underlying45 aAF rfl rfl XX (bH XX XV)) ?_
  refine Zw rfl (aB PS rfl) ?_
  refine Zw rfl (pQ (s:=lD) cQ rfl XV rfl) ?_
  refine Zw rfl (bB rfl) ?_
  refine Zw rfl (jE rfl) ?_
  refine Zw rfl (aB xO rfl) ?_
  refine Zw rfl (aL fL rfl rfl) ?_
  refine Zw rfl (aB DD rfl) ?_
  refine Zw rfl (aL cQ rfl rfl) ?_
  refine VD.one rfl ?_
  obtain ⟨b178,hS⟩:=bU hS
  refine VL.s2b Tryz.underlying9 Tryz.underlying35 Tryz.underlying5 rfl b178 (by decide) fun V9 aTG => ?_
  replace hS:=bW aTG hS
  refine jS [(9,i64 n4.1.mode),(8,ptr aEZ 1),(7,.bool (!n4.2)),(5,str MV.path),(4,ptr lD.b (lD.o+(zF).toNat*bM.sz iO+0)),(3,ptr lD.b (lD.o+(zF).toNat*bM.sz iO+0))] (aI.cons rfl (aL fL rfl rfl) (aI.cons rfl (aB xO rfl) (aI.cons rfl (jE rfl) (aI.cons rfl (pQ (s:=lD) cQ rfl XV rfl) (aI.cons rfl (aB PS rfl) (aI.cons rfl (eZ (s:=lD) Tryz.underlying45 aAF rfl rfl XX (bH XX XV)) aI.nil)))))) ?_
  refine Zw rfl (fR (vs:=[(0,str MV.path),(1,.bool (!n4.2)),(2,i64 n4.1.mode),(3,V9.val)]) (cs := #[str MV.path,.bool (!n4.2),i64 n4.1.mode,V9.val]) rfl (by kernel_rfl)) ?_
  refine VD.one rfl ?_
  refine VL.lit (α:=cO) (xs:=[.tmp 179]) (vs:=[.agg #[str MV.path,.bool (!n4.2),i64 n4.1.mode,V9.val]]) [⟨MV.path,(!n4.2),n4.1.mode,V9⟩] Tryz.underlying44 a1M (by decide) rfl rfl rfl rfl (by decide) (fun h m=>List.forall_mem_cons.2 ⟨fQ.out (X:=V9.ok) h m,fun _ h=>by cases h⟩) (by decide) (fun aYa aTH => ?_) (by decide)
  replace hS:=bW (congrArg (List.map cO.pl) aTH) hS
  refine jH ?_
  refine VD.one rfl ?_
  obtain ⟨b181,hS⟩:=bU hS
  refine VL.app (s:=F7) (r:=aYa) Tryz.underlying44 a1G (by decide) rfl Fo.out (wM (apm b181)) (wN (apm b181) (by decide)) (by decide) (fun aNR aIF => ?_)
  replace hS:=bW ((congrArg (List.map cO.pl) aIF).trans List.map_append) hS
  refine VL.aAU aIF ?_
  refine jH ?_
  refine Zw rfl (gI rfl) ?_
  refine VD.to (fun _ _ h=>h) ?_
  refine VC.keep (ρ':=[(0,bZ.val),(1,b_1.val),(2,uQ.val),(7,ptr iK 0),(12,aNR.val),(13,lD.val),(14,i64 zF)]) [0,1,2,7,12,13,14] rfl ?_
  refine Zr (Zm ?_)
  obtain ⟨b131,hS⟩:=bU hS
  refine Zu (cR rfl rfl b131) (Za ?_)
  refine VL.jU (aNR,(zF+1)) [0,1,2,7,12,13,14] (fun _ _ h=>h) (go2 hS hK1) rfl
 replace hS:=iJ hS hK1
 refine Zx ?_
 refine Zq (Zq (Zr (Zy ?_)))
 refine VL.shut F7 52 (fun h m=>fQ.out (X:=mH F7.l) h m) ?_
 obtain ⟨I5,aSo,hS⟩:=aO hS
 refine VL.bL (aGG iK (⟨iZ,sB,sP,uY,uZ,u0,u5,u6,u7,u9,qQ⟩:eL) [46,106] F7 aSo) rfl (by decide) ?_
 rintro ⟨aOp,o9⟩ rfl
 try dsimp only
 refine Zu (lF rfl rfl) ?_
 refine Zl ?_
 refine VC.keep (ρ':=[(0,bZ.val),(1,b_1.val),(2,uQ.val),(7,ptr iK 0),(185,.bool (!decide (aOp=0)))]) [0,1,2,7,185] rfl ?_
 refine o3 hS (fun h185 hS => ?_) (fun h185 hS => ?_)
 ·
  refine Zq (Zr (Zy ?_))
  cases hS
  exact Ze
 refine Zk ?_
 refine Zq (Zr (Zy ?_))
 obtain ⟨uH,aSp,hS⟩:=aO hS
 refine VL.bL (aDi iK o9 uQ aSp) rfl (by decide) ?_
 rintro kD rfl
 try dsimp only
 refine Zl ?_
 refine Zq (Zr (Zm ?_))
 obtain ⟨iX,aSq,hS⟩:=aO hS
 refine VL.bL (aET iK (⟨o9.kept,kD.files,kD.pending,kD.cK,kD.now,kD.bX,kD.ops,kD.off,kD.cS,kD.left,kD.keep⟩:eL) aSq) rfl (by decide) ?_
 rintro dF rfl
 try dsimp only
 refine Zl ?_
 refine Zq (Zq (Zr (Zm ?_)))
 obtain ⟨aHC,aSr,hS⟩:=aO hS
 refine VL.bL (JX iK (⟨o9.kept,kD.files,dF.pending,dF.cK,dF.now,dF.bX,dF.ops,dF.off,dF.cS,dF.left,dF.keep⟩:eL) [46,106] aSr) rfl (by decide) ?_
 rintro _ _
 try dsimp only
 refine Zu (lF rfl rfl) ?_
 refine Zl ?_
 refine VC.keep (ρ':=[(0,bZ.val),(1,b_1.val),(7,ptr iK 0),(193,.bool (!decide (aHC=0)))]) [0,1,7,193] rfl ?_
 refine o3 hS (fun h193 hS => ?_) (fun h193 hS => ?_)
 ·
  refine Zq (Zr (Zy ?_))
  cases hS
  exact Ze
 refine Zk ?_
 refine Zq (Zq (Zr (Zy ?_)))
 refine Zb ?_
 refine VC.iter (S:=Int) (fun (uP:Int)=>uP) (fun (uP:Int)=>[(0,bZ.val),(1,b_1.val),(7,ptr iK 0),(17,i64 uP)]) (fun (uP:Int)=>Mo.tt) (fun (uP:Int)=>Ow.star (bE iK [.map (some o9.kept.b),.map (some kD.files.b),dF.pending.val,i64 dF.cK,i64 dF.now,i64 dF.bX,i64 dF.ops,.bool dF.off,.bool dF.cS,i64 dF.left,dF.keep.val] 93) (Ow.star (Sv.own dF.pending 98) (Ow.star (eP Tryz.prog 9 kD.files.b kD.files.l) (Ow.star (eP Tryz.prog 9 o9.kept.b o9.kept.l) (Ow.emp))))) 0 [0,1,7,17] hS rfl ?_
 clear hS
 rintro uP m1 y1 hS hK1
 refine Zq (Zq (Zr (Zy ?_)))
 refine Zu (eB (s:=b_1) Tryz.underlying23 rfl) (Zu (dW rfl rfl) ?_)
 refine Zl ?_
 refine Zc hS (fun h197 hS => ?_) (fun h197 hS => ?_)
 ·
  refine Zk ?_
  refine Zq (Zb (Zq (Zr (Zy ?_))))
  obtain ⟨aHQ,aIZ,aIK,hS⟩:=fA hS
  refine Zu (eZ (s:=b_1) Tryz.underlying23 fC rfl rfl aIZ (bH aIZ aIK)) (Zu (aB kU rfl) (Zu (pQ (s:=b_1) cQ rfl aIK rfl) ?_))
  obtain ⟨aC5,aSs,hS⟩:=aO hS
  refine VL.bL (NP iK (⟨o9.kept,kD.files,dF.pending,dF.cK,dF.now,dF.bX,dF.ops,dF.off,dF.cS,dF.left,dF.keep⟩:eL) aHQ.path aSs) rfl (by decide) ?_
  rintro ⟨aAZ,aGX⟩ rfl
  try dsimp only
  refine Zm (Zu (aV rfl rfl) (Zu (aV rfl rfl) (Zy ?_)))
  refine VC.keep (ρ':=[(0,bZ.val),(1,b_1.val),(7,ptr iK 0),(17,i64 uP),(18,aAZ.val),(19,i64 aGX)]) [0,1,7,17,18,19] rfl ?_
  refine Zq (Zr (Zy ?_))
  obtain ⟨aHR,aI0,aIL,hS⟩:=fA hS
  refine Zu (eZ (s:=b_1) Tryz.underlying23 fC rfl rfl aI0 (bH aI0 aIL)) (Zu (aB kU rfl) (Zu (pQ (s:=b_1) cQ rfl aIL rfl) ?_))
  obtain ⟨wK,aSt,hS⟩:=aO hS
  refine VL.bL (aCX iK (⟨o9.kept,kD.files,dF.pending,dF.cK,dF.now,dF.bX,dF.ops,dF.off,dF.cS,dF.left,dF.keep⟩:eL) aHR.path aSt) rfl (by decide) ?_
  rintro _ _
  try dsimp only
  refine Zm (Zu (aV rfl rfl) (Zu (aV rfl rfl) ?_))
  refine gV [i64 0,i64 0,i64 0,i64 0] fun aPc => ?_
  refine Zv (cs':=[i64 wK.1.size,i64 wK.1.time,i64 wK.1.mI,i64 wK.1.mode]) rfl aWa ?_
  refine Zy ?_
  refine VC.keep (ρ':=[(0,bZ.val),(1,b_1.val),(7,ptr iK 0),(17,i64 uP),(18,aAZ.val),(19,i64 aGX),(20,ptr aPc 0),(21,i64 wK.2)]) [0,1,7,17,18,19,20,21] rfl ?_
  refine VC.gN (S:=Bool) (fun (I4:Bool)=>I4) (fun (I4:Bool)=>[(0,bZ.val),(1,b_1.val),(7,ptr iK 0),(17,i64 uP),(243,.bool I4)]) (fun (I4:Bool)=>Mo.tt) (fun (I4:Bool)=>Ow.star (bE aPc [i64 wK.1.size,i64 wK.1.time,i64 wK.1.mI,i64 wK.1.mode] 59) (Ow.star (bE iK [.map (some o9.kept.b),.map (some kD.files.b),dF.pending.val,i64 dF.cK,i64 dF.now,i64 dF.bX,i64 dF.ops,.bool dF.off,.bool dF.cS,i64 dF.left,dF.keep.val] 93) (Ow.star (Sv.own dF.pending 98) (Ow.star (eP Tryz.prog 9 kD.files.b kD.files.l) (Ow.star (eP Tryz.prog 9 o9.kept.b o9.kept.l) (Ow.emp)))))) hS ?_ ?_
  ·
   clear hS
   intro k83 hS
   refine l9 ((List.range 24).map fun k=>(k,true)) ?_
   refine Zw rfl (bB rfl) ?_
   refine Zw rfl (bB rfl) ?_
   obtain ⟨b222,hS⟩:=bU hS
   refine Zw rfl (cR rfl rfl b222) ?_
   refine Zw rfl (lF rfl rfl) ?_
   refine Zw rfl (bB rfl) ?_
   refine VD.NS 224 rfl (fun h224 => ?_) (fun h224 => ?_)
   ·
    replace hS:=JW h224 hS
    refine Zd ?_
    refine Zd ?_
    refine Zd ?_
    refine Zd ?_
    refine Zd ?_
    refine Zd ?_
    refine Zd ?_
    refine Zd ?_
    refine Zw rfl (gS rfl rfl) ?_
    refine Zw rfl (bB rfl) ?_
    refine Zd ?_
    refine Zd ?_
    refine Zd ?_
    refine Zd ?_
    refine Zd ?_
    refine Zd ?_
    refine Zd ?_
    refine Zd ?_
    refine Zw rfl (gS rfl rfl) ?_
    refine VD.mt true [0,1,7,17,243] (fun _ _ h=>h) hS rfl
   replace hS:=EZ h224 hS
   refine Zi rfl (bB rfl) ?_
   refine Zi rfl (aOr (s:=aAZ) Tryz.underlying35 Tryz.underlying5 Tryz.underlying9 rfl) ?_
   refine Zi rfl (bB rfl) ?_
   refine Zi rfl (bB rfl) ?_
   obtain ⟨aN9,aI1,aIM,hS⟩:=fA hS
   refine Zi rfl (eZ (s:=b_1) Tryz.underlying23 fC rfl rfl aI1 (bH aI1 aIM)) ?_
   refine Zi rfl (aB DD rfl) ?_
   refine Zi rfl (pQ (s:=b_1) cQ rfl aIM rfl) ?_
   refine Zi rfl (vD rfl rfl) ?_
   refine Zw rfl (gL rfl rfl) ?_
   refine Zw rfl (bB rfl) ?_
   refine VD.NS 234 rfl (fun h234 => ?_) (fun h234 => ?_)
   ·
    replace hS:=JW h234 hS
    refine Zd ?_
    refine Zd ?_
    refine Zd ?_
    refine Zd ?_
    refine Zd ?_
    refine Zd ?_
    refine Zd ?_
    refine Zd ?_
    refine Zw rfl (gS rfl rfl) ?_
    refine VD.mt true [0,1,7,17,243] (fun _ _ h=>h) hS rfl
   replace hS:=EZ h234 hS
   refine Zi rfl (aB aWN rfl) ?_
   refine Zi rfl (aL fL rfl rfl) ?_
   refine Zi rfl (bB rfl) ?_
   refine Zi rfl (bB rfl) ?_
   obtain ⟨aHT,aI2,aIN,hS⟩:=fA hS
   refine Zi rfl (eZ (s:=b_1) Tryz.underlying23 fC rfl rfl aI2 (bH aI2 aIN)) ?_
   refine Zi rfl (aB xO rfl) ?_
   refine Zi rfl (pQ (s:=b_1) fL rfl aIN rfl) ?_
   refine Zi rfl (lF rfl rfl) ?_
   refine Zw rfl (gL rfl rfl) ?_
   refine VD.mt (!decide (wK.1.mode=aHT.mode)) [0,1,7,17,243] (fun _ _ h=>h) hS rfl
  clear hS
  rintro I4 hS
  refine gR hS (fun h243 hS => ?_) (fun h243 hS => ?_)
  ·
   refine Zq (Zr (Zy ?_))
   replace hS:=iJ hS hK1
   cases hS
   exact Ze
  refine Zk ?_
  refine Zr (Zm ?_)
  obtain ⟨b199,hS⟩:=bU hS
  refine Zu (cR rfl rfl b199) (Za ?_)
  refine VL.jU (uP+1) [0,1,7,17] (fun _ _ h=>h) (go2 hS hK1) rfl
 replace hS:=iJ hS hK1
 refine Zx ?_
 refine Zq (Zq (Zr (Zy ?_)))
 refine Zb ?_
 refine VC.iter (S:=Int) (fun (zG:Int)=>zG) (fun (zG:Int)=>[(0,bZ.val),(1,b_1.val),(7,ptr iK 0),(22,i64 zG)]) (fun (zG:Int)=>Mo.tt) (fun (zG:Int)=>Ow.star (bE iK [.map (some o9.kept.b),.map (some kD.files.b),dF.pending.val,i64 dF.cK,i64 dF.now,i64 dF.bX,i64 dF.ops,.bool dF.off,.bool dF.cS,i64 dF.left,dF.keep.val] 93) (Ow.star (Sv.own dF.pending 98) (Ow.star (eP Tryz.prog 9 kD.files.b kD.files.l) (Ow.star (eP Tryz.prog 9 o9.kept.b o9.kept.l) (Ow.emp))))) 0 [0,1,7,22] hS rfl ?_
 clear hS
 rintro zG m1 y1 hS hK1
 refine Zq (Zq (Zr (Zy ?_)))
 refine Zu (eB (s:=bZ) Tryz.underlying23 rfl) (Zu (dW rfl rfl) ?_)
 refine Zl ?_
 refine Zc hS (fun h247 hS => ?_) (fun h247 hS => ?_)
 ·
  refine Zk ?_
  refine Zq (Zb (Zq (Zr (Zy ?_))))
  obtain ⟨aHU,aI3,aIO,hS⟩:=fA hS
  refine Zu (eZ (s:=bZ) Tryz.underlying23 fC rfl rfl aI3 (bH aI3 aIO)) (Zu (aB kU rfl) (Zu (pQ (s:=bZ) cQ rfl aIO rfl) ?_))
  obtain ⟨MR,aSu,hS⟩:=aO hS
  refine Zu (cH (lT b_1 aHU.path aSu) rfl (fun _ _=>rfl)) ?_
  refine Zm (Zu (aV rfl rfl) (Zu (aV rfl rfl) ?_))
  refine gV [str [],i64 0,str []] fun a7T => ?_
  refine Zv (cs':=[str MR.1.path,i64 MR.1.mode,str MR.1.data]) rfl fC ?_
  refine Zy ?_
  refine VC.keep (ρ':=[(0,bZ.val),(1,b_1.val),(7,ptr iK 0),(22,i64 zG),(24,.bool MR.2)]) [0,1,7,22,24] rfl ?_
  refine Zq (Zr (Zy ?_))
  obtain ⟨aHV,aI4,aIP,hS⟩:=fA hS
  refine Zu (eZ (s:=bZ) Tryz.underlying23 fC rfl rfl aI4 (bH aI4 aIP)) (Zu (aB kU rfl) (Zu (pQ (s:=bZ) cQ rfl aIP rfl) ?_))
  obtain ⟨aN6,aSv,hS⟩:=aO hS
  refine VL.bL (NP iK (⟨o9.kept,kD.files,dF.pending,dF.cK,dF.now,dF.bX,dF.ops,dF.off,dF.cS,dF.left,dF.keep⟩:eL) aHV.path aSv) rfl (by decide) ?_
  rintro ⟨a5j,aOq⟩ rfl
  try dsimp only
  refine Zm (Zu (aV rfl rfl) (Zu (aV rfl rfl) (Zy ?_)))
  refine VC.keep (ρ':=[(0,bZ.val),(1,b_1.val),(7,ptr iK 0),(22,i64 zG),(24,.bool MR.2),(26,i64 aOq)]) [0,1,7,22,24,26] rfl ?_
  refine Zq (Zr (Zm (Zu (iI rfl rfl) (Zm (Zu (a2n Tryz.underlying4 rfl rfl) ?_)))))
  refine Zl ?_
  refine o3 hS (fun h273 hS => ?_) (fun h273 hS => ?_)
  ·
   refine Zq (Zr (Zy ?_))
   refine VC.keep (ρ':=[(6,.bool false)]) [6] rfl ?_
   replace hS:=iJ hS hK1
   cases hS
   exact Ze
  refine Zk ?_
  refine Zr (Zm ?_)
  obtain ⟨b249,hS⟩:=bU hS
  refine Zu (cR rfl rfl b249) (Za ?_)
  refine VL.jU (zG+1) [0,1,7,22] (fun _ _ h=>h) (go2 hS hK1) rfl
 replace hS:=iJ hS hK1
 refine Zx ?_
 refine Zq (Zr (Zy ?_))
 cases hS
 exact Ze
end Go.Proofs.YtedhnpjkoeblnaaGreatDoor
end

section
namespace Go.S
theorem sZ {α:Type} {l:List α} {i:Int} (h0:0≤i) (h:i < l.length) : ∃ z,l[i.toNat]? = some z:=⟨_,List.getElem?_eq_getElem (by omega)⟩
theorem aZp {α:Type} [DecidableEq α] (P:α→α→Prop) [∀ z w,Decidable (P z w)] (hP : ∀ z w,P z w↔z=w) (l r:List α) (hl:(l.length:Int)=r.length) (hb:(l.length:Int)≤1000000000) (B:Int→Option (Int⊕Bool))
 (hB : ∀ i,B i=if i < (l.length:Int) then (at_ l i).bind (fun z=>(at_ r i).bind (fun w=>if P z w then gd (fE (i+1)) (go (i+1)) else up (some false))) else up (some true)):iter B 0=some (decide (l=r)):=by
 apply Ok.eq
 refine kW (I:=fun i=>0≤i∧i≤l.length∧l.take i.toNat=r.take i.toNat) (μ:=fun i=>(l.length - i).toNat) ?_ ⟨by omega,by omega,rfl⟩
 rintro i ⟨h0,h1,h2⟩
 rw [hB]
 simp only [iT,oG,gX,fN,oU,dG,s7]
 refine ⟨fun h => ?_,fun h => ?_⟩
 ·
  obtain ⟨z,hz⟩:=sZ h0 h
  obtain ⟨w,hw⟩:=sZ (l:=r) h0 (by omega)
  refine ⟨h0,z,hz,h0,w,hw,fun hp => ?_,fun hp => ?_⟩
  ·
   have e:=(hP z w).1 hp
   refine ⟨⟨by omega,by omega⟩,⟨by omega,by omega,?_⟩,by omega⟩
   rw [show (i+1).toNat=i.toNat+1 by omega,List.take_add_one,List.take_add_one,h2,hz,hw,e]
  have e:z≠w:=fun e=>hp ((hP z w).2 e)
  refine (decide_eq_false fun q=>e ?_).symm
  subst q
  rw [hz] at hw
  exact Option.some.inj hw
 have e:i.toNat=l.length:=by omega
 rw [e,List.take_length] at h2
 rw [show l.length=r.length by omega,List.take_length] at h2
 exact (decide_eq_true h2).symm
end Go.S
end

section
namespace Go.S
theorem aB0 {α:Type} {l:List α} {i:Nat} {x:α} (h:l[i]? = some x):i < l.length:=(List.getElem?_eq_some_iff.1 h).1
theorem uE {α:Type} {l:List α} {i:Int} {z:α} (h0:0≤i) (h:l[i.toNat]? = some z):l.take (i+1).toNat=l.take i.toNat++[z]:=by
 rw [show (i+1).toNat=i.toNat+1 by omega,List.take_add_one,h]; rfl
theorem aBV {α:Type} (p:α→Bool) (l:List α) (z:α):(l++[z]).filter p=l.filter p++(if p z then [z] else []):=by
 rw [List.filter_append]; cases h:p z <;> simp [h]
theorem p7 {S R:Type} {K:S→Option R} {F:(S→Option R)→Option R} {Q:R→Prop} (P:S→Prop) (hK : ∀ s,P s→Ok (K s) Q) (hF : ∀ K':S→Option R,(∀ s,P s→Ok (K' s) Q)→Ok (F K') Q):Ok (jn K F) Q:=hF K hK
end Go.S
end

section
namespace Go.S
open Go
def Fst {α:Type} (p:α→Bool) (l:List α) (r:Int):Prop:=(r = -1 ∧ ∀ z∈l,p z=false) ∨ ∃ k:Nat,r=k∧k < l.length∧(∀ z∈l.take k,p z=false) ∧ ∃ z,l[k]? = some z∧p z=true
theorem SB {α:Type} (p:α→Bool) (l:List α) (hb:l.length≤1000000000) (F:α→Option Bool) (hF : ∀ z∈l,F z=some (p z)) (B:Int→Option (Int⊕Int))
 (hB : ∀ i,B i=if i < (l.length:Int) then (at_ l i).bind (fun z=>(F z).bind (fun y=>if y=true then up (some i) else gd (fE (i+1)) (go (i+1)))) else up (some (-1))):Ok (iter B 0) (Fst p l):=by
 refine kW (I:=fun i=>0≤i∧i≤l.length ∧ ∀ z∈l.take i.toNat,p z=false) (μ:=fun i=>(l.length - i).toNat) ?_ ⟨by omega,by omega,by simp⟩
 rintro i ⟨h0,h1,h2⟩
 rw [hB]
 simp only [iT,oG,gX,dG,s7]
 refine ⟨fun h => ?_,fun h => ?_⟩
 ·
  obtain ⟨z,hz⟩:=sZ h0 h
  refine ⟨h0,z,hz,?_⟩
  rw [hF z (List.mem_of_getElem? hz),dG]
  simp only [iT,oG,fN,oU,dG]
  refine ⟨fun hp => .inr ⟨i.toNat,by omega,by omega,h2,z,hz,hp⟩,fun hp=>⟨⟨by omega,by omega⟩,⟨by omega,by omega,fun y hy => ?_⟩,by omega⟩⟩
  rw [uE h0 hz] at hy
  rcases List.mem_append.1 hy with q | q
  ·
   exact h2 y q
  rw [List.mem_singleton.1 q]; simpa using hp
 rw [List.take_of_length_le (by omega)] at h2
 exact .inl ⟨rfl,h2⟩
theorem aF9 {α:Type} {p:α→Bool} {l:List α} {r:Int} (h:Fst p l r):decide (0≤r)=l.any p:=by
 rcases h with ⟨rfl,h⟩ | ⟨k,rfl,hk,_,z,hz,hp⟩
 ·
  have:l.any p=false:=List.any_eq_false.2 fun z hz=>by simp [h z hz]
  rw [this]; rfl
 have:l.any p=true:=List.any_eq_true.2 ⟨z,List.mem_of_getElem? hz,hp⟩
 rw [this]; simp
theorem aUK {α:Type} {s:List α} {i:Nat} {z:α} (h:i < s.length):(s.set i z).take (i+1)=s.take i++[z]:=by
 rw [List.take_add_one,List.getElem?_set_self h,List.take_set_of_le (Nat.le_refl i)]; rfl
theorem aUb {α:Type} (p:α→Bool) (l:List α) (hb:l.length≤1000000000) (F:α→Option Bool) (hF : ∀ z∈l,F z=some (p z)) (k:Nat) (hk:k < l.length) (h0 : ∀ z∈l.take k,p z=false) (hz : ∃ z,l[k]? = some z∧p z=true)
 (B:List α×Int×Int→Option ((List α×Int×Int)⊕List α))
 (hB : ∀ t,B t=if t.2.2 < (t.1.length:Int) then (jn (fun (u:List α×Int)=>gd (fE (t.2.2+1)) (go (u.1,u.2,(t.2.2+1)))) (fun k7=>(at_ t.1 t.2.2).bind (fun z=>(F z).bind (fun y=>if (!y)=true then ((at_ t.1 t.2.1).bind (fun _=>lt (t.1.set t.2.1.toNat z) (fun ys=>gd (fE (t.2.1+1)) (k7 (ys,(t.2.1+1)))))) else (k7 (t.1,t.2.1))))))
 else (up (gd ((0:Int)≤t.2.1∧t.2.1≤(t.1.length:Int)) (lt (t.1.take t.2.1.toNat) (fun ys=>some ys))))) :
 iter B (l,(k:Int),(k:Int)+1)=some (l.filter fun z => !p z):=by
 apply Ok.eq
 refine kW (I:=fun t=>0≤t.2.1∧t.2.1 < t.2.2∧t.2.2≤l.length∧t.1.length=l.length∧t.1.take t.2.1.toNat=(l.take t.2.2.toNat).filter (fun z => !p z) ∧ ∀ j,t.2.2.toNat≤j→t.1[j]? = l[j]?) (μ:=fun t=>(l.length - t.2.2).toNat) ?_ ?_
 ·
  rintro ⟨s,i,j⟩ ⟨i0,i1,i2,i3,i4,i5⟩
  dsimp only at i0 i1 i2 i3 i4 i5
  rw [hB]
  dsimp only
  simp only [iT,oG,fN,iU,dG]
  refine ⟨fun hj => ?_,fun hj=>⟨⟨i0,by omega⟩,?_⟩⟩
  ·
   obtain ⟨z,hz⟩:=sZ (l:=l) (i:=j) (by omega) (by omega)
   have hs:s[j.toNat]? = some z:=by rw [i5 _ (Nat.le_refl _),hz]
   have hzl:=List.mem_of_getElem? hz
   refine p7 (fun u=>0≤u.2∧u.2 < j+1∧u.1.length=l.length∧u.1.take u.2.toNat=(l.take (j+1).toNat).filter (fun z => !p z) ∧ ∀ m,(j+1).toNat≤m→u.1[m]? = l[m]?) ?_ ?_
   ·
    rintro ⟨s',i'⟩ ⟨q1,q2,q3,q4,q5⟩
    simp only [fN,oU]
    exact ⟨⟨by omega,by omega⟩,⟨q1,q2,by omega,q3,q4,q5⟩,by omega⟩
   intro K hK
   rw [gX,s7]
   refine ⟨by omega,z,hs,?_⟩
   rw [hF z hzl,gX,dG,iT]
   have hsn:(l.take (j+1).toNat).filter (fun z => !p z)=(l.take j.toNat).filter (fun z => !p z)++(if (!p z)=true then [z] else []):=by rw [uE (by omega) hz,aBV]
   refine ⟨fun hp => ?_,fun hp=>hK _ ⟨i0,by omega,i3,by rw [hsn,if_neg hp,List.append_nil]; exact i4,fun m hm=>i5 m (by omega)⟩⟩
   obtain ⟨y,hy⟩:=sZ (l:=s) (i:=i) i0 (by omega)
   rw [gX,s7]
   refine ⟨i0,y,hy,?_⟩
   simp only [iU,fN]
   refine ⟨⟨by omega,by omega⟩,hK _ ⟨by omega,by omega,by simpa using i3,?_,fun m hm => ?_⟩⟩
   ·
    rw [hsn,if_pos hp,show (i+1).toNat=i.toNat+1 by omega,aUK (by omega),i4]
   rw [List.getElem?_set_ne (by omega)]
   exact i5 m (by omega)
  rw [i4,List.take_of_length_le (by omega)]
 obtain ⟨z,hz,hp⟩:=hz
 refine ⟨by dsimp only; omega,by dsimp only; omega,by dsimp only; omega,rfl,?_,fun j _=>rfl⟩
 dsimp only
 rw [show ((k:Int)+1).toNat=k+1 by omega,show ((k:Int)).toNat=k by omega,List.take_add_one,hz,Option.toList,aBV]
 rw [if_neg (by simp [hp]),List.append_nil]
 exact (List.filter_eq_self.2 fun x hx=>by simp [h0 x hx]).symm
theorem aE1 {α:Type} (p:α→Bool) (l:List α) (hb:l.length≤1000000000) (F:α→Option Bool) (hF : ∀ z∈l,F z=some (p z)) (ix:Option Int) (hix:Ok ix (Fst p l))
 (B:List α×Int×Int→Option ((List α×Int×Int)⊕List α))
 (hB : ∀ t,B t=if t.2.2 < (t.1.length:Int) then (jn (fun (u:List α×Int)=>gd (fE (t.2.2+1)) (go (u.1,u.2,(t.2.2+1)))) (fun k7=>(at_ t.1 t.2.2).bind (fun z=>(F z).bind (fun y=>if (!y)=true then ((at_ t.1 t.2.1).bind (fun _=>lt (t.1.set t.2.1.toNat z) (fun ys=>gd (fE (t.2.1+1)) (k7 (ys,(t.2.1+1)))))) else (k7 (t.1,t.2.1))))))
 else (up (gd ((0:Int)≤t.2.1∧t.2.1≤(t.1.length:Int)) (lt (t.1.take t.2.1.toNat) (fun ys=>some ys))))) :
 (ix.bind fun y=>if y = -1 then some l else gd (fE (y+1)) (iter B (l,y,y+1)))=some (l.filter fun z => !p z):=by
 obtain ⟨r,hr,h⟩:=hix
 rw [hr,Option.bind_some]
 rcases h with ⟨rfl,h⟩ | ⟨k,rfl,hk,h0,hz⟩
 ·
  rw [if_pos rfl]
  exact congrArg some (List.filter_eq_self.2 fun x hx=>by simp [h x hx]).symm
 rw [if_neg (by omega)]
 unfold gd
 rw [if_pos (show fE ((k:Int)+1) from ⟨by omega,by omega⟩)]
 exact aUb p l hb F hF k hk h0 hz B hB
end Go.S
end

section
namespace Go.S
open Go
def KG (c:UInt8):List UInt8→List (List UInt8)
  | []=>[[]]
  | x::r=>if x=c then []::KG c r else match KG c r with
    | []=>[[x]]
    | y::l=>(x::y)::l
theorem a3V (c:UInt8) : ∀ s,KG c s≠[]
  | []=>by simp [KG]
  | x::r=>by
    unfold KG
    split
    . simp
    . split <;> simp
theorem aNX (c:UInt8) : ∀ s,(KG c s).length=s.count c+1
  | []=>by simp [KG]
  | x::r=>by
    have ih:=aNX c r
    unfold KG
    by_cases h:x=c
    . simp [h,ih]
    . rw [if_neg h,List.count_cons_of_ne (by simpa using h)]
      cases hq:KG c r with
      | nil=>exact absurd hq (a3V c r)
      | cons y l=>rw [hq] at ih; simpa using ih
theorem aRZ {c:UInt8} : ∀ {s:List UInt8},c∉s→KG c s=[s]
  | [],_=>rfl
  | x::r,h=>by
    have hx:x≠c:=fun e=>h (by simp [e])
    rw [KG,if_neg hx,aRZ fun e=>h (List.mem_cons_of_mem _ e)]
theorem aRY {c:UInt8} : ∀ {a:List UInt8} (b:List UInt8),c∉a→KG c (a++c::b)=a::KG c b
  | [],b,_=>by simp [KG]
  | x::a,b,h=>by
    have hx:x≠c:=fun e=>h (by simp [e])
    rw [List.cons_append,KG,if_neg hx,aRY b fun e=>h (List.mem_cons_of_mem _ e)]
theorem aXb {c:UInt8} : ∀ {a:List UInt8} (b:List UInt8),c∉a→Lib.indexByte (a++c::b) c=a.length
  | [],b,_=>by simp [Lib.indexByte]
  | x::a,b,h=>by
    have hx:(x==c)=false:=by simpa using fun e:x=c=>h (by simp [e])
    rw [List.cons_append,Lib.indexByte,hx,aXb b fun e=>h (List.mem_cons_of_mem _ e)]
    simp
theorem aPD {c:UInt8} {s:List UInt8} (h:c∈s) : ∃ a b,s=a++c::b∧c∉a:=by
 induction s with
 | nil=>cases h
 | cons x r ih =>
   by_cases hx:x=c
   . exact ⟨[],r,by simp [hx],by simp⟩
   . rcases List.mem_cons.1 h with q | q
     . exact absurd q.symm hx
     . obtain ⟨a,b,e,hn⟩:=ih q
       exact ⟨x::a,b,by simp [e],by simp [hn,Ne.symm hx]⟩
theorem aLK (c:UInt8):(c.toNat:Int).toNat.toUInt8=c:=by simp
theorem a2H (s:List UInt8) (c:UInt8):ixB s (c.toNat:Int)=Lib.indexByte s c:=by unfold ixB; rw [aLK]
theorem aTJ (s:List UInt8) (c:UInt8):Sh.lH s [c]=some (Lib.indexByte s c):=by
 apply Ok.eq
 unfold Sh.lH
 simp only [aAX,iT,gX,dG,s7]
 refine ⟨fun h=>by simp at h,fun _=>⟨fun h => ?_,fun _=>⟨fun _=>⟨by omega,c,rfl,?_⟩,fun h=>by simp at h⟩⟩⟩
 ·
  have:s=[c]:=by simpa using (of_decide_eq_true h).symm
  rw [this]; simp [Lib.indexByte]
 unfold Sh.nP
 rw [a2H]; exact Ok.of rfl rfl
theorem aPC (s:List UInt8) (c:UInt8):Sh.uD s [c]=some (Lib.indexByte s c):=by
 unfold Sh.uD
 rw [aTJ]; rfl
theorem aSd (s:List UInt8) (c:UInt8):Sh.B3 s [c]=some (s.count c:Int):=by
 apply Ok.eq
 unfold Sh.B3
 rw [if_neg (by simp),if_pos (by simp)]
 simp only [gX,s7,dG]
 refine ⟨by omega,c,rfl,?_⟩
 unfold aPi Lib.countByte
 rw [aLK]
theorem aUN {s:List UInt8} (c:UInt8) (hs:s.length≤1000000000):Sh.yN s [c]=some (KG c s):=by
 apply Ok.eq
 unfold Sh.yN Sh.BA
 rw [gX]
 have hc:s.count c≤s.length:=List.count_le_length
 simp only [aSd,aAX,iT,gX,fN,iU,dG,s7]
 refine ⟨fun h=>by omega,fun _=>⟨fun h=>by simp at h,fun _=>⟨fun _ => ?_,fun h=>by omega⟩⟩⟩
 have hm:(min ((s.count c:Int)+1) ((s.length:Int)+1))=(s.count c:Int)+1:=by omega
 rw [hm]
 refine ⟨⟨by omega,by omega⟩,⟨by omega,by omega⟩,⟨by omega,by omega⟩,⟨by omega,by omega⟩,?_⟩
 refine kW (I:=fun t=>0≤t.2.2∧t.2.2+t.1.count c=s.count c∧t.2.1.length=s.count c+1∧t.2.1.take t.2.2.toNat++KG c t.1=KG c s∧t.1.length≤s.length) (μ:=fun t=>t.1.length) ?_ ⟨by simp,by simp,by simp,by simp,by simp⟩
 rintro ⟨x,l,i⟩ ⟨i0,i1,i2,i3,i4⟩
 dsimp only at i0 i1 i2 i3 i4 ⊢
 have fin:c∉x→Ok (((at_ l i).bind fun aS4=>lt (l.set i.toNat x) fun aCf=>gd (fE (i+1)) (gd ((0:Int)≤(i+1)∧(i+1)≤(aCf.length:Int)) (lt (aCf.take (i+1).toNat) fun aKo=>some aKo)))) (fun a=>a=KG c s):=fun hx=>by
   rw [aRZ hx] at i3
   rw [List.count_eq_zero_of_not_mem hx] at i1
   simp only [gX,fN,iU,dG,s7]
   obtain ⟨z,hz⟩:=sZ (l:=l) i0 (by omega)
   refine ⟨i0,z,hz,⟨by omega,by omega⟩,⟨by omega,by rw [List.length_set]; omega⟩,?_⟩
   rw [← i3,show (i+1).toNat=i.toNat+1 by omega,List.take_add_one,List.getElem?_set,if_pos rfl,if_pos (aB0 hz),List.take_set_of_le (Nat.le_refl _)]
   simp
 simp only [aAX,iT,oG,gX,fN,iU,oU,dG,s7,aPC] at fin ⊢
 refine ⟨fun hi => ?_,fun hi => ?_⟩
 ·
  have hmem:c∈x:=List.count_pos_iff.1 (by omega)
  obtain ⟨a,b,e,ha⟩:=aPD hmem
  subst e
  rw [aXb b ha]
  have hl:(a++c::b).length=a.length+b.length+1:=by simp; omega
  have hcb:(a++c::b).count c=b.count c+1:=by simp [List.count_eq_zero_of_not_mem ha]
  obtain ⟨z,hz⟩:=sZ (l:=l) i0 (by omega)
  refine ⟨fun h=>by omega,fun _=>⟨⟨by omega,by omega⟩,⟨by omega,by omega⟩,i0,z,hz,⟨by simp; omega,by simp; omega⟩,⟨by simp; omega,by simp; omega⟩,⟨by omega,by omega⟩,⟨by omega,?_,by simpa using i2,?_,?_⟩,?_⟩⟩
  ·
   simp only [List.length_cons,List.length_nil]
   rw [show ((a.length:Int)+((0+1:Nat):Int)).toNat=a.length+1 by omega]
   have:(a++c::b).drop (a.length+1)=b:=by simp
   rw [this]; omega
  ·
   simp only [List.length_cons,List.length_nil]
   rw [show ((a.length:Int)+((0+1:Nat):Int)).toNat=a.length+1 by omega,show ((a.length:Int)+0).toNat=a.length by omega]
   have e1:(a++c::b).drop (a.length+1)=b:=by simp
   have e2:(a++c::b).take a.length=a:=by simp
   rw [e1,e2,← i3,aRY b ha,show (i+1).toNat=i.toNat+1 by omega,List.take_add_one,List.getElem?_set,if_pos rfl,if_pos (aB0 hz),List.take_set_of_le (Nat.le_refl _)]
   simp
  ·
   simp; omega
  simp; omega
 exact fin fun hm=>by have:=List.count_pos_iff.2 hm; omega
theorem aIq (c:UInt8) : ∀ (s:List UInt8),∀ y∈KG c s,y.length≤s.length
  | [],y,h=>by simp [KG] at h; simp [h]
  | x::r,y,h=>by
    have ih:=aIq c r
    unfold KG at h
    split at h
    . rcases List.mem_cons.1 h with q | q
      . simp [q]
      . have:=ih y q; simp; omega
    . split at h
      . have:=List.mem_singleton.1 h; simp [this]
      . next a l hq =>
        rcases List.mem_cons.1 h with q | q
        . have:=ih a (by rw [hq]; simp); simp [q]; omega
        . have:=ih y (by rw [hq]; simp [q]); simp; omega
end Go.S
end

section
namespace Go.S
open Go
def aFn (n:Nat):Bool:=decide (97≤n∧n≤122)||decide (48≤n∧n≤57)||decide (n=46)||decide (n=45)||decide (n=95)
theorem aTC : ∀ i:Fin 256,Sh.LP ((i.val:Nat):Int)=some (aFn i.val):=by decide +kernel
theorem aW9 (z:UInt8):Sh.LP (z.toNat:Int)=some (aFn z.toNat):=aTC ⟨z.toNat,z.toNat_lt⟩
def aKP (s:List UInt8):Bool := !(decide (s=[])||decide (s=[46])||decide (s=[46,46]))&&s.all fun z=>aFn z.toNat
theorem aHm {α:Type} (p:α→Bool) (l:List α) (z:α):(l++[z]).all p=(l.all p&&p z):=by simp
theorem all_false {α:Type} {p:α→Bool} {l:List α} {z:α} (hz:z∈l) (h:p z=false):l.all p=false:=by
 cases hq:l.all p with
 | false=>rfl
 | true=>rw [List.all_eq_true.1 hq z hz] at h; cases h
theorem aXq {s:List UInt8} (hs:s.length≤1000000000):Sh.LQ s=some (aKP s):=by
 apply Ok.eq
 unfold Sh.LQ aKP
 refine p7 (fun q=>q=(decide (s=[])||decide (s=[46])||decide (s=[46,46]))) ?_ ?_
 ·
  rintro q rfl
  generalize (decide (s=[])||decide (s=[46])||decide (s=[46,46]))=q
  simp only [iT,dG,fN,iU]
  refine ⟨fun h=>by rw [h]; rfl,fun h=>⟨by omega,?_⟩⟩
  have hq:q=false:=by simpa using h
  subst hq
  rw [Bool.not_false,Bool.true_and]
  refine kW (I:=fun i=>0≤i∧i≤s.length∧(s.take i.toNat).all (fun z=>aFn z.toNat)=true) (μ:=fun i=>(s.length - i).toNat) ?_ ⟨by omega,by omega,by simp⟩
  rintro i ⟨i0,i1,i2⟩
  simp only [iT,oG,gX,fN,oU,dG,s7,aW9]
  refine ⟨fun hi => ?_,fun hi => ?_⟩
  ·
   obtain ⟨z,hz⟩:=sZ (l:=s) i0 hi
   refine ⟨i0,z,hz,fun hb => ?_,fun hg=>⟨⟨by omega,by omega⟩,⟨by omega,by omega,?_⟩,by omega⟩⟩
   ·
    exact (all_false (p:=fun z:UInt8=>aFn z.toNat) (List.mem_of_getElem? hz) (by simpa using hb)).symm
   rw [uE i0 hz,aHm,i2]; simpa using hg
  rw [← i2,show i.toNat=s.length by omega,List.take_length]
 intro K hK
 simp only [iT]
 refine ⟨fun h=>hK _ (by simp [h]),fun h1=>⟨fun h=>hK _ (by simp [h]),fun h2=>hK _ (by simp [h1,h2])⟩⟩
def wZ (p:List UInt8):Int:=if 64 < p.length then 4 else if (KG 47 p).all aKP then 0 else 5
theorem LR (p:List UInt8):Sh.tE p=some (wZ p):=by
 apply Ok.eq
 unfold Sh.tE wZ
 simp only [iT,dG]
 refine ⟨fun h=>by rw [if_pos (by omega)],fun h => ?_⟩
 rw [if_neg (by omega),aUN 47 (by omega),Option.bind_some]
 have hpart:=aIq 47 p
 have hlen:=aNX 47 p
 have hcnt:p.count 47≤p.length:=List.count_le_length
 generalize KG 47 p=L at *
 refine kW (I:=fun i=>0≤i∧i≤L.length∧(L.take i.toNat).all aKP=true) (μ:=fun i=>(L.length - i).toNat) ?_ ⟨by omega,by omega,by simp⟩
 rintro i ⟨i0,i1,i2⟩
 simp only [iT,oG,gX,fN,oU,dG,s7]
 refine ⟨fun hi => ?_,fun hi => ?_⟩
 ·
  obtain ⟨z,hz⟩:=sZ (l:=L) i0 hi
  have:=hpart z (List.mem_of_getElem? hz)
  refine ⟨i0,z,hz,Ok.of (aXq (by omega)) ⟨fun hb => ?_,fun hg=>⟨⟨by omega,by omega⟩,⟨by omega,by omega,?_⟩,by omega⟩⟩⟩
  ·
   rw [all_false (List.mem_of_getElem? hz) (by simpa using hb)]; rfl
  rw [uE i0 hz,aHm,i2]; simpa using hg
 rw [show i.toNat=L.length by omega,List.take_length] at i2
 rw [i2]; rfl
def oN (p d:List UInt8):Bool:=if d=[] then !decide (p=[]) else decide (d.length+1 < p.length∧p.take (d.length+1)=d++[47])
theorem YA {p d:List UInt8} (hd:d.length≤1000000000):Sh.yZ p d=some (oN p d):=by
 apply Ok.eq
 unfold Sh.yZ oN Sh.zM Sh.nO
 simp only [iT,dG,fN,iU,gX]
 refine ⟨fun h=>by rw [if_pos h],fun h=>⟨⟨by omega,by omega⟩,fun hl=>⟨by simp; omega,?_⟩,fun hl => ?_⟩⟩
 ·
  rw [if_neg h]
  refine ⟨fun hp=>⟨⟨by omega,by simpa using hp⟩,?_⟩,fun hp => ?_⟩
  ·
   simp only [List.length_append,List.length_singleton]
   rw [show (((d.length+1:Nat)):Int).toNat=d.length+1 by omega]
   exact decide_eq_decide.2 ⟨fun q=>⟨by omega,q⟩,fun q=>q.2⟩
  simp at hp; omega
 rw [if_neg h]
 symm; exact decide_eq_false (by omega)
def j6 (a b:List UInt8):Bool:=decide (a≠[])&&decide (b≠[])&&(oN a b||oN b a)
theorem KO {a b:List UInt8} (ha:a.length≤1000000000) (hb:b.length≤1000000000):Sh.pH a b=some (j6 a b):=by
 apply Ok.eq
 unfold Sh.pH j6
 simp only [iT,dG,gX,YA ha,YA hb]
 refine ⟨fun h=>by simp [h],fun h=>⟨fun h2=>by simp [h2],fun h2=>⟨fun h3=>by simp [h,h2,h3],fun h3=>by simp [h,h2,h3]⟩⟩⟩
end Go.S
end

section
namespace Go.S
open Go
set_option maxRecDepth 100000
theorem aAz {l:List aC} (h:l.length≤4294967296):Sh.fG l=some l:=by
 unfold Sh.fG
 simp [lt,gd,h]
theorem XJ (l:List aC):Sh.dS l=some l:=by
 unfold Sh.dS
 simp [lt,gd]
theorem aAy (l:List (List UInt8)):Sh.iL l=some l:=by
 unfold Sh.iL
 simp [lt,gd]
theorem aKQ (a b:List UInt8):Sh.rJ a b=some (if a < b then -1 else if b < a then 1 else 0):=by
 unfold Sh.rJ Sh.qI Sh.cmp_isNaN_string
 simp only [Option.bind_some,decide_true,Bool.not_true,Bool.false_eq_true,if_false,Go.Proofs.bytesLess_eq,decide_eq_true_eq]
 by_cases h1:a < b
 ·
  simp [h1]
 simp only [h1,if_false,decide_false,Bool.false_or]
 by_cases h2:a=b
 ·
  subst h2; simp [List.lt_irrefl]
 have h3:b < a:=by
   by_cases q:b < a
   . exact q
   . exact absurd (List.le_antisymm (List.not_lt.1 q) (List.not_lt.1 h1)) h2
 simp [h2,h3]
theorem aWg {s:Int} (h0:0≤s) (h1:s≤4000000000):IntKind.wrap .i64 (yX .u64 (IntKind.wrap .u64 s) 1)=s / 2:=by
 have e1:IntKind.wrap .u64 s=s:=IntWalk.u64_in _ (by omega)
 rw [e1]
 have e2:yX .u64 s 1=s / 2:=by
   unfold yX
   show s.fdiv (2 ^ 1)=s / 2
   rw [Int.fdiv_eq_ediv_of_nonneg s (by decide)]
   rfl
 rw [e2]
 exact IntWalk.i64_in _ (by omega)
def R (l:List aC):Prop:=l.Pairwise (fun a b=>a.path < b.path)
theorem R.sub {l l':List aC} (h:R l) (s:l'.Sublist l):R l':=List.Pairwise.sublist s h
theorem R.uniq {l:List aC} (h:R l) {a b:aC} (ha:a∈l) (hb:b∈l) (e:a.path=b.path):a=b:=by
 obtain ⟨i,hi⟩:=List.getElem?_of_mem ha
 obtain ⟨j,hj⟩:=List.getElem?_of_mem hb
 obtain ⟨hi1,hi2⟩:=List.getElem?_eq_some_iff.1 hi
 obtain ⟨hj1,hj2⟩:=List.getElem?_eq_some_iff.1 hj
 rcases Nat.lt_trichotomy i j with q | q | q
 ·
  have:=List.pairwise_iff_getElem.1 h i j hi1 hj1 q
  rw [hi2,hj2,e] at this
  exact absurd this (List.lt_irrefl _)
 ·
  subst q; rw [← hi2,← hj2]
 have:=List.pairwise_iff_getElem.1 h j i hj1 hi1 q
 rw [hi2,hj2,e] at this
 exact absurd this (List.lt_irrefl _)
theorem R.ext {l l':List aC} (h:R l) (h':R l') (m : ∀ z,z∈l↔z∈l'):l=l':=by
 have nd : ∀ {l:List aC},R l→l.Nodup:=fun {l} h=>by
   unfold R at h
   exact List.Pairwise.imp (fun {a b} (q:a.path < b.path) (e:a=b)=>List.lt_irrefl b.path (e▸q)) h
 refine List.Perm.eq_of_pairwise (le:=fun a b=>a.path≤b.path) (fun a b ha hb h1 h2=>h.uniq ha ((m b).2 hb) (List.le_antisymm h1 h2)) (h.imp fun q=>List.le_of_lt q) (h'.imp fun q=>List.le_of_lt q) ((List.perm_ext_iff_of_nodup (nd h) (nd h')).2 m)
def gt (l:List aC) (p:List UInt8):Option aC:=l.find? (fun f=>decide (f.path=p))
theorem pG {l:List aC} (h:R l) {p:List UInt8} {z:aC}:gt l p=some z↔z∈l∧z.path=p:=by
 unfold gt
 constructor
 ·
  intro q
  exact ⟨List.mem_of_find?_eq_some q,by simpa using List.find?_some q⟩
 rintro ⟨hz,rfl⟩
 cases hq:l.find? (fun f=>decide (f.path=z.path)) with
 | none=>have:=List.find?_eq_none.1 hq z hz; simp at this
 | some y =>
   have h1:=List.mem_of_find?_eq_some hq
   have h2:y.path=z.path:=by simpa using List.find?_some hq
   rw [h.uniq h1 hz h2]
theorem F4 {l:List aC} {p:List UInt8}:gt l p=none ↔ ∀ z∈l,z.path≠p:=by
 unfold gt
 rw [List.find?_eq_none]
 simp
theorem R.a6t {l l':List aC} (h:R l) (h':R l') (m : ∀ p,gt l p=gt l' p):l=l':=h.ext h' fun z=>by
  constructor
  . intro q
    have:=(pG h).2 ⟨q,rfl⟩
    rw [m] at this
    exact ((pG h').1 this).1
  . intro q
    have:=(pG h').2 ⟨q,rfl⟩
    rw [← m] at this
    exact ((pG h).1 this).1
structure At (x:List aC) (p:List UInt8) (i:Int):Prop where
  i0:0≤i
  i1:i≤x.length
  lo : ∀ f∈x.take i.toNat,f.path < p
  hi : ∀ f∈x.drop i.toNat,¬ f.path < p
theorem R.aGp {x:List aC} (h:R x) {i:Nat} {z:aC} (hz:x[i]? = some z) : ∀ f∈x.take i,f.path < z.path:=fun f hf=>by
  obtain ⟨j,hj⟩:=List.getElem?_of_mem hf
  rw [List.getElem?_take] at hj
  split at hj
  . next q =>
    obtain ⟨a1,a2⟩:=List.getElem?_eq_some_iff.1 hj
    obtain ⟨b1,b2⟩:=List.getElem?_eq_some_iff.1 hz
    have:=List.pairwise_iff_getElem.1 h j i a1 b1 q
    rwa [a2,b2] at this
  . cases hj
theorem R.aFT {x:List aC} (h:R x) {i:Nat} {z:aC} (hz:x[i]? = some z) : ∀ f∈x.drop (i+1),z.path < f.path:=fun f hf=>by
  obtain ⟨j,hj⟩:=List.getElem?_of_mem hf
  rw [List.getElem?_drop] at hj
  obtain ⟨a1,a2⟩:=List.getElem?_eq_some_iff.1 hj
  obtain ⟨b1,b2⟩:=List.getElem?_eq_some_iff.1 hz
  have:=List.pairwise_iff_getElem.1 h i (i+1+j) b1 a1 (by omega)
  rwa [a2,b2] at this
theorem IA {α:Type} {x:List α} {i:Nat} {z:α} (hz:x[i]? = some z):x.drop i=z::x.drop (i+1):=by
 obtain ⟨b1,b2⟩:=List.getElem?_eq_some_iff.1 hz
 rw [List.drop_eq_getElem_cons b1,b2]
theorem aPk {x:List aC} (h:R x) (hb:x.length≤100000000) (p:List UInt8):Ok (Sh.vM x p) fun r=>At x p r.1∧(r.2=true ↔ ∃ z,x[r.1.toNat]? = some z∧z.path=p):=by
 unfold Sh.vM Sh.iB
 rw [gX]
 refine kW (I:=fun t=>0≤t.1∧t.1≤t.2∧t.2≤x.length∧(∀ f∈x.take t.1.toNat,f.path < p)∧(∀ f∈x.drop t.2.toNat,¬ f.path < p)) (μ:=fun t=>(t.2 - t.1).toNat) ?_ ⟨by simp,by simp,by simp,by simp,by simp⟩
 rintro ⟨i,j⟩ ⟨i0,i1,i2,i3,i4⟩
 dsimp only at i0 i1 i2 i3 i4 ⊢
 simp only [iT,oG,fN]
 refine ⟨fun hij=>⟨⟨by omega,by omega⟩,?_⟩,fun hij => ?_⟩
 ·
  rw [aWg (by omega) (by omega)]
  obtain ⟨z,hz⟩:=sZ (l:=x) (i:=(i+j) / 2) (by omega) (by omega)
  rw [gX,s7]
  refine ⟨by omega,z,hz,?_⟩
  unfold Sh.sC
  rw [aKQ,Option.bind_some,Option.bind_some]
  simp only [iT,fN,oU]
  refine ⟨fun hc=>⟨⟨by omega,by omega⟩,⟨by omega,by omega,by omega,fun f hf => ?_,i4⟩,by omega⟩,fun hc=>⟨⟨i0,by omega,by omega,i3,fun f hf => ?_⟩,by omega⟩⟩
  ·
   have hzp:z.path < p:=by
     by_cases q:z.path < p
     . exact q
     . rw [if_neg q] at hc; split at hc <;> omega
   rw [show ((i+j) / 2+1).toNat=((i+j) / 2).toNat+1 by omega,List.take_add_one,hz] at hf
   rcases List.mem_append.1 hf with q | q
   ·
    exact List.lt_trans (h.aGp hz f q) hzp
   have:f=z:=by simpa using q
   rw [this]; exact hzp
  have hzp : ¬ z.path < p:=fun q=>hc (by rw [if_pos q]; omega)
  rw [IA hz] at hf
  rcases List.mem_cons.1 hf with q | q
  ·
   rw [q]; exact hzp
  intro hlt
  exact hzp (List.lt_trans (h.aFT hz f q) hlt)
 have hji:j=i:=by omega
 subst hji
 simp only [gX,s7,dG]
 refine ⟨fun hl => ?_,fun hl=>⟨⟨i0,i2,i3,i4⟩,?_⟩⟩
 ·
  obtain ⟨z,hz⟩:=sZ (l:=x) i0 hl
  refine ⟨i0,z,hz,?_⟩
  unfold Sh.sC
  rw [aKQ,Option.bind_some,dG]
  refine ⟨⟨i0,i2,i3,i4⟩,?_⟩
  rw [decide_eq_true_eq]
  have hnl : ¬ z.path < p:=i4 z (by rw [IA hz]; exact List.mem_cons_self ..)
  rw [if_neg hnl]
  constructor
  ·
   intro q
   refine ⟨z,hz,?_⟩
   by_cases hp:p < z.path
   ·
    rw [if_pos hp] at q; omega
   exact List.le_antisymm (List.not_lt.1 hp) (List.not_lt.1 hnl)
  rintro ⟨y,hy,rfl⟩
  rw [hz] at hy; cases hy
  rw [if_neg (List.lt_irrefl _)]
 simp only [Bool.false_eq_true,false_iff]
 rintro ⟨z,hz,_⟩
 have:=aB0 hz
 omega
theorem At.none {x:List aC} {p:List UInt8} {i:Int} (h:R x) (a:At x p i) (hn : ¬ ∃ z,x[i.toNat]? = some z∧z.path=p) : ∀ z∈x,z.path≠p:=fun z hz e=>by
  rw [← List.take_append_drop i.toNat x] at hz
  rcases List.mem_append.1 hz with q | q
  . exact List.lt_irrefl p (e▸a.lo z q)
  . obtain ⟨y,hy⟩ : ∃ y,x[i.toNat]? = some y:=by
      cases hq:x[i.toNat]? with
      | some y=>exact ⟨y,rfl⟩
      | none =>
        have:=List.getElem?_eq_none_iff.1 hq
        rw [List.drop_of_length_le this] at q; cases q
    have hyp:y.path≠p:=fun e'=>hn ⟨y,hy,e'⟩
    rw [IA hy] at q
    rcases List.mem_cons.1 q with q | q
    . rw [q] at e; exact hyp e
    . have h1:=h.aFT hy z q
      rw [e] at h1
      have h2:=a.hi y (by rw [IA hy]; exact List.mem_cons_self ..)
      exact h2 h1
def PO (x:List aC) (p:List UInt8):aC×Bool:=match gt x p with | some f=>(f,true) | none=>(⟨[],0,[]⟩,false)
theorem BK {x:List aC} {p:List UInt8} {f:aC} (h:gt x p=some f):PO x p=(f,true):=by unfold PO; rw [h]
theorem EE {x:List aC} {p:List UInt8} (h:gt x p=none):PO x p=(⟨[],0,[]⟩,false):=by unfold PO; rw [h]
theorem aFj {x:List aC} (h:R x) (hb:x.length≤100000000) (p:List UInt8):Sh.kC x p=some (PO x p):=by
 apply Ok.eq
 unfold Sh.kC
 refine gX.2 ((aPk h hb p).mono fun r ⟨ha,hr⟩ => ?_)
 simp only [iT,dG]
 refine ⟨fun hn => ?_,fun hn => ?_⟩
 ·
  have hf : ¬ r.2=true:=by simpa using hn
  have:=ha.none h fun q=>hf (hr.2 q)
  rw [EE (F4.2 this)]
 have hf:r.2=true:=by simpa using hn
 obtain ⟨z,hz,hp⟩:=hr.1 hf
 rw [gX,s7]
 refine ⟨ha.i0,z,hz,?_⟩
 rw [dG,BK ((pG h).2 ⟨List.mem_of_getElem? hz,hp⟩)]
def JY (r:List aC) (f:aC):List aC:=r.filter (fun z=>decide (z.path < f.path))++[f]++r.filter (fun z=>decide (f.path < z.path))
theorem a5h {x:List aC} (h:R x) (hb:x.length≤100000000) (f:aC):Sh.xL x f=some (JY x f):=by
 apply Ok.eq
 unfold Sh.xL
 rw [aAz (by omega),Option.bind_some]
 refine gX.2 ((aPk h hb f.path).mono fun r ⟨ha,hr⟩ => ?_)
 have hlo:x.filter (fun z=>decide (z.path < f.path))=x.take r.1.toNat:=by
   conv=>lhs; rw [← List.take_append_drop r.1.toNat x,List.filter_append]
   rw [List.filter_eq_self.2 fun z hz=>decide_eq_true (ha.lo z hz),List.filter_eq_nil_iff.2 fun z hz=>by simpa using ha.hi z hz,List.append_nil]
 have hlo2:(x.take r.1.toNat).filter (fun z=>decide (f.path < z.path))=[]:=List.filter_eq_nil_iff.2 fun z hz=>by
   have:=ha.lo z hz
   simp only [decide_eq_true_eq]
   exact fun q=>List.lt_irrefl _ (List.lt_trans q this)
 simp only [iT]
 refine ⟨fun hf => ?_,fun hf => ?_⟩
 ·
  obtain ⟨z,hz,hp⟩:=hr.1 hf
  have hlt:=aB0 hz
  rw [gX,s7]
  refine ⟨ha.i0,z,hz,?_⟩
  simp only [iU]
  rw [XJ,Option.bind_some,dG]
  unfold JY
  have hhi:x.filter (fun z=>decide (f.path < z.path))=x.drop (r.1.toNat+1):=by
    conv=>lhs; rw [← List.take_append_drop r.1.toNat x,List.filter_append,hlo2,List.nil_append,IA hz]
    rw [List.filter_cons_of_neg (by rw [hp]; simp [List.lt_irrefl])]
    exact List.filter_eq_self.2 fun y hy=>decide_eq_true (by rw [← hp]; exact h.aFT hz y hy)
  rw [hlo,hhi]
  apply List.ext_getElem?
  intro j
  rw [List.getElem?_set]
  have hlen:(x.take r.1.toNat).length=r.1.toNat:=by rw [List.length_take]; omega
  split
  ·
   next q =>
   subst q
   rw [List.append_assoc,List.getElem?_append_right (by omega),hlen,Nat.sub_self]
   first | rw [if_pos hlt]; rfl | rfl
  next q =>
  by_cases hj:j < r.1.toNat
  ·
   rw [List.append_assoc,List.getElem?_append_left (by omega),List.getElem?_take,if_pos hj]
  rw [List.append_assoc,List.getElem?_append_right (by omega),hlen,show j - r.1.toNat=(j - r.1.toNat - 1)+1 by omega]
  simp only [List.singleton_append,List.getElem?_cons_succ,List.getElem?_drop]
  congr 1; omega
 have hn:=ha.none h fun q=>hf (hr.2 q)
 simp only [iU,fN]
 refine ⟨⟨⟨ha.i0,ha.i1⟩,by simp,by simp; omega⟩,?_⟩
 rw [XJ,Option.bind_some,dG]
 unfold JY
 have hhi:x.filter (fun z=>decide (f.path < z.path))=x.drop r.1.toNat:=by
   conv=>lhs; rw [← List.take_append_drop r.1.toNat x,List.filter_append,hlo2,List.nil_append]
   refine List.filter_eq_self.2 fun y hy=>decide_eq_true ?_
   by_cases q:f.path < y.path
   . exact q
   . exact absurd (List.le_antisymm (List.not_lt.1 q) (List.not_lt.1 (ha.hi y hy))) (hn y (List.mem_of_mem_drop hy))
 rw [hlo,hhi]
theorem X0 (x:List aC) (f z:aC):z∈JY x f↔z=f∨z∈x∧z.path≠f.path:=by
 unfold JY
 simp only [List.mem_append,List.mem_singleton,List.mem_filter,decide_eq_true_eq]
 constructor
 ·
  rintro ((⟨a,b⟩ | a) | ⟨a,b⟩)
  ·
   exact .inr ⟨a,fun e=>List.lt_irrefl _ (e▸b)⟩
  ·
   exact .inl a
  exact .inr ⟨a,fun e=>List.lt_irrefl _ (e▸b)⟩
 rintro (a | ⟨a,b⟩)
 ·
  exact .inl (.inr a)
 by_cases q:z.path < f.path
 ·
  exact .inl (.inl ⟨a,q⟩)
 by_cases q2:f.path < z.path
 ·
  exact .inr ⟨a,q2⟩
 exact absurd (List.le_antisymm (List.not_lt.1 q2) (List.not_lt.1 q)) b
theorem aKS {x:List aC} (h:R x) (f:aC):R (JY x f):=by
 unfold JY R
 rw [List.append_assoc,List.pairwise_append]
 refine ⟨h.sub List.filter_sublist,?_,fun a ha b hb => ?_⟩
 ·
  refine List.pairwise_append.2 ⟨List.pairwise_singleton _ _,h.sub List.filter_sublist,fun a ha b hb => ?_⟩
  rw [List.mem_singleton.1 ha]
  exact of_decide_eq_true (List.mem_filter.1 hb).2
 have h1:a.path < f.path:=of_decide_eq_true (List.mem_filter.1 ha).2
 rcases List.mem_append.1 hb with q | q
 ·
  rw [List.mem_singleton.1 q]; exact h1
 have h2:f.path < b.path:=of_decide_eq_true (List.mem_filter.1 q).2
 exact List.lt_trans h1 h2
end Go.S
end

section
namespace Go.S
open Go
def vF (f:aC):Prop:=wZ f.path=0∧(f.mode=1∨f.mode=2)∧f.data.length≤4096
theorem kL {p:List UInt8} (h:wZ p=0):p.length≤64:=by
 unfold wZ at h
 split at h
 ·
  omega
 omega
structure oR (x:List aC):Prop where
  v : ∀ f∈x,vF f
  r:R x
  c:x.Pairwise (fun a b=>j6 a.path b.path=false)
theorem oR.sub {l l':List aC} (h:oR l) (s:l'.Sublist l):oR l':=⟨fun f hf=>h.v f (s.subset hf),h.r.sub s,List.Pairwise.sublist s h.c⟩
theorem UG (a b:List UInt8):j6 a b=j6 b a:=by
 unfold j6
 rw [Bool.or_comm (oN a b),Bool.and_comm (decide (a≠[]))]
theorem aEA (a:List UInt8):j6 a a=false:=by
 unfold j6 oN
 by_cases h:a=[] <;> simp [h]
 intro _
 omega
theorem aLg {x:List aC} {i:Int} (i0:0≤i) {z:aC} (hz:x[i.toNat]? = some z) (hg:oR (x.take i.toNat)) (hv:vF z) (hr : ∀ y,0 < i→x[(i - 1).toNat]? = some y→y.path < z.path) (hc : ∀ y∈x.take i.toNat,j6 y.path z.path=false):oR (x.take (i+1).toNat):=by
 rw [uE i0 hz]
 have hlt : ∀ a∈x.take i.toNat,a.path < z.path:=fun a ha=>by
   have hpos:0 < i:=by
     rcases Int.lt_or_le 0 i with q | q
     . exact q
     . rw [show i.toNat=0 by omega] at ha; simp at ha
   have hil:=aB0 hz
   obtain ⟨y,hy⟩:=sZ (l:=x) (i:=i - 1) (by omega) (by omega)
   have hyz:=hr y hpos hy
   have he:x.take i.toNat=x.take (i - 1).toNat++[y]:=by
     have:=uE (l:=x) (i:=i - 1) (by omega) hy
     rwa [show i - 1+1=i by omega] at this
   rw [he] at ha
   rcases List.mem_append.1 ha with q | q
   . have hR:=hg.r
     rw [he] at hR
     have:=(List.pairwise_append.1 hR).2.2 a q y (List.mem_singleton_self _)
     exact List.lt_trans this hyz
   . rw [List.mem_singleton.1 q]; exact hyz
 refine ⟨fun f hf => ?_,List.pairwise_append.2 ⟨hg.r,List.pairwise_singleton _ _,fun a ha b hb => ?_⟩,List.pairwise_append.2 ⟨hg.c,List.pairwise_singleton _ _,fun a ha b hb => ?_⟩⟩
 ·
  rcases List.mem_append.1 hf with q | q
  ·
   exact hg.v f q
  rw [List.mem_singleton.1 q]; exact hv
 ·
  rw [List.mem_singleton.1 hb]; exact hlt a ha
 rw [List.mem_singleton.1 hb]; exact hc a ha
theorem a4u {l:List aC} (p:List UInt8) (hb:l.length≤1000000000):Sh.BJ l p=some (l.filter fun z => !decide (z.path=p)):=by
 unfold Sh.BJ
 rw [aAz (by omega),Option.bind_some]
 have hix:Ok (Sh.iR l p) (Fst (fun z=>decide (z.path=p)) l):=by
   unfold Sh.iR
   exact SB (fun z=>decide (z.path=p)) l hb (fun z=>Sh.tF z p) (fun z hz=>rfl) _ fun i=>rfl
 have:Sh.iM l p=some (l.filter fun z => !decide (z.path=p)):=by
   unfold Sh.iM
   exact aE1 (fun z=>decide (z.path=p)) l hb (fun z=>Sh.tF z p) (fun z hz=>rfl) _ hix _ fun t=>rfl
 rw [this,Option.bind_some,XJ]
 rfl
theorem a3U (l r:List aC) (hb:l.length≤1000000000):Sh.vL l r=some (decide (l=r)):=by
 unfold Sh.vL
 have:Sh.kF l r=some (decide (l=r)):=by
   unfold Sh.kF
   split
   . next h=>exact aZp (fun z w=>z.path=w.path∧z.mode=w.mode∧z.data=w.data) (fun z w=>by cases z; cases w; simp) l r h (by omega) _ fun i=>rfl
   . next h=>exact congrArg some (decide_eq_false fun e=>h (by rw [e])).symm
 rw [this]; rfl
end Go.S
end

section
namespace Go.S
open Go
def zQ (ls:List (List aC)) (r:List (List UInt8)):Prop:=r.Pairwise (· < ·) ∧ ∀ x,x∈r ↔ ∃ l∈ls,∃ f∈l,f.path=x
theorem aNY {l l':List (List UInt8)} (h:l.Pairwise (· < ·)) (h':l'.Pairwise (· < ·)) (m : ∀ z,z∈l↔z∈l'):l=l':=by
 have nd : ∀ {l:List (List UInt8)},l.Pairwise (· < ·)→l.Nodup:=fun {l} h=>h.imp (fun {a b} (q:a < b) (e:a=b)=>List.lt_irrefl b (e▸q))
 exact List.Perm.eq_of_pairwise (le:=fun a b=>a≤b) (fun a b _ _ h1 h2=>List.le_antisymm h1 h2) (h.imp fun q=>List.le_of_lt q) (h'.imp fun q=>List.le_of_lt q) ((List.perm_ext_iff_of_nodup (nd h) (nd h')).2 m)
theorem aMu (ls:List (List aC)) (hn:ls.length≤8) (hl : ∀ l∈ls,l.length≤1000000 ∧ ∀ f∈l,f.path.length≤1000000):Ok (Sh.zA ls) (fun r=>zQ ls r∧r.length≤8000000):=by
 unfold Sh.zA
 refine kW (I:=fun t=>0≤t.1∧t.1≤ls.length∧(t.2.length:Int)≤t.1*1000000 ∧ ∀ x,x∈t.2 ↔ ∃ l∈ls.take t.1.toNat,∃ f∈l,f.path=x) (μ:=fun t=>(ls.length - t.1).toNat) ?_ ⟨by simp,by simp,by simp,by simp⟩
 rintro ⟨i,acc⟩ ⟨i0,i1,i2,i3⟩
 dsimp only at i0 i1 i2 i3 ⊢
 simp only [iT,oG,gX,s7]
 refine ⟨fun hi => ?_,fun hi => ?_⟩
 ·
  obtain ⟨l,hz⟩:=sZ (l:=ls) i0 hi
  have hll:=hl l (List.mem_of_getElem? hz)
  refine ⟨i0,l,hz,?_⟩
  have hmul:(i+1)*1000000=i*1000000+1000000:=by rw [Int.add_mul]; omega
  have hle:i*1000000≤8000000:=by omega
  refine kW (I:=fun t=>0≤t.1∧t.1≤l.length∧(t.2.length:Int)≤i*1000000+t.1 ∧ ∀ x,x∈t.2↔(∃ l∈ls.take i.toNat,∃ f∈l,f.path=x) ∨ ∃ f∈l.take t.1.toNat,f.path=x) (μ:=fun t=>(l.length - t.1).toNat) ?_ ⟨by simp,by simp,by simpa using i2,by simpa using i3⟩
  rintro ⟨j,acc2⟩ ⟨j0,j1,j2,j3⟩
  dsimp only at j0 j1 j2 j3 ⊢
  simp only [iT,oG,gX,s7,fN,iU,oU]
  refine ⟨fun hj => ?_,fun hj=>⟨⟨by omega,by omega⟩,⟨by omega,by omega,by omega,fun x => ?_⟩,by omega⟩⟩
  ·
   obtain ⟨f,hf⟩:=sZ (l:=l) j0 hj
   have hfl:=hll.2 f (List.mem_of_getElem? hf)
   refine ⟨j0,f,hf,⟨by omega,by omega⟩,⟨by omega,by omega⟩,⟨by omega,by omega,by simp only [List.length_cons]; omega,fun x => ?_⟩,by omega⟩
   rw [List.mem_cons,j3,uE j0 hf]
   constructor
   ·
    rintro (q | q | ⟨g,hg,q⟩)
    ·
     exact .inr ⟨f,by simp,q.symm⟩
    ·
     exact .inl q
    exact .inr ⟨g,List.mem_append_left _ hg,q⟩
   rintro (q | ⟨g,hg,q⟩)
   ·
    exact .inr (.inl q)
   rcases List.mem_append.1 hg with h | h
   ·
    exact .inr (.inr ⟨g,h,q⟩)
   rw [List.mem_singleton.1 h] at q; exact .inl q.symm
  rw [List.take_of_length_le (l:=l) (i:=j.toNat) (by omega)] at j3
  rw [j3,uE i0 hz]
  constructor
  ·
   rintro (⟨m,hm,q⟩ | q)
   ·
    exact ⟨m,List.mem_append_left _ hm,q⟩
   exact ⟨l,List.mem_append_right _ (List.mem_singleton_self _),q⟩
  rintro ⟨m,hm,q⟩
  rcases List.mem_append.1 hm with h | h
  ·
   exact .inl ⟨m,h,q⟩
  rw [List.mem_singleton.1 h] at q; exact .inr q
 rw [List.take_of_length_le (by omega)] at i3
 simp only [fN,iU]
 refine ⟨by omega,?_⟩
 rw [aAy,Option.bind_some,dG]
 exact ⟨⟨P0 acc,fun x=>(EK acc x).trans (i3 x)⟩,by have:=EJ acc; omega⟩
end Go.S
end

section
namespace Go.S
open Go
theorem aJe {α:Type} (p q:α→Bool) (l:List α) (h : ∀ z∈l,p z=true→q z=false):(l.filter p).length+(l.filter q).length≤l.length:=by
 induction l with
 | nil=>simp
 | cons a r ih =>
   have ih':=ih fun z hz=>h z (List.mem_cons_of_mem _ hz)
   have ha:=h a (List.mem_cons_self ..)
   cases hp:p a with
   | true=>have hq:=ha hp; simp [List.filter_cons,hp,hq]; omega
   | false=>cases hq:q a <;> simp [List.filter_cons,hp,hq] <;> omega
theorem aOk (x:List aC) (f:aC):(JY x f).length≤x.length+1:=by
 unfold JY
 have:=aJe (fun z:aC=>decide (z.path < f.path)) (fun z=>decide (f.path < z.path)) x (fun z _ h=>by
   have h':z.path < f.path:=of_decide_eq_true h
   exact decide_eq_false fun q=>List.lt_irrefl _ (List.lt_trans h' q))
 simp only [List.length_append,List.length_cons,List.length_nil]; omega
theorem a1T {l:List aC} (h:R l) (f:aC) (q:List UInt8):gt (JY l f) q=if q=f.path then some f else gt l q:=by
 have hR:=aKS h f
 split
 ·
  next e=>exact (pG hR).2 ⟨(X0 l f f).2 (.inl rfl),e.symm⟩
 next e =>
 cases hg:gt l q with
 | none =>
   refine F4.2 fun z hz hq => ?_
   rcases (X0 l f z).1 hz with a | ⟨a,_⟩
   . rw [a] at hq; exact e hq.symm
   . exact F4.1 hg z a hq
 | some z =>
   obtain ⟨a,b⟩:=(pG h).1 hg
   exact (pG hR).2 ⟨(X0 l f z).2 (.inr ⟨a,fun c=>e (b.symm.trans c)⟩),b⟩
end Go.S
end

section
namespace Go.S
open Go
end Go.S
end

section
namespace Go.S
open Go
def JA (ps:List (List UInt8)) (x:List aC):List aC:=ps.foldl (fun x p=>x.filter fun z => !decide (z.path=p)) x
theorem UJ : ∀ (ps:List (List UInt8)) (x:List aC),JA ps x=x.filter fun z => !decide (z.path∈ps)
  | [],x=>by simp [JA,List.filter_eq_self.2]
  | p::r,x=>by
    show JA r _=_
    rw [UJ r,List.filter_filter]
    congr 1
    funext z
    by_cases a:z.path=p <;> by_cases b:z.path∈r <;> simp [a,b]
theorem aBD {x:List aC} (h:R x) (ps:List (List UInt8)):R (JA ps x):=by
 rw [UJ]; exact h.sub List.filter_sublist
theorem aHu (ps:List (List UInt8)) (x:List aC):(JA ps x).length≤x.length:=by
 rw [UJ]; exact List.length_filter_le _ _
theorem aWc {x:List aC} (h:R x) (ps:List (List UInt8)) (q:List UInt8):gt (JA ps x) q=if q∈ps then none else gt x q:=by
 have hR:=aBD h ps
 rw [UJ] at hR ⊢
 split
 ·
  next e =>
  refine F4.2 fun z hz hq => ?_
  have:=(List.mem_filter.1 hz).2
  rw [hq] at this
  simp [e] at this
 next e =>
 cases hg:gt x q with
 | none=>exact F4.2 fun z hz hq=>F4.1 hg z (List.mem_filter.1 hz).1 hq
 | some z =>
   obtain ⟨a,b⟩:=(pG h).1 hg
   exact (pG hR).2 ⟨List.mem_filter.2 ⟨a,by simp [b,e]⟩,b⟩
def TW (x:List aC):Option aC→List aC
  | some f=>JY x f
  | none=>x
def HD (rf:List aC) (ps:List (List UInt8)) (x:List aC):List aC:=ps.foldl (fun x p=>TW x (gt rf p)) x
theorem aKT {x:List aC} (h:R x) (o:Option aC):R (TW x o):=by
 cases o with
 | none=>exact h
 | some f=>exact aKS h f
theorem aTU (x:List aC) (o:Option aC):(TW x o).length≤x.length+1:=by
 cases o with
 | none=>simp [TW]
 | some f=>exact aOk x f
theorem aKU {rf:List aC} : ∀ (ps:List (List UInt8)) (x:List aC),R x→R (HD rf ps x)
  | [],_,h=>h
  | p::r,_,h=>aKU r _ (aKT h (gt rf p))
theorem aI6 {rf:List aC} : ∀ (ps:List (List UInt8)) (x:List aC),(HD rf ps x).length≤x.length+ps.length
  | [],x=>by simp [HD]
  | p::r,x=>by
    have:=aI6 (rf:=rf) r (TW x (gt rf p))
    have:=aTU x (gt rf p)
    show (HD rf r (TW x (gt rf p))).length≤_
    simp only [List.length_cons]; omega
theorem PU {rf:List aC} {p:List UInt8} {f:aC} (h:gt rf p=some f):f.path=p:=by simpa using List.find?_some h
theorem aWe {rf x:List aC} (h:R x) (p q:List UInt8):gt (TW x (gt rf p)) q=if q=p∧gt rf p≠none then gt rf p else gt x q:=by
 cases hp:gt rf p with
 | none=>simp [TW]
 | some f =>
   have e:=PU hp
   show gt (JY x f) q=_
   rw [a1T h,e]
   by_cases hq:q=p <;> simp [hq]
theorem aLi {rf:List aC} : ∀ (ps:List (List UInt8)) (x:List aC),R x → ∀ q,gt (HD rf ps x) q=if q∈ps∧gt rf q≠none then gt rf q else gt x q
  | [],x,_,q=>by simp [HD]
  | p::r,x,h,q=>by
    show gt (HD rf r (TW x (gt rf p))) q=_
    rw [aLi r _ (aKT h _),aWe h]
    by_cases a:q=p
    . subst a
      by_cases b:gt rf q=none <;> simp [b]
    . simp [a]
theorem aWd {rf x:List aC} (h:R x) (ps:List (List UInt8)) (q:List UInt8):gt (HD rf ps (JA ps x)) q=if q∈ps then gt rf q else gt x q:=by
 rw [aLi ps _ (aBD h ps),aWc h]
 by_cases a:q∈ps
 ·
  by_cases b:gt rf q=none <;> simp [a,b]
 simp [a]
end Go.S
end

section
namespace Go.S
open Go
theorem aBA {l:List aE} (h:l.length≤4294967296):Sh.fT l=some l:=by
 unfold Sh.fT
 simp [lt,gd,h]
theorem aAx (l:List aE):Sh.eG l=some l:=by
 unfold Sh.eG
 simp [lt,gd]
def w9 (e x:aE):Bool:=j6 x.path e.path||(decide (x.path=e.path)&&(if e.eM=1∨e.eM=2∨e.eM=3 then decide (x.eM=0)||decide (x.eM=e.eM) else true))
theorem aIC {x e:aE} (hx:x.path.length≤1000000000) (he:e.path.length≤1000000000):Sh.vW x e=some (w9 e x):=by
 unfold Sh.vW Sh.J9
 rw [KO hx he]
 simp only [Option.bind_some,jn]
 unfold w9
 cases j6 x.path e.path with
 | true=>simp
 | false =>
   by_cases h1:x.path=e.path
   . simp only [h1,if_true,Bool.false_eq_true,if_false,decide_true,Bool.true_and,Bool.false_or]
     by_cases a:e.eM=1
     . by_cases b:x.eM=0 <;> simp [a,b]
     by_cases a2:e.eM=2
     . by_cases b:x.eM=0 <;> simp [a2,b]
     by_cases a3:e.eM=3
     . by_cases b:x.eM=0 <;> simp [a3,b]
     simp [a,a2,a3]
   . simp [h1]
theorem a7A (l:List aE) (e:aE) (hb:l.length≤1000000000) (hl : ∀ z∈l,z.path.length≤1000000000) (he:e.path.length≤1000000000):Ok (Sh.iS l e) (Fst (w9 e) l):=by
 unfold Sh.iS
 exact SB (w9 e) l hb (fun z=>Sh.vW z e) (fun z hz=>aIC (hl z hz) he) _ fun i=>rfl
theorem a4x (l:List aE) (e:aE) (hb:l.length≤1000000000) (hl : ∀ z∈l,z.path.length≤1000000000) (he:e.path.length≤1000000000):Sh.iN l e=some (l.filter fun z => !w9 e z):=by
 unfold Sh.iN
 exact aE1 (w9 e) l hb (fun z=>Sh.vW z e) (fun z hz=>aIC (hl z hz) he) _ (a7A l e hb hl he) _ fun t=>rfl
theorem a5Z (l:List aE) (p:List UInt8) (hb:l.length≤1000000000):Ok (Sh.hU l p) (Fst (fun z=>decide (z.path=p)) l):=by
 unfold Sh.hU
 exact SB (fun z=>decide (z.path=p)) l hb (fun z=>Sh.AD z p) (fun z hz=>rfl) _ fun i=>rfl
theorem aZo (l:List aE) (p:List UInt8) (hb:l.length≤1000000000):Sh.IL l p=some (l.filter fun z => !decide (z.path=p)):=by
 unfold Sh.IL
 rw [aBA (by omega),Option.bind_some]
 have:Sh.gT l p=some (l.filter fun z => !decide (z.path=p)):=by
   unfold Sh.gT
   exact aE1 (fun z=>decide (z.path=p)) l hb (fun z=>Sh.AD z p) (fun z hz=>rfl) _ (a5Z l p hb) _ fun t=>rfl
 rw [this,Option.bind_some,aAx]
 rfl
def lt2 (a b:aE):Prop:=a.path < b.path∨a.path=b.path∧a.eM < b.eM
def bf (a b:aE):Bool:=Op.bytesLess a.path b.path||(decide (a.path=b.path)&&decide (a.eM < b.eM))
theorem aJB (a b:aE):bf a b=true↔lt2 a b:=by
 unfold bf lt2
 simp [Go.Proofs.bytesLess_eq]
theorem aXr (a b:List UInt8):Sh.rJ a b=some (if a < b then -1 else if b < a then 1 else 0):=by
 unfold Sh.rJ Sh.qI Sh.cmp_isNaN_string
 simp only [Option.bind_some,decide_true,Bool.not_true,Bool.false_eq_true,if_false,Go.Proofs.bytesLess_eq,decide_eq_true_eq]
 by_cases h1:a < b
 ·
  simp [h1]
 simp only [h1,if_false,decide_false,Bool.false_or]
 by_cases h2:a=b
 ·
  subst h2; simp [List.lt_irrefl]
 have h3:b < a:=by
   by_cases q:b < a
   . exact q
   . exact absurd (List.le_antisymm (List.not_lt.1 q) (List.not_lt.1 h1)) h2
 simp [h2,h3]
theorem aX5 (a b:Int):Sh.xK a b=some (if a < b then -1 else if b < a then 1 else 0):=by
 unfold Sh.xK Sh.cmp_isNaN_int
 simp only [Option.bind_some,decide_true,Bool.not_true,Bool.false_eq_true,if_false]
 split
 ·
  rfl
 split <;> rfl
theorem a5f (a b:Int):Sh.H8 [a,b]=some (if a=0 then b else a):=by
 apply Ok.eq
 unfold Sh.H8
 refine kW (I:=fun i=>i=0∨a=0∧(i=1∨b=0∧i=2)) (μ:=fun i=>(2 - i).toNat) ?_ (.inl rfl)
 intro i hi
 simp only [iT,oG,gX,fN,oU,dG,s7,List.length_cons,List.length_nil]
 rcases hi with rfl | ⟨ha,rfl | ⟨hb,rfl⟩⟩
 ·
  refine ⟨fun _=>⟨by omega,a,rfl,fun h=>⟨⟨by omega,by omega⟩,.inr ⟨h,.inl rfl⟩,by omega⟩,fun h=>by rw [if_neg h]⟩,fun h=>absurd (by omega) h⟩
 ·
  refine ⟨fun _=>⟨by omega,b,rfl,fun h=>⟨⟨by omega,by omega⟩,.inr ⟨ha,.inr ⟨h,rfl⟩⟩,by omega⟩,fun h=>by rw [if_pos ha]⟩,fun h=>absurd (by omega) h⟩
 refine ⟨fun h=>absurd h (by omega),fun _=>by rw [if_pos ha,hb]⟩
theorem a4t (a b:aE) : ∃ n,Sh.BO a b=some n∧(n < 0↔lt2 a b):=by
 unfold Sh.BO
 rw [aXr,Option.bind_some,aX5,Option.bind_some]
 simp only [lt]
 rw [a5f]
 refine ⟨_,rfl,?_⟩
 unfold lt2
 by_cases h1:a.path < b.path
 ·
  simp [h1]
 by_cases h2:b.path < a.path
 ·
  have:a.path≠b.path:=fun e=>List.lt_irrefl _ (e▸h2)
  simp [h1,h2,this]
 have he:a.path=b.path:=List.le_antisymm (List.not_lt.1 h2) (List.not_lt.1 h1)
 have hi : ¬ b.path < b.path:=List.lt_irrefl _
 simp only [he,hi,if_false,if_true,false_or,true_and]
 by_cases h3:a.eM < b.eM
 ·
  simp [h3]
 simp only [h3,if_false,iff_false]
 split <;> omega
def TX (l:List aE) (e:aE):List aE:=(l.filter fun z => !w9 e z).takeWhile (bf · e)++[e]++(l.filter fun z => !w9 e z).dropWhile (bf · e)
theorem aYp {α:Type} {p:α→Bool} {l:List α} {i:Nat} (h:i < l.length) (hall : ∀ z∈l.take i,p z=true) (hz : ∀ z,l[i]? = some z→p z=false):l.takeWhile p=l.take i∧l.dropWhile p=l.drop i:=by
 have e:l=l.take i++l.drop i:=(List.take_append_drop i l).symm
 obtain ⟨z,hz'⟩ : ∃ z,l[i]? = some z:=⟨_,List.getElem?_eq_getElem h⟩
 have hd:l.drop i=z::l.drop (i+1):=by
   rw [List.drop_eq_getElem_cons h]
   congr 1
   rw [List.getElem?_eq_getElem h] at hz'
   exact Option.some.inj hz'
 have hp:=hz z hz'
 constructor
 ·
  conv=>lhs; rw [e,List.takeWhile_append_of_pos hall,hd,List.takeWhile_cons_of_neg (by simp [hp]),List.append_nil]
 conv=>lhs; rw [e,List.dropWhile_append_of_pos hall,hd,List.dropWhile_cons_of_neg (by simp [hp])]
 exact hd.symm
theorem a3Z {α:Type} {p:α→Bool} {l:List α} (hall : ∀ z∈l,p z=true):l.takeWhile p=l∧l.dropWhile p=[]:=by
 have h1:=List.takeWhile_append_of_pos (l₂ := []) hall
 have h2:=List.dropWhile_append_of_pos (l₂ := []) hall
 simp only [List.append_nil,List.takeWhile_nil,List.dropWhile_nil] at h1 h2
 exact ⟨h1,h2⟩
theorem aXs (l:List aE) (e:aE) (hb:l.length≤1000000) (hl : ∀ z∈l,z.path.length≤1000000000) (he:e.path.length≤1000000000):Sh.EG l e=some (TX l e):=by
 apply Ok.eq
 unfold Sh.EG
 rw [aBA (by omega),Option.bind_some,a4x l e (by omega) hl he,Option.bind_some]
 unfold TX
 have hlen:(l.filter fun z => !w9 e z).length≤1000000:=Nat.le_trans (List.length_filter_le _ _) hb
 generalize l.filter (fun z => !w9 e z)=y at hlen ⊢
 refine p7 (fun i=>0≤i∧i≤y.length∧y.takeWhile (bf · e)=y.take i.toNat∧y.dropWhile (bf · e)=y.drop i.toNat) ?_ ?_
 ·
  rintro i ⟨h1,h2,h3,h4⟩
  simp only [iU,fN]
  refine ⟨⟨⟨h1,h2⟩,by simp,by simp; omega⟩,?_⟩
  rw [aAx,Option.bind_some,dG,h3,h4]
 intro K hK
 refine kW (I:=fun i=>0≤i∧i≤y.length ∧ ∀ z∈y.take i.toNat,bf z e=true) (μ:=fun i=>(y.length - i).toNat) ?_ ⟨by omega,by omega,by simp⟩
 rintro i ⟨i0,i1,i2⟩
 simp only [iT,oG,gX,dG,s7]
 refine ⟨fun hi => ?_,fun hi => ?_⟩
 ·
  obtain ⟨z,hz⟩:=sZ i0 hi
  obtain ⟨n,hn,hn2⟩:=a4t z e
  refine ⟨i0,z,hz,?_⟩
  rw [hn,dG]
  refine ⟨fun h => ?_,fun h => ?_⟩
  ·
   simp only [fN,oU]
   refine ⟨⟨by omega,by omega⟩,⟨by omega,by omega,fun w hw => ?_⟩,by omega⟩
   rw [uE i0 hz] at hw
   rcases List.mem_append.1 hw with q | q
   ·
    exact i2 w q
   rw [List.mem_singleton.1 q]; exact (aJB z e).2 (hn2.1 h)
  have:=aYp (p:=(bf · e)) (l:=y) (i:=i.toNat) (by omega) i2 (fun w hw=>by
    rw [hz] at hw; cases hw
    cases hq:bf z e with
    | false=>rfl
    | true=>exact absurd (hn2.2 ((aJB z e).1 hq)) h)
  exact hK i ⟨i0,i1,this.1,this.2⟩
 rw [List.take_of_length_le (by omega)] at i2
 have:=a3Z i2
 exact hK i ⟨i0,i1,by rw [this.1,List.take_of_length_le (by omega)],by rw [this.2,List.drop_of_length_le (by omega)]⟩
end Go.S
end

section
namespace Go.S
open Go
end Go.S
end

section
namespace Go.S
open Go
def vE (e:aE):Prop:=wZ e.path=0∧0≤e.eM∧e.eM≤3∧(e.mode=1∨e.mode=2)∧e.data.length≤4096∧0≤e.time∧0≤e.size
def a5u (a b:aE):Prop:=lt2 a b ∧ ¬ (a.path=b.path∧(a.eM=0∨b.eM=0))∧j6 a.path b.path=false
structure G7 (x:List aE):Prop where
  v : ∀ e∈x,vE e
  pw:x.Pairwise a5u
theorem aOW {α:Type} (p:α→Bool) (A B:List α) (hA : ∀ z∈A,p z=true) (hB : ∀ z∈B,p z=false):(A++B).takeWhile p=A∧(A++B).dropWhile p=B:=by
 rw [List.takeWhile_append_of_pos hA,List.dropWhile_append_of_pos hA]
 cases B with
 | nil=>simp
 | cons b r =>
   have:=hB b (List.mem_cons_self ..)
   simp [this]
end Go.S
end

section
namespace Go.S
open Go
def qL (f:aC):aE:=⟨f.path,0,f.mode,f.data,0,0⟩
theorem aSe (x:List aC) (p:List UInt8):(x.map qL).filter (fun z => !decide (z.path=p))=(x.filter fun z => !decide (z.path=p)).map qL:=by
 rw [List.filter_map]; rfl
theorem a2Y {x:List aC} (h:R x) (f:aC):(x.filter fun z => !decide (z.path=f.path))=x.filter (fun z=>decide (z.path < f.path))++x.filter (fun z=>decide (f.path < z.path)):=by
 have hR:=aKS h f
 have hs:(x.filter (fun z=>decide (z.path < f.path))++x.filter (fun z=>decide (f.path < z.path))).Sublist (JY x f):=by
   unfold JY
   refine List.Sublist.append ?_ (List.Sublist.refl _)
   exact List.sublist_append_left _ _
 refine R.ext (h.sub List.filter_sublist) (hR.sub hs) fun z => ?_
 simp only [List.mem_append,List.mem_filter,Bool.not_eq_true',decide_eq_false_iff_not,decide_eq_true_eq]
 constructor
 ·
  rintro ⟨a,b⟩
  by_cases q:z.path < f.path
  ·
   exact .inl ⟨a,q⟩
  by_cases q2:f.path < z.path
  ·
   exact .inr ⟨a,q2⟩
  exact absurd (List.le_antisymm (List.not_lt.1 q2) (List.not_lt.1 q)) b
 rintro (⟨a,b⟩ | ⟨a,b⟩)
 ·
  exact ⟨a,fun e=>List.lt_irrefl _ (e▸b)⟩
 exact ⟨a,fun e=>List.lt_irrefl _ (e▸b)⟩
theorem aOX {f z:aC} (hc:j6 z.path f.path=false):w9 (qL f) (qL z)=decide (z.path=f.path):=by
 unfold w9 qL
 simp [hc]
theorem aZk (z f:aC):bf (qL z) (qL f)=decide (z.path < f.path):=by
 rw [Bool.eq_iff_iff,aJB,decide_eq_true_eq]
 unfold lt2 qL
 simp
theorem aXt {x:List aC} {f:aC} (h:R x) (hc : ∀ z∈x,j6 z.path f.path=false):TX (x.map qL) (qL f)=(JY x f).map qL:=by
 unfold TX
 have e1:(x.map qL).filter (fun z => !w9 (qL f) z)=(x.filter fun z => !decide (z.path=f.path)).map qL:=by
   rw [List.filter_map]
   congr 1
   refine List.filter_congr fun z hz => ?_
   show (!w9 (qL f) (qL z))=_
   rw [aOX (hc z hz)]
 rw [e1,a2Y h,List.takeWhile_map,List.dropWhile_map]
 have e2:((fun x=>bf x (qL f)) ∘ qL)=fun z=>decide (z.path < f.path):=by
   funext z; exact aZk z f
 rw [e2]
 obtain ⟨a,b⟩:=aOW (fun z:aC=>decide (z.path < f.path)) (x.filter (fun z=>decide (z.path < f.path))) (x.filter (fun z=>decide (f.path < z.path))) (fun z hz=>(List.mem_filter.1 hz).2) (fun z hz=>by
   have:=of_decide_eq_true (List.mem_filter.1 hz).2
   exact decide_eq_false fun q=>List.lt_irrefl _ (List.lt_trans q this))
 rw [a,b]
 unfold JY
 simp
def J1 (ps:List (List UInt8)) (l:List aE):List aE:=ps.foldl (fun l p=>l.filter fun z => !decide (z.path=p)) l
theorem aFU : ∀ (ps:List (List UInt8)) (x:List aC),J1 ps (x.map qL)=(JA ps x).map qL
  | [],_=>rfl
  | p::r,x=>by
    show J1 r ((x.map qL).filter fun z => !decide (z.path=p))=(JA r (x.filter fun z => !decide (z.path=p))).map qL
    rw [aSe,aFU r]
end Go.S
end

section
namespace Go.S
open Go
end Go.S
end

section
namespace Go.S
theorem LI {α:Type} {l:List α} {i:Int} (h0:0≤i) (h:i < l.length) : ∃ z,l[i.toNat]? = some z:=⟨_,List.getElem?_eq_getElem (by omega)⟩
theorem F2 {α:Type} {l:List α} {i:Int} {z:α} (h0:0≤i) (h:l[i.toNat]? = some z):l.take (i+1).toNat=l.take i.toNat++[z]:=by
 rw [show (i+1).toNat=i.toNat+1 by omega,List.take_add_one,h]; rfl
theorem rI {α:Type} {l:List α} {i:Int} {z:α} (h0:0≤i) (h:l[i.toNat]? = some z):at_ l i=some z:=by
 unfold at_; rw [if_pos h0,h]
def Nx {T R:Type} (t:T) (y:T⊕R):Prop:=y = .inl t
def Up {T R:Type} (Q:R→Prop) (y:T⊕R):Prop := ∃ r,y = .inr r∧Q r
theorem aAV {T R:Type} {t t':T} (h:t'=t):Ok (go t':Option (T⊕R)) (Nx t):=⟨_,rfl,by rw [h]; rfl⟩
theorem LO {T R:Type} {c:Prop} [Decidable c] {t t':T} (hc:c) (h:t'=t):Ok (gd c (go t':Option (T⊕R))) (Nx t):=fN.2 ⟨hc,aAV h⟩
theorem HJ {T R:Type} {o:Option R} {Q:R→Prop} (h:Ok o Q):Ok (up o:Option (T⊕R)) (Up Q):=oG.2 (h.mono fun r hr=>⟨r,rfl,hr⟩)
theorem aLe {α τ R:Type} {Q:R→Prop} (l:List α) (f:τ→α→τ) (t0:τ) (B:τ×Int→Option ((τ×Int)⊕R))
 (hB : ∀ (i:Int) z,0≤i→i < l.length→l[i.toNat]? = some z → ∀ s,s=(l.take i.toNat).foldl f t0→Ok (B (s,i)) (Nx (f s z,i+1)))
 (hE : ∀ s,s=l.foldl f t0→Ok (B (s,(l.length:Int))) (Up Q)):Ok (iter B (t0,0)) Q:=by
 refine kW (I:=fun t=>0≤t.2∧t.2≤l.length∧t.1=(l.take t.2.toNat).foldl f t0) (μ:=fun t=>(l.length - t.2).toNat) ?_ ⟨by dsimp only; omega,by dsimp only; omega,by simp⟩
 rintro ⟨t,i⟩ ⟨i0,i1,i2⟩
 dsimp only at i0 i1 i2 ⊢
 by_cases hi:i < l.length
 ·
  obtain ⟨z,hz⟩:=LI i0 hi
  refine (hB i z i0 hi hz t i2).mono ?_
  rintro y hy
  cases hy
  refine ⟨⟨by dsimp only; omega,by dsimp only; omega,?_⟩,by dsimp only; omega⟩
  show _=(l.take (i+1).toNat).foldl f t0
  rw [F2 i0 hz,List.foldl_append,i2]; rfl
 have e:i=l.length:=by omega
 subst e
 rw [List.take_of_length_le (by omega)] at i2
 refine (hE t i2).mono ?_
 rintro y ⟨r,rfl,hr⟩
 exact hr
theorem aID {α σ τ R:Type} {Q:R→Prop} (l:List α) (f : σ → α → σ) (g:τ→α→τ) (s0 : σ) (t0:τ) (B : σ × τ×Int→Option ((σ × τ×Int)⊕R))
 (hB : ∀ (i:Int) z,0≤i→i < l.length→l[i.toNat]? = some z → ∀ s t,s=(l.take i.toNat).foldl f s0→t=(l.take i.toNat).foldl g t0→Ok (B (s,t,i)) (Nx (f s z,g t z,i+1)))
 (hE : ∀ s t,s=l.foldl f s0→t=l.foldl g t0→Ok (B (s,t,(l.length:Int))) (Up Q)):Ok (iter B (s0,t0,0)) Q:=by
 refine kW (I:=fun t=>0≤t.2.2∧t.2.2≤l.length∧t.1=(l.take t.2.2.toNat).foldl f s0∧t.2.1=(l.take t.2.2.toNat).foldl g t0) (μ:=fun t=>(l.length - t.2.2).toNat) ?_ ⟨by dsimp only; omega,by dsimp only; omega,by simp,by simp⟩
 rintro ⟨s,t,i⟩ ⟨i0,i1,i2,i3⟩
 dsimp only at i0 i1 i2 i3 ⊢
 by_cases hi:i < l.length
 ·
  obtain ⟨z,hz⟩:=LI i0 hi
  refine (hB i z i0 hi hz s t i2 i3).mono ?_
  rintro y hy
  cases hy
  refine ⟨⟨by dsimp only; omega,by dsimp only; omega,?_,?_⟩,by dsimp only; omega⟩
  ·
   show _=(l.take (i+1).toNat).foldl f s0
   rw [F2 i0 hz,List.foldl_append,i2]; rfl
  show _=(l.take (i+1).toNat).foldl g t0
  rw [F2 i0 hz,List.foldl_append,i3]; rfl
 have e:i=l.length:=by omega
 subst e
 rw [List.take_of_length_le (by omega)] at i2 i3
 refine (hE s t i2 i3).mono ?_
 rintro y ⟨r,rfl,hr⟩
 exact hr
theorem aLd {α β:Type} (g:α→List β) : ∀ (l:List α) (a:List β),l.foldl (fun a z=>a++g z) a=a++l.flatMap g
  | [],a=>by simp
  | z::r,a=>by rw [List.foldl_cons,aLd g r,List.flatMap_cons,List.append_assoc]
theorem aW5 {α β:Type} (p:α→Bool) (g:α→β) : ∀ l:List α,l.flatMap (fun z=>if p z=true then [g z] else [])=(l.filter p).map g
  | []=>rfl
  | z::r=>by
    rw [List.flatMap_cons,aW5 p g r,List.filter_cons]
    split <;> simp
theorem XS {α β R:Type} {Q:R→Prop} (l:List α) (p:α→Bool) (g:α→β) (a:List β) (B:List β×Int→Option ((List β×Int)⊕R))
 (hB : ∀ (i:Int) z,0≤i→i < l.length→l[i.toNat]? = some z → ∀ s,s.length≤a.length+i.toNat→Ok (B (s,i)) (Nx ((if p z=true then s++[g z] else s),i+1)))
 (hE : ∀ s,s=a++(l.filter p).map g→Ok (B (s,(l.length:Int))) (Up Q)):Ok (iter B (a,0)) Q:=by
 have hf : ∀ m:List α,m.foldl (fun a z=>a++(if p z=true then [g z] else [])) a=a++(m.filter p).map g:=fun m=>by
   rw [aLd (fun z=>if p z=true then [g z] else []),aW5]
 refine aLe l (fun s z=>s++(if p z=true then [g z] else [])) a B (fun i z i0 hi hz s hs => ?_) (fun s hs=>hE s (by rw [hs,hf]))
 have hl:s.length≤a.length+i.toNat:=by
   rw [hs,hf,List.length_append,List.length_map]
   have:=List.length_filter_le p (l.take i.toNat)
   rw [List.length_take] at this
   omega
 have:=hB i z i0 hi hz s hl
 split at this
 ·
  next q=>simpa [q] using this
 next q=>simpa [q] using this
theorem aE4 {α R:Type} {Q:R→Prop} (l:List α) (P:α→Prop) (B:Int→Option (Int⊕R))
 (hB : ∀ (i:Int) z,0≤i→i < l.length→l[i.toNat]? = some z→(∀ y∈l.take i.toNat,P y)→Ok (B i) (fun y=>y = .inl (i+1)∧P z ∨ ∃ r,y = .inr r∧Q r))
 (hE:(∀ y∈l,P y)→Ok (B (l.length:Int)) (Up Q)):Ok (iter B 0) Q:=by
 refine kW (I:=fun i=>0≤i∧i≤l.length ∧ ∀ y∈l.take i.toNat,P y) (μ:=fun i=>(l.length - i).toNat) ?_ ⟨by omega,by omega,by simp⟩
 rintro i ⟨i0,i1,i2⟩
 by_cases hi:i < l.length
 ·
  obtain ⟨z,hz⟩:=LI i0 hi
  refine (hB i z i0 hi hz i2).mono ?_
  rintro y (⟨rfl,hp⟩ | ⟨r,rfl,hr⟩)
  ·
   refine ⟨⟨by omega,by omega,fun y hy => ?_⟩,by omega⟩
   rw [F2 i0 hz] at hy
   rcases List.mem_append.1 hy with q | q
   ·
    exact i2 y q
   rw [List.mem_singleton.1 q]; exact hp
  exact hr
 have e:i=l.length:=by omega
 subst e
 rw [List.take_of_length_le (by omega)] at i2
 refine (hE i2).mono ?_
 rintro y ⟨r,rfl,hr⟩
 exact hr
end Go.S
end

section
namespace Go.S
open Go
def P4 (r:List aC) (p:List UInt8):T9:=⟨(PO r p).1.path,(PO r p).1.mode,(PO r p).1.data,(PO r p).2⟩
theorem aCD {r:List aC} (h:R r) (hb:r.length≤1000000) (p:List UInt8):Sh.xW r p=some (P4 r p):=by
 unfold Sh.xW
 rw [aFj h (by omega),Option.bind_some]; rfl
theorem E3 {r:List aC} {p:List UInt8} {f:aC} (h:gt r p=some f):P4 r p=⟨f.path,f.mode,f.data,true⟩:=by
 unfold P4; rw [BK h]
theorem E0 {r:List aC} {p:List UInt8} (h:gt r p=none):P4 r p=⟨[],0,[],false⟩:=by
 unfold P4; rw [EE h]
theorem XY {a b:List aC} {p:List UInt8}:((P4 a p).dZ=(P4 b p).dZ∧(P4 a p).cN=(P4 b p).cN∧(P4 a p).dQ=(P4 b p).dQ∧(P4 a p).is=(P4 b p).is)↔gt a p=gt b p:=by
 cases ha:gt a p with
 | none =>
   cases hb:gt b p with
   | none=>rw [E0 ha,E0 hb]; simp
   | some g=>rw [E0 ha,E3 hb]; simp
 | some f =>
   cases hb:gt b p with
   | none=>rw [E3 ha,E0 hb]; simp
   | some g=>rw [E3 ha,E3 hb]; cases f; cases g; simp
theorem aEG {ls:List (List aC)} {r:List (List UInt8)} (h:zQ ls r):r=xU (ls.flatMap fun l=>l.map (·.path)):=aNY h.1 (P0 _) fun x=>by
  rw [h.2,EK]
  simp only [List.mem_flatMap,List.mem_map]
theorem aOj {ls:List (List aC)} {r:List (List UInt8)} (h:zQ ls r):r.length≤(ls.flatMap fun l=>l.map (·.path)).length:=by
 have:=EJ (ls.flatMap fun l=>l.map (·.path))
 rwa [← aEG h] at this
structure Bd (l:List aC):Prop where
  r:R l
  n:l.length≤1000000
  p : ∀ f∈l,f.path.length≤1000000
def l8 (h:List aC) (r:eA):List (List UInt8):=xU ((xU (h.map (·.path)++r.files.map (·.path))).filter (fun p => !decide (gt h p=gt r.files p))++r.conflicts)
theorem aGs {h:List aC} {r:eA} (hh:Bd h) (hf:Bd r.files) (hc:r.conflicts.length≤1000000):Sh.AF h r=some (l8 h r):=by
 apply Ok.eq
 unfold Sh.AF
 rw [iU,gX]
 refine (aMu [h,r.files] (by simp) (fun l hl => ?_)).mono ?_
 ·
  simp only [List.mem_cons,List.not_mem_nil,or_false] at hl
  rcases hl with rfl | rfl
  ·
   exact ⟨hh.n,hh.p⟩
  exact ⟨hf.n,hf.p⟩
 rintro ps ⟨hps,hl⟩
 have e:=aEG hps
 simp only [List.flatMap_cons,List.flatMap_nil,List.append_nil] at e
 refine XS ps (fun p => !decide (gt h p=gt r.files p)) (fun p=>p) [] _ ?_ ?_
 ·
  intro i z i0 hi hz s hs
  simp only [List.length_nil] at hs
  dsimp only
  rw [if_pos hi,rI i0 hz,Option.bind_some,aCD hh.r hh.n,Option.bind_some,aCD hf.r hf.n,Option.bind_some]
  by_cases q:gt h z=gt r.files z
  ·
   rw [if_pos (XY.2 q)]
   exact LO ⟨by omega,by omega⟩ (by simp [q])
  rw [if_neg fun k=>q (XY.1 k)]
  simp only [iU,fN]
  exact ⟨by simp only [List.length_cons,List.length_nil]; omega,⟨by omega,by omega⟩,aAV (by simp [q])⟩
 intro s hs
 dsimp only
 rw [if_neg (by omega)]
 refine HJ ?_
 have hsl:s.length≤8000000:=by
   rw [hs,List.nil_append,List.length_map]
   exact Nat.le_trans (List.length_filter_le _ _) hl
 have h2:=(wF (s++r.conflicts)).length_eq
 simp only [List.length_append] at h2
 simp only [fN,iU,dG,List.length_append]
 refine ⟨by omega,by omega,by omega,?_⟩
 rw [hs,List.nil_append,List.map_id',e]; rfl
theorem KL {h:List aC} {r:eA} {p:List UInt8}:p∈l8 h r↔gt h p≠gt r.files p∨p∈r.conflicts:=by
 unfold l8
 rw [EK,List.mem_append,List.mem_filter,EK,List.mem_append,List.mem_map,List.mem_map]
 simp only [Bool.not_eq_true',decide_eq_false_iff_not]
 constructor
 ·
  rintro (⟨_,q⟩ | q)
  ·
   exact .inl q
  exact .inr q
 rintro (q | q)
 ·
  refine .inl ⟨?_,q⟩
  cases ha:gt h p with
  | some f=>exact .inl ⟨f,List.mem_of_find?_eq_some ha,PU ha⟩
  | none =>
    cases hb:gt r.files p with
    | some f=>exact .inr ⟨f,List.mem_of_find?_eq_some hb,PU hb⟩
    | none=>rw [ha,hb] at q; exact absurd rfl q
 exact .inr q
theorem KK (h:List aC) (r:eA):(l8 h r).length≤h.length+r.files.length+r.conflicts.length:=by
 unfold l8
 refine Nat.le_trans (EJ _) ?_
 rw [List.length_append]
 have h1:=List.length_filter_le (fun p => !decide (gt h p=gt r.files p)) (xU (h.map (·.path)++r.files.map (·.path)))
 have h2:=EJ (h.map (·.path)++r.files.map (·.path))
 simp only [List.length_append,List.length_map] at h2
 omega
def stF (n:Int) (l:List aE):List aC:=(l.filter fun z=>decide (z.eM=n)).map fun z=>⟨z.path,z.mode,z.data⟩
def UI (l:List aE):List (List UInt8):=xU ((l.filter fun z => !decide (z.eM=0)).map (·.path))
theorem aYl (l:List aE) (n:Int) (hb:l.length≤1000000):Sh.CF l n=some (stF n l):=by
 apply Ok.eq
 unfold Sh.CF
 refine XS l (fun z=>decide (z.eM=n)) (fun z=>(⟨z.path,z.mode,z.data⟩:aC)) [] _ ?_ ?_
 ·
  intro i z i0 hi hz s hs
  simp only [List.length_nil] at hs
  dsimp only
  rw [if_pos hi,rI i0 hz,Option.bind_some]
  by_cases q:z.eM=n
  ·
   rw [if_pos q]
   simp only [iU,fN]
   exact ⟨by simp only [List.length_cons,List.length_nil]; omega,⟨by omega,by omega⟩,aAV (by simp [q])⟩
  rw [if_neg q]
  exact LO ⟨by omega,by omega⟩ (by simp [q])
 intro s hs
 dsimp only
 rw [if_neg (by omega)]
 refine HJ ?_
 rw [XJ,Option.bind_some,dG,hs]; rfl
theorem aZl (l:List aE) (hb:l.length≤1000000):Sh.q8 l=some (UI l):=by
 apply Ok.eq
 unfold Sh.q8
 refine XS l (fun z => !decide (z.eM=0)) (·.path) [] _ ?_ ?_
 ·
  intro i z i0 hi hz s hs
  simp only [List.length_nil] at hs
  dsimp only
  rw [if_pos hi,rI i0 hz,Option.bind_some]
  by_cases q:z.eM=0
  ·
   rw [if_pos q]
   exact LO ⟨by omega,by omega⟩ (by simp [q])
  rw [if_neg q]
  simp only [iU,fN]
  exact ⟨by simp only [List.length_cons,List.length_nil]; omega,⟨by omega,by omega⟩,aAV (by simp [q])⟩
 intro s hs
 dsimp only
 rw [if_neg (by omega)]
 refine HJ ?_
 have hsl:s.length≤1000000:=by
   rw [hs,List.nil_append,List.length_map]
   exact Nat.le_trans (List.length_filter_le _ _) hb
 have h2:=(wF s).length_eq
 simp only [fN,iU]
 refine ⟨by omega,by omega,?_⟩
 rw [aAy,Option.bind_some,dG,hs]; rfl
theorem a6Z {l:List aE} (h:G7 l) (n:Int):R (stF n l):=by
 unfold R stF
 rw [List.pairwise_map]
 refine List.Pairwise.imp_of_mem ?_ (List.Pairwise.sublist List.filter_sublist h.pw)
 intro a b ha hb hab
 have h1:=of_decide_eq_true (List.mem_filter.1 ha).2
 have h2:=of_decide_eq_true (List.mem_filter.1 hb).2
 rcases hab.1 with q | ⟨_,q⟩
 ·
  exact q
 omega
theorem aYk (n:Int) (l:List aE):(stF n l).length≤l.length:=by
 unfold stF
 rw [List.length_map]
 exact List.length_filter_le _ _
theorem aE0 (l:List (List UInt8)) (p:List UInt8) (hb:l.length≤1000000000):Sh.gJ l p=some (decide (p∈l)):=by
 apply Ok.eq
 unfold Sh.gJ
 rw [gX]
 refine (SB (fun z=>decide (p=z)) l hb (fun z=>some (decide (p=z))) (fun _ _=>rfl) _ fun i => ?_).mono ?_
 ·
  simp only [Option.bind_some,decide_eq_true_eq]
 intro r hr
 rw [dG,aF9 hr]
 rw [Bool.eq_iff_iff,List.any_eq_true,decide_eq_true_eq]
 constructor
 ·
  rintro ⟨x,hx,q⟩
  rw [of_decide_eq_true q]; exact hx
 intro q
 exact ⟨p,q,decide_eq_true rfl⟩
def OQ (h:List aC) (ix:List aE) (w:List aC) (p:List UInt8):Bool:=decide (gt w p=gt (stF 0 ix) p)&&decide (gt (stF 0 ix) p=gt h p) && !decide (p∈UI ix)
theorem aOP (l:List aE):(UI l).length≤l.length:=by
 unfold UI
 refine Nat.le_trans (EJ _) ?_
 rw [List.length_map]
 exact List.length_filter_le _ _
theorem a3T {h w:List aC} {ix:List aE} (hh:Bd h) (hw:Bd w) (hi:G7 ix) (hb:ix.length≤1000000) (p:List UInt8):Sh.LU h ix w p=some (OQ h ix w p):=by
 unfold Sh.LU
 have hl:=aYk 0 ix
 have hc:=aOP ix
 rw [aYl ix 0 hb,Option.bind_some,aCD (a6Z hi 0) (by omega),Option.bind_some,aCD hw.r hw.n,Option.bind_some]
 by_cases q:gt w p=gt (stF 0 ix) p
 ·
  rw [if_pos (XY.2 q),aCD hh.r hh.n,Option.bind_some]
  by_cases q2:gt (stF 0 ix) p=gt h p
  ·
   rw [if_pos (XY.2 q2),aZl ix hb,Option.bind_some,aE0 _ _ (by omega),Option.bind_some]
   unfold OQ
   rw [decide_eq_true q,decide_eq_true q2]; rfl
  rw [if_neg fun k=>q2 (XY.1 k)]
  unfold OQ
  rw [decide_eq_false q2,Bool.and_false]; rfl
 rw [if_neg fun k=>q (XY.1 k)]
 unfold OQ
 rw [decide_eq_false q]; rfl
def aEB (r:eA) (f:aC) (p:List UInt8):Bool:=(gt r.files p).isSome&&j6 p f.path
theorem a52 {r:eA} (hf:Bd r.files) {f:aC} (hl:f.path.length≤1000000) {p:List UInt8} (hp:p.length≤1000000):Sh.CH p r f=some (aEB r f p):=by
 unfold Sh.CH aEB
 rw [aCD hf.r hf.n,Option.bind_some]
 cases hg:gt r.files p with
 | none=>rw [E0 hg]; rfl
 | some g =>
   rw [E3 hg,if_pos (by rfl),KO (by omega) (by omega),Option.bind_some]; rfl
theorem a4n {r:eA} (hf:Bd r.files) {f:aC} (hl:f.path.length≤1000000) {all:List (List UInt8)} (hb:all.length≤1000000000) (hp : ∀ p∈all,p.length≤1000000):Sh.kE all r f=some (all.any (aEB r f)):=by
 apply Ok.eq
 unfold Sh.kE
 rw [gX]
 refine (SB (aEB r f) all hb (fun z=>Sh.CH z r f) (fun z hz=>a52 hf hl (hp z hz)) _ fun i=>rfl).mono ?_
 intro x hx
 rw [dG,aF9 hx]
def OK (r:eA) (all:List (List UInt8)) (w:aC):Bool:=if w.path∈all∧gt r.files w.path=none then false else all.any (aEB r w)
def aAT (all:List (List UInt8)) (h:List aC) (r:eA) (ix:List aE) (w:List aC):List (List UInt8):=xU (all.filter (fun p => !OQ h ix w p)++(w.filter (OK r all)).map (·.path))
theorem ZA {h:List aC} {r:eA} (hh:Bd h) (hf:Bd r.files) (hc : ∀ p∈r.conflicts,p.length≤1000000) : ∀ p∈l8 h r,p.length≤1000000:=fun p hp=>by
  rcases KL.1 hp with q | q
  . cases ha:gt h p with
    | some f=>rw [← PU ha]; exact hh.p f (List.mem_of_find?_eq_some ha)
    | none =>
      cases hb:gt r.files p with
      | some f=>rw [← PU hb]; exact hf.p f (List.mem_of_find?_eq_some hb)
      | none=>rw [ha,hb] at q; exact absurd rfl q
  . exact hc p q
theorem a2K {h w:List aC} {r:eA} {ix:List aE} (hh:Bd h) (hf:Bd r.files) (hw:Bd w) (hi:G7 ix) (hb:ix.length≤1000000) (hc:r.conflicts.length≤1000000) (hcp : ∀ p∈r.conflicts,p.length≤1000000):Sh.LS h r ix w=some (aAT (l8 h r) h r ix w):=by
 apply Ok.eq
 unfold Sh.LS
 rw [aGs hh hf hc,Option.bind_some]
 have hal:(l8 h r).length≤3000000:=by
   have:=KK h r
   have h1:=hh.n
   have h2:=hf.n
   omega
 have hap:=ZA hh hf hcp
 unfold aAT
 generalize l8 h r=all at hal hap ⊢
 refine XS all (fun p => !OQ h ix w p) (fun p=>p) [] _ ?_ ?_
 ·
  intro i z i0 hi' hz s hs
  simp only [List.length_nil] at hs
  dsimp only
  rw [if_pos hi',rI i0 hz,Option.bind_some,a3T hh hw hi hb,Option.bind_some]
  cases q:OQ h ix w z with
  | false =>
    rw [if_pos (by rfl)]
    simp only [iU,fN]
    exact ⟨by simp only [List.length_cons,List.length_nil]; omega,⟨by omega,by omega⟩,aAV (by simp)⟩
  | true =>
    rw [if_neg (by simp)]
    exact LO ⟨by omega,by omega⟩ (by simp)
 intro s hs
 dsimp only
 rw [if_neg (by omega)]
 refine HJ ?_
 have hsl:s.length≤3000000:=by
   rw [hs,List.nil_append,List.length_map]
   exact Nat.le_trans (List.length_filter_le _ _) hal
 rw [List.nil_append,List.map_id'] at hs
 have hwn:=hw.n
 refine XS w (OK r all) (·.path) s _ ?_ ?_
 ·
  intro i z i0 hi' hz t ht
  have hzm:=List.mem_of_getElem? hz
  dsimp only
  rw [if_pos hi',rI i0 hz,Option.bind_some]
  refine p7 (fun _ => ¬ (z.path∈all∧gt r.files z.path=none)) ?_ ?_
  ·
   intro _ hn
   rw [a4n hf (hw.p z hzm) (by omega) hap,Option.bind_some]
   have hlw:OK r all z=all.any (aEB r z):=by unfold OK; rw [if_neg hn]
   rw [hlw]
   cases all.any (aEB r z) with
   | true =>
     rw [if_pos (by rfl)]
     simp only [iU,fN]
     exact ⟨by simp only [List.length_cons,List.length_nil]; omega,⟨by omega,by omega⟩,aAV (by simp)⟩
   | false =>
     rw [if_neg (by simp)]
     exact LO ⟨by omega,by omega⟩ (by simp)
  intro K hK
  rw [aE0 _ _ (by omega),Option.bind_some]
  by_cases m:z.path∈all
  ·
   rw [if_pos (decide_eq_true m),aCD hf.r hf.n,Option.bind_some]
   cases hg:gt r.files z.path with
   | none =>
     rw [E0 hg,if_pos (by rfl)]
     have hlw:OK r all z=false:=by unfold OK; rw [if_pos ⟨m,hg⟩]
     exact LO ⟨by omega,by omega⟩ (by rw [hlw]; simp)
   | some g =>
     rw [E3 hg,if_neg (by simp)]
     exact hK () fun k=>by rw [hg] at k; cases k.2
  rw [if_neg (by simp [m])]
  exact hK () fun k=>m k.1
 intro t ht
 dsimp only
 rw [if_neg (by omega)]
 refine HJ ?_
 have htl:t.length≤4000000:=by
   rw [ht,List.length_append,List.length_map]
   have:=List.length_filter_le (OK r all) w
   omega
 have h2:=(wF t).length_eq
 simp only [fN,iU]
 refine ⟨by omega,by omega,?_⟩
 rw [aAy,Option.bind_some,dG,ht,hs]; rfl
end Go.S
end

section
namespace Go.S
open Go
structure E9 (n:Nat) (l:List aE):Prop where
  n:l.length≤n
  p : ∀ z∈l,z.path.length≤1000000
theorem aTV (l:List aE) (e:aE):(TX l e).length≤l.length+1:=by
 unfold TX
 have h1:=List.length_filter_le (fun z => !w9 e z) l
 generalize l.filter (fun z => !w9 e z)=y at h1 ⊢
 have h2:=congrArg List.length (List.takeWhile_append_dropWhile (p:=fun z=>bf z e) (l:=y))
 simp only [List.length_append,List.length_cons,List.length_nil] at h2 ⊢
 omega
theorem aTW {l:List aE} {e z:aE} (h:z∈TX l e):z=e∨z∈l:=by
 unfold TX at h
 rw [List.mem_append,List.mem_append,List.mem_singleton] at h
 rcases h with (q | q) | q
 ·
  exact .inr (List.mem_filter.1 ((List.takeWhile_sublist _).subset q)).1
 ·
  exact .inl q
 exact .inr (List.mem_filter.1 ((List.dropWhile_sublist _).subset q)).1
theorem E9.put {n:Nat} {l:List aE} (h:E9 n l) {e:aE} (he:e.path.length≤1000000):E9 (n+1) (TX l e):=⟨by
  have:=aTV l e
  have:=h.n
  omega,fun z hz=>by
  rcases aTW hz with q | q
  . rw [q]; exact he
  . exact h.p z q⟩
def aED (p:List UInt8) (ix:List aE) (e:aE):List aE:=if e.path=p then TX ix e else ix
def NC (r:eA) (ix:List aE) (p:List UInt8):List aE :=
  if p∈r.conflicts then r.entries.foldl (aED p) ix else match gt r.files p with
  | none=>ix
  | some f=>TX ix ⟨p,0,f.mode,f.data,0,0⟩
theorem E9.mono {n m:Nat} {l:List aE} (h:E9 n l) (hm:n≤m):E9 m l:=⟨Nat.le_trans h.n hm,h.p⟩
theorem E9.aED {n:Nat} {l:List aE} (h:E9 n l) {p:List UInt8} {e:aE} (he:e.path.length≤1000000):E9 (n+1) (aED p l e):=by
 unfold Go.S.aED
 split
 ·
  exact h.put he
 exact h.mono (by omega)
theorem E9.aXf (p:List UInt8) : ∀ (es:List aE) (n:Nat) (l:List aE),E9 n l→(∀ e∈es,e.path.length≤1000000)→E9 (n+es.length) (es.foldl (Go.S.aED p) l)
  | [],_,_,h,_=>h
  | e::r,n,l,h,he=>by
    have:=E9.aXf p r (n+1) _ (h.aED (p:=p) (he e (List.mem_cons_self ..))) fun z hz=>he z (List.mem_cons_of_mem _ hz)
    rw [List.foldl_cons,List.length_cons]
    exact this.mono (by omega)
theorem E9.NC {n:Nat} {l:List aE} {r:eA} (h:E9 n l) (he : ∀ e∈r.entries,e.path.length≤1000000) {p:List UInt8} (hp:p.length≤1000000):E9 (n+(r.entries.length+1)) (NC r l p):=by
 unfold Go.S.NC
 split
 ·
  exact (E9.aXf p r.entries n l h he).mono (by omega)
 split
 ·
  exact h.mono (by omega)
 exact (h.put (e:=⟨p,0,_,_,0,0⟩) hp).mono (by omega)
theorem E9.aXe {r:eA} (he : ∀ e∈r.entries,e.path.length≤1000000) : ∀ (ps:List (List UInt8)) (n:Nat) (l:List aE),E9 n l→(∀ p∈ps,p.length≤1000000)→E9 (n+ps.length*(r.entries.length+1)) (ps.foldl (Go.S.NC r) l)
  | [],n,_,h,_=>by simpa using h
  | p::t,n,l,h,hp=>by
    have:=E9.aXe he t _ _ (h.NC he (hp p (List.mem_cons_self ..))) fun z hz=>hp z (List.mem_cons_of_mem _ hz)
    rw [List.foldl_cons,List.length_cons]
    refine this.mono ?_
    rw [Nat.add_mul,Nat.one_mul]
    omega
theorem a50 {r:eA} (hf:Bd r.files) (hc:r.conflicts.length≤1000000) (hel:r.entries.length≤90000) (he : ∀ e∈r.entries,e.path.length≤1000000) {ix:List aE} (hi:E9 900000 ix) {p:List UInt8} (hp:p.length≤1000000):Sh.P7 r ix p=some (NC r ix p):=by
 apply Ok.eq
 unfold Sh.P7 NC
 rw [aE0 _ _ (by omega),Option.bind_some]
 by_cases m:p∈r.conflicts
 ·
  rw [if_pos (decide_eq_true m),if_pos m]
  refine aLe r.entries (aED p) ix _ ?_ ?_
  ·
   intro i z i0 hi' hz s hs
   have hb:E9 990000 s:=by
     rw [hs]
     refine (E9.aXf p (r.entries.take i.toNat) _ _ hi fun e q=>he e (List.mem_of_mem_take q)).mono ?_
     rw [List.length_take]; omega
   have hbn:=hb.n
   dsimp only
   rw [if_pos hi',rI i0 hz,Option.bind_some]
   unfold aED
   by_cases q:z.path=p
   ·
    rw [if_pos q,if_pos q,aXs s z (by omega) (fun y hy=>by have:=hb.p y hy; omega) (by have:=he z (List.mem_of_getElem? hz); omega),Option.bind_some]
    exact LO ⟨by omega,by omega⟩ rfl
   rw [if_neg q,if_neg q]
   exact LO ⟨by omega,by omega⟩ rfl
  intro s hs
  dsimp only
  rw [if_neg (by omega)]
  exact HJ (dG.2 hs)
 rw [if_neg (by simp [m]),if_neg m,aCD hf.r hf.n,Option.bind_some]
 have hin:=hi.n
 cases hg:gt r.files p with
 | none=>rw [E0 hg,if_pos (by rfl),dG]
 | some f =>
   rw [E3 hg,if_neg (by simp),aXs ix ⟨p,0,f.mode,f.data,0,0⟩ (by omega) (fun y hy=>by have:=hi.p y hy; omega) (by show p.length≤_; omega),Option.bind_some,dG]
def aAq (all:List (List UInt8)) (h:List aC) (r:eA) (ix:List aE) (w:List aC):List aE×List aC×kH :=
  if 0 < (aAT all h r ix w).length then (ix,w,kH.fault [112,97,116,104] (aAT all h r ix w).length (kH.no 8))
  else (all.foldl (NC r) (J1 all ix),HD r.files all (JA all w),kH.nil)
theorem aDA : ∀ (ps:List (List UInt8)) (x:List aE),J1 ps x=x.filter fun z => !decide (z.path∈ps)
  | [],x=>by simp [J1,List.filter_eq_self.2]
  | p::r,x=>by
    show J1 r _=_
    rw [aDA r,List.filter_filter]
    congr 1
    funext z
    by_cases a:z.path=p <;> by_cases b:z.path∈r <;> simp [a,b]
theorem aFV (ps:List (List UInt8)) (x:List aE):(J1 ps x).length≤x.length:=by
 rw [aDA]; exact List.length_filter_le _ _
theorem aOS {ps:List (List UInt8)} {x:List aE} {z:aE} (h:z∈J1 ps x):z∈x:=by
 rw [aDA] at h; exact (List.mem_filter.1 h).1
theorem aLJ {h w:List aC} {r:eA} {ix:List aE} (hh:Bd h) (hf:Bd r.files) (hw:Bd w) (hi:G7 ix) (hib:E9 100000 ix) (hc:r.conflicts.length≤1000000) (hcp : ∀ p∈r.conflicts,p.length≤1000000) (hel:r.entries.length≤90000) (he : ∀ e∈r.entries,e.path.length≤1000000)
 (hn:(l8 h r).length*(r.entries.length+1)≤800000):Sh.BT h r ix w=some (aAq (l8 h r) h r ix w):=by
 apply Ok.eq
 have hin:=hib.n
 have hwn:=hw.n
 unfold Sh.BT aAq
 rw [a2K hh hf hw hi (by omega) hc hcp,Option.bind_some]
 generalize aAT (l8 h r) h r ix w=l
 by_cases q:0 < l.length
 ·
  rw [if_pos (by omega),if_pos q,aBA (by omega),Option.bind_some,aAx,Option.bind_some,aAz (by omega),Option.bind_some,XJ,Option.bind_some,dG]
 rw [if_neg (by omega),if_neg q,aGs hh hf hc,Option.bind_some,aBA (by omega),Option.bind_some,aAz (by omega),Option.bind_some]
 have hap:=ZA hh hf hcp
 have hal:(l8 h r).length≤3000000:=by
   have:=KK h r
   have h1:=hh.n
   have h2:=hf.n
   omega
 generalize l8 h r=all at hap hal hn ⊢
 refine aID all (fun l p=>l.filter fun z => !decide (z.path=p)) (fun x p=>x.filter fun z => !decide (z.path=p)) ix w _ ?_ ?_
 ·
  intro i z i0 hi' hz s t hs ht
  have hsl:s.length≤100000:=by
    rw [hs]; exact Nat.le_trans (aFV _ ix) hin
  have htl:t.length≤1000000:=by
    rw [ht]; exact Nat.le_trans (aHu _ w) hwn
  dsimp only
  rw [if_pos hi',rI i0 hz,Option.bind_some,aZo s z (by omega),Option.bind_some,a4u z (by omega),Option.bind_some]
  exact LO ⟨by omega,by omega⟩ rfl
 intro s t hs ht
 have hs:s=J1 all ix:=hs
 have ht:t=JA all w:=ht
 dsimp only
 rw [if_neg (by omega)]
 refine HJ ?_
 have hsb:E9 100000 s:=⟨by rw [hs]; exact Nat.le_trans (aFV _ ix) hin,fun z hz=>hib.p z (by rw [hs] at hz; exact aOS hz)⟩
 have htR:R t:=by rw [ht]; exact aBD hw.r all
 have htl:t.length≤1000000:=by rw [ht]; exact Nat.le_trans (aHu _ w) hwn
 refine aID all (NC r) (fun x p=>TW x (gt r.files p)) s t _ ?_ ?_
 ·
  intro i z i0 hi' hz u v hu hv
  have hzp:=hap z (List.mem_of_getElem? hz)
  have hub:E9 900000 u:=by
    rw [hu]
    refine (E9.aXe he (all.take i.toNat) _ _ hsb fun p hp=>hap p (List.mem_of_mem_take hp)).mono ?_
    have h1:(all.take i.toNat).length≤all.length:=by rw [List.length_take]; omega
    have h2:=Nat.mul_le_mul_right (r.entries.length+1) h1
    omega
  have hvR:R v:=by rw [hv]; exact aKU _ _ htR
  have hvl:v.length≤5000000:=by
    have:=aI6 (rf:=r.files) (all.take i.toNat) t
    have h1:(all.take i.toNat).length≤all.length:=by rw [List.length_take]; omega
    rw [hv]
    refine Nat.le_trans this ?_
    omega
  dsimp only
  rw [if_pos hi',rI i0 hz,Option.bind_some,a50 hf hc hel he hub hzp,Option.bind_some,aCD hf.r hf.n,Option.bind_some]
  cases hg:gt r.files z with
  | none =>
    rw [E0 hg,if_neg (by simp)]
    exact LO ⟨by omega,by omega⟩ rfl
  | some f =>
    rw [E3 hg,if_pos (by rfl),a5h hvR (by omega),Option.bind_some]
    exact LO ⟨by omega,by omega⟩ rfl
 intro u v hu hv
 dsimp only
 rw [if_neg (by omega)]
 refine HJ ?_
 rw [aAx,Option.bind_some,XJ,Option.bind_some,dG,hu,hv,hs,ht]; rfl
theorem a5X (l:List aC) (hb:l.length≤1000000):Sh.KR l=some (l.map qL):=by
 apply Ok.eq
 unfold Sh.KR
 refine XS l (fun _=>true) qL [] _ ?_ ?_
 ·
  intro i z i0 hi hz s hs
  simp only [List.length_nil] at hs
  dsimp only
  rw [if_pos hi,rI i0 hz,Option.bind_some]
  simp only [iU,fN]
  exact ⟨by simp only [List.length_cons,List.length_nil]; omega,⟨by omega,by omega⟩,aAV rfl⟩
 intro s hs
 dsimp only
 rw [if_neg (by omega)]
 refine HJ ?_
 rw [aAx,Option.bind_some,dG,hs,List.filter_eq_self.2 (fun _ _=>rfl)]; rfl
end Go.S
end

section
namespace Go.S
open Go
structure aPa (h:List aC) (r:eA) (ix:List aE) (w:List aC):Prop where
  h:h.length≤64∧oR h
  f:r.files.length≤64∧oR r.files
  w:w.length≤64∧oR w
  i:ix.length≤80∧G7 ix
  e:r.entries.length≤80∧G7 r.entries
  c:r.conflicts.length≤40∧UI r.entries=r.conflicts
theorem oR.bd {x:List aC} (h:x.length≤64∧oR x):Bd x:=⟨h.2.r,by omega,fun f hf=>by have:=kL (h.2.v f hf).1; omega⟩
theorem G7.bd {x:List aE} (h:x.length≤80∧G7 x):E9 100000 x:=⟨by omega,fun f hf=>by have:=kL (h.2.v f hf).1; omega⟩
theorem aHt {l:List aE} {p:List UInt8}:p∈UI l ↔ ∃ e∈l,e.eM≠0∧e.path=p:=by
 unfold UI
 rw [EK,List.mem_map]
 constructor
 ·
  rintro ⟨e,he,q⟩
  exact ⟨e,(List.mem_filter.1 he).1,by simpa using (List.mem_filter.1 he).2,q⟩
 rintro ⟨e,he,h0,q⟩
 exact ⟨e,List.mem_filter.2 ⟨he,by simpa using h0⟩,q⟩
theorem aPa.cp {h:List aC} {r:eA} {ix:List aE} {w:List aC} (F:aPa h r ix w) : ∀ p∈r.conflicts,p.length≤1000000:=fun p hp=>by
  rw [← F.c.2] at hp
  obtain ⟨e,he,_,q⟩:=aHt.1 hp
  rw [← q]
  exact (G7.bd F.e).p e he
theorem aPa.apply {h:List aC} {r:eA} {ix:List aE} {w:List aC} (F:aPa h r ix w):Sh.BT h r ix w=some (aAq (l8 h r) h r ix w):=by
 have hc:=F.c.1
 have he:=F.e.1
 refine aLJ (oR.bd F.h) (oR.bd F.f) (oR.bd F.w) F.i.2 (G7.bd F.i) (by omega) F.cp (by omega) (G7.bd F.e).p ?_
 have h1:=KK h r
 have h2:=F.h.1
 have h3:=F.f.1
 have h4:=Nat.mul_le_mul (show (l8 h r).length≤200 by omega) (show r.entries.length+1≤100 by omega)
 omega
theorem aTT {all:List (List UInt8)} {h:List aC} {r:eA} {ix:List aE} {w:List aC} (h1 : ∀ p∈all,OQ h ix w p=true) (h2 : ∀ z∈w,OK r all z=false):aAT all h r ix w=[]:=by
 unfold aAT
 rw [List.filter_eq_nil_iff.2 fun p hp=>by simp [h1 p hp],List.filter_eq_nil_iff.2 fun p hp=>by simp [h2 p hp]]
 rfl
end Go.S
end

section
namespace Go.S
open Go
theorem IJ {x:List aC} (h:oR x) {a b:aC} (ha:a∈x) (hb:b∈x):j6 a.path b.path=false:=by
 obtain ⟨i,hi⟩:=List.getElem?_of_mem ha
 obtain ⟨j,hj⟩:=List.getElem?_of_mem hb
 obtain ⟨hi1,hi2⟩:=List.getElem?_eq_some_iff.1 hi
 obtain ⟨hj1,hj2⟩:=List.getElem?_eq_some_iff.1 hj
 rcases Nat.lt_trichotomy i j with q | q | q
 ·
  have:=List.pairwise_iff_getElem.1 h.c i j hi1 hj1 q
  rwa [hi2,hj2] at this
 ·
  subst q
  rw [← hi2,← hj2]; exact aEA _
 have:=List.pairwise_iff_getElem.1 h.c j i hj1 hi1 q
 rw [hi2,hj2] at this
 rw [UG]; exact this
theorem aHw {a:List aC} (h:oR a):G7 (a.map qL):=by
 refine ⟨fun e he => ?_,?_⟩
 ·
  obtain ⟨f,hf,rfl⟩:=List.mem_map.1 he
  obtain ⟨h1,h2,h3⟩:=h.v f hf
  exact ⟨h1,by show (0:Int)≤0; omega,by show (0:Int)≤3; omega,h2,h3,by show (0:Int)≤0; omega,by show (0:Int)≤0; omega⟩
 rw [List.pairwise_map]
 refine List.Pairwise.imp_of_mem ?_ h.r
 intro x y hx hy hxy
 exact ⟨.inl hxy,fun q=>List.lt_irrefl _ (show y.path < y.path from (show x.path=y.path from q.1)▸hxy),IJ h hx hy⟩
theorem aYj (a:List aC):stF 0 (a.map qL)=a:=by
 unfold stF
 rw [List.filter_eq_self.2 (fun e he=>by obtain ⟨f,_,rfl⟩:=List.mem_map.1 he; rfl),List.map_map]
 exact List.map_id' _
theorem aSc (a:List aC) (p:List UInt8):p∉UI (a.map qL):=fun h=>by
  obtain ⟨e,he,h0,_⟩:=aHt.1 h
  obtain ⟨f,_,rfl⟩:=List.mem_map.1 he
  exact h0 rfl
theorem aUI (a:List aC) (p:List UInt8):OQ a (a.map qL) a p=true:=by
 unfold OQ
 rw [aYj,decide_eq_true rfl,decide_eq_false (aSc a p)]; rfl
theorem aOe {a b:List aC} (ha:oR a) (hb:oR b) {z:aC} (hz:z∈a):OK ⟨b,[],[]⟩ (l8 a ⟨b,[],[]⟩) z=false:=by
 unfold OK
 split
 ·
  rfl
 next hn =>
 have hzb : ∃ y∈b,y.path=z.path:=by
   by_cases m:z.path∈l8 a ⟨b,[],[]⟩
   . cases hg:gt b z.path with
     | none=>exact absurd ⟨m,hg⟩ hn
     | some y=>exact ⟨y,(pG hb.r).1 hg⟩
   . have hq:gt a z.path=gt b z.path:=by
       by_cases q:gt a z.path=gt b z.path
       . exact q
       . exact absurd (KL.2 (.inl q)) m
     have hg:gt a z.path=some z:=(pG ha.r).2 ⟨hz,rfl⟩
     rw [hg] at hq
     exact ⟨z,((pG hb.r).1 hq.symm).1,rfl⟩
 obtain ⟨y,hy,e⟩:=hzb
 refine List.any_eq_false.2 fun p hp => ?_
 unfold aEB
 show ¬ ((gt b p).isSome&&j6 p z.path)=true
 cases hg:gt b p with
 | none=>simp
 | some g =>
   obtain ⟨hgm,rfl⟩:=(pG hb.r).1 hg
   rw [← e,IJ hb hgm hy]; simp
theorem aIT {b:List aC} (hb:oR b) : ∀ (ps:List (List UInt8)) (x:List aC),R x→(∀ z∈x,z∈b)→ps.foldl (NC ⟨b,[],[]⟩) (x.map qL)=(HD b ps x).map qL
  | [],_,_,_=>rfl
  | p::r,x,hx,hm=>by
    have e:NC ⟨b,[],[]⟩ (x.map qL) p=(TW x (gt b p)).map qL:=by
      unfold NC
      rw [if_neg (by simp)]
      show (match gt b p with | none=>x.map qL | some f=>TX (x.map qL) ⟨p,0,f.mode,f.data,0,0⟩)=_
      cases hg:gt b p with
      | none=>rfl
      | some f =>
        obtain ⟨hfm,rfl⟩:=(pG hb.r).1 hg
        exact aXt hx fun z hz=>IJ hb (hm z hz) hfm
    show r.foldl _ (NC ⟨b,[],[]⟩ (x.map qL) p)=(HD b r (TW x (gt b p))).map qL
    rw [e]
    refine aIT hb r _ (aKT hx _) fun z hz => ?_
    cases hg:gt b p with
    | none=>rw [hg] at hz; exact hm z hz
    | some f =>
      rw [hg] at hz
      rcases (X0 x f z).1 hz with q | ⟨q,_⟩
      . rw [q]; exact ((pG hb.r).1 hg).1
      . exact hm z q
theorem aTN {a b:List aC} (ha:oR a) (hb:oR b):HD b (l8 a ⟨b,[],[]⟩) (JA (l8 a ⟨b,[],[]⟩) a)=b:=by
 refine R.a6t (aKU _ _ (aBD ha.r _)) hb.r fun q => ?_
 rw [aWd ha.r]
 split
 ·
  rfl
 next m =>
 by_cases k:gt a q=gt b q
 ·
  exact k
 exact absurd (KL.2 (.inl k)) m
theorem aNg {a b:List aC} (ha:oR a) (hb:oR b):aAq (l8 a ⟨b,[],[]⟩) a ⟨b,[],[]⟩ (a.map qL) a=(b.map qL,b,kH.nil):=by
 unfold aAq
 rw [aTT (fun p _=>aUI a p) (fun z hz=>aOe ha hb hz),if_neg (by simp)]
 show (List.foldl (NC ⟨b,[],[]⟩) _ _,HD b _ _,kH.nil)=_
 rw [aFU,aIT hb _ _ (aBD ha.r _) ?_,aTN ha hb]
 intro z hz
 rw [UJ] at hz
 obtain ⟨h1,h2⟩:=List.mem_filter.1 hz
 have m:z.path∉l8 a ⟨b,[],[]⟩:=by simpa using h2
 have hq:gt a z.path=gt b z.path:=by
   by_cases q:gt a z.path=gt b z.path
   . exact q
   . exact absurd (KL.2 (.inl q)) m
 rw [(pG ha.r).2 ⟨h1,rfl⟩] at hq
 exact ((pG hb.r).1 hq.symm).1
end Go.S
end

section
set_option linter.unusedSimpArgs false
namespace Go.S
open Go
abbrev Dk:=List (aK×Option fS)
def On (l:Dk) (q:aK):Prop:=(nM l q).isSome=true
theorem OL {β R:Type} {l:List (aK×Option β)} {a:aK} {z:β} {f:β→Bool→Option R} {Q:R→Prop} (h:Ok (f ((nM l a).getD z) (nM l a).isSome) Q):Ok (lk l a z f) Q:=h
theorem XI {l:Dk} {p but:aK} (hk : ∀ q,On l q→q.length≤1000) (hp:p.length≤1000) (h : ∀ q,On l q→q≠but→j6 p q=false):Sh.wB l p but=some false:=by
 apply Ok.eq
 unfold Sh.wB
 rw [iU]
 refine aI5 (I:=fun ks:List aK => ∀ q∈ks,On l q) (μ:=fun ks:List aK=>ks.length) (fun a b h1 h2=>h1.trans h2.symm) ?_ (fun q hq=>(U4 l q).1 hq)
 intro ks hI o k2 hn
 rcases hn with ⟨h1,rfl,rfl⟩ | ⟨k,hk1,rfl,rfl⟩
 ·
  simp [oG,dG]
 have hon:=hI k hk1
 have hgo:Ok (go (ks.erase k):Option (List aK⊕Bool)) fun y=>match y with | .inl t'=>(∀ q∈t',On l q)∧t'.length < ks.length | .inr r=>r=false :=
   oU.2 ⟨fun q hq=>hI q (List.mem_of_mem_erase hq),by
     rw [List.length_erase_of_mem hk1]
     have:0 < ks.length:=List.length_pos_of_mem hk1
     omega⟩
 simp only [Option.isSome_some,if_true,Option.getD_some]
 refine p7 (fun x=>x=false) (fun x hx=>by subst hx; rw [if_neg (by simp)]; exact hgo.mono fun y hy=>by cases y <;> exact hy) fun K hK => ?_
 refine iT.2 ⟨fun _=>hK _ rfl,fun hne => ?_⟩
 rw [KO (by omega) (by have:=hk k hon; omega),Option.bind_some]
 exact hK _ (h k hon hne)
structure Fs (n:Nat) (f:cB):Prop where
  fl:f.files.length≤n
  pl:f.pending.length≤n
  i0:0≤f.bX
  i1:f.bX≤n
  o0:0≤f.ops
  o1:f.ops≤n
  q:f.cK=0
  off:f.off=false
  ar:f.cS=false
  ks : ∀ q,On f.files q→q.length≤1000
theorem Fs.mono {n m:Nat} {f:cB} (h:Fs n f) (hm:n≤m):Fs m f:=⟨Nat.le_trans h.fl hm,Nat.le_trans h.pl hm,h.i0,by have:=h.i1; omega,h.o0,by have:=h.o1; omega,h.q,h.off,h.ar,h.ks⟩
def vw (l:Dk) (q:aK):Option (Int×aK):=(nM l q).map fun y=>(y.mode,y.b)
theorem uG {l:Dk} {q:aK}:On l q↔vw l q≠none:=by
 unfold On vw
 cases nM l q <;> simp
theorem aEf (l:Dk) (p:aK) (y:fS) (q:aK):vw ((p,some y)::l) q=if q=p then some (y.mode,y.b) else vw l q:=by
 unfold vw
 by_cases h:q=p
 ·
  subst h; rw [if_pos rfl,HB]; rfl
 rw [if_neg h,wQ _ _ (fun e=>h e.symm)]
theorem aK7 (l:Dk) (p q:aK):vw ((p,none)::l) q=if q=p then none else vw l q:=by
 unfold vw
 by_cases h:q=p
 ·
  subst h; rw [if_pos rfl,HB]; rfl
 rw [if_neg h,wQ _ _ (fun e=>h e.symm)]
theorem aJH {l:aK} (h:l.length≤4294967296):Sh.jK l=some l:=by
 unfold Sh.jK lt gd
 simp [h]
theorem aU6 (l:aK):Sh.mF l=some l:=by
 unfold Sh.mF lt gd
 simp
theorem aY4 {n:Nat} {f:cB} (h:Fs n f) {p:aK} (hp:p.length≤1000) (m:Int):Sh.BZ f p m=some true:=by
 apply Ok.eq
 unfold Sh.BZ
 refine fN.2 ⟨by omega,OL ?_⟩
 rw [if_pos (by rw [h.q]; exact Int.le_refl _)]
 exact dG.2 rfl
theorem aQ2 {n:Nat} {f:cB} (h:Fs n f) {p:aK} {m:Int} {b:aK} (hp:wZ p=0) (hm:m=1∨m=2) (hb:b.length≤65536) (hc : ∀ q,On f.files q→j6 p q=false):Sh.AM f p m b=some 0:=by
 have hl:=kL hp
 apply Ok.eq
 unfold Sh.AM
 rw [if_neg (by rw [h.off]; simp),LR,Option.bind_some,if_pos hp,if_neg (by omega)]
 refine p7 (fun x=>x=false) (fun x hx => ?_) fun K hK => ?_
 ·
  subst hx
  rw [if_neg (by simp),XI h.ks (by omega) (fun q hq _=>hc q hq),Option.bind_some,if_neg (by simp),aY4 h (by omega),Option.bind_some,if_neg (by simp)]
  exact dG.2 rfl
 refine iT.2 ⟨fun _=>hK _ rfl,fun h1=>hK _ ?_⟩
 rcases hm with rfl | rfl
 ·
  exact absurd rfl h1
 rfl
theorem aRF {n:Nat} {f:cB} (h:Fs n f) (hn:n≤1000000) {p:aK} {m:Int} {b:aK} (hp:p.length≤1000) (hb:b.length≤65536) :
 Ok (Sh.AN f p m b) fun r=>(∃ i:Int,r.1=⟨1,p,[],m,f.now,i,b⟩) ∧ ∃ i:Int,0≤i∧i≤n+1∧r.2=⟨f.kept,f.files,f.pending,f.cK,f.now,i,f.ops,f.off,f.cS,f.left,f.keep⟩:=by
 have h0:=h.i0; have h1:=h.i1
 unfold Sh.AN
 refine fN.2 ⟨by omega,OL ?_⟩
 refine p7 (fun x:Int×Int=>0≤x.2∧x.2≤n+1) (fun x hx => ?_) fun K hK => ?_
 ·
  obtain ⟨a,c⟩:=x
  dsimp only at hx ⊢
  rw [aJH (by omega),Option.bind_some]
  exact dG.2 ⟨⟨_,rfl⟩,_,hx.1,hx.2,rfl⟩
 refine iT.2 ⟨fun _=>fN.2 ⟨⟨by omega,by omega⟩,hK _ ⟨by dsimp only; omega,by dsimp only; omega⟩⟩,fun _=>hK _ ⟨by dsimp only; omega,by dsimp only; omega⟩⟩
theorem aAr {l:Dk} {o:mN} (hk : ∀ q,On l q→q.length≤1000) (hl:l.length≤1000000) (hp:o.path.length≤1000) (ho:o.kind=1) (hc : ∀ q,On l q→j6 o.path q=false) :
 Sh.rK l o=some (true,(o.path,some ⟨o.cN,o.oF,o.mW,o.rH⟩)::l):=by
 apply Ok.eq
 unfold Sh.rK
 refine fN.2 ⟨by omega,OL ?_⟩
 rw [aAX,if_pos ho,XI hk hp (fun q hq _=>hc q hq),Option.bind_some,if_neg (by simp)]
 exact fN.2 ⟨⟨by omega,by omega⟩,iU.2 (dG.2 rfl)⟩
theorem aHX {l:Dk} {o:mN} (hp:o.path.length≤1000) (ho:o.kind=3) (hon:On l o.path):Sh.rK l o=some (true,(o.path,none)::l):=by
 apply Ok.eq
 unfold Sh.rK
 refine fN.2 ⟨by omega,OL ?_⟩
 rw [aAX,if_neg (by omega),if_neg (by omega),if_pos ho]
 refine fN.2 ⟨by omega,iU.2 (dG.2 ?_)⟩
 rw [show (nM l o.path).isSome=true from hon]
theorem aHY {l:Dk} {o:mN} (hk : ∀ q,On l q→q.length≤1000) (hl:l.length≤1000000) (hp:o.path.length≤1000) (ht:o.O5.length≤1000) (ho:o.kind=2) {y:fS} (hy:nM l o.path=some y) (hc : ∀ q,On l q→q≠o.path→j6 o.O5 q=false) :
 Sh.rK l o=some (true,(o.path,none)::(o.O5,some y)::l):=by
 apply Ok.eq
 unfold Sh.rK
 refine fN.2 ⟨by omega,OL ?_⟩
 rw [aAX,if_neg (by omega),if_pos ho,hy]
 refine p7 (fun x=>x=false) (fun x hx => ?_) fun K hK => ?_
 ·
  subst hx
  rw [if_neg (by simp)]
  exact fN.2 ⟨⟨by omega,by omega⟩,iU.2 (fN.2 ⟨by omega,iU.2 (dG.2 rfl)⟩)⟩
 rw [if_neg (by simp),XI hk ht hc,Option.bind_some]
 exact hK _ rfl
theorem aDo {n:Nat} {f:cB} (h:Fs n f):Sh.sR f=some false:=by
 unfold Sh.sR
 rw [h.ar]; rfl
end Go.S
end

section
namespace Go.S
open Go
theorem aKN {l:Dk} {p:aK} {y:fS} {q:aK}:On ((p,some y)::l) q↔q=p∨On l q:=by
 rw [uG,aEf,uG]
 by_cases h:q=p <;> simp [h]
theorem aRD {l:Dk} {p q:aK}:On ((p,none)::l) q↔q≠p∧On l q:=by
 rw [uG,aK7,uG]
 by_cases h:q=p <;> simp [h]
structure Dn (n:Nat) (V:aK→Option (Int×aK)) (k:Dk) (r:Int×cB):Prop where
  z:r.1=0
  f:Fs n r.2
  v : ∀ q,vw r.2.files q=V q
  k:r.2.kept=k
theorem aIt {n:Nat} {f:cB} (h:Fs n f) (hn:n≤900000) {p:aK} {m:Int} {b:aK} (hp:wZ p=0) (hm:m=1∨m=2) (hb:b.length≤65536) (hc : ∀ q,On f.files q→j6 p q=false) :
 Ok (Sh.vP f p m b) (Dn (n+1) (fun q=>if q=p then some (m,b) else vw f.files q) f.kept):=by
 have hl:=kL hp
 have h1:=h.fl; have h2:=h.pl; have h3:=h.o0; have h4:=h.o1
 unfold Sh.vP
 rw [aQ2 h hp hm hb hc,Option.bind_some,if_pos rfl,aDo h,Option.bind_some,if_neg (by simp)]
 refine gX.2 ((aRF h (by omega) (p:=p) (m:=m) (b:=b) (by omega) hb).mono ?_)
 rintro ⟨o,g⟩ ⟨⟨i,hi⟩,j,j0,j1,hj⟩
 dsimp only at hi hj ⊢
 subst hi; subst hj
 unfold Sh.wA
 dsimp only
 rw [aAr (o:=⟨1,p,[],m,f.now,i,b⟩) h.ks (by omega) (by dsimp only; omega) rfl hc,Option.bind_some]
 simp only [iU,gX,fN,dG,List.length_cons,List.length_nil]
 refine ⟨by omega,⟨by omega,by omega⟩,⟨rfl,⟨by simp; omega,by simp; omega,j0,by dsimp only; omega,by dsimp only; omega,by dsimp only; omega,h.q,h.off,h.ar,fun q hq => ?_⟩,fun q=>aEf _ _ _ _,rfl⟩⟩
 rcases aKN.1 hq with rfl | hq
 ·
  omega
 exact h.ks q hq
theorem aG5 {n:Nat} {f:cB} (h:Fs n f) (hn:n≤900000) {p:aK} (hp:p.length≤1000) (hon:On f.files p) :
 Ok (Sh.tK f p) (Dn (n+1) (fun q=>if q=p then none else vw f.files q) f.kept):=by
 have h1:=h.fl; have h2:=h.pl; have h3:=h.o0; have h4:=h.o1; have h5:=h.i1
 unfold Sh.tK
 refine fN.2 ⟨by omega,OL ?_⟩
 rw [if_neg (by rw [h.off]; simp),if_neg (by rw [show (nM f.files p).isSome=true from hon]; simp),aDo h,Option.bind_some,if_neg (by simp)]
 unfold Sh.wA
 rw [aHX (o:=⟨3,p,[],0,0,0,[]⟩) (by dsimp only; omega) rfl hon,Option.bind_some]
 simp only [iU,gX,fN,dG,List.length_cons,List.length_nil]
 refine ⟨by omega,⟨by omega,by omega⟩,⟨rfl,⟨by simp; omega,by simp; omega,h.i0,by dsimp only; omega,by dsimp only; omega,by dsimp only; omega,h.q,h.off,h.ar,fun q hq=>h.ks q (aRD.1 hq).2⟩,fun q=>aK7 _ _ _,rfl⟩⟩
theorem aOu {n:Nat} {f:cB} (h:Fs n f) (hn:n≤900000) {p t:aK} (hp:p.length≤1000) (ht:wZ t=0) (hne:p≠t) (hon:On f.files p) (hc : ∀ q,On f.files q→q≠p→j6 t q=false) :
 Ok (Sh.yA f p t) (Dn (n+2) (fun q=>if q=p then none else if q=t then vw f.files p else vw f.files q) f.kept):=by
 have h1:=h.fl; have h2:=h.pl; have h3:=h.o0; have h4:=h.o1; have h5:=h.i1
 have hl:=kL ht
 obtain ⟨y,hy⟩:=Option.isSome_iff_exists.1 (show (nM f.files p).isSome=true from hon)
 unfold Sh.yA
 rw [if_neg (by rw [h.off]; simp)]
 refine fN.2 ⟨by omega,OL ?_⟩
 rw [if_neg (by rw [hy]; simp),LR,Option.bind_some,if_pos ht,XI h.ks (by omega) hc,Option.bind_some,if_neg (by simp),if_neg hne,aDo h,Option.bind_some,if_neg (by simp)]
 unfold Sh.wA
 rw [aHY (o:=⟨2,p,t,0,0,0,[]⟩) h.ks (by omega) (by dsimp only; omega) (by dsimp only; omega) rfl hy hc,Option.bind_some]
 simp only [iU,gX,fN,dG,List.length_cons,List.length_nil]
 refine ⟨by omega,⟨by omega,by omega⟩,⟨rfl,⟨by simp; omega,by simp; omega,h.i0,by dsimp only; omega,by dsimp only; omega,by dsimp only; omega,h.q,h.off,h.ar,fun q hq => ?_⟩,fun q => ?_,rfl⟩⟩
 ·
  rcases aKN.1 (aRD.1 hq).2 with rfl | hq
  ·
   omega
  exact h.ks q hq
 dsimp only
 rw [aK7,aEf]
 by_cases e:q=p
 ·
  rw [if_pos e,if_pos e]
 rw [if_neg e,if_neg e]
 by_cases e':q=t
 ·
  rw [if_pos e',if_pos e']; unfold vw; rw [hy]; rfl
 rw [if_neg e',if_neg e']
theorem WJ {n:Nat} {f:cB} (h:Fs n f):Sh.p8 f=some (0,⟨f.files,f.files,[],f.cK,f.now,f.bX,f.ops,f.off,f.cS,f.left,f.keep⟩):=by
 unfold Sh.p8 Sh.yD
 rw [if_neg (by rw [h.off]; simp)]
 rfl
theorem Fs.synced {n:Nat} {f:cB} (h:Fs n f) (k:Dk):Fs n ⟨k,f.files,[],f.cK,f.now,f.bX,f.ops,f.off,f.cS,f.left,f.keep⟩:=⟨h.fl,Nat.zero_le _,h.i0,h.i1,h.o0,h.o1,h.q,h.off,h.ar,h.ks⟩
theorem aUd {n:Nat} {f:cB} (h:Fs n f) (hn:n≤900000) {p:aK} {m:Int} {b:aK} (hp:wZ p=0) (hm:m=1∨m=2) (hb:b.length≤65536) (hc : ∀ q,On f.files q→j6 p q=false) :
 Ok (Sh.uA f p m b) fun r=>r.1=0∧Fs (n+1) r.2 ∧ ∀ q,vw r.2.files q=if q=p then some (m,b) else vw f.files q:=by
 have hl:=kL hp
 have h1:=h.fl; have h2:=h.pl; have h3:=h.o0; have h4:=h.o1
 unfold Sh.uA
 rw [aQ2 h hp hm hb hc,Option.bind_some,if_pos rfl]
 refine gX.2 ((aRF h (by omega) (p:=p) (m:=m) (b:=b) (by omega) hb).mono ?_)
 rintro ⟨o,g⟩ ⟨⟨i,hi⟩,j,j0,j1,hj⟩
 dsimp only at hi hj ⊢
 subst hi; subst hj
 rw [aAr (o:=⟨1,p,[],m,f.now,i,b⟩) h.ks (by omega) (by dsimp only; omega) rfl hc,Option.bind_some]
 unfold Sh.yD
 simp only [gX,dG]
 refine ⟨trivial,⟨by simp; omega,by simp,j0,by dsimp only; omega,by dsimp only; omega,by dsimp only; omega,h.q,h.off,h.ar,fun q hq => ?_⟩,fun q=>aEf _ _ _ _⟩
 rcases aKN.1 hq with rfl | hq
 ·
  omega
 exact h.ks q hq
theorem aNM {f:cB} (hoff:f.off=false) {p:aK} (hp:p.length≤1000) (hb : ∀ m b,vw f.files p=some (m,b)→b.length≤65536) :
 Sh.rU f p=some (match vw f.files p with | some (_,b)=>(b,0) | none=>([],5)):=by
 unfold Sh.rU Sh.yC vw at *
 apply Ok.eq
 refine gX.2 (fN.2 ⟨by omega,OL ?_⟩)
 rw [if_neg (by rw [hoff]; simp)]
 cases hy:nM f.files p with
 | none =>
   rw [if_pos (by simp)]
   simp only [dG]
   rw [if_neg (by decide)]
   exact dG.2 rfl
 | some y =>
   rw [if_neg (by simp)]
   simp only [dG]
   rw [if_pos trivial]
   have:=hb y.mode y.b (by rw [hy]; rfl)
   simp only [Option.getD_some]
   rw [aJH (by omega),Option.bind_some,aU6,Option.bind_some]
   exact dG.2 rfl
theorem aYn {f:cB} (hoff:f.off=false) {p:aK} (hp:p.length≤1000) {m:Int} {b:aK} (hv:vw f.files p=some (m,b)):Ok (Sh.yB f p) fun r=>r.2=0∧r.1.mode=m:=by
 unfold Sh.yB Sh.yC
 unfold vw at hv
 cases hy:nM f.files p with
 | none=>rw [hy] at hv; cases hv
 | some y =>
   rw [hy] at hv
   simp only [Option.map_some,Option.some.injEq,Prod.mk.injEq] at hv
   refine gX.2 (fN.2 ⟨by omega,OL ?_⟩)
   rw [if_neg (by rw [hoff]; simp),hy,if_neg (by simp)]
   simp only [dG,Option.getD_some]
   rw [if_pos trivial]
   exact dG.2 ⟨rfl,hv.1⟩
end Go.S
end

section
namespace Go.S
open Go
theorem aR1 {n:Nat} (h:n < 18446744073709551616):IntKind.wrap .u64 (n:Int)=n:=IntWalk.u64_in _ (by omega)
theorem wU8 {n:Nat} (h:n < 256):IntKind.wrap .u8 (n:Int)=n:=IntWalk.u8_in _ (by omega)
theorem aZj {x y:Nat} (hx:x < 18446744073709551616) (hy:y < 18446744073709551616):BH .u64 x y=((x &&& y:Nat):Int):=by
 unfold BH
 have h:(BitVec.ofInt IntKind.u64.bits (x:Int) &&& BitVec.ofInt IntKind.u64.bits (y:Int)).toNat=x &&& y:=by
   show (BitVec.ofInt 64 (x:Int) &&& BitVec.ofInt 64 (y:Int)).toNat=x &&& y
   rw [BitVec.toNat_and,BitVec.ofInt_natCast,BitVec.ofInt_natCast,BitVec.toNat_ofNat,BitVec.toNat_ofNat,Nat.mod_eq_of_lt (by omega),Nat.mod_eq_of_lt (by omega)]
 rw [h]
 exact aR1 (Nat.lt_of_le_of_lt Nat.and_le_left hx)
theorem a6q {x y:Nat} (hx:x < 256) (hy:y < 256):PK .u8 x y=((x ||| y:Nat):Int):=by
 unfold PK
 have h:(BitVec.ofInt IntKind.u8.bits (x:Int) ||| BitVec.ofInt IntKind.u8.bits (y:Int)).toNat=x ||| y:=by
   show (BitVec.ofInt 8 (x:Int) ||| BitVec.ofInt 8 (y:Int)).toNat=x ||| y
   rw [BitVec.toNat_or,BitVec.ofInt_natCast,BitVec.ofInt_natCast,BitVec.toNat_ofNat,BitVec.toNat_ofNat,Nat.mod_eq_of_lt (by omega),Nat.mod_eq_of_lt (by omega)]
 rw [h]
 exact wU8 (Nat.or_lt_two_pow (n:=8) hx hy)
theorem aPg {x y:Nat} (hx:x < 18446744073709551616) (hy:y < 18446744073709551616):PL .u64 x y=((x ^^^ y:Nat):Int):=by
 unfold PL
 have h:(BitVec.ofInt IntKind.u64.bits (x:Int) ^^^ BitVec.ofInt IntKind.u64.bits (y:Int)).toNat=x ^^^ y:=by
   show (BitVec.ofInt 64 (x:Int) ^^^ BitVec.ofInt 64 (y:Int)).toNat=x ^^^ y
   rw [BitVec.toNat_xor,BitVec.ofInt_natCast,BitVec.ofInt_natCast,BitVec.toNat_ofNat,BitVec.toNat_ofNat,Nat.mod_eq_of_lt (by omega),Nat.mod_eq_of_lt (by omega)]
 rw [h]
 exact aR1 (Nat.xor_lt_two_pow (n:=64) hx hy)
theorem a6W (x k:Nat) (hk:k≤64):yX .u64 x (k:Int)=((x / 2 ^ k:Nat):Int):=by
 unfold yX
 show Int.fdiv (x:Int) (2 ^ min (k:Int).toNat 64)=_
 rw [Int.toNat_natCast,Nat.min_eq_left hk]
 rw [show ((2:Int) ^ k)=((2 ^ k:Nat):Int) by simp]
 rw [Int.fdiv_eq_ediv_of_nonneg _ (Int.natCast_nonneg _)]
 simp
theorem a6V (x k:Nat) (hk:k≤64) (h:x*2 ^ k < 18446744073709551616):SV .u64 x (k:Int)=((x*2 ^ k:Nat):Int):=by
 unfold SV
 show IntKind.wrap .u64 ((x:Int)*2 ^ min (k:Int).toNat 64)=_
 rw [Int.toNat_natCast,Nat.min_eq_left hk,show ((x:Int)*2 ^ k)=((x*2 ^ k:Nat):Int) by simp]
 exact aR1 h
theorem aZf (x:Nat):x &&& 127=x % 128:=Nat.and_two_pow_sub_one_eq_mod x 7
theorem a5e {x:Nat} (h:x < 128):x ||| 128=x+128:=by
 have:=Nat.two_pow_add_eq_or_of_lt (i:=7) h 1
 rw [Nat.or_comm,show (128:Nat)=2 ^ 7*1 by rfl,← this]
 omega
end Go.S
end

section
namespace Go.S
end Go.S
end

section
namespace Go.S
open Go
theorem aCz : ∀ (f u:Nat),(aBE f u).length≤f
  | 0,u=>by simp [aBE]
  | f+1,u=>by
    unfold aBE
    split
    . simp
    . have:=aCz f (u / 10); simp; omega
theorem aOb (n:Int):(U1 n).length≤21:=by
 unfold U1
 split
 ·
  have:=aCz 20 n.natAbs; simp; omega
 have:=aCz 20 n.toNat; omega
end Go.S
end
