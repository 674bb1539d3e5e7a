/- Part of the proofs of: what one side did, as pieces, done to base, is that side; merged with nothing done by the other it is that, too (any two texts) -/
import Derived.Test.YtcenmlklkpgmnaaGreatDoorPE
set_option linter.unusedVariables false
set_option linter.unusedSimpArgs false
set_option linter.unusedSectionVars false
section
set_option linter.unusedVariables false
namespace Go.Proofs.YtcenmlklkpgmnaaGreatDoor
set_option maxHeartbeats 4000000
set_option maxRecDepth 100000
set_option synthInstance.maxSize 2000
set_option synthInstance.maxHeartbeats 1000000
open Go.RowKit Go.V
open Go.S hiding aV
theorem aBb (hO:Sv aD) (r_1:iD) (BD:Sv aK) (jE:Sv aD) {r:List aV} (hS:Sh.SU hO.l r_1.pl BD.l jE.l=some r) :
 Ct Tryz.prog 358 [hO.val,.agg #[r_1.files.val,r_1.entries.val,r_1.conflicts.val],BD.val,jE.val] (hO.ok.and (r_1.files.ok.and (r_1.entries.ok.and (r_1.conflicts.ok.and (BD.ok.and jE.ok))))) (Ow.emp) (X:=Sv aV) (fun x=>x.val) (fun x=>r=x.l) (fun x=>x.ok) (fun x=>Ow.emp):=by
 refine Zo Tryz.func358 Tryz.ntmps358 fun c => ?_
 unfold Sh.SU at hS
 refine Zq (Zr ?_)
 refine VL.box (cs:=[r_1.files.val,r_1.entries.val,r_1.conflicts.val]) rfl rfl (by decide) fun yF => ?_
 refine Zy ?_
 refine Zq (Zr ?_)
 refine Zm ?_
 refine Zu (cL A9 rfl rfl) ?_
 obtain ⟨aBK,aQK,hS⟩:=aU hS
 refine VL.cA (JX hO r_1 aQK) rfl (by decide) ?_
 rintro nS rfl
 try dsimp only
 refine Zy ?_
 refine Zq (Zr ?_)
 refine Zy ?_
 refine Zq (Zq (Zr ?_))
 refine Zm ?_
 refine Zu (dO (s:=nS) Tryz.underlying23 rfl) ?_
 refine Zy ?_
 refine Zb ?_
 refine VC.iter (S:=Int) (fun (rO:Int)=>rO) (fun (rO:Int)=>[(0,hO.val),(2,BD.val),(3,jE.val),(5,ptr yF 0),(9,nS.val),(10,.slice none 0 0),(18,nS.val),(19,i64 (nS.l.length:Int)),(20,i64 rO)]) (fun (rO:Int)=>Mo.tt) (fun (rO:Int)=>Ow.star (bP yF [r_1.files.val,r_1.entries.val,r_1.conflicts.val] 38) (Ow.star (Sv.own nS 9) (Ow.emp))) 0 [0,2,3,5,9,10,18,19,20] hS rfl ?_
 clear hS
 rintro rO m1 y1 hS hK1
 refine Zq (Zr ?_)
 refine Zu (dL rfl rfl) ?_
 refine Zl ?_
 refine Zq ?_
 refine Zc hS (fun h21 hS => ?_) (fun h21 hS => ?_)
 ·
  refine Zk ?_
  refine Zq (Zb (Zq (Zr ?_)))
  obtain ⟨aDr,aIZ,aHn,hS⟩:=e8 hS
  refine Zu (l5 (s:=nS) Tryz.underlying23 o4 rfl rfl aIZ (bQ aIZ aHn)) ?_
  refine Zu (ED (s:=nS) 9 dK rfl aHn rfl) ?_
  refine Zy ?_
  refine Zq (Zr ?_)
  refine Zy ?_
  obtain ⟨aGv,aQb,hS⟩:=aU hS
  refine Zu (cN (aBc hO BD jE aDr aQb) rfl (fun _ _=>rfl)) ?_
  refine Zu (lN rfl) ?_
  refine Zl ?_
  refine VC.keep (ρ':=[(0,hO.val),(2,BD.val),(3,jE.val),(5,ptr yF 0),(9,nS.val),(10,.slice none 0 0),(18,nS.val),(19,i64 (nS.l.length:Int)),(20,i64 rO),(12,str aDr),(29,.bool (!aGv))]) [0,2,3,5,9,10,18,19,20,12,29] rfl ?_
  refine iT hS (fun h29 hS => ?_) (fun h29 hS => ?_)
  ·
   cases hS
  refine Zk ?_
  refine Zr ?_
  obtain ⟨b34,hS⟩:=bS hS
  refine Zu (cK rfl rfl b34) ?_
  refine Zm ?_
  refine VL.jC (rO+1) [0,2,3,5,9,10,18,19,20] (fun _ _ h=>h) (go2 hS hK1) rfl
 replace hS:=gQ hS hK1
 refine Zx ?_
 refine Zq (Zq (Zr ?_))
 refine Zm ?_
 refine Zu (dO (s:=jE) Tryz.underlying35 rfl) ?_
 refine Zy ?_
 refine VC.keep (ρ':=[(5,ptr yF 0),(9,nS.val),(10,.slice none 0 0),(35,jE.val),(36,i64 (jE.l.length:Int)),(37,i64 0)]) [5,9,10,35,36,37] rfl ?_
 refine Zb ?_
 refine VC.iter (S:=Int) (fun (vV:Int)=>vV) (fun (vV:Int)=>[(5,ptr yF 0),(9,nS.val),(10,.slice none 0 0),(35,jE.val),(36,i64 (jE.l.length:Int)),(37,i64 vV)]) (fun (vV:Int)=>Mo.tt) (fun (vV:Int)=>Ow.star (bP yF [r_1.files.val,r_1.entries.val,r_1.conflicts.val] 38) (Ow.star (Sv.own nS 9) (Ow.emp))) 0 [5,9,10,35,36,37] hS rfl ?_
 clear hS
 rintro vV m1 y1 hS hK1
 refine Zq (Zr ?_)
 refine Zu (dL rfl rfl) ?_
 refine Zl ?_
 refine Zq ?_
 refine Zc hS (fun h38 hS => ?_) (fun h38 hS => ?_)
 ·
  refine Zk ?_
  refine Zq (Zb (Zq (Zr ?_)))
  obtain ⟨yV,aIc,aHy,hS⟩:=e8 hS
  refine Zu (fM (s:=jE) Tryz.underlying35 fP rfl rfl aIc (bQ aIc aHy)) ?_
  refine Zu (lZ (s:=jE) i7 rfl rfl aHy) ?_
  refine VL.alloc (cs:=[str [],i64 0,str []]) (by kernel_rfl) (by decide) fun ZP => ?_
  refine Zv (vc:=[str yV.path,i64 yV.mode,str yV.data]) (cs':=[str yV.path,i64 yV.mode,str yV.data]) rfl fP ?_
  refine Zl ?_
  refine VC.gD (S:=Unit) (fun (_:Unit)=>()) (fun (_:Unit)=>[(5,ptr yF 0),(9,nS.val),(10,.slice none 0 0),(14,ptr ZP 0),(35,jE.val),(36,i64 (jE.l.length:Int)),(37,i64 vV)]) (fun (_:Unit)=>Mo.tt) (fun (_:Unit)=>Ow.star (bP ZP [str yV.path,i64 yV.mode,str yV.data] 42) (Ow.star (bP yF [r_1.files.val,r_1.entries.val,r_1.conflicts.val] 38) (Ow.star (Sv.own nS 9) (Ow.emp)))) hS ?_ ?_
  ·
   clear hS
   intro k9 hS
   refine Zq (Zr ?_)
   refine Zm ?_
   refine Zu (aC oZ rfl) ?_
   refine Zu (aT dK rfl rfl) ?_
   obtain ⟨aJY,aMB,hS⟩:=aU hS
   refine Zu (oO (nG nS yV.path aMB) rfl (fun _ _=>rfl)) ?_
   refine Zm ?_
   refine uV 45 hS (fun h45 hS => ?_) (fun h45 hS => ?_)
   ·
    refine Zh (aC qR rfl) ?_
    refine Zh (aT iN rfl rfl) ?_
    refine Zh (aC oZ rfl) ?_
    refine Zh (aT dK rfl rfl) ?_
    obtain ⟨V9,aMJ,hS⟩:=aU hS
    refine Zh (cN (rZ r_1.files yV.path aMJ) rfl (fun _ _=>rfl)) ?_
    refine Zh (aOp Tryz.underlying393 rfl nN rfl rfl) ?_
    refine Zh (lN rfl) ?_
    refine Zy ?_
    refine VC.keep (ρ':=[(5,ptr yF 0),(9,nS.val),(10,.slice none 0 0),(35,jE.val),(36,i64 (jE.l.length:Int)),(37,i64 vV),(14,ptr ZP 0),(53,.bool (!V9.is))]) [5,9,10,35,36,37,14,53] rfl ?_
    refine iT hS (fun h53 hS => ?_) (fun h53 hS => ?_)
    ·
     refine Zx ?_
     refine Zr ?_
     obtain ⟨b62,hS⟩:=bS hS
     refine Zu (cK rfl rfl b62) ?_
     refine Zm ?_
     refine VL.jC (vV+1) [5,9,10,35,36,37] (fun _ _ h=>h) (go2 hS hK1) rfl
    refine VC.fZ () [5,9,10,14,35,36,37] (fun _ _ h=>h) hS rfl
   refine VL.runs 8 [(53,some false)] (by kernel_rfl) ?_
   refine Zl ?_
   refine VC.keep (ρ':=[(5,ptr yF 0),(9,nS.val),(10,.slice none 0 0),(35,jE.val),(36,i64 (jE.l.length:Int)),(37,i64 vV),(14,ptr ZP 0),(53,.bool false)]) [5,9,10,35,36,37,14,53] rfl ?_
   refine VC.vY rfl ?_
   refine VC.fZ () [5,9,10,14,35,36,37] (fun _ _ h=>h) hS rfl
  clear hS
  rintro _ hS
  refine Zq (Zr ?_)
  refine Zm ?_
  refine Zu (qH rfl) ?_
  obtain ⟨aJ9,aMV,hS⟩:=aU hS
  refine Zu (oO (yA nS yF r_1 ZP yV aMV) rfl (fun _ _=>rfl)) ?_
  refine Zl ?_
  refine iT hS (fun h56 hS => ?_) (fun h56 hS => ?_)
  ·
   cases hS
  refine Zk ?_
  refine Zr ?_
  obtain ⟨b62,hS⟩:=bS hS
  refine Zu (cK rfl rfl b62) ?_
  refine Zm ?_
  refine VL.jC (vV+1) [5,9,10,35,36,37] (fun _ _ h=>h) (go2 hS hK1) rfl
 replace hS:=gQ hS hK1
 refine Zx ?_
 refine Zq (Zr ?_)
 refine Zm ?_
 refine VL.lR (⟨none,0,[]⟩:Sv aV) 9 ⟨rfl,rfl⟩ ?_
 obtain ⟨b64,hS⟩:=bS hS
 refine VL.cA (TA (⟨none,0,[]⟩:Sv aV) b64) rfl (by decide) ?_
 rintro aVw ⟨aOC,aVq⟩
 try dsimp only
 replace hS:=b5 aOC hS
 refine Zl ?_
 refine Zq (Zr ?_)
 refine Zm ?_
 refine VL.lR (⟨none,0,[]⟩:Sv aV) 9 ⟨rfl,rfl⟩ ?_
 obtain ⟨b66,hS⟩:=bS hS
 refine VL.cA (FY (⟨none,0,[]⟩:Sv aV) b66) rfl (by decide) ?_
 rintro aJF aOD
 try dsimp only
 replace hS:=b5 aOD hS
 refine VL.shut aJF 9 (fun _ _ _ _=>trivial) ?_
 obtain ⟨aJl,aMa,hS⟩:=aU hS
 refine VL.cR (gG aJF aMa) rfl (by decide) ?_
 rintro aCG rfl
 try dsimp only
 refine Zy ?_
 refine VC.keep (ρ':=[(8,aCG.val)]) [8] rfl ?_
 cases hS
 exact VC.ret (fA (.inr rfl) rfl rfl aCG rfl rfl (by (try dsimp only); exact cO.out) (fun _ _=>trivial))
theorem JS (fL:aK) (gS:Nat) (a_1:aV) {r:Bool} (hS:Sh.C8 fL a_1=some r) :
 Ct Tryz.prog 238 [.agg #[str fL.path,i64 fL.fS,i64 fL.mode,str fL.data,i64 fL.time,i64 fL.size],ptr gS 0] (Cells gS 0 [str a_1]) (Ow.emp) (X:=Unit) (fun _ => .bool r) (fun _=>True) (fun _=>Mo.tt) (fun _=>Ow.emp):=by
 refine Zo Tryz.func238 Tryz.ntmps238 fun c => ?_
 unfold Sh.C8 at hS
 refine Zq (Zr ?_)
 refine VL.box (cs:=[str fL.path,i64 fL.fS,i64 fL.mode,str fL.data,i64 fL.time,i64 fL.size]) rfl rfl (by decide) fun eP => ?_
 refine Zy ?_
 refine Zq (Zr ?_)
 refine Zu (aC wK rfl) ?_
 refine Zu (aT dK rfl rfl) ?_
 refine Zu (CE dK rfl rfl) ?_
 refine Zy ?_
 cases hS
 exact Ze
theorem sF (aB:Sv aK) (eC:Nat) (eU:aV) {r:Int} (hS:Sh.jU aB.l eU=some r) :
 Ct Tryz.prog 308 [aB.val,.func (.func 238) #[] #[ptr eC 0]] (aB.ok.and (Cells eC 0 [str eU])) (Ow.emp) (X:=Unit) (fun _=>i64 r) (fun _=>True) (fun _=>Mo.tt) (fun _=>Ow.emp):=by
 refine Zo Tryz.func308 Tryz.ntmps308 fun c => ?_
 unfold Sh.jU at hS
 refine Zq (Zr ?_)
 refine Zy ?_
 refine Zq (Zq (Zr ?_))
 refine Zm ?_
 refine Zu (dO (s:=aB) Tryz.underlying36 rfl) ?_
 refine Zy ?_
 refine Zb ?_
 refine VC.iter (S:=Int) (fun (cS:Int)=>cS) (fun (cS:Int)=>[(0,aB.val),(1,.func (.func 238) #[] #[ptr eC 0]),(7,i64 (aB.l.length:Int)),(8,i64 cS)]) (fun (cS:Int)=>Mo.tt) (fun (cS:Int)=>Ow.emp) 0 [0,1,7,8] hS rfl ?_
 clear hS
 rintro cS m1 y1 hS hK1
 refine Zq (Zr ?_)
 refine Zu (dL rfl rfl) ?_
 refine Zl ?_
 refine Zq ?_
 refine Zc hS (fun h9 hS => ?_) (fun h9 hS => ?_)
 ·
  refine Zk ?_
  refine Zq (Zb (Zq (Zr ?_)))
  refine Zy ?_
  refine Zq (Zr ?_)
  refine Zy ?_
  obtain ⟨gF,mD,mC,hS⟩:=e8 hS
  refine Zu (fM (s:=aB) Tryz.underlying36 jM rfl rfl mD (bQ mD mC)) ?_
  refine Zu (lZ (s:=aB) pM rfl rfl mC) ?_
  obtain ⟨kQ,rV,hS⟩:=aU hS
  refine Zu (tN (vs:=[.agg #[str gF.path,i64 gF.fS,i64 gF.mode,str gF.data,i64 gF.time,i64 gF.size]]) (caps:=[ptr eC 0]) (JS gF eC eU rV) rfl rfl (fun _ _=>rfl)) ?_
  refine Zl ?_
  refine VC.keep (ρ':=[(0,aB.val),(1,.func (.func 238) #[] #[ptr eC 0]),(7,i64 (aB.l.length:Int)),(8,i64 cS),(5,i64 cS),(16,.bool kQ)]) [0,1,7,8,5,16] rfl ?_
  refine iT hS (fun h16 hS => ?_) (fun h16 hS => ?_)
  ·
   refine Zq (Zr ?_)
   refine Zy ?_
   replace hS:=gQ hS hK1
   cases hS
   exact Ze
  refine Zk ?_
  refine Zr ?_
  obtain ⟨b18,hS⟩:=bS hS
  refine Zu (cK rfl rfl b18) ?_
  refine Zm ?_
  refine VL.jC (cS+1) [0,1,7,8] (fun _ _ h=>h) (go2 hS hK1) rfl
 replace hS:=gQ hS hK1
 refine Zx ?_
 refine Zq (Zr ?_)
 refine Zy ?_
 cases hS
 exact Ze
theorem rM (aB:Sv aK) (dJ:Nat) (dX:aV) {r:List aK} (hS:Sh.jG aB.l dX=some r) :
 Ct Tryz.prog 236 [aB.val,.func (.func 238) #[] #[ptr dJ 0]] Mo.tt (Ow.star (Sv.own aB 97) (bP dJ [str dX] 9)) (X:=Sv aK) (fun x=>x.val) (fun x=>r=x.l) (fun x=>Mo.tt) (fun x=>Ow.star (Sv.own x 97) (bP dJ [str dX] 9)):=by
 refine Zo Tryz.func236 Tryz.ntmps236 fun c => ?_
 unfold Sh.jG at hS
 refine Zq (Zr ?_)
 refine Zy ?_
 refine Zq (Zr ?_)
 refine Zy ?_
 obtain ⟨dG,lU,hS⟩:=aU hS
 refine Zu (oO (sF aB dJ dX lU) rfl (fun _ _=>rfl)) ?_
 refine Zy ?_
 refine Zq (Zq (Zr ?_))
 refine Zm ?_
 refine Zu (hU rfl rfl) ?_
 refine Zl ?_
 refine Zc hS (fun h12 hS => ?_) (fun h12 hS => ?_)
 ·
  refine Zq (Zr ?_)
  refine Zy ?_
  cases hS
  exact VC.ret (fA (.inr rfl) rfl rfl aB rfl rfl (by (try dsimp only); exact cO.out) (by (try dsimp only); exact eT.out))
 refine Zk ?_
 refine Zq (Zq (Zr ?_))
 refine Zm ?_
 obtain ⟨b15,hS⟩:=bS hS
 refine Zu (cK rfl rfl b15) ?_
 refine Zy ?_
 refine VC.keep (ρ':=[(0,aB.val),(1,.func (.func 238) #[] #[ptr dJ 0]),(5,i64 dG),(6,i64 (dG+1))]) [0,1,5,6] rfl ?_
 refine Zb ?_
 refine VC.iter (S:=Sv aK×Int×Int) (fun sg=>(sg.1.l,sg.2.1,sg.2.2)) (fun sg=>[(0,sg.1.val),(1,.func (.func 238) #[] #[ptr dJ 0]),(5,i64 sg.2.1),(6,i64 sg.2.2)]) (fun sg=>Mo.tt) (fun sg=>Ow.star (bP dJ [str dX] 9) (Ow.star (Sv.own sg.1 97) (Ow.emp))) (aB,dG,(dG+1)) [0,1,5,6] hS rfl ?_
 clear hS
 rintro ⟨e6,gH,kU⟩ m1 y1 hS hK1
 refine Zq (Zq (Zr ?_))
 refine Zy ?_
 refine Zu (dO (s:=e6) Tryz.underlying36 rfl) ?_
 refine Zu (dL rfl rfl) ?_
 refine Zl ?_
 refine Zc hS (fun h19 hS => ?_) (fun h19 hS => ?_)
 ·
  refine Zk ?_
  refine VC.gD (S:=Sv aK×Int) (fun sg=>(sg.1.l,sg.2)) (fun sg=>[(0,sg.1.val),(1,.func (.func 238) #[] #[ptr dJ 0]),(5,i64 sg.2),(6,i64 kU)]) (fun sg=>Mo.tt) (fun sg=>Ow.star (bP dJ [str dX] 9) (Ow.star (Sv.own sg.1 97) (Ow.emp))) hS ?_ ?_
  ·
   clear hS
   intro k7 hS
   refine Zb (Zq (Zr ?_))
   refine Zy ?_
   obtain ⟨cY,wB,v7,hS⟩:=e8 hS
   refine Zu (l5 (s:=e6) Tryz.underlying36 jM rfl rfl wB (bQ wB v7)) ?_
   refine Zu (VT (s:=e6) pM rfl rfl v7) ?_
   refine VL.alloc (cs:=[str [],i64 0,i64 0,str [],i64 0,i64 0]) (by kernel_rfl) (by decide) fun ZT => ?_
   refine Zv (vc:=[str cY.path,i64 cY.fS,i64 cY.mode,str cY.data,i64 cY.time,i64 cY.size]) (cs':=[str cY.path,i64 cY.fS,i64 cY.mode,str cY.data,i64 cY.time,i64 cY.size]) rfl jM ?_
   refine Zl ?_
   refine VC.keep (ρ':=[(0,e6.val),(1,.func (.func 238) #[] #[ptr dJ 0]),(5,i64 gH),(6,i64 kU),(7,ptr ZT 0)]) [0,1,5,6,7] rfl ?_
   refine Zq (Zr ?_)
   refine Zm ?_
   refine Zu (cL pM rfl rfl) ?_
   obtain ⟨wH,AY,hS⟩:=aU hS
   refine Zu (tN (vs:=[.agg #[str cY.path,i64 cY.fS,i64 cY.mode,str cY.data,i64 cY.time,i64 cY.size]]) (caps:=[ptr dJ 0]) (JS cY dJ dX AY) rfl rfl (fun _ _=>rfl)) ?_
   refine Zu (lN rfl) ?_
   refine Zl ?_
   refine iT hS (fun h29 hS => ?_) (fun h29 hS => ?_)
   ·
    refine Zq (Zr ?_)
    refine Zy ?_
    refine Zu (cL pM rfl rfl) ?_
    obtain ⟨MT,wO,wM,hS⟩:=e8 hS
    refine Zu (l5 (s:=e6) Tryz.underlying36 jM rfl rfl wO (bQ wO wM)) ?_
    refine VL.sJ (s:=e6) (T:=97) (j:=0) (vc:=[str cY.path,i64 cY.fS,i64 cY.mode,str cY.data,i64 cY.time,i64 cY.size]) (⟨cY.path,cY.fS,cY.mode,cY.data,cY.time,cY.size⟩:aK) (by decide) rfl rfl wM rfl jM rfl rfl (Nat.le_of_ble_eq_true rfl) rfl (fun w12 hw12 haw12 hcw12 hvw12 hbw12 how12 => ?_)
    rw [← hvw12]
    replace hS:=b5 hw12 hS
    refine Zl ?_
    refine VC.keep (ρ':=[(0,w12.val),(1,.func (.func 238) #[] #[ptr dJ 0]),(5,i64 gH),(6,i64 kU)]) [0,1,5,6] rfl ?_
    refine Zr ?_
    refine Zm ?_
    obtain ⟨b35,hS⟩:=bS hS
    refine Zu (cK rfl rfl b35) ?_
    refine Za ?_
    refine VL.mt (w12,(gH+1)) [0,1,5,6] (fun _ _ h=>h) hS rfl
   refine VC.fZ (e6,gH) [0,1,5,6] (fun _ _ h=>h) hS rfl
  clear hS
  rintro ⟨BO,BC⟩ hS
  refine Zr ?_
  refine Zm ?_
  obtain ⟨b21,hS⟩:=bS hS
  refine Zu (cK rfl rfl b21) ?_
  refine Za ?_
  refine VL.jC (BO,BC,(kU+1)) [0,1,5,6] (fun _ _ h=>h) (go2 hS hK1) rfl
 replace hS:=gQ hS hK1
 refine Zx ?_
 refine Zq (Zr ?_)
 refine Zy ?_
 obtain ⟨b38,hS⟩:=bS hS
 refine VL.fits (s:=e6) (e:=97) Fo.out fun A3 => ?_
 refine Zu (HX (s:=e6) Tryz.underlying36 jM rfl rfl b38.1 b38.2 A3) ?_
 refine VL.aEK (s:=e6) (i:=gH.toNat) (.agg #[str [],i64 0,i64 0,str [],i64 0,i64 0]) Tryz.underlying36 aNY rfl rfl rfl (by have:=b38; dsimp only at this ⊢; omega) Fo.out fun BQ GF G3 => ?_
 replace hS:=b5 GF hS
 refine Zl ?_
 refine VC.keep (ρ':=[(0,e6.val),(5,i64 gH)]) [0,5] rfl ?_
 refine Zq (Zr ?_)
 refine Zy ?_
 refine Zu (VS (s:=e6) (q:=BQ) Tryz.underlying36 jM rfl rfl b38.1 b38.2 A3 G3) ?_
 refine Zy ?_
 cases hS
 exact VC.ret (fA (.inr rfl) rfl rfl BQ rfl rfl (by (try dsimp only); exact cO.out) (by (try dsimp only); exact eT.out))
theorem aAW (dZ:Sv aK) (p_1:aV) {r:List aK} (hS:Sh.NS dZ.l p_1=some r) :
 Ct Tryz.prog 152 [dZ.val,str p_1] dZ.ok (Ow.emp) (X:=Sv aK) (fun x=>x.val) (fun x=>r=x.l) (fun x=>x.ok) (fun x=>Ow.emp):=by
 refine Zo Tryz.func152 Tryz.ntmps152 fun c => ?_
 unfold Sh.NS at hS
 refine Zq (Zr ?_)
 refine VL.box (cs:=[str p_1]) rfl rfl (by decide) fun iM => ?_
 refine Zy ?_
 refine Zq (Zr ?_)
 refine Zm ?_
 obtain ⟨II,SA,hS⟩:=aU hS
 refine VL.cA (kP dZ SA) rfl (by decide) ?_
 rintro VN rfl
 try dsimp only
 refine Zu (qH rfl) ?_
 obtain ⟨vA,F2,hS⟩:=aU hS
 refine VL.cA (rM VN iM p_1 F2) rfl (by decide) ?_
 rintro sC rfl
 try dsimp only
 refine VL.shut sC 97 (fun _ _ _ _=>trivial) ?_
 obtain ⟨PV,SC,hS⟩:=aU hS
 refine VL.cR (fU sC SC) rfl (by decide) ?_
 rintro VR rfl
 try dsimp only
 refine Zy ?_
 cases hS
 exact VC.ret (fA (.inr rfl) rfl rfl VR rfl rfl (by (try dsimp only); exact cO.out) (fun _ _=>trivial))
theorem ET (zL:aD) (gS:Nat) (a_1:aV) {r:Bool} (hS:Sh.xZ zL a_1=some r) :
 Ct Tryz.prog 239 [.agg #[str zL.path,i64 zL.mode,str zL.data],ptr gS 0] (Cells gS 0 [str a_1]) (Ow.emp) (X:=Unit) (fun _ => .bool r) (fun _=>True) (fun _=>Mo.tt) (fun _=>Ow.emp):=by
 refine Zo Tryz.func239 Tryz.ntmps239 fun c => ?_
 unfold Sh.xZ at hS
 refine Zq (Zr ?_)
 refine VL.box (cs:=[str zL.path,i64 zL.mode,str zL.data]) rfl rfl (by decide) fun eP => ?_
 refine Zy ?_
 refine Zq (Zr ?_)
 refine Zu (aC oZ rfl) ?_
 refine Zu (aT dK rfl rfl) ?_
 refine Zu (CE dK rfl rfl) ?_
 refine Zy ?_
 cases hS
 exact Ze
theorem tU (aB:Sv aD) (eC:Nat) (eU:aV) {r:Int} (hS:Sh.kF aB.l eU=some r) :
 Ct Tryz.prog 77 [aB.val,.func (.func 239) #[] #[ptr eC 0]] (aB.ok.and (Cells eC 0 [str eU])) (Ow.emp) (X:=Unit) (fun _=>i64 r) (fun _=>True) (fun _=>Mo.tt) (fun _=>Ow.emp):=by
 refine Zo Tryz.func77 Tryz.ntmps77 fun c => ?_
 unfold Sh.kF at hS
 refine Zq (Zr ?_)
 refine Zy ?_
 refine Zq (Zq (Zr ?_))
 refine Zm ?_
 refine Zu (dO (s:=aB) Tryz.underlying35 rfl) ?_
 refine Zy ?_
 refine Zb ?_
 refine VC.iter (S:=Int) (fun (cS:Int)=>cS) (fun (cS:Int)=>[(0,aB.val),(1,.func (.func 239) #[] #[ptr eC 0]),(7,i64 (aB.l.length:Int)),(8,i64 cS)]) (fun (cS:Int)=>Mo.tt) (fun (cS:Int)=>Ow.emp) 0 [0,1,7,8] hS rfl ?_
 clear hS
 rintro cS m1 y1 hS hK1
 refine Zq (Zr ?_)
 refine Zu (dL rfl rfl) ?_
 refine Zl ?_
 refine Zq ?_
 refine Zc hS (fun h9 hS => ?_) (fun h9 hS => ?_)
 ·
  refine Zk ?_
  refine Zq (Zb (Zq (Zr ?_)))
  refine Zy ?_
  refine Zq (Zr ?_)
  refine Zy ?_
  obtain ⟨gF,mD,mC,hS⟩:=e8 hS
  refine Zu (fM (s:=aB) Tryz.underlying35 fP rfl rfl mD (bQ mD mC)) ?_
  refine Zu (lZ (s:=aB) i7 rfl rfl mC) ?_
  obtain ⟨kQ,rV,hS⟩:=aU hS
  refine Zu (tN (vs:=[.agg #[str gF.path,i64 gF.mode,str gF.data]]) (caps:=[ptr eC 0]) (ET gF eC eU rV) rfl rfl (fun _ _=>rfl)) ?_
  refine Zl ?_
  refine VC.keep (ρ':=[(0,aB.val),(1,.func (.func 239) #[] #[ptr eC 0]),(7,i64 (aB.l.length:Int)),(8,i64 cS),(5,i64 cS),(16,.bool kQ)]) [0,1,7,8,5,16] rfl ?_
  refine iT hS (fun h16 hS => ?_) (fun h16 hS => ?_)
  ·
   refine Zq (Zr ?_)
   refine Zy ?_
   replace hS:=gQ hS hK1
   cases hS
   exact Ze
  refine Zk ?_
  refine Zr ?_
  obtain ⟨b18,hS⟩:=bS hS
  refine Zu (cK rfl rfl b18) ?_
  refine Zm ?_
  refine VL.jC (cS+1) [0,1,7,8] (fun _ _ h=>h) (go2 hS hK1) rfl
 replace hS:=gQ hS hK1
 refine Zx ?_
 refine Zq (Zr ?_)
 refine Zy ?_
 cases hS
 exact Ze
theorem sX (aB:Sv aD) (dJ:Nat) (dX:aV) {r:List aD} (hS:Sh.j9 aB.l dX=some r) :
 Ct Tryz.prog 122 [aB.val,.func (.func 239) #[] #[ptr dJ 0]] Mo.tt (Ow.star (Sv.own aB 42) (bP dJ [str dX] 9)) (X:=Sv aD) (fun x=>x.val) (fun x=>r=x.l) (fun x=>Mo.tt) (fun x=>Ow.star (Sv.own x 42) (bP dJ [str dX] 9)):=by
 refine Zo Tryz.func122 Tryz.ntmps122 fun c => ?_
 unfold Sh.j9 at hS
 refine Zq (Zr ?_)
 refine Zy ?_
 refine Zq (Zr ?_)
 refine Zy ?_
 obtain ⟨dG,lU,hS⟩:=aU hS
 refine Zu (oO (tU aB dJ dX lU) rfl (fun _ _=>rfl)) ?_
 refine Zy ?_
 refine Zq (Zq (Zr ?_))
 refine Zm ?_
 refine Zu (hU rfl rfl) ?_
 refine Zl ?_
 refine Zc hS (fun h12 hS => ?_) (fun h12 hS => ?_)
 ·
  refine Zq (Zr ?_)
  refine Zy ?_
  cases hS
  exact VC.ret (fA (.inr rfl) rfl rfl aB rfl rfl (by (try dsimp only); exact cO.out) (by (try dsimp only); exact eT.out))
 refine Zk ?_
 refine Zq (Zq (Zr ?_))
 refine Zm ?_
 obtain ⟨b15,hS⟩:=bS hS
 refine Zu (cK rfl rfl b15) ?_
 refine Zy ?_
 refine VC.keep (ρ':=[(0,aB.val),(1,.func (.func 239) #[] #[ptr dJ 0]),(5,i64 dG),(6,i64 (dG+1))]) [0,1,5,6] rfl ?_
 refine Zb ?_
 refine VC.iter (S:=Sv aD×Int×Int) (fun sg=>(sg.1.l,sg.2.1,sg.2.2)) (fun sg=>[(0,sg.1.val),(1,.func (.func 239) #[] #[ptr dJ 0]),(5,i64 sg.2.1),(6,i64 sg.2.2)]) (fun sg=>Mo.tt) (fun sg=>Ow.star (bP dJ [str dX] 9) (Ow.star (Sv.own sg.1 42) (Ow.emp))) (aB,dG,(dG+1)) [0,1,5,6] hS rfl ?_
 clear hS
 rintro ⟨e6,gH,kU⟩ m1 y1 hS hK1
 refine Zq (Zq (Zr ?_))
 refine Zy ?_
 refine Zu (dO (s:=e6) Tryz.underlying35 rfl) ?_
 refine Zu (dL rfl rfl) ?_
 refine Zl ?_
 refine Zc hS (fun h19 hS => ?_) (fun h19 hS => ?_)
 ·
  refine Zk ?_
  refine VC.gD (S:=Sv aD×Int) (fun sg=>(sg.1.l,sg.2)) (fun sg=>[(0,sg.1.val),(1,.func (.func 239) #[] #[ptr dJ 0]),(5,i64 sg.2),(6,i64 kU)]) (fun sg=>Mo.tt) (fun sg=>Ow.star (bP dJ [str dX] 9) (Ow.star (Sv.own sg.1 42) (Ow.emp))) hS ?_ ?_
  ·
   clear hS
   intro k7 hS
   refine Zb (Zq (Zr ?_))
   refine Zy ?_
   obtain ⟨cY,wB,v7,hS⟩:=e8 hS
   refine Zu (l5 (s:=e6) Tryz.underlying35 fP rfl rfl wB (bQ wB v7)) ?_
   refine Zu (VT (s:=e6) i7 rfl rfl v7) ?_
   refine VL.alloc (cs:=[str [],i64 0,str []]) (by kernel_rfl) (by decide) fun ZT => ?_
   refine Zv (vc:=[str cY.path,i64 cY.mode,str cY.data]) (cs':=[str cY.path,i64 cY.mode,str cY.data]) rfl fP ?_
   refine Zl ?_
   refine VC.keep (ρ':=[(0,e6.val),(1,.func (.func 239) #[] #[ptr dJ 0]),(5,i64 gH),(6,i64 kU),(7,ptr ZT 0)]) [0,1,5,6,7] rfl ?_
   refine Zq (Zr ?_)
   refine Zm ?_
   refine Zu (cL i7 rfl rfl) ?_
   obtain ⟨wH,AY,hS⟩:=aU hS
   refine Zu (tN (vs:=[.agg #[str cY.path,i64 cY.mode,str cY.data]]) (caps:=[ptr dJ 0]) (ET cY dJ dX AY) rfl rfl (fun _ _=>rfl)) ?_
   refine Zu (lN rfl) ?_
   refine Zl ?_
   refine iT hS (fun h29 hS => ?_) (fun h29 hS => ?_)
   ·
    refine Zq (Zr ?_)
    refine Zy ?_
    refine Zu (cL i7 rfl rfl) ?_
    obtain ⟨MT,wO,wM,hS⟩:=e8 hS
    refine Zu (l5 (s:=e6) Tryz.underlying35 fP rfl rfl wO (bQ wO wM)) ?_
    refine VL.sJ (s:=e6) (T:=42) (j:=0) (vc:=[str cY.path,i64 cY.mode,str cY.data]) (⟨cY.path,cY.mode,cY.data⟩:aD) (by decide) rfl rfl wM rfl fP rfl rfl (Nat.le_of_ble_eq_true rfl) rfl (fun w12 hw12 haw12 hcw12 hvw12 hbw12 how12 => ?_)
    rw [← hvw12]
    replace hS:=b5 hw12 hS
    refine Zl ?_
    refine VC.keep (ρ':=[(0,w12.val),(1,.func (.func 239) #[] #[ptr dJ 0]),(5,i64 gH),(6,i64 kU)]) [0,1,5,6] rfl ?_
    refine Zr ?_
    refine Zm ?_
    obtain ⟨b35,hS⟩:=bS hS
    refine Zu (cK rfl rfl b35) ?_
    refine Za ?_
    refine VL.mt (w12,(gH+1)) [0,1,5,6] (fun _ _ h=>h) hS rfl
   refine VC.fZ (e6,gH) [0,1,5,6] (fun _ _ h=>h) hS rfl
  clear hS
  rintro ⟨BO,BC⟩ hS
  refine Zr ?_
  refine Zm ?_
  obtain ⟨b21,hS⟩:=bS hS
  refine Zu (cK rfl rfl b21) ?_
  refine Za ?_
  refine VL.jC (BO,BC,(kU+1)) [0,1,5,6] (fun _ _ h=>h) (go2 hS hK1) rfl
 replace hS:=gQ hS hK1
 refine Zx ?_
 refine Zq (Zr ?_)
 refine Zy ?_
 obtain ⟨b38,hS⟩:=bS hS
 refine VL.fits (s:=e6) (e:=42) Fo.out fun A3 => ?_
 refine Zu (HX (s:=e6) Tryz.underlying35 fP rfl rfl b38.1 b38.2 A3) ?_
 refine VL.aEK (s:=e6) (i:=gH.toNat) (.agg #[str [],i64 0,str []]) Tryz.underlying35 aNX rfl rfl rfl (by have:=b38; dsimp only at this ⊢; omega) Fo.out fun BQ GF G3 => ?_
 replace hS:=b5 GF hS
 refine Zl ?_
 refine VC.keep (ρ':=[(0,e6.val),(5,i64 gH)]) [0,5] rfl ?_
 refine Zq (Zr ?_)
 refine Zy ?_
 refine Zu (VS (s:=e6) (q:=BQ) Tryz.underlying35 fP rfl rfl b38.1 b38.2 A3 G3) ?_
 refine Zy ?_
 cases hS
 exact VC.ret (fA (.inr rfl) rfl rfl BQ rfl rfl (by (try dsimp only); exact cO.out) (by (try dsimp only); exact eT.out))
theorem UA (dB:Sv aD) (p_1:aV) {r:List aD} (hS:Sh.F4 dB.l p_1=some r) :
 Ct Tryz.prog 153 [dB.val,str p_1] dB.ok (Ow.emp) (X:=Sv aD) (fun x=>x.val) (fun x=>r=x.l) (fun x=>x.ok) (fun x=>Ow.emp):=by
 refine Zo Tryz.func153 Tryz.ntmps153 fun c => ?_
 unfold Sh.F4 at hS
 refine Zq (Zr ?_)
 refine VL.box (cs:=[str p_1]) rfl rfl (by decide) fun iM => ?_
 refine Zy ?_
 refine Zq (Zr ?_)
 refine Zm ?_
 obtain ⟨II,SA,hS⟩:=aU hS
 refine VL.cA (gV dB SA) rfl (by decide) ?_
 rintro VN rfl
 try dsimp only
 refine Zu (qH rfl) ?_
 obtain ⟨vA,F2,hS⟩:=aU hS
 refine VL.cA (sX VN iM p_1 F2) rfl (by decide) ?_
 rintro sC rfl
 try dsimp only
 refine VL.shut sC 42 (fun _ _ _ _=>trivial) ?_
 obtain ⟨PV,SC,hS⟩:=aU hS
 refine VL.cR (eN sC SC) rfl (by decide) ?_
 rintro VR rfl
 try dsimp only
 refine Zy ?_
 cases hS
 exact VC.ret (fA (.inr rfl) rfl rfl VR rfl rfl (by (try dsimp only); exact cO.out) (fun _ _=>trivial))
theorem aDS (dB:iD) (CD:Sv aK) (p_2:aV) {r:List aK} (hS:Sh.XF dB.pl CD.l p_2=some r) :
 Ct Tryz.prog 360 [.agg #[dB.files.val,dB.entries.val,dB.conflicts.val],CD.val,str p_2] (dB.files.ok.and (dB.entries.ok.and (dB.conflicts.ok.and CD.ok))) (Ow.emp) (X:=Sv aK) (fun x=>x.val) (fun x=>r=x.l) (fun x=>x.ok) (fun x=>Ow.emp):=by
 refine Zo Tryz.func360 Tryz.ntmps360 fun c => ?_
 unfold Sh.XF at hS
 refine Zq (Zr ?_)
 refine VL.box (cs:=[dB.files.val,dB.entries.val,dB.conflicts.val]) rfl rfl (by decide) fun iM => ?_
 refine Zy ?_
 refine Zq (Zq (Zr ?_))
 refine Zu (aC DL rfl) ?_
 refine Zu (aT oK rfl rfl) ?_
 refine Zm ?_
 obtain ⟨jH,K5,hS⟩:=aU hS
 refine Zu (cN (nG dB.conflicts p_2 K5) rfl (fun _ _=>rfl)) ?_
 refine Zl ?_
 refine iT hS (fun h13 hS => ?_) (fun h13 hS => ?_)
 ·
  refine Zq (Zq ?_)
  cases hS
 refine Zk ?_
 refine Zq (Zr ?_)
 refine Zu (aC qR rfl) ?_
 refine Zu (aT iN rfl rfl) ?_
 refine Zm ?_
 obtain ⟨vX,aQo,hS⟩:=aU hS
 refine Zu (cN (rZ dB.files p_2 aQo) rfl (fun _ _=>rfl)) ?_
 refine VL.alloc (cs:=[str [],i64 0,str [],.bool false]) (by kernel_rfl) (by decide) fun aV6 => ?_
 refine Zv (vc:=[str vX.dD,i64 vX.cX,str vX.cW,.bool vX.is]) (cs':=[str vX.dD,i64 vX.cX,str vX.cW,.bool vX.is]) rfl Y2 ?_
 refine Zl ?_
 refine VC.keep (ρ':=[(1,CD.val),(2,str p_2),(9,ptr aV6 0)]) [1,2,9] rfl ?_
 refine Zq (Zq (Zr ?_))
 refine Zu (aC aBv rfl) ?_
 refine Zu (aT nN rfl rfl) ?_
 refine Zu (lN rfl) ?_
 refine Zl ?_
 refine iT hS (fun h36 hS => ?_) (fun h36 hS => ?_)
 ·
  refine Zq (Zr ?_)
  refine Zy ?_
  cases hS
  exact VC.ret (fA (.inr rfl) rfl rfl CD rfl rfl (by (try dsimp only); exact cO.out) (fun _ _=>trivial))
 refine Zk ?_
 refine Zq (Zr ?_)
 refine Zy ?_
 refine Zu (aC W3 rfl) ?_
 refine Zu (aC JQ rfl) ?_
 refine Zu (aT fG rfl rfl) ?_
 refine Zu (aC W3 rfl) ?_
 refine Zu (aC F8 rfl) ?_
 refine Zu (aT dK rfl rfl) ?_
 refine Zu (fH (vs:=[(0,str p_2),(2,i64 vX.cX),(3,str vX.cW)]) (cs := #[str p_2,i64 0,i64 vX.cX,str vX.cW,i64 0,i64 0]) rfl (by kernel_rfl)) ?_
 obtain ⟨aPe,aRG,hS⟩:=aU hS
 refine VL.cR (RC CD (⟨p_2,0,vX.cX,vX.cW,0,0⟩:aK) aRG) rfl (by decide) ?_
 rintro aFn rfl
 try dsimp only
 refine Zy ?_
 refine VC.keep (ρ':=[(6,aFn.val)]) [6] rfl ?_
 cases hS
 exact VC.ret (fA (.inr rfl) rfl rfl aFn rfl rfl (by (try dsimp only); exact cO.out) (fun _ _=>trivial))
theorem aAa (hO:Sv aD) (r_1:iD) (BD:Sv aK) (jE:Sv aD) {r:List aK×List aD×gR} (hS:Sh.N6 hO.l r_1.pl BD.l jE.l=some r) :
 Ct Tryz.prog 325 [hO.val,.agg #[r_1.files.val,r_1.entries.val,r_1.conflicts.val],BD.val,jE.val] (hO.ok.and (r_1.files.ok.and (r_1.entries.ok.and (r_1.conflicts.ok.and (BD.ok.and jE.ok))))) (Ow.emp) (X:=Sv aK×Sv aD×Er) (fun x => .tuple #[x.1.val,x.2.1.val,x.2.2.val]) (fun x=>r=(x.1.l,x.2.1.l,x.2.2.pl)) (fun x=>(x.1.ok.and (x.2.1.ok.and x.2.2.ok))) (fun x=>Ow.emp):=by
 refine Zo Tryz.func325 Tryz.ntmps325 fun c => ?_
 unfold Sh.N6 at hS
 refine Zq (Zr ?_)
 refine VL.box (cs:=[r_1.files.val,r_1.entries.val,r_1.conflicts.val]) rfl rfl (by decide) fun yF => ?_
 refine Zy ?_
 refine Zq (Zq (Zr ?_))
 refine Zm ?_
 refine Zu (cL A9 rfl rfl) ?_
 refine Zy ?_
 obtain ⟨aPU,aQX,hS⟩:=aU hS
 refine VL.cR (aBb hO r_1 BD jE aQX) rfl (by decide) ?_
 rintro aFd rfl
 try dsimp only
 refine Zy ?_
 refine VC.keep (ρ':=[(0,hO.val),(2,BD.val),(3,jE.val),(5,ptr yF 0),(11,aFd.val)]) [0,2,3,5,11] rfl ?_
 refine Zq (Zr ?_)
 refine Zm ?_
 refine Zu (dO (s:=aFd) Tryz.underlying23 rfl) ?_
 refine Zu (jF rfl rfl) ?_
 refine Zl ?_
 refine Zc hS (fun h25 hS => ?_) (fun h25 hS => ?_)
 ·
  refine Zq ?_
  cases hS
 refine Zk ?_
 refine Zq (Zr ?_)
 refine Zm ?_
 refine Zu (cL A9 rfl rfl) ?_
 obtain ⟨aBU,aQx,hS⟩:=aU hS
 refine VL.cA (JX hO r_1 aQx) rfl (by decide) ?_
 rintro lM rfl
 try dsimp only
 refine Zy ?_
 refine VC.keep (ρ':=[(2,BD.val),(3,jE.val),(5,ptr yF 0),(12,lM.val)]) [2,3,5,12] rfl ?_
 refine Zq (Zr ?_)
 refine Zm ?_
 obtain ⟨aP9,aRB,hS⟩:=aU hS
 refine VL.cA (kP BD aRB) rfl (by decide) ?_
 rintro aFk rfl
 try dsimp only
 refine Zm ?_
 obtain ⟨aPa,aRD,hS⟩:=aU hS
 refine VL.cA (gV jE aRD) rfl (by decide) ?_
 rintro aFl rfl
 try dsimp only
 refine Zy ?_
 refine Zq (Zq (Zr ?_))
 refine Zm ?_
 refine Zu (dO (s:=lM) Tryz.underlying23 rfl) ?_
 refine Zy ?_
 refine Zb ?_
 refine VC.shut aFk 97 (fun _ _ _ _=>trivial) ?_
 refine VC.shut aFl 42 (fun _ _ _ _=>trivial) ?_
 refine VC.iter (S:=Sv aK×Sv aD×Int) (fun sg=>(sg.1.l,sg.2.1.l,sg.2.2)) (fun sg=>[(2,sg.1.val),(3,sg.2.1.val),(5,ptr yF 0),(12,lM.val),(45,lM.val),(46,i64 (lM.l.length:Int)),(47,i64 sg.2.2)]) (fun sg=>(sg.1.ok.and sg.2.1.ok)) (fun sg=>Ow.star (bP yF [r_1.files.val,r_1.entries.val,r_1.conflicts.val] 38) (Ow.star (Sv.own lM 9) (Ow.emp))) (aFk,aFl,0) [2,3,5,12,45,46,47] hS rfl ?_
 clear hS
 rintro ⟨aAZ,O1,TI⟩ m1 y1 hS hK1
 refine Zq (Zr ?_)
 refine Zu (dL rfl rfl) ?_
 refine Zl ?_
 refine Zq ?_
 refine Zc hS (fun h48 hS => ?_) (fun h48 hS => ?_)
 ·
  refine Zk ?_
  refine Zq (Zb (Zq (Zr ?_)))
  obtain ⟨aBX,aIh,aID,hS⟩:=e8 hS
  refine Zu (l5 (s:=lM) Tryz.underlying23 o4 rfl rfl aIh (bQ aIh aID)) ?_
  refine Zu (ED (s:=lM) 9 dK rfl aID rfl) ?_
  refine Zy ?_
  refine Zr ?_
  refine Zy ?_
  obtain ⟨aJ4,aMM,hS⟩:=aU hS
  refine VL.cR (aAW aAZ aBX aMM) rfl (by decide) ?_
  rintro aCE rfl
  try dsimp only
  refine Zy ?_
  obtain ⟨aJ8,aMU,hS⟩:=aU hS
  refine VL.cR (UA O1 aBX aMU) rfl (by decide) ?_
  rintro aCF rfl
  try dsimp only
  refine Zy ?_
  refine VC.keep (ρ':=[(2,aCE.val),(3,aCF.val),(5,ptr yF 0),(12,lM.val),(45,lM.val),(46,i64 (lM.l.length:Int)),(47,i64 TI)]) [2,3,5,12,45,46,47] rfl ?_
  refine Zr ?_
  obtain ⟨b57,hS⟩:=bS hS
  refine Zu (cK rfl rfl b57) ?_
  refine Zm ?_
  refine VL.jC (aCE,aCF,(TI+1)) [2,3,5,12,45,46,47] (fun _ _ h=>h) (go2 hS hK1) rfl
 replace hS:=gQ hS hK1
 refine Zx ?_
 refine Zq (Zq (Zr ?_))
 refine Zm ?_
 refine Zu (dO (s:=lM) Tryz.underlying23 rfl) ?_
 refine Zy ?_
 refine Zb ?_
 refine VC.iter (S:=Sv aK×Sv aD×Int) (fun sg=>(sg.1.l,sg.2.1.l,sg.2.2)) (fun sg=>[(2,sg.1.val),(3,sg.2.1.val),(5,ptr yF 0),(58,lM.val),(59,i64 (lM.l.length:Int)),(60,i64 sg.2.2)]) (fun sg=>(sg.1.ok.and sg.2.1.ok)) (fun sg=>Ow.star (bP yF [r_1.files.val,r_1.entries.val,r_1.conflicts.val] 38) (Ow.star (Sv.own lM 9) (Ow.emp))) (aAZ,O1,0) [2,3,5,58,59,60] hS rfl ?_
 clear hS
 rintro ⟨UW,yD,zH⟩ m1 y1 hS hK1
 refine Zq (Zr ?_)
 refine Zu (dL rfl rfl) ?_
 refine Zl ?_
 refine Zq ?_
 refine Zc hS (fun h61 hS => ?_) (fun h61 hS => ?_)
 ·
  refine Zk ?_
  refine Zq (Zb (Zq (Zr ?_)))
  obtain ⟨QU,aFY,aEq,hS⟩:=e8 hS
  refine Zu (l5 (s:=lM) Tryz.underlying23 o4 rfl rfl aFY (bQ aFY aEq)) ?_
  refine Zu (ED (s:=lM) 9 dK rfl aEq rfl) ?_
  refine Zy ?_
  refine Zq (Zr ?_)
  refine Zu (cL A9 rfl rfl) ?_
  refine Zy ?_
  obtain ⟨aDo,aM9,hS⟩:=aU hS
  refine VL.cR (aDS r_1 UW QU aM9) rfl (by decide) ?_
  rintro J8 rfl
  try dsimp only
  refine Zy ?_
  refine VC.keep (ρ':=[(2,J8.val),(3,yD.val),(5,ptr yF 0),(58,lM.val),(59,i64 (lM.l.length:Int)),(60,i64 zH),(16,str QU)]) [2,3,5,58,59,60,16] rfl ?_
  refine Zq (Zr ?_)
  refine Zu (aC qR rfl) ?_
  refine Zu (aT iN rfl rfl) ?_
  refine Zm ?_
  obtain ⟨tE,aMe,hS⟩:=aU hS
  refine Zu (cN (rZ r_1.files QU aMe) rfl (fun _ _=>rfl)) ?_
  refine VL.alloc (cs:=[str [],i64 0,str [],.bool false]) (by kernel_rfl) (by decide) fun aVu => ?_
  refine Zv (vc:=[str tE.dD,i64 tE.cX,str tE.cW,.bool tE.is]) (cs':=[str tE.dD,i64 tE.cX,str tE.cW,.bool tE.is]) rfl Y2 ?_
  refine Zl ?_
  refine Zq (Zr ?_)
  refine Zu (aC aBv rfl) ?_
  refine Zu (aT nN rfl rfl) ?_
  refine Zl ?_
  refine iT hS (fun h73 hS => ?_) (fun h73 hS => ?_)
  ·
   refine Zr ?_
   refine Zm ?_
   refine Zu (aC W3 rfl) ?_
   refine Zu (LX (j:=0) (n:=3) i7 rfl rfl rfl) ?_
   obtain ⟨aJt,aMm,hS⟩:=aU hS
   refine VL.cR (HO yD (⟨tE.dD,tE.cX,tE.cW⟩:aD) aMm) rfl (by decide) ?_
   rintro aCI rfl
   try dsimp only
   refine Zy ?_
   refine VC.keep (ρ':=[(2,J8.val),(3,aCI.val),(5,ptr yF 0),(58,lM.val),(59,i64 (lM.l.length:Int)),(60,i64 zH)]) [2,3,5,58,59,60] rfl ?_
   refine Zr ?_
   obtain ⟨b78,hS⟩:=bS hS
   refine Zu (cK rfl rfl b78) ?_
   refine Zm ?_
   refine VL.jC (J8,aCI,(zH+1)) [2,3,5,58,59,60] (fun _ _ h=>h) (go2 hS hK1) rfl
  refine Zk ?_
  refine VC.keep (ρ':=[(2,J8.val),(3,yD.val),(5,ptr yF 0),(58,lM.val),(59,i64 (lM.l.length:Int)),(60,i64 zH)]) [2,3,5,58,59,60] rfl ?_
  refine Zr ?_
  obtain ⟨b78,hS⟩:=bS hS
  refine Zu (cK rfl rfl b78) ?_
  refine Zm ?_
  refine VL.jC (J8,yD,(zH+1)) [2,3,5,58,59,60] (fun _ _ h=>h) (go2 hS hK1) rfl
 replace hS:=gQ hS hK1
 refine Zx ?_
 refine Zq (Zr ?_)
 refine Zm ?_
 obtain ⟨aJu,aMn,hS⟩:=aU hS
 refine VL.cR (fU UW aMn) rfl (by decide) ?_
 rintro aCJ rfl
 try dsimp only
 refine Zm ?_
 obtain ⟨aJv,aMo,hS⟩:=aU hS
 refine VL.cR (eN yD aMo) rfl (by decide) ?_
 rintro aCK rfl
 try dsimp only
 refine Zy ?_
 refine VC.keep (ρ':=[(8,aCJ.val),(9,aCK.val),(10,.nilIface)]) [8,9,10] rfl ?_
 cases hS
 exact VC.ret (aBq (.inr rfl) rfl rfl rfl rfl (aCJ,aCK,.nil) rfl rfl (by (try dsimp only); exact cO.out) (fun _ _=>trivial))
theorem RE (aB:cC) {r:Bool} (hS:Sh.L2 aB.pl=some r) :
 Ct Tryz.prog 159 [.agg (aE aB).toArray] (aB.bD.ok.and (aB.aX.ok.and (aB.bK.ok.and (aB.aM.ok.and (aB.aR.ok.and (aB.aO.ok.and (aB.aS.ok.and (aB.aZ.ok.and (aB.bB.ok.and (aB.bL.ok.and aB.bE.ok)))))))))) (Ow.emp) (X:=Unit) (fun _ => .bool r) (fun _=>True) (fun _=>Mo.tt) (fun _=>Ow.emp):=by
 refine Zo Tryz.func159 Tryz.ntmps159 fun c => ?_
 unfold Sh.L2 at hS
 refine Zq (Zr ?_)
 refine VL.box (cs:=(aE aB)) rfl rfl (by decide) fun iE => ?_
 refine Zy ?_
 refine Zq (Zr ?_)
 refine Zu (aC dS rfl) ?_
 refine Zu (aC qS rfl) ?_
 refine Zu (aT iN rfl rfl) ?_
 refine Zu (dO (s:=aB.bD) Tryz.underlying35 rfl) ?_
 refine Zu (jF rfl rfl) ?_
 refine Zy ?_
 cases hS
 exact Ze
theorem RF (aB:cC) (r_1:iD) {r:bM×gR} (hS:Sh.L3 aB.pl r_1.pl=some r) :
 Ct Tryz.prog 258 [.agg (aE aB).toArray,.agg #[r_1.files.val,r_1.entries.val,r_1.conflicts.val]] (aB.bD.ok.and (aB.aX.ok.and (aB.bK.ok.and (aB.aM.ok.and (aB.aR.ok.and (aB.aO.ok.and (aB.aS.ok.and (aB.aZ.ok.and (aB.bB.ok.and (aB.bL.ok.and (aB.bE.ok.and (r_1.files.ok.and (r_1.entries.ok.and r_1.conflicts.ok))))))))))))) (Ow.emp) (X:=cC×Er) (fun x => .tuple #[.agg (bO.enc x.1).toArray,x.2.val]) (fun x=>r=(x.1.pl,x.2.pl)) (fun x=>(x.1.m.and x.2.ok)) (fun x=>Ow.emp):=by
 refine Zo Tryz.func258 Tryz.ntmps258 fun c => ?_
 unfold Sh.L3 at hS
 refine Zq (Zr ?_)
 refine VL.box (cs:=(aE aB)) rfl rfl (by decide) fun eP => ?_
 refine VL.box (cs:=[r_1.files.val,r_1.entries.val,r_1.conflicts.val]) rfl rfl (by decide) fun jX => ?_
 refine VL.alloc (cs:=[.slice none 0 0,.slice none 0 0,.slice none 0 0,str [],i64 0,str [],i64 0,str [],.slice none 0 0,.slice none 0 0,i64 0,str [],str [],i64 0,.slice none 0 0,.slice none 0 0,.slice none 0 0,.slice none 0 0,.slice none 0 0,.slice none 0 0,i64 0]) (by kernel_rfl) (by decide) fun mT => ?_
 refine Zy ?_
 refine Zq ?_
 refine VC.draw [(0,true),(2,true),(3,true),(4,true),(5,true),(6,true),(7,true),(8,true),(1,false),(9,false),(10,true),(11,true),(12,true),(13,true),(14,true),(15,true),(16,true)] mixed (by kernel_rfl) (by kernel_rfl) (by kernel_rfl) ?_
 refine Zw rfl (cL cE rfl rfl) ?_
 refine Zw rfl (cL A9 rfl rfl) ?_
 refine Zw rfl (aC dS rfl) ?_
 refine Zw rfl (aC o3 rfl) ?_
 refine Zw rfl (aT lW rfl rfl) ?_
 refine Zw rfl (aC dS rfl) ?_
 refine Zw rfl (aC qS rfl) ?_
 refine Zw rfl (aT iN rfl rfl) ?_
 refine VD.one rfl ?_
 obtain ⟨EM,HN,hS⟩:=aU hS
 refine VL.cR (DC aB HN) rfl (by decide) ?_
 rintro N7 rfl
 try dsimp only
 refine VL.back (D':=[(8,aB.bD.val),(7,ptr eP 0),(6,ptr eP 0),(5,aB.aX.val),(4,ptr eP 1),(3,ptr eP 0),(2,.agg #[r_1.files.val,r_1.entries.val,r_1.conflicts.val])]) (by kernel_rfl) (aN.cons rfl (aT iN rfl rfl) (aN.cons rfl (aC qS rfl) (aN.cons rfl (aC dS rfl) (aN.cons rfl (aT lW rfl rfl) (aN.cons rfl (aC o3 rfl) (aN.cons rfl (aC dS rfl) (aN.cons rfl (cL A9 rfl rfl) (aN.nil)))))))) ?_
 refine VD.one rfl ?_
 obtain ⟨kD,LC,hS⟩:=aU hS
 refine VL.cR (aAa N7 r_1 aB.aX aB.bD LC) rfl (by decide) ?_
 rintro ⟨mK,sB,aAh⟩ rfl
 try dsimp only
 refine VL.back (D':=[]) (by kernel_rfl) (aN.nil) ?_
 refine Zw rfl (bT rfl) ?_
 refine Zw rfl (bG rfl rfl) ?_
 refine Zw rfl (bG rfl rfl) ?_
 refine Zw rfl (bG rfl rfl) ?_
 refine Zw rfl (fT rfl) ?_
 refine Zw rfl (fT rfl) ?_
 refine Zw rfl (fT rfl) ?_
 refine VD.to (fun _ _ h=>h) ?_
 refine VC.keep (ρ':=[(2,ptr eP 0),(4,ptr mT 0),(6,mK.val),(7,sB.val),(8,aAh.val)]) [2,4,6,7,8] rfl ?_
 refine Zq (Zq (Zr ?_))
 refine Zm ?_
 refine Zu (nD Tryz.underlying27 rfl) ?_
 refine Zl ?_
 refine rI hS (fun h24 hS => ?_) (fun h24 hS => ?_)
 ·
  refine Zq ?_
  cases hS
 refine Zk ?_
 refine Zq (Zr ?_)
 refine Zy ?_
 refine Zu (aC dS rfl) ?_
 refine Zu (aC o3 rfl) ?_
 refine Zv (vc:=[mK.val]) (cs':=[aB.bD.val,mK.val,aB.bK.val,str aB.aP,i64 aB.aF,str aB.bC,i64 aB.bA,str aB.bJ,aB.aM.val,aB.aR.val,i64 aB.bI,str aB.aW,str aB.aI,i64 aB.aJ,aB.aO.val,aB.aS.val,aB.aZ.val,aB.bB.val,aB.bL.val,aB.bE.val,i64 aB.time]) rfl aG0 ?_
 refine Zu (aC dS rfl) ?_
 refine Zu (aC qS rfl) ?_
 refine Zv (vc:=[sB.val]) (cs':=[sB.val,mK.val,aB.bK.val,str aB.aP,i64 aB.aF,str aB.bC,i64 aB.bA,str aB.bJ,aB.aM.val,aB.aR.val,i64 aB.bI,str aB.aW,str aB.aI,i64 aB.aJ,aB.aO.val,aB.aS.val,aB.aZ.val,aB.bB.val,aB.bL.val,aB.bE.val,i64 aB.time]) rfl W4 ?_
 refine Zl ?_
 refine VC.keep (ρ':=[(2,ptr eP 0),(4,ptr mT 0)]) [2,4] rfl ?_
 refine Zq (Zq (Zr ?_))
 refine Zu (cL cE rfl rfl) ?_
 obtain ⟨aP3,aQr,hS⟩:=aU hS
 refine Zu (cN (RE (⟨sB,mK,aB.bK,aB.aP,aB.aF,aB.bC,aB.bA,aB.bJ,aB.aM,aB.aR,aB.bI,aB.aW,aB.aI,aB.aJ,aB.aO,aB.aS,aB.aZ,aB.bB,aB.bL,aB.bE,aB.time⟩:cC) aQr) rfl (fun _ _=>rfl)) ?_
 refine Zl ?_
 refine iT hS (fun h34 hS => ?_) (fun h34 hS => ?_)
 ·
  refine Zq ?_
  cases hS
 refine Zk ?_
 refine Zq (Zr ?_)
 refine Zu (cL cE rfl rfl) ?_
 refine Zv (vc:=[sB.val,mK.val,aB.bK.val,str aB.aP,i64 aB.aF,str aB.bC,i64 aB.bA,str aB.bJ,aB.aM.val,aB.aR.val,i64 aB.bI,str aB.aW,str aB.aI,i64 aB.aJ,aB.aO.val,aB.aS.val,aB.aZ.val,aB.bB.val,aB.bL.val,aB.bE.val,i64 aB.time]) (cs':=[sB.val,mK.val,aB.bK.val,str aB.aP,i64 aB.aF,str aB.bC,i64 aB.bA,str aB.bJ,aB.aM.val,aB.aR.val,i64 aB.bI,str aB.aW,str aB.aI,i64 aB.aJ,aB.aO.val,aB.aS.val,aB.aZ.val,aB.bB.val,aB.bL.val,aB.bE.val,i64 aB.time]) rfl fR ?_
 refine Zy ?_
 cases hS
 exact VC.ret (jV (vs:=[.agg #[sB.val,mK.val,aB.bK.val,str aB.aP,i64 aB.aF,str aB.bC,i64 aB.bA,str aB.bJ,aB.aM.val,aB.aR.val,i64 aB.bI,str aB.aW,str aB.aI,i64 aB.aJ,aB.aO.val,aB.aS.val,aB.aZ.val,aB.bB.val,aB.bL.val,aB.bE.val,i64 aB.time],.nilIface]) (.inr rfl) rfl (eW.cell cE rfl rfl Rd.blk (eW.tmp rfl (eW.nil))) (⟨sB,mK,aB.bK,aB.aP,aB.aF,aB.bC,aB.bA,aB.bJ,aB.aM,aB.aR,aB.bI,aB.aW,aB.aI,aB.aJ,aB.aO,aB.aS,aB.aZ,aB.bB,aB.bL,aB.bE,aB.time⟩,.nil) rfl rfl (by (try dsimp only); exact cO.out) (fun _ _=>trivial))
theorem YN (aB:cC) (dU:pI) {r:bM×gR} (hS:Sh.L0 aB.pl dU.pl=some r) :
 Ct Tryz.prog 167 [.agg (aE aB).toArray,.agg #[str dU.verb,str dU.name,i64 dU.n,str dU.text,.bool dU.force,dU.todo.val]] (aB.bD.ok.and (aB.aX.ok.and (aB.bK.ok.and (aB.aM.ok.and (aB.aR.ok.and (aB.aO.ok.and (aB.aS.ok.and (aB.aZ.ok.and (aB.bB.ok.and (aB.bL.ok.and (aB.bE.ok.and dU.todo.ok))))))))))) (Ow.emp) (X:=cC×Er) (fun x => .tuple #[.agg (bO.enc x.1).toArray,x.2.val]) (fun x=>r=(x.1.pl,x.2.pl)) (fun x=>(x.1.m.and x.2.ok)) (fun x=>Ow.emp):=by
 refine Zo Tryz.func167 Tryz.ntmps167 fun c => ?_
 unfold Sh.L0 at hS
 refine Zq (Zr ?_)
 refine VL.box (cs:=(aE aB)) rfl rfl (by decide) fun eP => ?_
 refine VL.box (cs:=[str dU.verb,str dU.name,i64 dU.n,str dU.text,.bool dU.force,dU.todo.val]) rfl rfl (by decide) fun jX => ?_
 refine VL.alloc (cs:=[.slice none 0 0,.slice none 0 0,.slice none 0 0,str [],i64 0,str [],i64 0,str [],.slice none 0 0,.slice none 0 0,i64 0,str [],str [],i64 0,.slice none 0 0,.slice none 0 0,.slice none 0 0,.slice none 0 0,.slice none 0 0,.slice none 0 0,i64 0]) (by kernel_rfl) (by decide) fun mT => ?_
 refine Zy ?_
 refine Zq (Zr ?_)
 refine Zu (cL cE rfl rfl) ?_
 refine Zu (cL oY rfl rfl) ?_
 obtain ⟨G7,aC3,hS⟩:=aU hS
 refine VL.cR (aFs aB dU aC3) rfl (by decide) ?_
 rintro ⟨nR,aO1⟩ rfl
 try dsimp only
 refine Zm ?_
 refine Zu (bG rfl rfl) ?_
 refine Zu (bG rfl rfl) ?_
 refine VL.alloc (cs:=[str [],i64 0]) (by kernel_rfl) (by decide) fun ZR => ?_
 refine Zv (vc:=[str nR.branch,i64 nR.c8]) (cs':=[str nR.branch,i64 nR.c8]) rfl SG ?_
 refine Zy ?_
 refine VC.keep (ρ':=[(2,ptr eP 0),(3,ptr jX 0),(4,ptr mT 0),(6,ptr ZR 0),(7,aO1.val)]) [2,3,4,6,7] rfl ?_
 refine Zq (Zq (Zr ?_))
 refine Zm ?_
 refine Zu (nD Tryz.underlying27 rfl) ?_
 refine Zl ?_
 refine rI hS (fun h17 hS => ?_) (fun h17 hS => ?_)
 ·
  refine Zq ?_
  cases hS
 refine Zk ?_
 refine Zq (Zr ?_)
 refine Zu (cL cE rfl rfl) ?_
 refine Zu (aC BA rfl) ?_
 refine Zu (aT fG rfl rfl) ?_
 obtain ⟨C5,LD,hS⟩:=aU hS
 refine VL.cR (w9 aB nR.c8 LD) rfl (by decide) ?_
 rintro GQ rfl
 try dsimp only
 refine Zy ?_
 refine VC.keep (ρ':=[(2,ptr eP 0),(3,ptr jX 0),(4,ptr mT 0),(6,ptr ZR 0),(8,GQ.val)]) [2,3,4,6,8] rfl ?_
 refine Zq (Zr ?_)
 refine Zu (cL cE rfl rfl) ?_
 refine VL.alloc (cs:=[.slice none 0 0,.slice none 0 0,.slice none 0 0,str [],i64 0,str [],i64 0,str [],.slice none 0 0,.slice none 0 0,i64 0,str [],str [],i64 0,.slice none 0 0,.slice none 0 0,.slice none 0 0,.slice none 0 0,.slice none 0 0,.slice none 0 0,i64 0]) (by kernel_rfl) (by decide) fun aHW => ?_
 refine Zv (vc:=(aE aB)) (cs':=(aE aB)) rfl fR ?_
 refine Zl ?_
 refine Zq (Zb (Zq (Zr ?_)))
 refine Zu (aC aKO rfl) ?_
 refine Zu (aT nN rfl rfl) ?_
 refine Zy ?_
 refine iT hS (fun h36 hS => ?_) (fun h36 hS => ?_)
 ·
  cases hS
 refine Zq (Zr ?_)
 refine Zu (aC dS rfl) ?_
 refine Zu (aC o3 rfl) ?_
 refine Zu (aT lW rfl rfl) ?_
 obtain ⟨aPd,aRF,hS⟩:=aU hS
 refine VL.cR (yJ aB.aX aRF) rfl (by decide) ?_
 rintro aFm rfl
 try dsimp only
 refine Zu (dO (s:=aFm) Tryz.underlying23 rfl) ?_
 refine Zu (jF rfl rfl) ?_
 refine Zy ?_
 refine VC.keep (ρ':=[(2,ptr eP 0),(4,ptr mT 0),(6,ptr ZR 0),(8,GQ.val),(9,ptr aHW 0),(42,.bool (decide (0 < (aFm.l.length:Int))))]) [2,4,6,8,9,42] rfl ?_
 refine Zc hS (fun h42 hS => ?_) (fun h42 hS => ?_)
 ·
  refine Zq ?_
  cases hS
 refine Zq (Zr ?_)
 refine Zu (cL cE rfl rfl) ?_
 refine Zm ?_
 refine Zu (fH (vs:=[(0,GQ.val)]) (cs := #[GQ.val,.slice none 0 0,.slice none 0 0]) rfl (by kernel_rfl)) ?_
 obtain ⟨q6,aQg,hS⟩:=aU hS
 refine VL.cR (RF aB (⟨GQ,⟨none,0,[]⟩,⟨none,0,[]⟩⟩:iD) aQg) rfl (by decide) ?_
 rintro ⟨cJ,aOd⟩ rfl
 try dsimp only
 refine Zm ?_
 refine Zu (bG rfl rfl) ?_
 refine Zu (bG rfl rfl) ?_
 refine Zv (vc:=(aE cJ)) (cs':=(aE cJ)) rfl fR ?_
 refine Zy ?_
 refine VC.keep (ρ':=[(2,ptr eP 0),(4,ptr mT 0),(6,ptr ZR 0),(9,ptr aHW 0),(7,aOd.val)]) [2,4,6,9,7] rfl ?_
 refine Zq (Zr ?_)
 refine Zm ?_
 refine Zu (nD Tryz.underlying27 rfl) ?_
 refine Zl ?_
 refine rI hS (fun h33 hS => ?_) (fun h33 hS => ?_)
 ·
  refine Zq ?_
  cases hS
 refine Zk ?_
 refine Zq ?_
 refine VC.gD (S:=Bool) (fun (ID:Bool)=>ID) (fun (ID:Bool)=>[(2,ptr eP 0),(4,ptr mT 0),(6,ptr ZR 0),(9,ptr aHW 0),(59,.bool ID)]) (fun (ID:Bool)=>Mo.tt) (fun (ID:Bool)=>Ow.star (bP aHW (aE cJ) 59) (Ow.star (bP ZR [str nR.branch,i64 nR.c8] 47) (Ow.star (bP mT [.slice none 0 0,.slice none 0 0,.slice none 0 0,str [],i64 0,str [],i64 0,str [],.slice none 0 0,.slice none 0 0,i64 0,str [],str [],i64 0,.slice none 0 0,.slice none 0 0,.slice none 0 0,.slice none 0 0,.slice none 0 0,.slice none 0 0,i64 0] 59) (Ow.star (bP jX [str dU.verb,str dU.name,i64 dU.n,str dU.text,.bool dU.force,dU.todo.val] 101) (Ow.star (bP eP (aE aB) 59) (Ow.emp)))))) hS ?_ ?_
 ·
  clear hS
  intro k11 hS
  refine Zr ?_
  refine Zu (cL cE rfl rfl) ?_
  obtain ⟨aJ3,aMK,hS⟩:=aU hS
  refine Zu (cN (RE cJ aMK) rfl (fun _ _=>rfl)) ?_
  refine Zm ?_
  refine uV 53 hS (fun h53 hS => ?_) (fun h53 hS => ?_)
  ·
   refine VL.runs 6 [(59,some true)] (by kernel_rfl) ?_
   refine VL.mt true [2,4,6,9,59] (fun _ _ h=>h) hS rfl
  refine Zh (aC dS rfl) ?_
  refine Zh (aC o3 rfl) ?_
  refine Zh (aT lW rfl rfl) ?_
  refine Zh (dO (s:=cJ.aX) Tryz.underlying36 rfl) ?_
  refine Zh (jF rfl rfl) ?_
  refine Zf ?_
  refine VL.mt (decide (256 < (cJ.aX.l.length:Int))) [2,4,6,9,59] (fun _ _ h=>h) hS rfl
 clear hS
 rintro ID hS
 refine iT hS (fun h59 hS => ?_) (fun h59 hS => ?_)
 ·
  refine Zq ?_
  cases hS
 refine Zk ?_
 refine Zq (Zr ?_)
 refine Zu (cL UC rfl rfl) ?_
 refine Zu (aC dS rfl) ?_
 refine Zu (aC nM rfl) ?_
 refine Zv (vc:=[str nR.branch,i64 nR.c8]) (cs':=[cJ.bD.val,cJ.aX.val,cJ.bK.val,str nR.branch,i64 nR.c8,str cJ.bC,i64 cJ.bA,str cJ.bJ,cJ.aM.val,cJ.aR.val,i64 cJ.bI,str cJ.aW,str cJ.aI,i64 cJ.aJ,cJ.aO.val,cJ.aS.val,cJ.aZ.val,cJ.bB.val,cJ.bL.val,cJ.bE.val,i64 cJ.time]) rfl SG ?_
 refine Zl ?_
 refine Zq (Zr ?_)
 refine Zu (cL cE rfl rfl) ?_
 refine Zv (vc:=[cJ.bD.val,cJ.aX.val,cJ.bK.val,str nR.branch,i64 nR.c8,str cJ.bC,i64 cJ.bA,str cJ.bJ,cJ.aM.val,cJ.aR.val,i64 cJ.bI,str cJ.aW,str cJ.aI,i64 cJ.aJ,cJ.aO.val,cJ.aS.val,cJ.aZ.val,cJ.bB.val,cJ.bL.val,cJ.bE.val,i64 cJ.time]) (cs':=[cJ.bD.val,cJ.aX.val,cJ.bK.val,str nR.branch,i64 nR.c8,str cJ.bC,i64 cJ.bA,str cJ.bJ,cJ.aM.val,cJ.aR.val,i64 cJ.bI,str cJ.aW,str cJ.aI,i64 cJ.aJ,cJ.aO.val,cJ.aS.val,cJ.aZ.val,cJ.bB.val,cJ.bL.val,cJ.bE.val,i64 cJ.time]) rfl fR ?_
 refine Zy ?_
 cases hS
 exact VC.ret (jV (vs:=[.agg #[cJ.bD.val,cJ.aX.val,cJ.bK.val,str nR.branch,i64 nR.c8,str cJ.bC,i64 cJ.bA,str cJ.bJ,cJ.aM.val,cJ.aR.val,i64 cJ.bI,str cJ.aW,str cJ.aI,i64 cJ.aJ,cJ.aO.val,cJ.aS.val,cJ.aZ.val,cJ.bB.val,cJ.bL.val,cJ.bE.val,i64 cJ.time],.nilIface]) (.inr rfl) rfl (eW.cell cE rfl rfl Rd.blk (eW.tmp rfl (eW.nil))) (⟨cJ.bD,cJ.aX,cJ.bK,nR.branch,nR.c8,cJ.bC,cJ.bA,cJ.bJ,cJ.aM,cJ.aR,cJ.bI,cJ.aW,cJ.aI,cJ.aJ,cJ.aO,cJ.aS,cJ.aZ,cJ.bB,cJ.bL,cJ.bE,cJ.time⟩,.nil) rfl rfl (by (try dsimp only); exact cO.out) (fun _ _=>trivial))
theorem y7 (aB:Sv Int) {r:List Int} (hS:Sh.rC aB.l=some r) :
 Ct Tryz.prog 332 [aB.val] aB.ok (Ow.emp) (X:=Sv Int) (fun x=>x.val) (fun x=>r=x.l) (fun x=>Mo.tt) (fun x=>Sv.own x 3):=by
 refine Zo Tryz.func332 Tryz.ntmps332 fun c => ?_
 unfold Sh.rC at hS
 refine Zq (Zr ?_)
 refine Zy ?_
 refine Zq (Zq (Zr ?_))
 refine Zm ?_
 refine Zu (DZ (s:=aB) Tryz.underlying65 rfl) ?_
 refine Zl ?_
 refine VC.slnil (s:=aB) rfl (fun h4 => ?_) ?_
 ·
  have hS:(some [])=some r:=by
    simp [lt,gd,h4] at hS ⊢
    try exact hS
  refine Zq (Zr ?_)
  refine Zy ?_
  refine VC.lR (⟨none,0,[]⟩:Sv Int) 3 ⟨rfl,rfl⟩ ?_
  cases hS
  exact VC.ret (fA (.inr rfl) rfl rfl ⟨none,0,[]⟩ rfl rfl (by (try dsimp only); exact cO.out) (by (try dsimp only); exact eT.out))
 refine Zk ?_
 refine Zq (Zr ?_)
 refine VL.YE (α:=Int) Tryz.underlying65 aUS (by decide) (fun wY qD uM => ?_)
 refine VL.lR wY 3 ⟨uM,qD⟩ ?_
 replace hS:=b5 qD hS
 refine Zm ?_
 obtain ⟨b7,hS⟩:=bS hS
 refine VL.app (s:=wY) (r:=aB) Tryz.underlying65 aAE (by decide) rfl Fo.out (uW b7) (uX b7 (by decide)) (by decide) (fun GY yI => ?_)
 replace hS:=b5 yI hS
 refine Zy ?_
 cases hS
 exact VC.ret (fA (.inr rfl) rfl rfl GY rfl rfl (by (try dsimp only); exact cO.out) (by (try dsimp only); exact eT.out))
theorem B8 (aB:Sv (Sv Int)) {r:List (List Int)} (hS:Sh.p6 (aB.l.map Sv.l)=some r) :
 Ct Tryz.prog 333 [aB.val] aB.ok (Ow.emp) (X:=Sv (Sv Int)) (fun x=>x.val) (fun x=>r=(x.l.map Sv.l)) (fun x=>x.ok) (fun x=>Ow.emp):=by
 refine Zo Tryz.func333 Tryz.ntmps333 fun c => ?_
 unfold Sh.p6 at hS
 refine Zq (Zr ?_)
 refine Zy ?_
 refine Zq (Zr ?_)
 refine Zy ?_
 refine Zu (qG Sv.l (s:=aB) Tryz.underlying340 rfl) ?_
 refine Zm ?_
 refine Zu (qG Sv.l (s:=aB) Tryz.underlying340 rfl) ?_
 obtain ⟨b8,hS⟩:=bS hS
 refine VL.M7 Tryz.underlying340 aCr rfl rfl rfl b8.1 (aDK b8.2) (by decide) fun wZ qU => ?_
 replace hS:=b5 ((congrArg (List.map Sv.l) qU).trans List.map_take) hS
 refine Zy ?_
 cases hS
 exact VC.ret (fA (.inr rfl) rfl rfl wZ rfl rfl (by (try dsimp only); exact cO.out) (fun _ _=>trivial))
theorem YS (aB:cC) {r:List (List Int)} (hS:Sh.MA aB.pl=some r) :
 Ct Tryz.prog 267 [.agg (aE aB).toArray] (aB.bD.ok.and (aB.aX.ok.and (aB.bK.ok.and (aB.aM.ok.and (aB.aR.ok.and (aB.aO.ok.and (aB.aS.ok.and (aB.aZ.ok.and (aB.bB.ok.and (aB.bL.ok.and aB.bE.ok)))))))))) (Ow.emp) (X:=Sv (Sv Int)) (fun x=>x.val) (fun x=>r=(x.l.map Sv.l)) (fun x=>x.ok) (fun x=>Ow.emp):=by
 refine Zo Tryz.func267 Tryz.ntmps267 fun c => ?_
 unfold Sh.MA at hS
 refine Zq (Zr ?_)
 refine VL.box (cs:=(aE aB)) rfl rfl (by decide) fun iE => ?_
 refine Zy ?_
 refine Zq (Zr ?_)
 refine Zy ?_
 refine Zq (Zq (Zr ?_))
 refine Zu (aC lJ rfl) ?_
 refine Zu (aT qC rfl rfl) ?_
 refine Zu (qG cD.pl (s:=aB.bB) Tryz.underlying55 rfl) ?_
 refine Zy ?_
 refine Zb ?_
 refine VC.lR (⟨none,0,[]⟩:Sv (Sv Int)) 65 ⟨rfl,rfl⟩ ?_
 refine VC.LQ (s:=(⟨none,0,[]⟩:Sv (Sv Int))) rfl ?_
 refine VC.iter (S:=Sv (Sv Int)×Int) (fun sg=>((sg.1.l.map Sv.l),sg.2)) (fun sg=>[(3,sg.1.val),(7,aB.bB.val),(8,i64 ((aB.bB.l.map cD.pl).length:Int)),(9,i64 sg.2)]) (fun sg=>(zI sg.1.l)) (fun sg=>Ow.star (bP iE (aE aB) 59) (Ow.star (Sv.own sg.1 65) (Ow.emp))) (⟨none,0,[]⟩,0) [3,7,8,9] hS rfl ?_
 clear hS
 rintro ⟨rB,xD⟩ m1 y1 hS hK1
 refine Zq (Zr ?_)
 refine Zu (dL rfl rfl) ?_
 refine Zl ?_
 refine Zq ?_
 refine Zc hS (fun h10 hS => ?_) (fun h10 hS => ?_)
 ·
  refine Zk ?_
  refine Zq (Zb (Zq (Zr ?_)))
  obtain ⟨l7,HV,E6,hS⟩:=IK hS
  refine VL.deep l7.m E6 (fun _ q=>q) ?_
  refine Zu (fM (s:=aB.bB) Tryz.underlying55 SI rfl rfl HV (bQ HV E6)) ?_
  refine Zu (lZ (s:=aB.bB) aH3 rfl rfl E6) ?_
  refine VL.alloc (cs:=[.slice none 0 0,.slice none 0 0,i64 0,str []]) (by kernel_rfl) (by decide) fun aLQ => ?_
  refine Zv (vc:=[l7.tree.val,l7.parents.val,i64 l7.time,str l7.text]) (cs':=[l7.tree.val,l7.parents.val,i64 l7.time,str l7.text]) rfl SI ?_
  refine Zl ?_
  refine Zr ?_
  refine Zm ?_
  refine Zu (aC UG rfl) ?_
  refine Zu (aT zD rfl rfl) ?_
  obtain ⟨EN,aC5,hS⟩:=aU hS
  refine VL.cA (y7 l7.parents aC5) rfl (by decide) ?_
  rintro VF rfl
  try dsimp only
  refine VL.shut VF 3 (fun _ _ _ _=>trivial) ?_
  obtain ⟨JB,T7,hS⟩:=aU hS
  refine VL.cR (tP VF T7) rfl (by decide) ?_
  rintro GP rfl
  try dsimp only
  refine VL.lit (α:=Sv Int) (xs:=[.tmp 17]) (vs:=[GP.val]) [GP] Tryz.underlying340 aRY (by decide) rfl rfl rfl rfl (by decide) (fun h m=>List.forall_mem_cons.2 ⟨cO.out (X:=GP.ok) h m,fun _ h=>by cases h⟩) (by decide) (fun aUr aRg => ?_) (by decide)
  replace hS:=b5 (congrArg (List.map Sv.l) aRg) hS
  obtain ⟨b19,hS⟩:=bS hS
  refine VL.app (s:=rB) (r:=aUr) Tryz.underlying340 aRR (by decide) rfl Fo.out (uW (TV b19)) (uX (TV b19) (by decide)) (by decide) (fun aIq aE6 => ?_)
  replace hS:=b5 ((congrArg (List.map Sv.l) aE6).trans List.map_append) hS
  refine VL.SS aE6 ?_
  refine Zy ?_
  refine VC.keep (ρ':=[(3,aIq.val),(7,aB.bB.val),(8,i64 ((aB.bB.l.map cD.pl).length:Int)),(9,i64 xD)]) [3,7,8,9] rfl ?_
  refine Zr ?_
  obtain ⟨b20,hS⟩:=bS hS
  refine Zu (cK rfl rfl b20) ?_
  refine Zm ?_
  refine VL.jC (aIq,(xD+1)) [3,7,8,9] (fun _ _ h=>h) (go2 hS hK1) rfl
 replace hS:=gQ hS hK1
 refine Zx ?_
 refine Zq (Zr ?_)
 refine Zm ?_
 refine VL.shut rB 65 (fun h m=>cO.out (X:=zI rB.l) h m) ?_
 obtain ⟨aJG,aL6,hS⟩:=aU hS
 refine VL.cR (B8 rB aL6) rfl (by decide) ?_
 rintro aK0 rfl
 try dsimp only
 refine Zy ?_
 cases hS
 exact VC.ret (fA (.inr rfl) rfl rfl aK0 rfl rfl (by (try dsimp only); exact cO.out) (fun _ _=>trivial))
theorem aDC (dB:Sv aD) {r:List aK} (hS:Sh.W7 dB.l=some r) :
 Ct Tryz.prog 260 [dB.val] dB.ok (Ow.emp) (X:=Sv aK) (fun x=>x.val) (fun x=>r=x.l) (fun x=>x.ok) (fun x=>Ow.emp):=by
 refine Zo Tryz.func260 Tryz.ntmps260 fun c => ?_
 unfold Sh.W7 at hS
 refine Zq (Zr ?_)
 refine Zy ?_
 refine Zq (Zr ?_)
 refine Zy ?_
 refine Zq (Zq (Zr ?_))
 refine Zm ?_
 refine Zu (dO (s:=dB) Tryz.underlying35 rfl) ?_
 refine Zy ?_
 refine Zb ?_
 refine VC.lR (⟨none,0,[]⟩:Sv aK) 97 ⟨rfl,rfl⟩ ?_
 refine VC.iter (S:=Sv aK×Int) (fun sg=>(sg.1.l,sg.2)) (fun sg=>[(3,sg.1.val),(6,dB.val),(7,i64 (dB.l.length:Int)),(8,i64 sg.2)]) (fun sg=>Mo.tt) (fun sg=>Ow.star (Sv.own sg.1 97) (Ow.emp)) (⟨none,0,[]⟩,0) [3,6,7,8] hS rfl ?_
 clear hS
 rintro ⟨rA,yG⟩ m1 y1 hS hK1
 refine Zq (Zr ?_)
 refine Zu (dL rfl rfl) ?_
 refine Zl ?_
 refine Zq ?_
 refine Zc hS (fun h9 hS => ?_) (fun h9 hS => ?_)
 ·
  refine Zk ?_
  refine Zq (Zb (Zq (Zr ?_)))
  obtain ⟨mY,U3,UN,hS⟩:=e8 hS
  refine Zu (fM (s:=dB) Tryz.underlying35 fP rfl rfl U3 (bQ U3 UN)) ?_
  refine Zu (lZ (s:=dB) i7 rfl rfl UN) ?_
  refine VL.alloc (cs:=[str [],i64 0,str []]) (by kernel_rfl) (by decide) fun aWD => ?_
  refine Zv (vc:=[str mY.path,i64 mY.mode,str mY.data]) (cs':=[str mY.path,i64 mY.mode,str mY.data]) rfl fP ?_
  refine Zl ?_
  refine Zr ?_
  refine Zm ?_
  refine Zu (aC oZ rfl) ?_
  refine Zu (aT dK rfl rfl) ?_
  refine Zu (aC JQ rfl) ?_
  refine Zu (aT fG rfl rfl) ?_
  refine Zu (aC F8 rfl) ?_
  refine Zu (aT dK rfl rfl) ?_
  refine Zu (fH (vs:=[(0,str mY.path),(2,i64 mY.mode),(3,str mY.data)]) (cs := #[str mY.path,i64 0,i64 mY.mode,str mY.data,i64 0,i64 0]) rfl (by kernel_rfl)) ?_
  refine VL.lit (α:=aK) (xs:=[.tmp 19]) (vs:=[.agg #[str mY.path,i64 0,i64 mY.mode,str mY.data,i64 0,i64 0]]) [⟨mY.path,0,mY.mode,mY.data,0,0⟩] Tryz.underlying36 aCm (by decide) rfl rfl rfl rfl (by decide) (fun _ _ _ _=>trivial) (by decide) (fun aUt aRi => ?_) (by decide)
  replace hS:=b5 aRi hS
  obtain ⟨b21,hS⟩:=bS hS
  refine VL.app (s:=rA) (r:=aUt) Tryz.underlying36 UE (by decide) rfl Fo.out (uW b21) (uX b21 (by decide)) (by decide) (fun aOx aRm => ?_)
  replace hS:=b5 aRm hS
  refine Zy ?_
  refine VC.keep (ρ':=[(3,aOx.val),(6,dB.val),(7,i64 (dB.l.length:Int)),(8,i64 yG)]) [3,6,7,8] rfl ?_
  refine Zr ?_
  obtain ⟨b22,hS⟩:=bS hS
  refine Zu (cK rfl rfl b22) ?_
  refine Zm ?_
  refine VL.jC (aOx,(yG+1)) [3,6,7,8] (fun _ _ h=>h) (go2 hS hK1) rfl
 replace hS:=gQ hS hK1
 refine Zx ?_
 refine Zq (Zr ?_)
 refine Zm ?_
 refine VL.shut rA 97 (fun _ _ _ _=>trivial) ?_
 obtain ⟨pG,T8,hS⟩:=aU hS
 refine VL.cR (fU rA T8) rfl (by decide) ?_
 rintro DX rfl
 try dsimp only
 refine Zy ?_
 cases hS
 exact VC.ret (fA (.inr rfl) rfl rfl DX rfl rfl (by (try dsimp only); exact cO.out) (fun _ _=>trivial))
theorem aAr (aB:cC) {r:Bool} (hS:Sh.OL aB.pl=some r) :
 Ct Tryz.prog 245 [.agg (aE aB).toArray] (aB.bD.ok.and (aB.aX.ok.and (aB.bK.ok.and (aB.aM.ok.and (aB.aR.ok.and (aB.aO.ok.and (aB.aS.ok.and (aB.aZ.ok.and (aB.bB.ok.and (aB.bL.ok.and aB.bE.ok)))))))))) (Ow.emp) (X:=Unit) (fun _ => .bool r) (fun _=>True) (fun _=>Mo.tt) (fun _=>Ow.emp):=by
 refine Zo Tryz.func245 Tryz.ntmps245 fun c => ?_
 unfold Sh.OL at hS
 refine Zq (Zr ?_)
 refine VL.box (cs:=(aE aB)) rfl rfl (by decide) fun iE => ?_
 refine Zy ?_
 refine Zq ?_
 refine VC.draw [(0,true),(1,true),(2,true),(3,true),(4,false),(5,false),(6,true),(7,true)] mixed (by kernel_rfl) (by kernel_rfl) (by kernel_rfl) ?_
 refine Zw rfl (aC dS rfl) ?_
 refine Zw rfl (aC o3 rfl) ?_
 refine Zw rfl (aT lW rfl rfl) ?_
 refine Zw rfl (cL cE rfl rfl) ?_
 refine VD.one rfl ?_
 obtain ⟨uF,zJ,hS⟩:=aU hS
 refine VL.cR (DC aB zJ) rfl (by decide) ?_
 rintro mS rfl
 try dsimp only
 refine VL.back (D':=[(2,aB.aX.val),(1,ptr iE 1),(0,ptr iE 0)]) (by kernel_rfl) (aN.cons rfl (aT lW rfl rfl) (aN.cons rfl (aC o3 rfl) (aN.cons rfl (aC dS rfl) (aN.nil)))) ?_
 refine VD.one rfl ?_
 obtain ⟨vA,F2,hS⟩:=aU hS
 refine VL.cR (aDC mS F2) rfl (by decide) ?_
 rintro sC rfl
 try dsimp only
 refine VL.back (D':=[(2,aB.aX.val),(1,ptr iE 1),(0,ptr iE 0)]) (by kernel_rfl) (aN.cons rfl (aT lW rfl rfl) (aN.cons rfl (aC o3 rfl) (aN.cons rfl (aC dS rfl) (aN.nil)))) ?_
 obtain ⟨PV,SC,hS⟩:=aU hS
 refine Zw rfl (cN (NT aB.aX sC SC) rfl (fun _ _=>rfl)) ?_
 refine Zw rfl (fT rfl) ?_
 refine VD.to (fun _ _ h=>h) ?_
 cases hS
 exact Ze
theorem rX (kJ:Sv (Sv Int)) (dU:Sv Int) {r:List Bool} (hS:Sh.pO (kJ.l.map Sv.l) dU.l=some r) :
 Ct Tryz.prog 334 [kJ.val,dU.val] (kJ.ok.and dU.ok) (Ow.emp) (X:=Sv Bool) (fun x=>x.val) (fun x=>r=x.l) (fun x=>Mo.tt) (fun x=>Sv.own x 4):=by
 refine Zo Tryz.func334 Tryz.ntmps334 fun c => ?_
 unfold Sh.pO at hS
 refine Zq (Zr ?_)
 refine Zy ?_
 refine Zq (Zr ?_)
 refine Zm ?_
 refine Zu (qG Sv.l (s:=kJ) Tryz.underlying340 rfl) ?_
 obtain ⟨b10,hS⟩:=bS hS
 refine Zu (cK rfl rfl b10) ?_
 obtain ⟨b11,hS⟩:=bS hS
 refine VL.make (α:=Bool) (z:=false) Tryz.underlying406 aV9 (by decide) rfl rfl b11.1 (Int.le_refl _) (by omega) (by omega) (by decide) (fun OP LK => ?_)
 replace hS:=b5 LK hS
 refine Zy ?_
 refine Zq (Zr ?_)
 refine Zm ?_
 obtain ⟨zZ,K6,hS⟩:=aU hS
 refine VL.cA (y7 dU K6) rfl (by decide) ?_
 rintro BI rfl
 try dsimp only
 refine Zy ?_
 refine VC.keep (ρ':=[(0,kJ.val),(5,OP.val),(6,BI.val)]) [0,5,6] rfl ?_
 refine Zq (Zb ?_)
 refine VC.iter (S:=Sv Bool×Sv Int) (fun sg=>(sg.1.l,sg.2.l)) (fun sg=>[(0,kJ.val),(5,sg.1.val),(6,sg.2.val)]) (fun sg=>Mo.tt) (fun sg=>Ow.star (Sv.own sg.1 4) (Ow.star (Sv.own sg.2 3) (Ow.emp))) (OP,BI) [0,5,6] hS rfl ?_
 clear hS
 rintro ⟨pR,oQ⟩ m1 y1 hS hK1
 refine Zq (Zq (Zr ?_))
 refine Zm ?_
 refine Zu (dO (s:=oQ) Tryz.underlying65 rfl) ?_
 refine Zu (jF rfl rfl) ?_
 refine Zl ?_
 refine Zc hS (fun h16 hS => ?_) (fun h16 hS => ?_)
 ·
  refine Zk ?_
  refine Zb (Zq (Zr ?_))
  refine Zy ?_
  refine Zu (dO (s:=oQ) Tryz.underlying65 rfl) ?_
  obtain ⟨b20,hS⟩:=bS hS
  refine Zu (o7 rfl rfl b20) ?_
  obtain ⟨EP,aIX,aHl,hS⟩:=e8 hS
  refine Zu (l5 (s:=oQ) Tryz.underlying65 AE rfl rfl aIX (bQ aIX aHl)) ?_
  refine Zu (ED (s:=oQ) 3 fG rfl aHl rfl) ?_
  refine Zy ?_
  refine VC.keep (ρ':=[(0,kJ.val),(5,pR.val),(6,oQ.val),(7,i64 EP)]) [0,5,6,7] rfl ?_
  refine Zq (Zr ?_)
  refine Zy ?_
  refine Zu (dO (s:=oQ) Tryz.underlying65 rfl) ?_
  obtain ⟨b26,hS⟩:=bS hS
  refine Zu (o7 rfl rfl b26) ?_
  obtain ⟨b27,hS⟩:=bS hS
  refine VL.aVe (s:=oQ) Tryz.underlying65 AE rfl rfl b27.1 b27.2 Fo.out (by decide) fun IW aCw => ?_
  replace hS:=b5 aCw hS
  refine Zy ?_
  refine Zq (Zq (Zr ?_))
  refine Zm ?_
  refine Zu (dL rfl rfl) ?_
  refine Zm ?_
  refine mF 30 hS (fun h30 hS => ?_) (fun h30 hS => ?_)
  ·
   refine VL.runs 11 [(41,some true)] (by kernel_rfl) ?_
   refine Zl ?_
   refine VC.keep (ρ':=[(0,kJ.val),(5,pR.val),(6,IW.val),(7,i64 EP),(41,.bool true)]) [0,5,6,7,41] rfl ?_
   refine VC.EV rfl ?_
   refine VC.WX (pR,IW) [0,5,6] (fun _ _ h=>h) (go2 hS hK1) rfl
  refine Zy ?_
  refine Zh (qG Sv.l (s:=kJ) Tryz.underlying340 rfl) ?_
  refine Zh (jF rfl rfl) ?_
  refine Zy ?_
  refine mF 36 hS (fun h36 hS => ?_) (fun h36 hS => ?_)
  ·
   refine VL.runs 5 [(41,some true)] (by kernel_rfl) ?_
   refine Zl ?_
   refine VC.keep (ρ':=[(0,kJ.val),(5,pR.val),(6,IW.val),(7,i64 EP),(41,.bool true)]) [0,5,6,7,41] rfl ?_
   refine VC.EV rfl ?_
   refine VC.WX (pR,IW) [0,5,6] (fun _ _ h=>h) (go2 hS hK1) rfl
  refine Zy ?_
  obtain ⟨aHS,aId,aHz,hS⟩:=e8 hS
  refine Zh (l5 (s:=pR) Tryz.underlying406 pP rfl rfl aId (bQ aId aHz)) ?_
  refine Zh (ED (s:=pR) 4 nN rfl aHz rfl) ?_
  refine Zy ?_
  refine VC.keep (ρ':=[(0,kJ.val),(5,pR.val),(6,IW.val),(7,i64 EP),(41,.bool aHS)]) [0,5,6,7,41] rfl ?_
  refine iT hS (fun h41 hS => ?_) (fun h41 hS => ?_)
  ·
   refine VC.WX (pR,IW) [0,5,6] (fun _ _ h=>h) (go2 hS hK1) rfl
  refine Zk ?_
  refine Zq (Zr ?_)
  refine Zy ?_
  obtain ⟨aTr,aFM,aEh,hS⟩:=e8 hS
  refine Zu (l5 (s:=pR) Tryz.underlying406 pP rfl rfl aFM (bQ aFM aEh)) ?_
  refine VL.sJ (s:=pR) (T:=4) (j:=0) (vc:=[.bool true]) (true:Bool) (by decide) rfl rfl aEh rfl pP rfl rfl (Nat.le_of_ble_eq_true rfl) rfl (fun w11 hw11 haw11 hcw11 hvw11 hbw11 how11 => ?_)
  rw [← hvw11]
  replace hS:=b5 hw11 hS
  refine Zl ?_
  refine Zr ?_
  refine Zy ?_
  obtain ⟨b48,hS⟩:=bS hS
  refine Zu (o7 rfl rfl b48) ?_
  obtain ⟨WJ,aFR,aAT,hS⟩:=IK hS
  refine VL.deep WJ.ok aAT (fun _ q=>q) ?_
  refine Zu (fM (s:=kJ) Tryz.underlying340 aCr rfl rfl aFR (bQ aFR aAT)) ?_
  refine Zu (rH (s:=kJ) zD rfl aAT rfl) ?_
  obtain ⟨b51,hS⟩:=bS hS
  refine VL.app (s:=IW) (r:=WJ) Tryz.underlying65 aAE (by decide) rfl Fo.out (uW b51) (uX b51 (by decide)) (by decide) (fun aSu aNk => ?_)
  replace hS:=b5 aNk hS
  refine Za ?_
  refine VL.jC (w11,aSu) [0,5,6] (fun _ _ h=>h) (go2 hS hK1) rfl
 replace hS:=gQ hS hK1
 refine Zx ?_
 refine Zq (Zr ?_)
 refine Zy ?_
 cases hS
 exact VC.ret (fA (.inr rfl) rfl rfl pR rfl rfl (by (try dsimp only); exact cO.out) (by (try dsimp only); exact eT.out))
theorem GC (kJ:Sv (Sv Int)) (a_1:Int) (c_2:Int) {r:Bool} (hS:Sh.zE (kJ.l.map Sv.l) a_1 c_2=some r) :
 Ct Tryz.prog 268 [kJ.val,i64 a_1,i64 c_2] kJ.ok (Ow.emp) (X:=Unit) (fun _ => .bool r) (fun _=>True) (fun _=>Mo.tt) (fun _=>Ow.emp):=by
 refine Zo Tryz.func268 Tryz.ntmps268 fun c => ?_
 unfold Sh.zE at hS
 refine Zq (Zr ?_)
 refine Zy ?_
 refine Zq (Zr ?_)
 refine Zm ?_
 refine Zu (qF rfl rfl) ?_
 refine Zm ?_
 refine mF 9 hS (fun h9 hS => ?_) (fun h9 hS => ?_)
 ·
  refine Zy ?_
  refine Zh (qG Sv.l (s:=kJ) Tryz.underlying340 rfl) ?_
  refine Zh (SX rfl rfl) ?_
  refine Zy ?_
  refine mF 15 hS (fun h15 hS => ?_) (fun h15 hS => ?_)
  ·
   refine Zy ?_
   refine VL.guard rfl rfl ?_
   refine VL.lit (α:=Int) (xs:=[.tmp 17]) (vs:=[i64 c_2]) [c_2] Tryz.underlying65 oI (by decide) rfl rfl rfl rfl (by decide) (fun _ _ _ _=>trivial) (by decide) (fun aUq aRe => ?_) (by decide)
   replace hS:=b5 aRe hS
   refine VL.guard rfl rfl ?_
   obtain ⟨G9,aC8,hS⟩:=aU hS
   refine VL.cA (rX kJ aUq aC8) rfl (by decide) ?_
   rintro aFb rfl
   try dsimp only
   refine Zg ?_
   obtain ⟨aBW,U7,UQ,hS⟩:=e8 hS
   refine Zh (l5 (s:=aFb) Tryz.underlying406 pP rfl rfl U7 (bQ U7 UQ)) ?_
   refine Zh (ED (s:=aFb) 4 nN rfl UQ rfl) ?_
   refine Zy ?_
   refine VC.keep (ρ':=[(6,.bool aBW)]) [6] rfl ?_
   cases hS
   exact Ze
  refine VL.runs 9 [(6,some false)] (by kernel_rfl) ?_
  refine Zl ?_
  refine VC.keep (ρ':=[(6,.bool false)]) [6] rfl ?_
  cases hS
  exact Ze
 refine VL.runs 15 [(6,some false)] (by kernel_rfl) ?_
 refine Zl ?_
 cases hS
 exact Ze
theorem aB4 (dZ:Sv Bool) {r:List Int} (hS:Sh.SE dZ.l=some r) :
 Ct Tryz.prog 363 [dZ.val] dZ.ok (Ow.emp) (X:=Sv Int) (fun x=>x.val) (fun x=>r=x.l) (fun x=>x.ok) (fun x=>Ow.emp):=by
 refine Zo Tryz.func363 Tryz.ntmps363 fun c => ?_
 unfold Sh.SE at hS
 refine Zq (Zr ?_)
 refine Zy ?_
 refine Zq (Zr ?_)
 refine Zy ?_
 refine Zq (Zq (Zr ?_))
 refine Zm ?_
 refine Zu (dO (s:=dZ) Tryz.underlying406 rfl) ?_
 refine Zy ?_
 refine Zb ?_
 refine VC.lR (⟨none,0,[]⟩:Sv Int) 3 ⟨rfl,rfl⟩ ?_
 refine VC.iter (S:=Sv Int×Int) (fun sg=>(sg.1.l,sg.2)) (fun sg=>[(3,sg.1.val),(6,dZ.val),(7,i64 (dZ.l.length:Int)),(8,i64 sg.2)]) (fun sg=>Mo.tt) (fun sg=>Ow.star (Sv.own sg.1 3) (Ow.emp)) (⟨none,0,[]⟩,0) [3,6,7,8] hS rfl ?_
 clear hS
 rintro ⟨rA,yG⟩ m1 y1 hS hK1
 refine Zq (Zr ?_)
 refine Zu (dL rfl rfl) ?_
 refine Zl ?_
 refine Zq ?_
 refine Zc hS (fun h9 hS => ?_) (fun h9 hS => ?_)
 ·
  refine Zk ?_
  refine Zq (Zb (Zq (Zr ?_)))
  refine Zm ?_
  obtain ⟨yU,U4,UO,hS⟩:=e8 hS
  refine Zu (fM (s:=dZ) Tryz.underlying406 pP rfl rfl U4 (bQ U4 UO)) ?_
  refine Zu (rH (s:=dZ) nN rfl UO rfl) ?_
  refine Zy ?_
  refine Zq (Zr ?_)
  refine Zy ?_
  refine iT hS (fun h13 hS => ?_) (fun h13 hS => ?_)
  ·
   refine Zr ?_
   refine Zy ?_
   refine VL.lit (α:=Int) (xs:=[.tmp 15]) (vs:=[i64 yG]) [yG] Tryz.underlying65 oI (by decide) rfl rfl rfl rfl (by decide) (fun _ _ _ _=>trivial) (by decide) (fun aUo aRb => ?_) (by decide)
   replace hS:=b5 aRb hS
   obtain ⟨b17,hS⟩:=bS hS
   refine VL.app (s:=rA) (r:=aUo) Tryz.underlying65 aAE (by decide) rfl Fo.out (uW b17) (uX b17 (by decide)) (by decide) (fun aOw aRd => ?_)
   replace hS:=b5 aRd hS
   refine Zy ?_
   refine VC.keep (ρ':=[(3,aOw.val),(6,dZ.val),(7,i64 (dZ.l.length:Int)),(8,i64 yG)]) [3,6,7,8] rfl ?_
   refine Zr ?_
   obtain ⟨b18,hS⟩:=bS hS
   refine Zu (cK rfl rfl b18) ?_
   refine Zm ?_
   refine VL.jC (aOw,(yG+1)) [3,6,7,8] (fun _ _ h=>h) (go2 hS hK1) rfl
  refine Zk ?_
  refine VC.keep (ρ':=[(3,rA.val),(6,dZ.val),(7,i64 (dZ.l.length:Int)),(8,i64 yG)]) [3,6,7,8] rfl ?_
  refine Zr ?_
  obtain ⟨b18,hS⟩:=bS hS
  refine Zu (cK rfl rfl b18) ?_
  refine Zm ?_
  refine VL.jC (rA,(yG+1)) [3,6,7,8] (fun _ _ h=>h) (go2 hS hK1) rfl
 replace hS:=gQ hS hK1
 refine Zx ?_
 refine Zq (Zr ?_)
 refine Zm ?_
 refine VL.shut rA 3 (fun _ _ _ _=>trivial) ?_
 obtain ⟨pF,E3,hS⟩:=aU hS
 refine VL.cR (tP rA E3) rfl (by decide) ?_
 rintro tK rfl
 try dsimp only
 refine Zy ?_
 cases hS
 exact VC.ret (fA (.inr rfl) rfl rfl tK rfl rfl (by (try dsimp only); exact cO.out) (fun _ _=>trivial))
theorem NA (kJ:Sv (Sv Int)) (a_1:Int) (b_2:Int) {r:List Int} (hS:Sh.zO (kJ.l.map Sv.l) a_1 b_2=some r) :
 Ct Tryz.prog 335 [kJ.val,i64 a_1,i64 b_2] kJ.ok (Ow.emp) (X:=Sv Int) (fun x=>x.val) (fun x=>r=x.l) (fun x=>x.ok) (fun x=>Ow.emp):=by
 refine Zo Tryz.func335 Tryz.ntmps335 fun c => ?_
 unfold Sh.zO at hS
 refine Zq (Zr ?_)
 refine Zy ?_
 refine Zq (Zr ?_)
 refine Zy ?_
 refine VL.lit (α:=Int) (xs:=[.tmp 14]) (vs:=[i64 a_1]) [a_1] Tryz.underlying65 oI (by decide) rfl rfl rfl rfl (by decide) (fun _ _ _ _=>trivial) (by decide) (fun aUj aR6 => ?_) (by decide)
 replace hS:=b5 aR6 hS
 obtain ⟨kQ,rV,hS⟩:=aU hS
 refine VL.cA (rX kJ aUj rV) rfl (by decide) ?_
 rintro J0 rfl
 try dsimp only
 refine Zy ?_
 refine VL.lit (α:=Int) (xs:=[.tmp 18]) (vs:=[i64 b_2]) [b_2] Tryz.underlying65 oI (by decide) rfl rfl rfl rfl (by decide) (fun _ _ _ _=>trivial) (by decide) (fun aBA UL => ?_) (by decide)
 replace hS:=b5 UL hS
 obtain ⟨aBN,aQS,hS⟩:=aU hS
 refine VL.cA (rX kJ aBA aQS) rfl (by decide) ?_
 rintro DW rfl
 try dsimp only
 refine Zy ?_
 refine VC.keep (ρ':=[(0,kJ.val),(7,J0.val),(8,DW.val)]) [0,7,8] rfl ?_
 refine Zq (Zr ?_)
 refine Zy ?_
 refine Zq (Zq (Zr ?_))
 refine Zm ?_
 refine Zu (dO (s:=J0) Tryz.underlying406 rfl) ?_
 refine Zy ?_
 refine Zb ?_
 refine VC.lR (⟨none,0,[]⟩:Sv Int) 3 ⟨rfl,rfl⟩ ?_
 refine VC.iter (S:=Sv Bool×Sv Int×Int) (fun sg=>(sg.1.l,sg.2.1.l,sg.2.2)) (fun sg=>[(0,kJ.val),(7,sg.1.val),(8,DW.val),(9,sg.2.1.val),(22,i64 (J0.l.length:Int)),(23,i64 sg.2.2)]) (fun sg=>Mo.tt) (fun sg=>Ow.star (Sv.own DW 4) (Ow.star (Sv.own sg.1 4) (Ow.star (Sv.own sg.2.1 3) (Ow.emp)))) (J0,⟨none,0,[]⟩,0) [0,7,8,9,22,23] hS rfl ?_
 clear hS
 rintro ⟨AO,qN,uD⟩ m1 y1 hS hK1
 refine Zq (Zr ?_)
 refine Zu (dL rfl rfl) ?_
 refine Zl ?_
 refine Zq ?_
 refine Zc hS (fun h24 hS => ?_) (fun h24 hS => ?_)
 ·
  refine Zk ?_
  refine Zq (Zb (Zq (Zr ?_)))
  refine Zy ?_
  refine VC.gD (S:=Sv Bool) (fun (yS:Sv Bool)=>yS.l) (fun (yS:Sv Bool)=>[(0,kJ.val),(7,yS.val),(8,DW.val),(9,qN.val),(10,i64 uD),(22,i64 (J0.l.length:Int)),(23,i64 uD)]) (fun (yS:Sv Bool)=>Mo.tt) (fun (yS:Sv Bool)=>Ow.star (Sv.own DW 4) (Ow.star (Sv.own qN 3) (Ow.star (Sv.own yS 4) (Ow.emp)))) hS ?_ ?_
  ·
   clear hS
   intro k11 hS
   refine Zr ?_
   refine Zy ?_
   obtain ⟨aKB,aFF,aEa,hS⟩:=e8 hS
   refine Zu (l5 (s:=AO) Tryz.underlying406 pP rfl rfl aFF (bQ aFF aEa)) ?_
   refine Zu (ED (s:=AO) 4 nN rfl aEa rfl) ?_
   refine Zm ?_
   refine uV 32 hS (fun h32 hS => ?_) (fun h32 hS => ?_)
   ·
    refine Zy ?_
    obtain ⟨ZI,aFH,aEc,hS⟩:=e8 hS
    refine Zh (l5 (s:=DW) Tryz.underlying406 pP rfl rfl aFH (bQ aFH aEc)) ?_
    refine Zh (ED (s:=DW) 4 nN rfl aEc rfl) ?_
    refine Zt ?_
    obtain ⟨aTp,aFJ,aEe,hS⟩:=e8 hS
    refine Zu (l5 (s:=AO) Tryz.underlying406 pP rfl rfl aFJ (bQ aFJ aEe)) ?_
    refine VL.sJ (s:=AO) (T:=4) (j:=0) (vc:=[.bool ZI]) (ZI:Bool) (by decide) rfl rfl aEe rfl pP rfl rfl (Nat.le_of_ble_eq_true rfl) rfl (fun w15 hw15 haw15 hcw15 hvw15 hbw15 how15 => ?_)
    rw [← hvw15]
    replace hS:=b5 hw15 hS
    refine VL.mt w15 [0,7,8,9,10,22,23] (fun _ _ h=>h) hS rfl
   refine VL.runs 5 [(37,some false)] (by kernel_rfl) ?_
   obtain ⟨aTq,aFK,aEf,hS⟩:=e8 hS
   refine Zu (l5 (s:=AO) Tryz.underlying406 pP rfl rfl aFK (bQ aFK aEf)) ?_
   refine VL.sJ (s:=AO) (T:=4) (j:=0) (vc:=[.bool false]) (false:Bool) (by decide) rfl rfl aEf rfl pP rfl rfl (Nat.le_of_ble_eq_true rfl) rfl (fun w18 hw18 haw18 hcw18 hvw18 hbw18 how18 => ?_)
   rw [← hvw18]
   replace hS:=b5 hw18 hS
   refine VL.mt w18 [0,7,8,9,10,22,23] (fun _ _ h=>h) hS rfl
  clear hS
  rintro yS hS
  refine Zq (Zr ?_)
  refine Zy ?_
  obtain ⟨aKC,aFL,aEg,hS⟩:=e8 hS
  refine Zu (l5 (s:=yS) Tryz.underlying406 pP rfl rfl aFL (bQ aFL aEg)) ?_
  refine Zu (ED (s:=yS) 4 nN rfl aEg rfl) ?_
  refine Zl ?_
  refine iT hS (fun h42 hS => ?_) (fun h42 hS => ?_)
  ·
   refine Zr ?_
   refine Zy ?_
   obtain ⟨b46,hS⟩:=bS hS
   refine Zu (o7 rfl rfl b46) ?_
   obtain ⟨WI,aFP,aAS,hS⟩:=IK hS
   refine VL.deep WI.ok aAS (fun _ q=>q) ?_
   refine Zu (fM (s:=kJ) Tryz.underlying340 aCr rfl rfl aFP (bQ aFP aAS)) ?_
   refine Zu (rH (s:=kJ) zD rfl aAS rfl) ?_
   obtain ⟨b49,hS⟩:=bS hS
   refine VL.app (s:=qN) (r:=WI) Tryz.underlying65 aAE (by decide) rfl Fo.out (uW b49) (uX b49 (by decide)) (by decide) (fun aIv aNi => ?_)
   replace hS:=b5 aNi hS
   refine Zy ?_
   refine VC.keep (ρ':=[(0,kJ.val),(7,yS.val),(8,DW.val),(9,aIv.val),(22,i64 (J0.l.length:Int)),(23,i64 uD)]) [0,7,8,9,22,23] rfl ?_
   refine Zr ?_
   obtain ⟨b50,hS⟩:=bS hS
   refine Zu (cK rfl rfl b50) ?_
   refine Zm ?_
   refine VL.jC (yS,aIv,(uD+1)) [0,7,8,9,22,23] (fun _ _ h=>h) (go2 hS hK1) rfl
  refine Zk ?_
  refine Zr ?_
  obtain ⟨b50,hS⟩:=bS hS
  refine Zu (cK rfl rfl b50) ?_
  refine Zm ?_
  refine VL.jC (yS,qN,(uD+1)) [0,7,8,9,22,23] (fun _ _ h=>h) (go2 hS hK1) rfl
 replace hS:=gQ hS hK1
 refine Zx ?_
 refine Zq (Zr ?_)
 refine Zy ?_
 obtain ⟨aJ6,aMP,hS⟩:=aU hS
 refine VL.aHX (rX kJ qN aMP) rfl (by decide) ?_
 rintro CW rfl
 try dsimp only
 refine Zy ?_
 refine VC.keep (ρ':=[(7,AO.val),(11,CW.val)]) [7,11] rfl ?_
 refine Zq (Zq (Zr ?_))
 refine Zm ?_
 refine Zu (dO (s:=AO) Tryz.underlying406 rfl) ?_
 refine Zy ?_
 refine Zb ?_
 refine VC.iter (S:=Sv Bool×Int) (fun sg=>(sg.1.l,sg.2)) (fun sg=>[(7,sg.1.val),(11,CW.val),(55,i64 (AO.l.length:Int)),(56,i64 sg.2)]) (fun sg=>Mo.tt) (fun sg=>Ow.star (Sv.own CW 4) (Ow.star (Sv.own sg.1 4) (Ow.emp))) (AO,0) [7,11,55,56] hS rfl ?_
 clear hS
 rintro ⟨zY,tC⟩ m1 y1 hS hK1
 refine Zq (Zr ?_)
 refine Zu (dL rfl rfl) ?_
 refine Zl ?_
 refine Zq ?_
 refine Zc hS (fun h57 hS => ?_) (fun h57 hS => ?_)
 ·
  refine Zk ?_
  refine Zq (Zb (Zq (Zr ?_)))
  refine Zy ?_
  refine Zr ?_
  refine Zy ?_
  obtain ⟨aKE,aF0,aEs,hS⟩:=e8 hS
  refine Zu (l5 (s:=zY) Tryz.underlying406 pP rfl rfl aF0 (bQ aF0 aEs)) ?_
  refine Zu (ED (s:=zY) 4 nN rfl aEs rfl) ?_
  refine Zm ?_
  refine uV 65 hS (fun h65 hS => ?_) (fun h65 hS => ?_)
  ·
   refine Zy ?_
   obtain ⟨ZK,aF3,aEu,hS⟩:=e8 hS
   refine Zh (l5 (s:=CW) Tryz.underlying406 pP rfl rfl aF3 (bQ aF3 aEu)) ?_
   refine Zh (ED (s:=CW) 4 nN rfl aEu rfl) ?_
   refine Zh (lN rfl) ?_
   refine Zt ?_
   obtain ⟨aTu,aF4,aEv,hS⟩:=e8 hS
   refine Zu (l5 (s:=zY) Tryz.underlying406 pP rfl rfl aF4 (bQ aF4 aEv)) ?_
   refine VL.sJ (s:=zY) (T:=4) (j:=0) (vc:=[.bool (!ZK)]) ((!ZK):Bool) (by decide) rfl rfl aEv rfl pP rfl rfl (Nat.le_of_ble_eq_true rfl) rfl (fun w30 hw30 haw30 hcw30 hvw30 hbw30 how30 => ?_)
   rw [← hvw30]
   replace hS:=b5 hw30 hS
   refine Zl ?_
   refine VC.keep (ρ':=[(7,w30.val),(11,CW.val),(55,i64 (AO.l.length:Int)),(56,i64 tC)]) [7,11,55,56] rfl ?_
   refine Zr ?_
   obtain ⟨b73,hS⟩:=bS hS
   refine Zu (cK rfl rfl b73) ?_
   refine Zm ?_
   refine VL.jC (w30,(tC+1)) [7,11,55,56] (fun _ _ h=>h) (go2 hS hK1) rfl
  refine VL.runs 6 [(71,some false)] (by kernel_rfl) ?_
  obtain ⟨aTv,aF5,aEw,hS⟩:=e8 hS
  refine Zu (l5 (s:=zY) Tryz.underlying406 pP rfl rfl aF5 (bQ aF5 aEw)) ?_
  refine VL.sJ (s:=zY) (T:=4) (j:=0) (vc:=[.bool false]) (false:Bool) (by decide) rfl rfl aEw rfl pP rfl rfl (Nat.le_of_ble_eq_true rfl) rfl (fun w33 hw33 haw33 hcw33 hvw33 hbw33 how33 => ?_)
  rw [← hvw33]
  replace hS:=b5 hw33 hS
  refine Zl ?_
  refine VC.keep (ρ':=[(7,w33.val),(11,CW.val),(55,i64 (AO.l.length:Int)),(56,i64 tC)]) [7,11,55,56] rfl ?_
  refine Zr ?_
  obtain ⟨b73,hS⟩:=bS hS
  refine Zu (cK rfl rfl b73) ?_
  refine Zm ?_
  refine VL.jC (w33,(tC+1)) [7,11,55,56] (fun _ _ h=>h) (go2 hS hK1) rfl
 replace hS:=gQ hS hK1
 refine Zx ?_
 refine Zq (Zr ?_)
 refine Zm ?_
 refine VL.shut zY 4 (fun _ _ _ _=>trivial) ?_
 obtain ⟨aJs,aMl,hS⟩:=aU hS
 refine VL.cR (aB4 zY aMl) rfl (by decide) ?_
 rintro aLB rfl
 try dsimp only
 refine Zy ?_
 cases hS
 exact VC.ret (fA (.inr rfl) rfl rfl aLB rfl rfl (by (try dsimp only); exact cO.out) (fun _ _=>trivial))
theorem DP (kJ:Sv (Sv Int)) (a_1:Int) (b_2:Int) {r:Int} (hS:Sh.BB (kJ.l.map Sv.l) a_1 b_2=some r) :
 Ct Tryz.prog 269 [kJ.val,i64 a_1,i64 b_2] kJ.ok (Ow.emp) (X:=Unit) (fun _=>i64 r) (fun _=>True) (fun _=>Mo.tt) (fun _=>Ow.emp):=by
 refine Zo Tryz.func269 Tryz.ntmps269 fun c => ?_
 unfold Sh.BB at hS
 refine Zq (Zr ?_)
 refine Zy ?_
 refine Zq (Zr ?_)
 refine Zy ?_
 obtain ⟨iJ,EZ,hS⟩:=aU hS
 refine VL.cR (NA kJ a_1 b_2 EZ) rfl (by decide) ?_
 rintro qA rfl
 try dsimp only
 refine Zy ?_
 refine Zq (Zq (Zr ?_))
 refine Zm ?_
 refine Zu (dO (s:=qA) Tryz.underlying65 rfl) ?_
 refine Zu (hU rfl rfl) ?_
 refine Zl ?_
 refine VC.keep (ρ':=[(7,qA.val),(14,.bool (decide ((qA.l.length:Int)=0)))]) [7,14] rfl ?_
 refine Zc hS (fun h14 hS => ?_) (fun h14 hS => ?_)
 ·
  refine Zq ?_
  cases hS
 refine Zk ?_
 refine Zq (Zr ?_)
 refine Zy ?_
 refine Zu (dO (s:=qA) Tryz.underlying65 rfl) ?_
 obtain ⟨b18,hS⟩:=bS hS
 refine Zu (o7 rfl rfl b18) ?_
 obtain ⟨aPp,aIQ,aHe,hS⟩:=e8 hS
 refine Zu (fM (s:=qA) Tryz.underlying65 AE rfl rfl aIQ (bQ aIQ aHe)) ?_
 refine Zu (rH (s:=qA) fG rfl aHe rfl) ?_
 refine Zy ?_
 cases hS
 exact Ze
theorem I8 (dB:Sv aD) (p_1:aV) {r:KG} (hS:Sh.zW dB.l p_1=some r) :
 Ct Tryz.prog 43 [dB.val,str p_1] dB.ok (Ow.emp) (X:=Unit) (fun _ => .agg #[str r.dD,i64 r.cX,str r.cW,.bool r.is]) (fun _=>True) (fun _=>Mo.tt) (fun _=>Ow.emp):=by
 refine Zo Tryz.func43 Tryz.ntmps43 fun c => ?_
 unfold Sh.zW at hS
 refine Zq (Zr ?_)
 refine VL.alloc (cs:=[str [],i64 0,str [],.bool false]) (by kernel_rfl) (by decide) fun uY => ?_
 refine Zl ?_
 refine Zq (Zr ?_)
 refine Zy ?_
 obtain ⟨eS,EX,hS⟩:=aU hS
 refine Zu (cN (pK dB p_1 EX) rfl (fun _ _=>rfl)) ?_
 refine Zm ?_
 refine Zu (bG rfl rfl) ?_
 refine Zu (bG rfl rfl) ?_
 refine VL.alloc (cs:=[str [],i64 0,str []]) (by kernel_rfl) (by decide) fun aBn => ?_
 refine Zv (vc:=[str eS.1.path,i64 eS.1.mode,str eS.1.data]) (cs':=[str eS.1.path,i64 eS.1.mode,str eS.1.data]) rfl fP ?_
 refine Zy ?_
 refine VC.keep (ρ':=[(4,ptr uY 0),(5,ptr aBn 0),(6,.bool eS.2)]) [4,5,6] rfl ?_
 refine Zq (Zr ?_)
 refine Zu (cL i7 rfl rfl) ?_
 refine Zm ?_
 refine Zu (fH (vs:=[(0,.agg #[str eS.1.path,i64 eS.1.mode,str eS.1.data]),(1,.bool eS.2)]) (cs := #[str eS.1.path,i64 eS.1.mode,str eS.1.data,.bool eS.2]) rfl (by kernel_rfl)) ?_
 refine Zv (vc:=[str eS.1.path,i64 eS.1.mode,str eS.1.data,.bool eS.2]) (cs':=[str eS.1.path,i64 eS.1.mode,str eS.1.data,.bool eS.2]) rfl Y1 ?_
 refine Zl ?_
 cases hS
 exact VC.ret (jV (vs:=[.agg #[str eS.1.path,i64 eS.1.mode,str eS.1.data,.bool eS.2]]) (.inr rfl) rfl (eW.cell F7 rfl rfl Rd.blk (eW.nil)) () rfl trivial (by (try dsimp only); exact cO.out) (fun _ _=>trivial))
theorem aBH (yZ:aV) (xI:Sv aD) (P9:Sv aD) (FO:Sv aD) (a_4:aV) (b_5:aV) {r:aD×Bool×Bool} (hS:Sh.D3 yZ xI.l P9.l FO.l a_4 b_5=some r) :
 Ct Tryz.prog 26 [str yZ,xI.val,P9.val,FO.val,str a_4,str b_5] (xI.ok.and (P9.ok.and FO.ok)) (Ow.emp) (X:=Unit) (fun _ => .tuple #[.agg #[str r.1.path,i64 r.1.mode,str r.1.data],.bool r.2.1,.bool r.2.2]) (fun _=>True) (fun _=>Mo.tt) (fun _=>Ow.emp):=by
 refine Zo Tryz.func26 Tryz.ntmps26 fun c => ?_
 unfold Sh.D3 at hS
 refine Zq (Zr ?_)
 refine VL.alloc (cs:=[str [],i64 0,str []]) (by kernel_rfl) (by decide) fun RK => ?_
 refine Zy ?_
 refine Zq (Zr ?_)
 refine Zy ?_
 obtain ⟨kR,aQR,hS⟩:=aU hS
 refine Zu (cN (I8 xI yZ aQR) rfl (fun _ _=>rfl)) ?_
 refine Zy ?_
 obtain ⟨gZ,aQ0,hS⟩:=aU hS
 refine Zu (cN (I8 P9 yZ aQ0) rfl (fun _ _=>rfl)) ?_
 refine Zy ?_
 obtain ⟨gE,aCe,hS⟩:=aU hS
 refine Zu (cN (I8 FO yZ aCe) rfl (fun _ _=>rfl)) ?_
 refine VL.alloc (cs:=[str [],i64 0,str [],.bool false]) (by kernel_rfl) (by decide) fun ZQ => ?_
 refine VL.alloc (cs:=[str [],i64 0,str [],.bool false]) (by kernel_rfl) (by decide) fun WN => ?_
 refine VL.alloc (cs:=[str [],i64 0,str [],.bool false]) (by kernel_rfl) (by decide) fun WO => ?_
 refine Zv (vc:=[str kR.dD,i64 kR.cX,str kR.cW,.bool kR.is]) (cs':=[str kR.dD,i64 kR.cX,str kR.cW,.bool kR.is]) rfl Y1 ?_
 refine Zv (vc:=[str gZ.dD,i64 gZ.cX,str gZ.cW,.bool gZ.is]) (cs':=[str gZ.dD,i64 gZ.cX,str gZ.cW,.bool gZ.is]) rfl Y1 ?_
 refine Zv (vc:=[str gE.dD,i64 gE.cX,str gE.cW,.bool gE.is]) (cs':=[str gE.dD,i64 gE.cX,str gE.cW,.bool gE.is]) rfl Y1 ?_
 refine Zl ?_
 refine VC.keep (ρ':=[(4,str a_4),(5,str b_5),(12,ptr RK 0),(15,ptr ZQ 0),(16,ptr WN 0),(17,ptr WO 0)]) [4,5,12,15,16,17] rfl ?_
 refine Zq (Zb ?_)
 refine VC.gD (S:=Bool) (fun (PF:Bool)=>PF) (fun (PF:Bool)=>[(4,str a_4),(5,str b_5),(12,ptr RK 0),(15,ptr ZQ 0),(16,ptr WN 0),(17,ptr WO 0),(27,.bool PF)]) (fun (PF:Bool)=>Mo.tt) (fun (PF:Bool)=>Ow.star (bP WO [str gE.dD,i64 gE.cX,str gE.cW,.bool gE.is] 118) (Ow.star (bP WN [str gZ.dD,i64 gZ.cX,str gZ.cW,.bool gZ.is] 118) (Ow.star (bP ZQ [str kR.dD,i64 kR.cX,str kR.cW,.bool kR.is] 118) (Ow.star (bP RK [str [],i64 0,str []] 42) (Ow.emp))))) hS ?_ ?_
 ·
  clear hS
  intro k9 hS
  refine Zr ?_
  refine Zu (cL F7 rfl rfl) ?_
  refine Zu (cL F7 rfl rfl) ?_
  refine Zu (OI aAG (aAI gZ.dD gZ.cX gZ.cW gZ.is gE.dD gE.cX gE.cW gE.is) rfl rfl) ?_
  refine Zm ?_
  refine mF 31 hS (fun h31 hS => ?_) (fun h31 hS => ?_)
  ·
   refine VL.runs 5 [(27,some true)] (by kernel_rfl) ?_
   refine VL.mt true [4,5,12,15,16,17,27] (fun _ _ h=>h) hS rfl
  refine Zh (cL F7 rfl rfl) ?_
  refine Zh (cL F7 rfl rfl) ?_
  refine Zh (OI aAG (aAI kR.dD kR.cX kR.cW kR.is gE.dD gE.cX gE.cW gE.is) rfl rfl) ?_
  refine Zy ?_
  refine VL.mt (decide (kR.dD=gE.dD∧kR.cX=gE.cX∧kR.cW=gE.cW∧kR.is=gE.is)) [4,5,12,15,16,17,27] (fun _ _ h=>h) hS rfl
 clear hS
 rintro PF hS
 refine iT hS (fun h27 hS => ?_) (fun h27 hS => ?_)
 ·
  refine Zq ?_
  refine VC.draw [(0,true),(1,true),(2,true),(3,true),(4,false),(5,true),(6,true)] mixed (by kernel_rfl) (by kernel_rfl) (by kernel_rfl) ?_
  refine Zw rfl (aC aBt rfl) ?_
  refine Zw rfl (LX (j:=0) (n:=3) i7 rfl rfl rfl) ?_
  refine Zw rfl (aC CP rfl) ?_
  refine Zw rfl (aT nN rfl rfl) ?_
  refine VD.one rfl ?_
  refine Zv (vc:=[str gZ.dD,i64 gZ.cX,str gZ.cW]) (cs':=[str gZ.dD,i64 gZ.cX,str gZ.cW]) rfl fP ?_
  refine VL.back (D':=[(3,.bool gZ.is),(2,ptr WN 3)]) (by kernel_rfl) (aN.cons rfl (aT nN rfl rfl) (aN.cons rfl (aC CP rfl) (aN.nil))) ?_
  refine Zw rfl (fT rfl) ?_
  refine Zw rfl (fT rfl) ?_
  refine VD.to (fun _ _ h=>h) ?_
  refine VC.keep (ρ':=[(12,ptr RK 0),(13,.bool gZ.is),(14,.bool false)]) [12,13,14] rfl ?_
  cases hS
  exact VC.ret (jV (vs:=[.agg #[str gZ.dD,i64 gZ.cX,str gZ.cW],.bool gZ.is,.bool false]) (.inr rfl) rfl (eW.cell i7 rfl rfl Rd.blk (eW.tmp rfl (eW.tmp rfl (eW.nil)))) () rfl trivial (by (try dsimp only); exact cO.out) (fun _ _=>trivial))
 refine Zq (Zr ?_)
 refine Zu (cL F7 rfl rfl) ?_
 refine Zu (cL F7 rfl rfl) ?_
 refine Zu (OI aAG (aAI kR.dD kR.cX kR.cW kR.is gZ.dD gZ.cX gZ.cW gZ.is) rfl rfl) ?_
 refine Zy ?_
 refine Zc hS (fun h40 hS => ?_) (fun h40 hS => ?_)
 ·
  refine Zq ?_
  refine VC.draw [(0,true),(1,true),(2,true),(3,true),(4,false),(5,true),(6,true)] mixed (by kernel_rfl) (by kernel_rfl) (by kernel_rfl) ?_
  refine Zw rfl (aC aBt rfl) ?_
  refine Zw rfl (LX (j:=0) (n:=3) i7 rfl rfl rfl) ?_
  refine Zw rfl (aC CP rfl) ?_
  refine Zw rfl (aT nN rfl rfl) ?_
  refine VD.one rfl ?_
  refine Zv (vc:=[str gE.dD,i64 gE.cX,str gE.cW]) (cs':=[str gE.dD,i64 gE.cX,str gE.cW]) rfl fP ?_
  refine VL.back (D':=[(3,.bool gE.is),(2,ptr WO 3)]) (by kernel_rfl) (aN.cons rfl (aT nN rfl rfl) (aN.cons rfl (aC CP rfl) (aN.nil))) ?_
  refine Zw rfl (fT rfl) ?_
  refine Zw rfl (fT rfl) ?_
  refine VD.to (fun _ _ h=>h) ?_
  refine VC.keep (ρ':=[(12,ptr RK 0),(13,.bool gE.is),(14,.bool false)]) [12,13,14] rfl ?_
  cases hS
  exact VC.ret (jV (vs:=[.agg #[str gE.dD,i64 gE.cX,str gE.cW],.bool gE.is,.bool false]) (.inr rfl) rfl (eW.cell i7 rfl rfl Rd.blk (eW.tmp rfl (eW.tmp rfl (eW.nil)))) () rfl trivial (by (try dsimp only); exact cO.out) (fun _ _=>trivial))
 refine VC.gD (S:=Bool) (fun (IC:Bool)=>IC) (fun (IC:Bool)=>[(4,str a_4),(5,str b_5),(12,ptr RK 0),(15,ptr ZQ 0),(16,ptr WN 0),(17,ptr WO 0),(48,.bool IC)]) (fun (IC:Bool)=>Mo.tt) (fun (IC:Bool)=>Ow.star (bP WO [str gE.dD,i64 gE.cX,str gE.cW,.bool gE.is] 118) (Ow.star (bP WN [str gZ.dD,i64 gZ.cX,str gZ.cW,.bool gZ.is] 118) (Ow.star (bP ZQ [str kR.dD,i64 kR.cX,str kR.cW,.bool kR.is] 118) (Ow.star (bP RK [str [],i64 0,str []] 42) (Ow.emp))))) hS ?_ ?_
 ·
  clear hS
  intro k11 hS
  refine Zr ?_
  refine Zu (aC CP rfl) ?_
  refine Zu (aT nN rfl rfl) ?_
  refine Zm ?_
  refine uV 51 hS (fun h51 hS => ?_) (fun h51 hS => ?_)
  ·
   refine Zh (aC CP rfl) ?_
   refine Zh (aT nN rfl rfl) ?_
   refine Zy ?_
   refine VL.mt gE.is [4,5,12,15,16,17,48] (fun _ _ h=>h) hS rfl
  refine VL.runs 4 [(48,some false)] (by kernel_rfl) ?_
  refine VL.mt false [4,5,12,15,16,17,48] (fun _ _ h=>h) hS rfl
 clear hS
 rintro IC hS
 refine iT hS (fun h48 hS => ?_) (fun h48 hS => ?_)
 ·
  refine Zq ?_
  cases hS
 refine Zq (Zr ?_)
 refine Zu (aC CP rfl) ?_
 refine Zu (aT nN rfl rfl) ?_
 refine Zy ?_
 refine iT hS (fun h66 hS => ?_) (fun h66 hS => ?_)
 ·
  refine Zq ?_
  cases hS
 refine Zk ?_
 refine Zq ?_
 cases hS
theorem TE (kJ:aD) (gS:Nat) (a_1:aD) {r:Bool} (hS:Sh.EH kJ a_1=some r) :
 Ct Tryz.prog 46 [.agg #[str kJ.path,i64 kJ.mode,str kJ.data],ptr gS 0] (Cells gS 0 [str a_1.path,i64 a_1.mode,str a_1.data]) (Ow.emp) (X:=Unit) (fun _ => .bool r) (fun _=>True) (fun _=>Mo.tt) (fun _=>Ow.emp):=by
 refine Zo Tryz.func46 Tryz.ntmps46 fun c => ?_
 unfold Sh.EH at hS
 refine Zq (Zr ?_)
 refine VL.box (cs:=[str kJ.path,i64 kJ.mode,str kJ.data]) rfl rfl (by decide) fun eP => ?_
 refine Zy ?_
 refine Zq (Zr ?_)
 refine Zu (aC oZ rfl) ?_
 refine Zu (aT dK rfl rfl) ?_
 refine Zu (aC oZ rfl) ?_
 refine Zu (CE dK rfl rfl) ?_
 obtain ⟨lQ,zK,hS⟩:=aU hS
 refine Zu (cN (wR kJ.path a_1.path zK) rfl (fun _ _=>rfl)) ?_
 refine Zy ?_
 cases hS
 exact Ze
theorem tV (aB:Sv aD) (eC:Nat) (eU:aD) {r:Int} (hS:Sh.iO aB.l eU=some r) :
 Ct Tryz.prog 77 [aB.val,.func (.func 46) #[] #[ptr eC 0]] (aB.ok.and (Cells eC 0 [str eU.path,i64 eU.mode,str eU.data])) (Ow.emp) (X:=Unit) (fun _=>i64 r) (fun _=>True) (fun _=>Mo.tt) (fun _=>Ow.emp):=by
 refine Zo Tryz.func77 Tryz.ntmps77 fun c => ?_
 unfold Sh.iO at hS
 refine Zq (Zr ?_)
 refine Zy ?_
 refine Zq (Zq (Zr ?_))
 refine Zm ?_
 refine Zu (dO (s:=aB) Tryz.underlying35 rfl) ?_
 refine Zy ?_
 refine Zb ?_
 refine VC.iter (S:=Int) (fun (cS:Int)=>cS) (fun (cS:Int)=>[(0,aB.val),(1,.func (.func 46) #[] #[ptr eC 0]),(7,i64 (aB.l.length:Int)),(8,i64 cS)]) (fun (cS:Int)=>Mo.tt) (fun (cS:Int)=>Ow.emp) 0 [0,1,7,8] hS rfl ?_
 clear hS
 rintro cS m1 y1 hS hK1
 refine Zq (Zr ?_)
 refine Zu (dL rfl rfl) ?_
 refine Zl ?_
 refine Zq ?_
 refine Zc hS (fun h9 hS => ?_) (fun h9 hS => ?_)
 ·
  refine Zk ?_
  refine Zq (Zb (Zq (Zr ?_)))
  refine Zy ?_
  refine Zq (Zr ?_)
  refine Zy ?_
  obtain ⟨gF,mD,mC,hS⟩:=e8 hS
  refine Zu (fM (s:=aB) Tryz.underlying35 fP rfl rfl mD (bQ mD mC)) ?_
  refine Zu (lZ (s:=aB) i7 rfl rfl mC) ?_
  obtain ⟨kQ,rV,hS⟩:=aU hS
  refine Zu (tN (vs:=[.agg #[str gF.path,i64 gF.mode,str gF.data]]) (caps:=[ptr eC 0]) (TE gF eC eU rV) rfl rfl (fun _ _=>rfl)) ?_
  refine Zl ?_
  refine VC.keep (ρ':=[(0,aB.val),(1,.func (.func 46) #[] #[ptr eC 0]),(7,i64 (aB.l.length:Int)),(8,i64 cS),(5,i64 cS),(16,.bool kQ)]) [0,1,7,8,5,16] rfl ?_
  refine iT hS (fun h16 hS => ?_) (fun h16 hS => ?_)
  ·
   refine Zq (Zr ?_)
   refine Zy ?_
   replace hS:=gQ hS hK1
   cases hS
   exact Ze
  refine Zk ?_
  refine Zr ?_
  obtain ⟨b18,hS⟩:=bS hS
  refine Zu (cK rfl rfl b18) ?_
  refine Zm ?_
  refine VL.jC (cS+1) [0,1,7,8] (fun _ _ h=>h) (go2 hS hK1) rfl
 replace hS:=gQ hS hK1
 refine Zx ?_
 refine Zq (Zr ?_)
 refine Zy ?_
 cases hS
 exact Ze
theorem sE (aB:Sv aD) (eC:Nat) (eU:aD) {r:Bool} (hS:Sh.gA aB.l eU=some r) :
 Ct Tryz.prog 45 [aB.val,.func (.func 46) #[] #[ptr eC 0]] (aB.ok.and (Cells eC 0 [str eU.path,i64 eU.mode,str eU.data])) (Ow.emp) (X:=Unit) (fun _ => .bool r) (fun _=>True) (fun _=>Mo.tt) (fun _=>Ow.emp):=by
 refine Zo Tryz.func45 Tryz.ntmps45 fun c => ?_
 unfold Sh.gA at hS
 refine Zq (Zr ?_)
 refine Zy ?_
 refine Zq (Zr ?_)
 refine Zy ?_
 obtain ⟨iR,lI,hS⟩:=aU hS
 refine Zu (oO (tV aB eC eU lI) rfl (fun _ _=>rfl)) ?_
 refine Zu (qF rfl rfl) ?_
 refine Zy ?_
 cases hS
 exact Ze
theorem X1 (dB:Sv aD) {r:gR} (hS:Sh.zA dB.l=some r) :
 Ct Tryz.prog 28 [dB.val] dB.ok (Ow.emp) (X:=Er) (fun x=>x.val) (fun x=>r=x.pl) (fun x=>x.ok) (fun x=>Ow.emp):=by
 refine Zo Tryz.func28 Tryz.ntmps28 fun c => ?_
 unfold Sh.zA at hS
 refine Zq (Zr ?_)
 refine Zy ?_
 refine Zq (Zq (Zr ?_))
 refine Zm ?_
 refine Zu (dO (s:=dB) Tryz.underlying35 rfl) ?_
 refine Zu (jF rfl rfl) ?_
 refine Zl ?_
 refine Zc hS (fun h7 hS => ?_) (fun h7 hS => ?_)
 ·
  refine Zq ?_
  cases hS
 refine Zk ?_
 refine Zq (Zq (Zr ?_))
 refine Zm ?_
 refine Zu (dO (s:=dB) Tryz.underlying35 rfl) ?_
 refine Zy ?_
 refine Zb ?_
 refine VC.iter (S:=Int) (fun (pE:Int)=>pE) (fun (pE:Int)=>[(0,dB.val),(12,dB.val),(13,i64 (dB.l.length:Int)),(14,i64 pE)]) (fun (pE:Int)=>Mo.tt) (fun (pE:Int)=>Ow.emp) 0 [0,12,13,14] hS rfl ?_
 clear hS
 rintro pE m1 y1 hS hK1
 refine Zq (Zr ?_)
 refine Zu (dL rfl rfl) ?_
 refine Zl ?_
 refine Zq ?_
 refine Zc hS (fun h15 hS => ?_) (fun h15 hS => ?_)
 ·
  refine Zk ?_
  refine Zq (Zb (Zq (Zr ?_)))
  refine Zm ?_
  obtain ⟨MS,aIM,aHb,hS⟩:=e8 hS
  refine Zu (fM (s:=dB) Tryz.underlying35 fP rfl rfl aIM (bQ aIM aHb)) ?_
  refine Zu (lZ (s:=dB) i7 rfl rfl aHb) ?_
  refine VL.alloc (cs:=[str [],i64 0,str []]) (by kernel_rfl) (by decide) fun mT => ?_
  refine Za ?_
  refine Zv (vc:=[str MS.path,i64 MS.mode,str MS.data]) (cs':=[str MS.path,i64 MS.mode,str MS.data]) rfl fP ?_
  refine Zl ?_
  refine Zq (Zr ?_)
  refine Zy ?_
  obtain ⟨b21,hS⟩:=bS hS
  refine VL.sto Tryz.underlying35 fP rfl rfl b21.1 (b21.2) (by decide) fun aUv aRk => ?_
  replace hS:=b5 aRk hS
  refine Zu (qH rfl) ?_
  obtain ⟨C5,LD,hS⟩:=aU hS
  refine Zu (oO (sE aUv mT MS LD) rfl (fun _ _=>rfl)) ?_
  refine Zl ?_
  refine VC.keep (ρ':=[(0,dB.val),(12,dB.val),(13,i64 (dB.l.length:Int)),(14,i64 pE),(3,i64 pE),(23,.bool C5)]) [0,12,13,14,3,23] rfl ?_
  refine iT hS (fun h23 hS => ?_) (fun h23 hS => ?_)
  ·
   refine Zq ?_
   cases hS
  refine Zk ?_
  refine Zr ?_
  obtain ⟨b29,hS⟩:=bS hS
  refine Zu (cK rfl rfl b29) ?_
  refine Zm ?_
  refine VL.jC (pE+1) [0,12,13,14] (fun _ _ h=>h) (go2 hS hK1) rfl
 replace hS:=gQ hS hK1
 refine Zx ?_
 refine Zq (Zr ?_)
 refine Zy ?_
 cases hS
 exact VC.ret (fA (.inr rfl) rfl rfl .nil rfl rfl (by (try dsimp only); exact cO.out) (fun _ _=>trivial))
theorem KE (pJ:Sv aD) (pQ:Sv aD) (iI:Sv aD) (ZN:aV) (ZU:aV) {r:i6×gR} (hS:Sh.sR pJ.l pQ.l iI.l ZN ZU=some r) :
 Ct Tryz.prog 9 [pJ.val,pQ.val,iI.val,str ZN,str ZU] (pJ.ok.and (pQ.ok.and iI.ok)) (Ow.emp) (X:=iD×Er) (fun x => .tuple #[.agg (bO.enc x.1).toArray,x.2.val]) (fun x=>r=(x.1.pl,x.2.pl)) (fun x=>(x.1.m.and x.2.ok)) (fun x=>Ow.emp):=by
 refine Zo Tryz.func9 Tryz.ntmps9 fun c => ?_
 unfold Sh.sR at hS
 refine Zq (Zr ?_)
 refine VL.alloc (cs:=[.slice none 0 0,.slice none 0 0,.slice none 0 0]) (by kernel_rfl) (by decide) fun AQ => ?_
 refine Zy ?_
 refine Zq (Zq (Zr ?_))
 refine Zy ?_
 refine VL.lit (α:=Sv aD) (xs:=[.tmp 22,.tmp 23,.tmp 24]) (vs:=[pJ.val,pQ.val,iI.val]) [pJ,pQ,iI] Tryz.underlying87 aCk (by decide) rfl rfl rfl rfl (by decide) (fun h m=>List.forall_mem_cons.2 ⟨cO.out (X:=pJ.ok) h m,List.forall_mem_cons.2 ⟨cO.out (X:=pQ.ok) h m,List.forall_mem_cons.2 ⟨cO.out (X:=iI.ok) h m,fun _ h=>by cases h⟩⟩⟩) (by decide) (fun S9 aRq => ?_) (by decide)
 replace hS:=b5 (congrArg (List.map Sv.l) aRq) hS
 refine Zu (qG Sv.l (s:=S9) Tryz.underlying87 rfl) ?_
 refine Zy ?_
 refine Zb ?_
 refine VC.iter (S:=Int) (fun (C2:Int)=>C2) (fun (C2:Int)=>[(0,pJ.val),(1,pQ.val),(2,iI.val),(3,str ZN),(4,str ZU),(10,ptr AQ 0),(25,S9.val),(26,i64 ((S9.l.map Sv.l).length:Int)),(27,i64 C2)]) (fun (C2:Int)=>Mo.tt) (fun (C2:Int)=>Ow.star (bP AQ [.slice none 0 0,.slice none 0 0,.slice none 0 0] 38) (Ow.emp)) 0 [0,1,2,3,4,10,25,26,27] hS rfl ?_
 clear hS
 rintro C2 m1 y1 hS hK1
 refine Zq (Zr ?_)
 refine Zu (dL rfl rfl) ?_
 refine Zl ?_
 refine Zq ?_
 refine Zc hS (fun h28 hS => ?_) (fun h28 hS => ?_)
 ·
  refine Zk ?_
  refine Zq (Zb (Zq (Zr ?_)))
  obtain ⟨aDs,aI4,aDA,hS⟩:=IK hS
  refine VL.deep aDs.ok aDA (fun _ q=>q) ?_
  refine Zu (fM (s:=S9) Tryz.underlying87 W4 rfl rfl aI4 (bQ aI4 aDA)) ?_
  refine Zu (rH (s:=S9) iN rfl aDA rfl) ?_
  refine Zy ?_
  refine Zq (Zr ?_)
  refine Zm ?_
  obtain ⟨PS,aCh,hS⟩:=aU hS
  refine VL.cR (yH aDs aCh) rfl (by decide) ?_
  rintro GR rfl
  try dsimp only
  refine Zy ?_
  refine Zq (Zr ?_)
  refine Zm ?_
  refine Zu (nD Tryz.underlying27 rfl) ?_
  refine Zl ?_
  refine VC.keep (ρ':=[(0,pJ.val),(1,pQ.val),(2,iI.val),(3,str ZN),(4,str ZU),(10,ptr AQ 0),(25,S9.val),(26,i64 ((S9.l.map Sv.l).length:Int)),(27,i64 C2),(14,GR.val),(34,.bool (!decide (GR.pl.isNil=true)))]) [0,1,2,3,4,10,25,26,27,14,34] rfl ?_
  refine rI hS (fun h34 hS => ?_) (fun h34 hS => ?_)
  ·
   refine Zq ?_
   cases hS
  refine Zk ?_
  refine Zr ?_
  obtain ⟨b37,hS⟩:=bS hS
  refine Zu (cK rfl rfl b37) ?_
  refine Zm ?_
  refine VL.jC (C2+1) [0,1,2,3,4,10,25,26,27] (fun _ _ h=>h) (go2 hS hK1) rfl
 replace hS:=gQ hS hK1
 refine Zx ?_
 refine Zq (Zr ?_)
 refine VL.alloc (cs:=[.slice none 0 0,.slice none 0 0,.slice none 0 0]) (by kernel_rfl) (by decide) fun FU => ?_
 refine Zl ?_
 refine Zq (Zq (Zr ?_))
 refine Zy ?_
 refine VL.lit (α:=Sv aD) (xs:=[.tmp 38,.tmp 39,.tmp 40]) (vs:=[pJ.val,pQ.val,iI.val]) [pJ,pQ,iI] Tryz.underlying87 aCk (by decide) rfl rfl rfl rfl (by decide) (fun h m=>List.forall_mem_cons.2 ⟨cO.out (X:=pJ.ok) h m,List.forall_mem_cons.2 ⟨cO.out (X:=pQ.ok) h m,List.forall_mem_cons.2 ⟨cO.out (X:=iI.ok) h m,fun _ h=>by cases h⟩⟩⟩) (by decide) (fun aVG aSB => ?_) (by decide)
 replace hS:=b5 (congrArg (List.map Sv.l) aSB) hS
 obtain ⟨aDi,aLz,hS⟩:=aU hS
 refine VL.cR (MV aVG aLz) rfl (by decide) ?_
 rintro tL rfl
 try dsimp only
 refine Zu (dO (s:=tL) Tryz.underlying23 rfl) ?_
 refine Zy ?_
 refine VC.keep (ρ':=[(0,pJ.val),(1,pQ.val),(2,iI.val),(3,str ZN),(4,str ZU),(10,ptr AQ 0),(15,ptr FU 0),(42,tL.val),(43,i64 (tL.l.length:Int)),(44,i64 0)]) [0,1,2,3,4,10,15,42,43,44] rfl ?_
 refine Zb ?_
 refine VC.lR (⟨none,0,[]⟩:Sv aD) 42 ⟨rfl,rfl⟩ ?_
 refine VC.SY FU (cs':=[(⟨none,0,[]⟩:Sv aD).val,.slice none 0 0,.slice none 0 0]) rfl ?_
 refine VC.iter (S:=Int×Sv aD) (fun sg=>(sg.1,sg.2.l)) (fun sg=>[(0,pJ.val),(1,pQ.val),(2,iI.val),(3,str ZN),(4,str ZU),(10,ptr AQ 0),(15,ptr FU 0),(42,tL.val),(43,i64 (tL.l.length:Int)),(44,i64 sg.1)]) (fun sg=>Mo.tt) (fun sg=>Ow.star (bP FU [sg.2.val,.slice none 0 0,.slice none 0 0] 38) (Ow.star (bP AQ [.slice none 0 0,.slice none 0 0,.slice none 0 0] 38) (Ow.star (Sv.own sg.2 42) (Ow.emp)))) (0,(⟨none,0,[]⟩:Sv aD)) [0,1,2,3,4,10,15,42,43,44] hS rfl ?_
 clear hS
 rintro ⟨H9,FV⟩ m1 y1 hS hK1
 refine Zq (Zr ?_)
 refine Zu (dL rfl rfl) ?_
 refine Zl ?_
 refine Zq ?_
 refine Zc hS (fun h45 hS => ?_) (fun h45 hS => ?_)
 ·
  refine Zk ?_
  refine Zq (Zb (Zq (Zr ?_)))
  obtain ⟨WH,aFN,aEi,hS⟩:=e8 hS
  refine Zu (fM (s:=tL) Tryz.underlying23 o4 rfl rfl aFN (bQ aFN aEi)) ?_
  refine Zu (rH (s:=tL) dK rfl aEi rfl) ?_
  refine Zy ?_
  refine Zq (Zr ?_)
  refine Zy ?_
  obtain ⟨l6,Z8,hS⟩:=aU hS
  refine Zu (cN (aBH WH pJ pQ iI ZN ZU Z8) rfl (fun _ _=>rfl)) ?_
  refine Zm ?_
  refine Zu (bG rfl rfl) ?_
  refine Zu (bG rfl rfl) ?_
  refine Zu (bG rfl rfl) ?_
  refine VL.alloc (cs:=[str [],i64 0,str []]) (by kernel_rfl) (by decide) fun aHU => ?_
  refine Zv (vc:=[str l6.1.path,i64 l6.1.mode,str l6.1.data]) (cs':=[str l6.1.path,i64 l6.1.mode,str l6.1.data]) rfl fP ?_
  refine Zy ?_
  refine VC.keep (ρ':=[(0,pJ.val),(1,pQ.val),(2,iI.val),(3,str ZN),(4,str ZU),(10,ptr AQ 0),(15,ptr FU 0),(42,tL.val),(43,i64 (tL.l.length:Int)),(44,i64 H9),(17,str WH),(18,ptr aHU 0),(19,.bool l6.2.1),(20,.bool l6.2.2)]) [0,1,2,3,4,10,15,42,43,44,17,18,19,20] rfl ?_
  refine VC.gD (S:=Sv aD) (fun (IL:Sv aD)=>IL.l) (fun (IL:Sv aD)=>[(0,pJ.val),(1,pQ.val),(2,iI.val),(3,str ZN),(4,str ZU),(10,ptr AQ 0),(15,ptr FU 0),(17,str WH),(20,.bool l6.2.2),(42,tL.val),(43,i64 (tL.l.length:Int)),(44,i64 H9)]) (fun (IL:Sv aD)=>Mo.tt) (fun (IL:Sv aD)=>Ow.star (bP aHU [str l6.1.path,i64 l6.1.mode,str l6.1.data] 42) (Ow.star (bP FU [IL.val,.slice none 0 0,.slice none 0 0] 38) (Ow.star (bP AQ [.slice none 0 0,.slice none 0 0,.slice none 0 0] 38) (Ow.star (Sv.own IL 42) (Ow.emp))))) hS ?_ ?_
  ·
   clear hS
   intro k17 hS
   refine Zq (Zr ?_)
   refine Zy ?_
   refine iT hS (fun h59 hS => ?_) (fun h59 hS => ?_)
   ·
    refine Zr ?_
    refine Zu (aC qR rfl) ?_
    refine Zu (aT iN rfl rfl) ?_
    refine Zu (cL i7 rfl rfl) ?_
    refine VL.lit (α:=aD) (xs:=[.tmp 62]) (vs:=[.agg #[str l6.1.path,i64 l6.1.mode,str l6.1.data]]) [⟨l6.1.path,l6.1.mode,l6.1.data⟩] Tryz.underlying35 HP (by decide) rfl rfl rfl rfl (by decide) (fun _ _ _ _=>trivial) (by decide) (fun aTB aNt => ?_) (by decide)
    replace hS:=b5 aNt hS
    obtain ⟨b64,hS⟩:=bS hS
    refine VL.app (s:=FV) (r:=aTB) Tryz.underlying35 P3 (by decide) rfl Fo.out (uW b64) (uX b64 (by decide)) (by decide) (fun aD3 aNu => ?_)
    replace hS:=b5 aNu hS
    refine Zu (aC qR rfl) ?_
    refine Zv (vc:=[aD3.val]) (cs':=[aD3.val,.slice none 0 0,.slice none 0 0]) rfl W4 ?_
    refine VL.mt aD3 [0,1,2,3,4,10,15,17,20,42,43,44] (fun _ _ h=>h) hS rfl
   refine VC.fZ FV [0,1,2,3,4,10,15,17,20,42,43,44] (fun _ _ h=>h) hS rfl
  clear hS
  rintro IL hS
  refine Zq (Zr ?_)
  refine Zy ?_
  refine iT hS (fun h66 hS => ?_) (fun h66 hS => ?_)
  ·
   refine Zq ?_
   cases hS
  refine Zk ?_
  refine Zr ?_
  obtain ⟨b83,hS⟩:=bS hS
  refine Zu (cK rfl rfl b83) ?_
  refine Zm ?_
  refine VL.jC ((H9+1),IL) [0,1,2,3,4,10,15,42,43,44] (fun _ _ h=>h) (go2 hS hK1) rfl
 replace hS:=gQ hS hK1
 refine Zx ?_
 refine VC.keep (ρ':=[(10,ptr AQ 0),(15,ptr FU 0)]) [10,15] rfl ?_
 refine Zq (Zq (Zr ?_))
 refine Zu (aC qR rfl) ?_
 refine Zu (aT iN rfl rfl) ?_
 refine VL.shut FV 42 (fun _ _ _ _=>trivial) ?_
 obtain ⟨aJx,aMq,hS⟩:=aU hS
 refine VL.cR (X1 FV aMq) rfl (by decide) ?_
 rintro aVZ rfl
 try dsimp only
 refine Zy ?_
 refine Zq (Zr ?_)
 refine Zm ?_
 refine Zu (nD Tryz.underlying27 rfl) ?_
 refine Zl ?_
 refine rI hS (fun h88 hS => ?_) (fun h88 hS => ?_)
 ·
  refine Zq ?_
  cases hS
 refine Zk ?_
 refine Zq ?_
 refine VC.draw [(0,true),(1,true),(3,true),(4,true),(6,true),(7,true),(2,false),(5,false),(8,false),(9,true),(10,false),(11,true)] mixed (by kernel_rfl) (by kernel_rfl) (by kernel_rfl) ?_
 refine Zw rfl (aC qR rfl) ?_
 refine Zw rfl (aT iN rfl rfl) ?_
 refine Zw rfl (aC aEX rfl) ?_
 refine Zw rfl (aT lW rfl rfl) ?_
 refine Zw rfl (aC DL rfl) ?_
 refine Zw rfl (aT oK rfl rfl) ?_
 refine VD.one rfl ?_
 obtain ⟨aJy,aMr,hS⟩:=aU hS
 refine VL.cR (eN FV aMr) rfl (by decide) ?_
 rintro FL rfl
 try dsimp only
 refine VL.back (D':=[(7,.slice none 0 0),(6,ptr FU 2),(4,.slice none 0 0),(3,ptr FU 1)]) (by kernel_rfl) (aN.cons rfl (aT oK rfl rfl) (aN.cons rfl (aC DL rfl) (aN.cons rfl (aT lW rfl rfl) (aN.cons rfl (aC aEX rfl) (aN.nil))))) ?_
 refine VD.one rfl ?_
 obtain ⟨aJz,aMs,hS⟩:=aU hS
 refine VL.cR (fU ⟨none,0,[]⟩ aMs) rfl (by decide) ?_
 rintro FM rfl
 try dsimp only
 refine VL.back (D':=[(7,.slice none 0 0),(6,ptr FU 2)]) (by kernel_rfl) (aN.cons rfl (aT oK rfl rfl) (aN.cons rfl (aC DL rfl) (aN.nil))) ?_
 refine VD.one rfl ?_
 obtain ⟨aKA,aMt,hS⟩:=aU hS
 refine VL.cR (gG ⟨none,0,[]⟩ aMt) rfl (by decide) ?_
 rintro FN rfl
 try dsimp only
 refine VL.back (D':=[]) (by kernel_rfl) (aN.nil) ?_
 refine Zw rfl (fH (vs:=[(0,FL.val),(1,FM.val),(2,FN.val)]) (cs := #[FL.val,FM.val,FN.val]) rfl (by kernel_rfl)) ?_
 refine VD.one rfl ?_
 refine Zv (vc:=[FL.val,FM.val,FN.val]) (cs':=[FL.val,FM.val,FN.val]) rfl SF ?_
 refine VL.back (D':=[]) (by kernel_rfl) (aN.nil) ?_
 refine Zw rfl (fT rfl) ?_
 refine VD.to (fun _ _ h=>h) ?_
 refine VC.keep (ρ':=[(10,ptr AQ 0),(11,.nilIface)]) [10,11] rfl ?_
 cases hS
 exact VC.ret (jV (vs:=[.agg #[FL.val,FM.val,FN.val],.nilIface]) (.inr rfl) rfl (eW.cell A9 rfl rfl Rd.blk (eW.tmp rfl (eW.nil))) (⟨FL,FM,FN⟩,.nil) rfl rfl (by (try dsimp only); exact cO.out) (fun _ _=>trivial))
theorem EF (aB:cC) (xI:Sv aD) (iI:Sv aD) (name_3:aV) {r:bM×i6×gR} (hS:Sh.L5 aB.pl xI.l iI.l name_3=some r) :
 Ct Tryz.prog 249 [.agg (aE aB).toArray,xI.val,iI.val,str name_3] (aB.bD.ok.and (aB.aX.ok.and (aB.bK.ok.and (aB.aM.ok.and (aB.aR.ok.and (aB.aO.ok.and (aB.aS.ok.and (aB.aZ.ok.and (aB.bB.ok.and (aB.bL.ok.and (aB.bE.ok.and (xI.ok.and iI.ok)))))))))))) (Ow.emp) (X:=cC×iD×Er) (fun x => .tuple #[.agg (bO.enc x.1).toArray,.agg (bO.enc x.2.1).toArray,x.2.2.val]) (fun x=>r=(x.1.pl,x.2.1.pl,x.2.2.pl)) (fun x=>(x.1.m.and (x.2.1.m.and x.2.2.ok))) (fun x=>Ow.emp):=by
 refine Zo Tryz.func249 Tryz.ntmps249 fun c => ?_
 unfold Sh.L5 at hS
 refine Zq (Zr ?_)
 refine VL.box (cs:=(aE aB)) rfl rfl (by decide) fun uY => ?_
 refine VL.alloc (cs:=[.slice none 0 0,.slice none 0 0,.slice none 0 0,str [],i64 0,str [],i64 0,str [],.slice none 0 0,.slice none 0 0,i64 0,str [],str [],i64 0,.slice none 0 0,.slice none 0 0,.slice none 0 0,.slice none 0 0,.slice none 0 0,.slice none 0 0,i64 0]) (by kernel_rfl) (by decide) fun DG => ?_
 refine VL.alloc (cs:=[.slice none 0 0,.slice none 0 0,.slice none 0 0]) (by kernel_rfl) (by decide) fun aLT => ?_
 refine Zy ?_
 refine Zq (Zr ?_)
 refine Zm ?_
 refine Zu (cL cE rfl rfl) ?_
 obtain ⟨mQ,LA,hS⟩:=aU hS
 refine VL.cR (DC aB LA) rfl (by decide) ?_
 rintro tJ rfl
 try dsimp only
 refine Zy ?_
 obtain ⟨mX,aCa,hS⟩:=aU hS
 refine VL.cR (KE xI tJ iI [72,69,65,68] name_3 aCa) rfl (by decide) ?_
 rintro ⟨c9,aAi⟩ rfl
 try dsimp only
 refine Zm ?_
 refine Zu (bG rfl rfl) ?_
 refine Zu (bG rfl rfl) ?_
 refine VL.alloc (cs:=[.slice none 0 0,.slice none 0 0,.slice none 0 0]) (by kernel_rfl) (by decide) fun aLO => ?_
 refine Zv (vc:=[c9.files.val,c9.entries.val,c9.conflicts.val]) (cs':=[c9.files.val,c9.entries.val,c9.conflicts.val]) rfl SF ?_
 refine Zy ?_
 refine VC.keep (ρ':=[(4,ptr uY 0),(8,ptr DG 0),(9,ptr aLT 0),(11,ptr aLO 0),(12,aAi.val)]) [4,8,9,11,12] rfl ?_
 refine Zq (Zq (Zr ?_))
 refine Zm ?_
 refine Zu (nD Tryz.underlying27 rfl) ?_
 refine Zl ?_
 refine rI hS (fun h24 hS => ?_) (fun h24 hS => ?_)
 ·
  refine Zq ?_
  cases hS
 refine Zk ?_
 refine Zq (Zr ?_)
 refine Zu (cL cE rfl rfl) ?_
 refine Zu (cL A9 rfl rfl) ?_
 obtain ⟨aGx,aQl,hS⟩:=aU hS
 refine VL.cR (RF aB c9 aQl) rfl (by decide) ?_
 rintro ⟨J6,aAm⟩ rfl
 try dsimp only
 refine Zm ?_
 refine Zu (bG rfl rfl) ?_
 refine Zu (bG rfl rfl) ?_
 refine VL.alloc (cs:=[.slice none 0 0,.slice none 0 0,.slice none 0 0,str [],i64 0,str [],i64 0,str [],.slice none 0 0,.slice none 0 0,i64 0,str [],str [],i64 0,.slice none 0 0,.slice none 0 0,.slice none 0 0,.slice none 0 0,.slice none 0 0,.slice none 0 0,i64 0]) (by kernel_rfl) (by decide) fun aUF => ?_
 refine Zv (vc:=(aE J6)) (cs':=(aE J6)) rfl fR ?_
 refine Zy ?_
 refine VC.keep (ρ':=[(8,ptr DG 0),(9,ptr aLT 0),(11,ptr aLO 0),(12,aAm.val),(13,ptr aUF 0)]) [8,9,11,12,13] rfl ?_
 refine Zq ?_
 refine VC.draw [(0,true),(1,true),(2,true),(3,false),(4,false),(5,true)] mixed (by kernel_rfl) (by kernel_rfl) (by kernel_rfl) ?_
 refine Zw rfl (cL cE rfl rfl) ?_
 refine Zw rfl (cL A9 rfl rfl) ?_
 refine Zw rfl (bT rfl) ?_
 refine VD.one rfl ?_
 refine Zv (vc:=(aE J6)) (cs':=(aE J6)) rfl fR ?_
 refine VL.back (D':=[(1,.agg #[c9.files.val,c9.entries.val,c9.conflicts.val])]) (by kernel_rfl) (aN.cons rfl (cL A9 rfl rfl) (aN.nil)) ?_
 refine VD.one rfl ?_
 refine Zv (vc:=[c9.files.val,c9.entries.val,c9.conflicts.val]) (cs':=[c9.files.val,c9.entries.val,c9.conflicts.val]) rfl SF ?_
 refine VL.back (D':=[]) (by kernel_rfl) (aN.nil) ?_
 refine Zw rfl (fT rfl) ?_
 refine VD.to (fun _ _ h=>h) ?_
 cases hS
 exact VC.ret (jV (vs:=[.agg (aE J6).toArray,.agg #[c9.files.val,c9.entries.val,c9.conflicts.val],aAm.val]) (.inr rfl) rfl (eW.cell cE rfl rfl Rd.blk (eW.cell A9 rfl rfl Rd.blk (eW.tmp rfl (eW.nil)))) (J6,⟨c9.files,c9.entries,c9.conflicts⟩,aAm) rfl rfl (by (try dsimp only); exact cO.out) (fun _ _=>trivial))
end Go.Proofs.YtcenmlklkpgmnaaGreatDoor
end

section
set_option linter.unusedVariables false
namespace Go.Proofs.YtcenmlklkpgmnaaGreatDoor
set_option maxHeartbeats 40000000
set_option maxRecDepth 100000
set_option synthInstance.maxSize 2000
set_option synthInstance.maxHeartbeats 1000000
open Go.RowKit Go.V
open Go.S hiding aV
theorem aAt (aB:cC) (e7:aV) {r:bM×Bool×gR} (hS:Sh.ON aB.pl e7=some r) :
 Ct Tryz.prog 171 [.agg (aE aB).toArray,str e7] (aB.bD.ok.and (aB.aX.ok.and (aB.bK.ok.and (aB.aM.ok.and (aB.aR.ok.and (aB.aO.ok.and (aB.aS.ok.and (aB.aZ.ok.and (aB.bB.ok.and (aB.bL.ok.and aB.bE.ok)))))))))) (Ow.emp) (X:=cC×Bool×Er) (fun x => .tuple #[.agg (bO.enc x.1).toArray,.bool x.2.1,x.2.2.val]) (fun x=>r=(x.1.pl,x.2.1,x.2.2.pl)) (fun x=>(x.1.m.and x.2.2.ok)) (fun x=>Ow.emp):=by
 refine Zo Tryz.func171 Tryz.ntmps171 fun c => ?_
 unfold Sh.ON at hS
 refine Zq (Zr ?_)
 refine VL.box (cs:=(aE aB)) rfl rfl (by decide) fun eP => ?_
 refine VL.alloc (cs:=[.slice none 0 0,.slice none 0 0,.slice none 0 0,str [],i64 0,str [],i64 0,str [],.slice none 0 0,.slice none 0 0,i64 0,str [],str [],i64 0,.slice none 0 0,.slice none 0 0,.slice none 0 0,.slice none 0 0,.slice none 0 0,.slice none 0 0,i64 0]) (by kernel_rfl) (by decide) fun nA => ?_
 refine Zy ?_
 refine Zq (Zr ?_)
 refine Zu (cL cE rfl rfl) ?_
 refine Zm ?_
 obtain ⟨B5,YV,hS⟩:=aU hS
 refine Zu (cN (y5 aB e7 YV) rfl (fun _ _=>rfl)) ?_
 refine Zm ?_
 refine Zu (bG rfl rfl) ?_
 refine Zu (bG rfl rfl) ?_
 refine Zy ?_
 refine VC.keep (ρ':=[(1,str e7),(2,ptr eP 0),(4,ptr nA 0),(7,i64 B5.1),(8,.bool B5.2)]) [1,2,4,7,8] rfl ?_
 refine Zq ?_
 refine VC.draw [(0,true),(1,true),(2,true),(3,true),(4,true),(5,false),(6,true),(7,true)] mixed (by kernel_rfl) (by kernel_rfl) (by kernel_rfl) ?_
 refine Zw rfl (aC dS rfl) ?_
 refine Zw rfl (aC nM rfl) ?_
 refine Zw rfl (aC BA rfl) ?_
 refine Zw rfl (aT fG rfl rfl) ?_
 refine Zw rfl (cL cE rfl rfl) ?_
 refine VD.one rfl ?_
 obtain ⟨gE,aCe,hS⟩:=aU hS
 refine VL.cR (YS aB aCe) rfl (by decide) ?_
 rintro DY rfl
 try dsimp only
 refine VL.back (D':=[(3,i64 aB.aF),(2,ptr eP 4),(1,ptr eP 3),(0,ptr eP 0)]) (by kernel_rfl) (aN.cons rfl (aT fG rfl rfl) (aN.cons rfl (aC BA rfl) (aN.cons rfl (aC nM rfl) (aN.cons rfl (aC dS rfl) (aN.nil))))) ?_
 refine Zw rfl (fT rfl) ?_
 refine Zw rfl (fT rfl) ?_
 refine VD.to (fun _ _ h=>h) ?_
 refine Zq (Zb (Zq (Zr ?_)))
 refine Zm ?_
 refine Zu (lN rfl) ?_
 refine Zy ?_
 refine VC.keep (ρ':=[(1,str e7),(2,ptr eP 0),(4,ptr nA 0),(7,i64 B5.1),(9,i64 aB.aF),(10,DY.val),(27,.bool (!B5.2))]) [1,2,4,7,9,10,27] rfl ?_
 refine iT hS (fun h27 hS => ?_) (fun h27 hS => ?_)
 ·
  refine Zq ?_
  cases hS
 refine Zq (Zr ?_)
 refine Zm ?_
 refine Zu (hU rfl rfl) ?_
 refine Zy ?_
 refine Zc hS (fun h32 hS => ?_) (fun h32 hS => ?_)
 ·
  refine Zq ?_
  cases hS
 refine Zq (Zr ?_)
 refine Zu (cL cE rfl rfl) ?_
 obtain ⟨aHB,aQw,hS⟩:=aU hS
 refine Zu (cN (aAr aB aQw) rfl (fun _ _=>rfl)) ?_
 refine Zu (lN rfl) ?_
 refine Zy ?_
 refine VC.keep (ρ':=[(1,str e7),(2,ptr eP 0),(4,ptr nA 0),(7,i64 B5.1),(9,i64 aB.aF),(10,DY.val),(37,.bool (!aHB))]) [1,2,4,7,9,10,37] rfl ?_
 refine iT hS (fun h37 hS => ?_) (fun h37 hS => ?_)
 ·
  refine Zq ?_
  cases hS
 refine Zk ?_
 refine Zq (Zr ?_)
 refine Zu (aC dS rfl) ?_
 refine Zu (aC j4 rfl) ?_
 refine Zu (aT rW rfl rfl) ?_
 refine Zm ?_
 obtain ⟨p7,aIg,aIC,hS⟩:=e8 hS
 refine Zu (fM (s:=aB.bK) Tryz.underlying45 nO rfl rfl aIg (bQ aIg aIC)) ?_
 refine Zu (aC P5 rfl) ?_
 refine Zu (XT (s:=aB.bK) fG rfl aIC rfl) ?_
 refine Zy ?_
 refine VC.keep (ρ':=[(1,str e7),(2,ptr eP 0),(4,ptr nA 0),(9,i64 aB.aF),(10,DY.val),(11,i64 p7.c8)]) [1,2,4,9,10,11] rfl ?_
 refine Zq (Zq (Zr ?_))
 refine Zy ?_
 obtain ⟨aPg,aRI,hS⟩:=aU hS
 refine Zu (cN (GC DY p7.c8 aB.aF aRI) rfl (fun _ _=>rfl)) ?_
 refine Zl ?_
 refine iT hS (fun h53 hS => ?_) (fun h53 hS => ?_)
 ·
  refine Zq ?_
  cases hS
 refine Zk ?_
 refine Zq (Zr ?_)
 refine Zu (cL cE rfl rfl) ?_
 refine Zm ?_
 obtain ⟨aPh,aRJ,hS⟩:=aU hS
 refine VL.cR (w9 aB p7.c8 aRJ) rfl (by decide) ?_
 rintro VK rfl
 try dsimp only
 refine Zy ?_
 refine VC.keep (ρ':=[(1,str e7),(2,ptr eP 0),(4,ptr nA 0),(9,i64 aB.aF),(10,DY.val),(11,i64 p7.c8),(12,VK.val)]) [1,2,4,9,10,11,12] rfl ?_
 refine Zq (Zq (Zr ?_))
 refine Zy ?_
 obtain ⟨aPi,aRL,hS⟩:=aU hS
 refine Zu (cN (GC DY aB.aF p7.c8 aRL) rfl (fun _ _=>rfl)) ?_
 refine Zl ?_
 refine iT hS (fun h62 hS => ?_) (fun h62 hS => ?_)
 ·
  refine Zq (Zq ?_)
  cases hS
 refine Zk ?_
 refine Zq ?_
 refine VC.aC1 (n:=10) (listed := #[true,true,true,true,true,true,false,true,true,false,false,false,false,false,false,false,false,false]) [(0,true),(1,true),(2,true),(3,true),(4,true),(5,true),(7,true),(8,true)] mixed (by kernel_rfl) (by kernel_rfl) (by kernel_rfl) (by kernel_rfl) ?_
 refine VD.q rfl (cL cE rfl rfl) (by decide) ?_
 refine VD.q rfl (cL cE rfl rfl) (by decide) ?_
 refine VD.q rfl (bT rfl) (by decide) ?_
 refine VD.q rfl (bT rfl) (by decide) ?_
 refine VD.q rfl (bT rfl) (by decide) ?_
 obtain ⟨WE,aEQ,hS⟩:=aU hS
 refine VD.q rfl (cN (DP DY aB.aF p7.c8 aEQ) rfl (fun _ _=>rfl)) (by decide) ?_
 refine VD.q rfl (bT rfl) (by decide) ?_
 refine VD.q rfl (bT rfl) (by decide) ?_
 obtain ⟨aJw,aER,hS⟩:=aU hS
 obtain ⟨QT,Z9,hS⟩:=aU hS
 refine VD.toG fun hcl => ?_
 refine VG.fork (l:=[6,14]) (n:=9) (by kernel_rfl) rfl fun i hi => ?_
 obtain rfl | rfl:i=6∨i=14:=by simpa using hi
 ·
  refine NG.of rfl ?_
  refine VL.cR (w9 aB WE aER) rfl (by decide) ?_
  rintro HW rfl
  try dsimp only
  refine VL.AU (D':=[(0,.agg (aE aB).toArray)]) (listed' := #[true,true,true,true,true,true,true,true,true,false,false,false,false,false,false,false,false,false]) (aN.cons rfl (cL cE rfl rfl) (aN.nil)) (by kernel_rfl) (by kernel_rfl) ?_
  refine VG.fork (l:=[9,14]) (n:=8) (by kernel_rfl) rfl fun i hi => ?_
  obtain rfl | rfl:i=9∨i=14:=by simpa using hi
  ·
   refine NG.of rfl ?_
   refine VL.cR (EF aB HW VK e7 Z9) rfl (by decide) ?_
   rintro ⟨kM,dQ,nC⟩ rfl
   try dsimp only
   refine VL.AU (D':=[]) (listed' := #[true,true,true,true,true,true,true,true,true,true,false,false,false,false,false,false,false,false]) (aN.nil) (by kernel_rfl) (by kernel_rfl) ?_
   refine VG.ord [(10,true),(11,true),(12,true),(13,true),(14,false),(15,false),(16,false),(17,true)] (by kernel_rfl) (qP (by kernel_rfl)) (by kernel_rfl) ?_
   refine Zw rfl (bT rfl) ?_
   refine Zw rfl (bG rfl rfl) ?_
   refine Zw rfl (bG rfl rfl) ?_
   refine Zw rfl (bG rfl rfl) ?_
   refine VD.one rfl ?_
   refine VL.alloc (cs:=[.slice none 0 0,.slice none 0 0,.slice none 0 0]) (by kernel_rfl) (by decide) fun AB => ?_
   refine VL.back (D':=[(13,nC.val),(12,.agg #[dQ.files.val,dQ.entries.val,dQ.conflicts.val]),(11,.agg (aE kM).toArray),(10,.tuple #[.agg (aE kM).toArray,.agg #[dQ.files.val,dQ.entries.val,dQ.conflicts.val],nC.val])]) (by kernel_rfl) (aN.cons rfl (bG rfl rfl) (aN.cons rfl (bG rfl rfl) (aN.cons rfl (bG rfl rfl) (aN.cons rfl (bT rfl) (aN.nil))))) ?_
   refine VD.one rfl ?_
   refine Zv (vc:=(aE kM)) (cs':=(aE kM)) rfl fR ?_
   refine VL.back (D':=[(13,nC.val),(12,.agg #[dQ.files.val,dQ.entries.val,dQ.conflicts.val])]) (by kernel_rfl) (aN.cons rfl (bG rfl rfl) (aN.cons rfl (bG rfl rfl) (aN.nil))) ?_
   refine VD.one rfl ?_
   refine Zv (vc:=[dQ.files.val,dQ.entries.val,dQ.conflicts.val]) (cs':=[dQ.files.val,dQ.entries.val,dQ.conflicts.val]) rfl SF ?_
   refine VL.back (D':=[(13,nC.val)]) (by kernel_rfl) (aN.cons rfl (bG rfl rfl) (aN.nil)) ?_
   refine Zw rfl (fT rfl) ?_
   refine VD.to (fun _ _ h=>h) ?_
   refine VC.keep (ρ':=[(1,str e7),(2,ptr eP 0),(4,ptr nA 0),(9,i64 aB.aF),(11,i64 p7.c8),(13,ptr AB 0),(6,nC.val)]) [1,2,4,9,11,13,6] rfl ?_
   refine Zq (Zr ?_)
   refine Zm ?_
   obtain ⟨b92,hS⟩:=bS hS
   obtain ⟨DE,NN,hS⟩:=AF hS
   refine Zu (QG rfl rfl b92 NN) ?_
   refine Zy ?_
   refine Zq (Zb (Zq (Zr ?_)))
   refine Zm ?_
   refine Zu (nD Tryz.underlying27 rfl) ?_
   refine Zy ?_
   refine rI hS (fun h93 hS => ?_) (fun h93 hS => ?_)
   ·
    refine Zq ?_
    cases hS
   refine Zq (Zr ?_)
   refine Zu (aC DL rfl) ?_
   refine Zu (aT oK rfl rfl) ?_
   refine Zu (dO (s:=dQ.conflicts) Tryz.underlying23 rfl) ?_
   refine Zu (jF rfl rfl) ?_
   refine Zy ?_
   refine VC.keep (ρ':=[(2,ptr eP 0),(4,ptr nA 0),(9,i64 aB.aF),(11,i64 p7.c8),(13,ptr AB 0),(14,str DE),(98,.bool (decide (0 < (dQ.conflicts.l.length:Int))))]) [2,4,9,11,13,14,98] rfl ?_
   refine Zc hS (fun h98 hS => ?_) (fun h98 hS => ?_)
   ·
    refine Zq ?_
    cases hS
   refine Zq (Zr ?_)
   refine Zu (cL cE rfl rfl) ?_
   obtain ⟨V4,JM,hS⟩:=aU hS
   refine Zu (cN (DD kM JM) rfl (fun _ _=>rfl)) ?_
   refine Zu (lN rfl) ?_
   refine Zy ?_
   refine iT hS (fun h111 hS => ?_) (fun h111 hS => ?_)
   ·
    refine Zq ?_
    cases hS
   refine Zk ?_
   refine Zq (Zr ?_)
   refine Zu (cL cE rfl rfl) ?_
   refine Zu (aC qR rfl) ?_
   refine Zu (aT iN rfl rfl) ?_
   refine Zy ?_
   refine VL.lit (α:=Int) (xs:=[.tmp 120,.tmp 121]) (vs:=[i64 aB.aF,i64 p7.c8]) [aB.aF,p7.c8] Tryz.underlying65 oI (by decide) rfl rfl rfl rfl (by decide) (fun _ _ _ _=>trivial) (by decide) (fun OQ JR => ?_) (by decide)
   replace hS:=b5 JR hS
   refine Zm ?_
   obtain ⟨V5,JN,hS⟩:=aU hS
   refine VL.cR (vI kM dQ.files OQ DE JN) rfl (by decide) ?_
   rintro nQ rfl
   try dsimp only
   refine Zv (vc:=(aE nQ)) (cs':=(aE nQ)) rfl fR ?_
   refine Zy ?_
   refine VC.keep (ρ':=[(4,ptr nA 0),(5,.bool false),(6,.nilIface)]) [4,5,6] rfl ?_
   cases hS
   exact VC.ret (jV (vs:=[.agg (aE nQ).toArray,.bool false,.nilIface]) (.inr rfl) rfl (eW.cell cE rfl rfl Rd.blk (eW.tmp rfl (eW.tmp rfl (eW.nil)))) (nQ,false,.nil) rfl rfl (by (try dsimp only); exact cO.out) (fun _ _=>trivial))
  refine NG.of rfl ?_
  refine VL.alloc (cs:=[.slice none 0 0,.slice none 0 0,.slice none 0 0]) (by kernel_rfl) (by decide) fun AB => ?_
  refine VL.AU (D':=[(0,.agg (aE aB).toArray)]) (listed' := #[true,true,true,true,true,true,true,true,true,false,false,false,false,false,true,false,false,false]) (aN.cons rfl (cL cE rfl rfl) (aN.nil)) (by kernel_rfl) (by kernel_rfl) ?_
  refine VG.ord [(9,false),(10,true),(11,true),(12,true),(13,true),(15,false),(16,false),(17,true)] (by kernel_rfl) (qP (by kernel_rfl)) (by kernel_rfl) ?_
  refine VD.one rfl ?_
  refine VL.cR (EF aB HW VK e7 Z9) rfl (by decide) ?_
  rintro ⟨kM,dQ,nC⟩ rfl
  try dsimp only
  refine VL.back (D':=[]) (by kernel_rfl) (aN.nil) ?_
  refine Zw rfl (bT rfl) ?_
  refine Zw rfl (bG rfl rfl) ?_
  refine Zw rfl (bG rfl rfl) ?_
  refine Zw rfl (bG rfl rfl) ?_
  refine VD.one rfl ?_
  refine Zv (vc:=(aE kM)) (cs':=(aE kM)) rfl fR ?_
  refine VL.back (D':=[(13,nC.val),(12,.agg #[dQ.files.val,dQ.entries.val,dQ.conflicts.val])]) (by kernel_rfl) (aN.cons rfl (bG rfl rfl) (aN.cons rfl (bG rfl rfl) (aN.nil))) ?_
  refine VD.one rfl ?_
  refine Zv (vc:=[dQ.files.val,dQ.entries.val,dQ.conflicts.val]) (cs':=[dQ.files.val,dQ.entries.val,dQ.conflicts.val]) rfl SF ?_
  refine VL.back (D':=[(13,nC.val)]) (by kernel_rfl) (aN.cons rfl (bG rfl rfl) (aN.nil)) ?_
  refine Zw rfl (fT rfl) ?_
  refine VD.to (fun _ _ h=>h) ?_
  refine VC.keep (ρ':=[(1,str e7),(2,ptr eP 0),(4,ptr nA 0),(9,i64 aB.aF),(11,i64 p7.c8),(13,ptr AB 0),(6,nC.val)]) [1,2,4,9,11,13,6] rfl ?_
  refine Zq (Zr ?_)
  refine Zm ?_
  obtain ⟨b92,hS⟩:=bS hS
  obtain ⟨DE,NN,hS⟩:=AF hS
  refine Zu (QG rfl rfl b92 NN) ?_
  refine Zy ?_
  refine Zq (Zb (Zq (Zr ?_)))
  refine Zm ?_
  refine Zu (nD Tryz.underlying27 rfl) ?_
  refine Zy ?_
  refine rI hS (fun h93 hS => ?_) (fun h93 hS => ?_)
  ·
   refine Zq ?_
   cases hS
  refine Zq (Zr ?_)
  refine Zu (aC DL rfl) ?_
  refine Zu (aT oK rfl rfl) ?_
  refine Zu (dO (s:=dQ.conflicts) Tryz.underlying23 rfl) ?_
  refine Zu (jF rfl rfl) ?_
  refine Zy ?_
  refine VC.keep (ρ':=[(2,ptr eP 0),(4,ptr nA 0),(9,i64 aB.aF),(11,i64 p7.c8),(13,ptr AB 0),(14,str DE),(98,.bool (decide (0 < (dQ.conflicts.l.length:Int))))]) [2,4,9,11,13,14,98] rfl ?_
  refine Zc hS (fun h98 hS => ?_) (fun h98 hS => ?_)
  ·
   refine Zq ?_
   cases hS
  refine Zq (Zr ?_)
  refine Zu (cL cE rfl rfl) ?_
  obtain ⟨V4,JM,hS⟩:=aU hS
  refine Zu (cN (DD kM JM) rfl (fun _ _=>rfl)) ?_
  refine Zu (lN rfl) ?_
  refine Zy ?_
  refine iT hS (fun h111 hS => ?_) (fun h111 hS => ?_)
  ·
   refine Zq ?_
   cases hS
  refine Zk ?_
  refine Zq (Zr ?_)
  refine Zu (cL cE rfl rfl) ?_
  refine Zu (aC qR rfl) ?_
  refine Zu (aT iN rfl rfl) ?_
  refine Zy ?_
  refine VL.lit (α:=Int) (xs:=[.tmp 120,.tmp 121]) (vs:=[i64 aB.aF,i64 p7.c8]) [aB.aF,p7.c8] Tryz.underlying65 oI (by decide) rfl rfl rfl rfl (by decide) (fun _ _ _ _=>trivial) (by decide) (fun OQ JR => ?_) (by decide)
  replace hS:=b5 JR hS
  refine Zm ?_
  obtain ⟨V5,JN,hS⟩:=aU hS
  refine VL.cR (vI kM dQ.files OQ DE JN) rfl (by decide) ?_
  rintro nQ rfl
  try dsimp only
  refine Zv (vc:=(aE nQ)) (cs':=(aE nQ)) rfl fR ?_
  refine Zy ?_
  refine VC.keep (ρ':=[(4,ptr nA 0),(5,.bool false),(6,.nilIface)]) [4,5,6] rfl ?_
  cases hS
  exact VC.ret (jV (vs:=[.agg (aE nQ).toArray,.bool false,.nilIface]) (.inr rfl) rfl (eW.cell cE rfl rfl Rd.blk (eW.tmp rfl (eW.tmp rfl (eW.nil)))) (nQ,false,.nil) rfl rfl (by (try dsimp only); exact cO.out) (fun _ _=>trivial))
 refine NG.of rfl ?_
 refine VL.alloc (cs:=[.slice none 0 0,.slice none 0 0,.slice none 0 0]) (by kernel_rfl) (by decide) fun AB => ?_
 refine VL.AU (D':=[(5,i64 WE),(1,.agg (aE aB).toArray),(0,.agg (aE aB).toArray)]) (listed' := #[true,true,true,true,true,true,false,true,true,false,false,false,false,false,true,false,false,false]) (aN.cons rfl (cN (DP DY aB.aF p7.c8 aEQ) rfl (fun _ _=>rfl)) (aN.cons rfl (cL cE rfl rfl) (aN.cons rfl (cL cE rfl rfl) (aN.nil)))) (by kernel_rfl) (by kernel_rfl) ?_
 refine VG.ord [(6,false),(9,false),(10,true),(11,true),(12,true),(13,true),(15,false),(16,false),(17,true)] (by kernel_rfl) (qP (by kernel_rfl)) (by kernel_rfl) ?_
 refine VD.one rfl ?_
 refine VL.cR (w9 aB WE aER) rfl (by decide) ?_
 rintro HW rfl
 try dsimp only
 refine VL.back (D':=[(0,.agg (aE aB).toArray)]) (by kernel_rfl) (aN.cons rfl (cL cE rfl rfl) (aN.nil)) ?_
 refine VD.one rfl ?_
 refine VL.cR (EF aB HW VK e7 Z9) rfl (by decide) ?_
 rintro ⟨kM,dQ,nC⟩ rfl
 try dsimp only
 refine VL.back (D':=[]) (by kernel_rfl) (aN.nil) ?_
 refine Zw rfl (bT rfl) ?_
 refine Zw rfl (bG rfl rfl) ?_
 refine Zw rfl (bG rfl rfl) ?_
 refine Zw rfl (bG rfl rfl) ?_
 refine VD.one rfl ?_
 refine Zv (vc:=(aE kM)) (cs':=(aE kM)) rfl fR ?_
 refine VL.back (D':=[(13,nC.val),(12,.agg #[dQ.files.val,dQ.entries.val,dQ.conflicts.val])]) (by kernel_rfl) (aN.cons rfl (bG rfl rfl) (aN.cons rfl (bG rfl rfl) (aN.nil))) ?_
 refine VD.one rfl ?_
 refine Zv (vc:=[dQ.files.val,dQ.entries.val,dQ.conflicts.val]) (cs':=[dQ.files.val,dQ.entries.val,dQ.conflicts.val]) rfl SF ?_
 refine VL.back (D':=[(13,nC.val)]) (by kernel_rfl) (aN.cons rfl (bG rfl rfl) (aN.nil)) ?_
 refine Zw rfl (fT rfl) ?_
 refine VD.to (fun _ _ h=>h) ?_
 refine VC.keep (ρ':=[(1,str e7),(2,ptr eP 0),(4,ptr nA 0),(9,i64 aB.aF),(11,i64 p7.c8),(13,ptr AB 0),(6,nC.val)]) [1,2,4,9,11,13,6] rfl ?_
 refine Zq (Zr ?_)
 refine Zm ?_
 obtain ⟨b92,hS⟩:=bS hS
 obtain ⟨DE,NN,hS⟩:=AF hS
 refine Zu (QG rfl rfl b92 NN) ?_
 refine Zy ?_
 refine Zq (Zb (Zq (Zr ?_)))
 refine Zm ?_
 refine Zu (nD Tryz.underlying27 rfl) ?_
 refine Zy ?_
 refine rI hS (fun h93 hS => ?_) (fun h93 hS => ?_)
 ·
  refine Zq ?_
  cases hS
 refine Zq (Zr ?_)
 refine Zu (aC DL rfl) ?_
 refine Zu (aT oK rfl rfl) ?_
 refine Zu (dO (s:=dQ.conflicts) Tryz.underlying23 rfl) ?_
 refine Zu (jF rfl rfl) ?_
 refine Zy ?_
 refine VC.keep (ρ':=[(2,ptr eP 0),(4,ptr nA 0),(9,i64 aB.aF),(11,i64 p7.c8),(13,ptr AB 0),(14,str DE),(98,.bool (decide (0 < (dQ.conflicts.l.length:Int))))]) [2,4,9,11,13,14,98] rfl ?_
 refine Zc hS (fun h98 hS => ?_) (fun h98 hS => ?_)
 ·
  refine Zq ?_
  cases hS
 refine Zq (Zr ?_)
 refine Zu (cL cE rfl rfl) ?_
 obtain ⟨V4,JM,hS⟩:=aU hS
 refine Zu (cN (DD kM JM) rfl (fun _ _=>rfl)) ?_
 refine Zu (lN rfl) ?_
 refine Zy ?_
 refine iT hS (fun h111 hS => ?_) (fun h111 hS => ?_)
 ·
  refine Zq ?_
  cases hS
 refine Zk ?_
 refine Zq (Zr ?_)
 refine Zu (cL cE rfl rfl) ?_
 refine Zu (aC qR rfl) ?_
 refine Zu (aT iN rfl rfl) ?_
 refine Zy ?_
 refine VL.lit (α:=Int) (xs:=[.tmp 120,.tmp 121]) (vs:=[i64 aB.aF,i64 p7.c8]) [aB.aF,p7.c8] Tryz.underlying65 oI (by decide) rfl rfl rfl rfl (by decide) (fun _ _ _ _=>trivial) (by decide) (fun OQ JR => ?_) (by decide)
 replace hS:=b5 JR hS
 refine Zm ?_
 obtain ⟨V5,JN,hS⟩:=aU hS
 refine VL.cR (vI kM dQ.files OQ DE JN) rfl (by decide) ?_
 rintro nQ rfl
 try dsimp only
 refine Zv (vc:=(aE nQ)) (cs':=(aE nQ)) rfl fR ?_
 refine Zy ?_
 refine VC.keep (ρ':=[(4,ptr nA 0),(5,.bool false),(6,.nilIface)]) [4,5,6] rfl ?_
 cases hS
 exact VC.ret (jV (vs:=[.agg (aE nQ).toArray,.bool false,.nilIface]) (.inr rfl) rfl (eW.cell cE rfl rfl Rd.blk (eW.tmp rfl (eW.tmp rfl (eW.nil)))) (nQ,false,.nil) rfl rfl (by (try dsimp only); exact cO.out) (fun _ _=>trivial))
theorem aBd (aB:cC) (dU:pI) {r:bM×Bool×gR} (hS:Sh.S1 aB.pl dU.pl=some r) :
 Ct Tryz.prog 103 [.agg (aE aB).toArray,.agg #[str dU.verb,str dU.name,i64 dU.n,str dU.text,.bool dU.force,dU.todo.val]] (aB.bD.ok.and (aB.aX.ok.and (aB.bK.ok.and (aB.aM.ok.and (aB.aR.ok.and (aB.aO.ok.and (aB.aS.ok.and (aB.aZ.ok.and (aB.bB.ok.and (aB.bL.ok.and (aB.bE.ok.and dU.todo.ok))))))))))) (Ow.emp) (X:=cC×Bool×Er) (fun x => .tuple #[.agg (bO.enc x.1).toArray,.bool x.2.1,x.2.2.val]) (fun x=>r=(x.1.pl,x.2.1,x.2.2.pl)) (fun x=>(x.1.m.and x.2.2.ok)) (fun x=>Ow.emp):=by
 refine Zo Tryz.func103 Tryz.ntmps103 fun c => ?_
 unfold Sh.S1 at hS
 refine Zq (Zr ?_)
 refine VL.box (cs:=(aE aB)) rfl rfl (by decide) fun eP => ?_
 refine VL.box (cs:=[str dU.verb,str dU.name,i64 dU.n,str dU.text,.bool dU.force,dU.todo.val]) rfl rfl (by decide) fun jX => ?_
 refine VL.alloc (cs:=[.slice none 0 0,.slice none 0 0,.slice none 0 0,str [],i64 0,str [],i64 0,str [],.slice none 0 0,.slice none 0 0,i64 0,str [],str [],i64 0,.slice none 0 0,.slice none 0 0,.slice none 0 0,.slice none 0 0,.slice none 0 0,.slice none 0 0,i64 0]) (by kernel_rfl) (by decide) fun mT => ?_
 refine Zy ?_
 refine VC.gD (S:=Er×Sv aD×Sv aK×Sv eG×aV×Int×aV×Int×aV×Sv cT×Sv cT×Int×aV×aV×Int×Sv aK×Sv aD×Sv dR×Sv cD×Sv aV×Sv aV×Int) (fun sg=>(sg.1.pl,sg.2.1.l,sg.2.2.1.l,sg.2.2.2.1.l,sg.2.2.2.2.1,sg.2.2.2.2.2.1,sg.2.2.2.2.2.2.1,sg.2.2.2.2.2.2.2.1,sg.2.2.2.2.2.2.2.2.1,sg.2.2.2.2.2.2.2.2.2.1.l,sg.2.2.2.2.2.2.2.2.2.2.1.l,sg.2.2.2.2.2.2.2.2.2.2.2.1,sg.2.2.2.2.2.2.2.2.2.2.2.2.1,sg.2.2.2.2.2.2.2.2.2.2.2.2.2.1,sg.2.2.2.2.2.2.2.2.2.2.2.2.2.2.1,sg.2.2.2.2.2.2.2.2.2.2.2.2.2.2.2.1.l,sg.2.2.2.2.2.2.2.2.2.2.2.2.2.2.2.2.1.l,(sg.2.2.2.2.2.2.2.2.2.2.2.2.2.2.2.2.2.1.l.map dR.pl),(sg.2.2.2.2.2.2.2.2.2.2.2.2.2.2.2.2.2.2.1.l.map cD.pl),sg.2.2.2.2.2.2.2.2.2.2.2.2.2.2.2.2.2.2.2.1.l,sg.2.2.2.2.2.2.2.2.2.2.2.2.2.2.2.2.2.2.2.2.1.l,sg.2.2.2.2.2.2.2.2.2.2.2.2.2.2.2.2.2.2.2.2.2)) (fun sg=>[(4,ptr mT 0),(6,sg.1.val)]) (fun sg=>(sg.1.ok.and (sg.2.1.ok.and (sg.2.2.1.ok.and (sg.2.2.2.1.ok.and (sg.2.2.2.2.2.2.2.2.2.1.ok.and (sg.2.2.2.2.2.2.2.2.2.2.1.ok.and (sg.2.2.2.2.2.2.2.2.2.2.2.2.2.2.2.1.ok.and (sg.2.2.2.2.2.2.2.2.2.2.2.2.2.2.2.2.1.ok.and (sg.2.2.2.2.2.2.2.2.2.2.2.2.2.2.2.2.2.1.ok.and (sg.2.2.2.2.2.2.2.2.2.2.2.2.2.2.2.2.2.2.1.ok.and (sg.2.2.2.2.2.2.2.2.2.2.2.2.2.2.2.2.2.2.2.1.ok.and sg.2.2.2.2.2.2.2.2.2.2.2.2.2.2.2.2.2.2.2.2.1.ok)))))))))))) (fun sg=>Ow.star (bP mT [sg.2.1.val,sg.2.2.1.val,sg.2.2.2.1.val,str sg.2.2.2.2.1,i64 sg.2.2.2.2.2.1,str sg.2.2.2.2.2.2.1,i64 sg.2.2.2.2.2.2.2.1,str sg.2.2.2.2.2.2.2.2.1,sg.2.2.2.2.2.2.2.2.2.1.val,sg.2.2.2.2.2.2.2.2.2.2.1.val,i64 sg.2.2.2.2.2.2.2.2.2.2.2.1,str sg.2.2.2.2.2.2.2.2.2.2.2.2.1,str sg.2.2.2.2.2.2.2.2.2.2.2.2.2.1,i64 sg.2.2.2.2.2.2.2.2.2.2.2.2.2.2.1,sg.2.2.2.2.2.2.2.2.2.2.2.2.2.2.2.1.val,sg.2.2.2.2.2.2.2.2.2.2.2.2.2.2.2.2.1.val,sg.2.2.2.2.2.2.2.2.2.2.2.2.2.2.2.2.2.1.val,sg.2.2.2.2.2.2.2.2.2.2.2.2.2.2.2.2.2.2.1.val,sg.2.2.2.2.2.2.2.2.2.2.2.2.2.2.2.2.2.2.2.1.val,sg.2.2.2.2.2.2.2.2.2.2.2.2.2.2.2.2.2.2.2.2.1.val,i64 sg.2.2.2.2.2.2.2.2.2.2.2.2.2.2.2.2.2.2.2.2.2] 59) (Ow.star (bP jX [str dU.verb,str dU.name,i64 dU.n,str dU.text,.bool dU.force,dU.todo.val] 101) (Ow.star (bP eP (aE aB) 59) (Ow.emp)))) hS ?_ ?_
 ·
  clear hS
  intro k26 hS
  refine Zq (Zr ?_)
  refine Zu (aC pN rfl) ?_
  refine Zu (aT dK rfl rfl) ?_
  refine Zl ?_
  refine Zb (Zq (Zb ?_))
  refine VC.gD (S:=Unit) (fun (_:Unit)=>()) (fun (_:Unit)=>[(2,ptr eP 0),(3,ptr jX 0),(4,ptr mT 0)]) (fun (_:Unit)=>Mo.tt) (fun (_:Unit)=>Ow.star (bP mT [.slice none 0 0,.slice none 0 0,.slice none 0 0,str [],i64 0,str [],i64 0,str [],.slice none 0 0,.slice none 0 0,i64 0,str [],str [],i64 0,.slice none 0 0,.slice none 0 0,.slice none 0 0,.slice none 0 0,.slice none 0 0,.slice none 0 0,i64 0] 59) (Ow.star (bP jX [str dU.verb,str dU.name,i64 dU.n,str dU.text,.bool dU.force,dU.todo.val] 101) (Ow.star (bP eP (aE aB) 59) (Ow.emp)))) hS ?_ ?_
  ·
   clear hS
   intro k27 hS
   refine Zb (Zb ?_)
   refine VC.gD (S:=Unit) (fun (_:Unit)=>()) (fun (_:Unit)=>[(2,ptr eP 0),(3,ptr jX 0),(4,ptr mT 0)]) (fun (_:Unit)=>Mo.tt) (fun (_:Unit)=>Ow.star (bP mT [.slice none 0 0,.slice none 0 0,.slice none 0 0,str [],i64 0,str [],i64 0,str [],.slice none 0 0,.slice none 0 0,i64 0,str [],str [],i64 0,.slice none 0 0,.slice none 0 0,.slice none 0 0,.slice none 0 0,.slice none 0 0,.slice none 0 0,i64 0] 59) (Ow.star (bP jX [str dU.verb,str dU.name,i64 dU.n,str dU.text,.bool dU.force,dU.todo.val] 101) (Ow.star (bP eP (aE aB) 59) (Ow.emp)))) hS ?_ ?_
   ·
    clear hS
    intro k28 hS
    refine Zb (Zb (Zq (Zb (Zq (Zb (Zq (Zb (Zq (Zb (Zq (Zb (Zq (Zb (Zq (Zb (Zq (Zq (Zq (Zr ?_)))))))))))))))))))
    refine Zy ?_
    refine Zc hS (fun h9 hS => ?_) (fun h9 hS => ?_)
    ·
     refine Zx ?_
     refine VC.keep (ρ':=[(2,ptr eP 0),(3,ptr jX 0),(4,ptr mT 0)]) [2,3,4] rfl ?_
     refine Zq (Zr ?_)
     refine Zu (cL cE rfl rfl) ?_
     refine Zu (aC oE rfl) ?_
     refine Zu (aT dK rfl rfl) ?_
     obtain ⟨nZ,aLo,hS⟩:=aU hS
     refine VL.cR (YM aB dU.name aLo) rfl (by decide) ?_
     rintro ⟨jO,aCB⟩ rfl
     try dsimp only
     refine Zm ?_
     refine Zu (bG rfl rfl) ?_
     refine Zu (bG rfl rfl) ?_
     refine Zv (vc:=(aE jO)) (cs':=(aE jO)) rfl fR ?_
     refine Zy ?_
     refine VC.keep (ρ':=[(4,ptr mT 0),(6,aCB.val)]) [4,6] rfl ?_
     refine VC.eM (aCB,jO.bD,jO.aX,jO.bK,jO.aP,jO.aF,jO.bC,jO.bA,jO.bJ,jO.aM,jO.aR,jO.bI,jO.aW,jO.aI,jO.aJ,jO.aO,jO.aS,jO.aZ,jO.bB,jO.bL,jO.bE,jO.time) [4,6] (fun _ _ h=>h) hS rfl
    refine Zk ?_
    refine VC.keep (ρ':=[(2,ptr eP 0),(3,ptr jX 0),(4,ptr mT 0),(8,str dU.verb)]) [2,3,4,8] rfl ?_
    refine Zq (Zq (Zr ?_))
    refine Zy ?_
    refine Zc hS (fun h11 hS => ?_) (fun h11 hS => ?_)
    ·
     refine Zx ?_
     refine Zq ?_
     cases hS
    refine Zk ?_
    refine Zq (Zq (Zr ?_))
    refine Zy ?_
    refine Zc hS (fun h13 hS => ?_) (fun h13 hS => ?_)
    ·
     refine Zx ?_
     refine Zq (Zr ?_)
     refine Zu (cL cE rfl rfl) ?_
     refine Zu (cL oY rfl rfl) ?_
     obtain ⟨oA,aMI,hS⟩:=aU hS
     refine VL.cR (YN aB dU aMI) rfl (by decide) ?_
     rintro ⟨jQ,aCD⟩ rfl
     try dsimp only
     refine Zm ?_
     refine Zu (bG rfl rfl) ?_
     refine Zu (bG rfl rfl) ?_
     refine Zv (vc:=(aE jQ)) (cs':=(aE jQ)) rfl fR ?_
     refine Zy ?_
     refine VC.keep (ρ':=[(4,ptr mT 0),(6,aCD.val)]) [4,6] rfl ?_
     refine VC.eM (aCD,jQ.bD,jQ.aX,jQ.bK,jQ.aP,jQ.aF,jQ.bC,jQ.bA,jQ.bJ,jQ.aM,jQ.aR,jQ.bI,jQ.aW,jQ.aI,jQ.aJ,jQ.aO,jQ.aS,jQ.aZ,jQ.bB,jQ.bL,jQ.bE,jQ.time) [4,6] (fun _ _ h=>h) hS rfl
    refine Zk ?_
    refine Zq (Zq (Zr ?_))
    refine Zy ?_
    refine Zc hS (fun h15 hS => ?_) (fun h15 hS => ?_)
    ·
     refine Zx ?_
     refine Zq ?_
     cases hS
    refine Zk ?_
    refine Zq (Zq (Zr ?_))
    refine Zy ?_
    refine VC.keep (ρ':=[(2,ptr eP 0),(3,ptr jX 0),(4,ptr mT 0),(8,str dU.verb),(17,.bool (decide (dU.verb=[115,116,97,115,104])))]) [2,3,4,8,17] rfl ?_
    refine Zc hS (fun h17 hS => ?_) (fun h17 hS => ?_)
    ·
     refine Zx ?_
     refine Zq ?_
     cases hS
    refine Zk ?_
    refine Zq (Zq (Zr ?_))
    refine Zy ?_
    refine Zc hS (fun h19 hS => ?_) (fun h19 hS => ?_)
    ·
     refine Zx ?_
     refine Zq ?_
     cases hS
    refine Zk ?_
    refine Zq (Zq (Zr ?_))
    refine Zy ?_
    refine Zc hS (fun h21 hS => ?_) (fun h21 hS => ?_)
    ·
     refine Zx ?_
     refine Zq (Zq (Zr ?_))
     refine Zu (cL cE rfl rfl) ?_
     refine Zu (aC oE rfl) ?_
     refine Zu (aT dK rfl rfl) ?_
     obtain ⟨ZG,aMj,hS⟩:=aU hS
     refine VL.cR (aAt aB dU.name aMj) rfl (by decide) ?_
     rintro ⟨QE,XR,XS⟩ rfl
     try dsimp only
     refine Zu (bG rfl rfl) ?_
     refine Zu (bG rfl rfl) ?_
     refine Zu (bG rfl rfl) ?_
     refine Zv (vc:=(aE QE)) (cs':=(aE QE)) rfl fR ?_
     refine Zy ?_
     refine VC.keep (ρ':=[(4,ptr mT 0),(5,.bool XR),(6,XS.val)]) [4,5,6] rfl ?_
     cases hS
     exact VC.ret (jV (vs:=[.agg (aE QE).toArray,.bool XR,XS.val]) (.inr rfl) rfl (eW.cell cE rfl rfl Rd.blk (eW.tmp rfl (eW.tmp rfl (eW.nil)))) (QE,XR,XS) rfl rfl (by (try dsimp only); exact cO.out) (fun _ _=>trivial))
    refine Zk ?_
    refine Zq (Zq (Zr ?_))
    refine Zy ?_
    refine Zc hS (fun h23 hS => ?_) (fun h23 hS => ?_)
    ·
     refine VC.eM () [2,3,4] (fun _ _ h=>h) hS rfl
    refine Zk ?_
    refine VC.keep (ρ':=[(2,ptr eP 0),(3,ptr jX 0),(4,ptr mT 0),(8,str dU.verb)]) [2,3,4,8] rfl ?_
    refine Zq (Zq (Zr ?_))
    refine Zy ?_
    refine Zc hS (fun h25 hS => ?_) (fun h25 hS => ?_)
    ·
     refine VC.eM () [2,3,4] (fun _ _ h=>h) hS rfl
    refine Zk ?_
    refine Zq (Zq (Zr ?_))
    refine Zy ?_
    refine Zc hS (fun h27 hS => ?_) (fun h27 hS => ?_)
    ·
     refine VC.eM () [2,3,4] (fun _ _ h=>h) hS rfl
    refine Zk ?_
    refine Zq (Zr ?_)
    refine Zy ?_
    refine Zc hS (fun h29 hS => ?_) (fun h29 hS => ?_)
    ·
     refine VC.eM () [2,3,4] (fun _ _ h=>h) hS rfl
    refine Zk ?_
    refine Zx ?_
    refine Zq (Zq ?_)
    cases hS
   clear hS
   rintro _ hS
   refine Zq (Zq ?_)
   cases hS
  clear hS
  rintro _ hS
  refine Zq (Zq ?_)
  cases hS
 clear hS
 rintro ⟨EW,fK,fY,fO,JK,JL,CI,CJ,CK,CL,CM,xJ,xK,xL,xM,xN,xO,xP,xQ,xR,xS,xU⟩ hS
 refine Zq (Zr ?_)
 refine Zu (cL cE rfl rfl) ?_
 refine Zm ?_
 refine Zv (vc:=[fK.val,fY.val,fO.val,str JK,i64 JL,str CI,i64 CJ,str CK,CL.val,CM.val,i64 xJ,str xK,str xL,i64 xM,xN.val,xO.val,xP.val,xQ.val,xR.val,xS.val,i64 xU]) (cs':=[fK.val,fY.val,fO.val,str JK,i64 JL,str CI,i64 CJ,str CK,CL.val,CM.val,i64 xJ,str xK,str xL,i64 xM,xN.val,xO.val,xP.val,xQ.val,xR.val,xS.val,i64 xU]) rfl fR ?_
 refine Zy ?_
 cases hS
 exact VC.ret (jV (vs:=[.agg #[fK.val,fY.val,fO.val,str JK,i64 JL,str CI,i64 CJ,str CK,CL.val,CM.val,i64 xJ,str xK,str xL,i64 xM,xN.val,xO.val,xP.val,xQ.val,xR.val,xS.val,i64 xU],.bool false,EW.val]) (.inr rfl) rfl (eW.cell cE rfl rfl Rd.blk (eW.tmp rfl (eW.tmp rfl (eW.nil)))) (⟨fK,fY,fO,JK,JL,CI,CJ,CK,CL,CM,xJ,xK,xL,xM,xN,xO,xP,xQ,xR,xS,xU⟩,false,EW) rfl rfl (by (try dsimp only); exact cO.out) (fun _ _=>trivial))
theorem aDZ (aB:cC) (dU:pI) {r:bM×Bool×gR} (hS:Sh.XW aB.pl dU.pl=some r) :
 Ct Tryz.prog 59 [.agg (aE aB).toArray,.agg #[str dU.verb,str dU.name,i64 dU.n,str dU.text,.bool dU.force,dU.todo.val]] (aB.bD.ok.and (aB.aX.ok.and (aB.bK.ok.and (aB.aM.ok.and (aB.aR.ok.and (aB.aO.ok.and (aB.aS.ok.and (aB.aZ.ok.and (aB.bB.ok.and (aB.bL.ok.and (aB.bE.ok.and dU.todo.ok))))))))))) (Ow.emp) (X:=cC×Bool×Er) (fun x => .tuple #[.agg (bO.enc x.1).toArray,.bool x.2.1,x.2.2.val]) (fun x=>r=(x.1.pl,x.2.1,x.2.2.pl)) (fun x=>(x.1.m.and x.2.2.ok)) (fun x=>Ow.emp):=by
 refine Zo Tryz.func59 Tryz.ntmps59 fun c => ?_
 unfold Sh.XW at hS
 refine Zq (Zr ?_)
 refine VL.box (cs:=(aE aB)) rfl rfl (by decide) fun eP => ?_
 refine VL.box (cs:=[str dU.verb,str dU.name,i64 dU.n,str dU.text,.bool dU.force,dU.todo.val]) rfl rfl (by decide) fun jX => ?_
 refine VL.alloc (cs:=[.slice none 0 0,.slice none 0 0,.slice none 0 0,str [],i64 0,str [],i64 0,str [],.slice none 0 0,.slice none 0 0,i64 0,str [],str [],i64 0,.slice none 0 0,.slice none 0 0,.slice none 0 0,.slice none 0 0,.slice none 0 0,.slice none 0 0,i64 0]) (by kernel_rfl) (by decide) fun mT => ?_
 refine Zy ?_
 refine VC.gD (S:=Er×Sv aD×Sv aK×Sv eG×aV×Int×aV×Int×aV×Sv cT×Sv cT×Int×aV×aV×Int×Sv aK×Sv aD×Sv dR×Sv cD×Sv aV×Sv aV×Int) (fun sg=>(sg.1.pl,sg.2.1.l,sg.2.2.1.l,sg.2.2.2.1.l,sg.2.2.2.2.1,sg.2.2.2.2.2.1,sg.2.2.2.2.2.2.1,sg.2.2.2.2.2.2.2.1,sg.2.2.2.2.2.2.2.2.1,sg.2.2.2.2.2.2.2.2.2.1.l,sg.2.2.2.2.2.2.2.2.2.2.1.l,sg.2.2.2.2.2.2.2.2.2.2.2.1,sg.2.2.2.2.2.2.2.2.2.2.2.2.1,sg.2.2.2.2.2.2.2.2.2.2.2.2.2.1,sg.2.2.2.2.2.2.2.2.2.2.2.2.2.2.1,sg.2.2.2.2.2.2.2.2.2.2.2.2.2.2.2.1.l,sg.2.2.2.2.2.2.2.2.2.2.2.2.2.2.2.2.1.l,(sg.2.2.2.2.2.2.2.2.2.2.2.2.2.2.2.2.2.1.l.map dR.pl),(sg.2.2.2.2.2.2.2.2.2.2.2.2.2.2.2.2.2.2.1.l.map cD.pl),sg.2.2.2.2.2.2.2.2.2.2.2.2.2.2.2.2.2.2.2.1.l,sg.2.2.2.2.2.2.2.2.2.2.2.2.2.2.2.2.2.2.2.2.1.l,sg.2.2.2.2.2.2.2.2.2.2.2.2.2.2.2.2.2.2.2.2.2)) (fun sg=>[(4,ptr mT 0),(6,sg.1.val)]) (fun sg=>(sg.1.ok.and (sg.2.1.ok.and (sg.2.2.1.ok.and (sg.2.2.2.1.ok.and (sg.2.2.2.2.2.2.2.2.2.1.ok.and (sg.2.2.2.2.2.2.2.2.2.2.1.ok.and (sg.2.2.2.2.2.2.2.2.2.2.2.2.2.2.2.1.ok.and (sg.2.2.2.2.2.2.2.2.2.2.2.2.2.2.2.2.1.ok.and (sg.2.2.2.2.2.2.2.2.2.2.2.2.2.2.2.2.2.1.ok.and (sg.2.2.2.2.2.2.2.2.2.2.2.2.2.2.2.2.2.2.1.ok.and (sg.2.2.2.2.2.2.2.2.2.2.2.2.2.2.2.2.2.2.2.1.ok.and sg.2.2.2.2.2.2.2.2.2.2.2.2.2.2.2.2.2.2.2.2.1.ok)))))))))))) (fun sg=>Ow.star (bP mT [sg.2.1.val,sg.2.2.1.val,sg.2.2.2.1.val,str sg.2.2.2.2.1,i64 sg.2.2.2.2.2.1,str sg.2.2.2.2.2.2.1,i64 sg.2.2.2.2.2.2.2.1,str sg.2.2.2.2.2.2.2.2.1,sg.2.2.2.2.2.2.2.2.2.1.val,sg.2.2.2.2.2.2.2.2.2.2.1.val,i64 sg.2.2.2.2.2.2.2.2.2.2.2.1,str sg.2.2.2.2.2.2.2.2.2.2.2.2.1,str sg.2.2.2.2.2.2.2.2.2.2.2.2.2.1,i64 sg.2.2.2.2.2.2.2.2.2.2.2.2.2.2.1,sg.2.2.2.2.2.2.2.2.2.2.2.2.2.2.2.1.val,sg.2.2.2.2.2.2.2.2.2.2.2.2.2.2.2.2.1.val,sg.2.2.2.2.2.2.2.2.2.2.2.2.2.2.2.2.2.1.val,sg.2.2.2.2.2.2.2.2.2.2.2.2.2.2.2.2.2.2.1.val,sg.2.2.2.2.2.2.2.2.2.2.2.2.2.2.2.2.2.2.2.1.val,sg.2.2.2.2.2.2.2.2.2.2.2.2.2.2.2.2.2.2.2.2.1.val,i64 sg.2.2.2.2.2.2.2.2.2.2.2.2.2.2.2.2.2.2.2.2.2] 59) (Ow.star (bP jX [str dU.verb,str dU.name,i64 dU.n,str dU.text,.bool dU.force,dU.todo.val] 101) (Ow.star (bP eP (aE aB) 59) (Ow.emp)))) hS ?_ ?_
 ·
  clear hS
  intro k26 hS
  refine Zq (Zr ?_)
  refine Zu (aC pN rfl) ?_
  refine Zu (aT dK rfl rfl) ?_
  refine Zl ?_
  refine Zb (Zq (Zr ?_))
  refine Zy ?_
  refine Zc hS (fun h22 hS => ?_) (fun h22 hS => ?_)
  ·
   refine Zr ?_
   refine Zu (cL cE rfl rfl) ?_
   refine Zu (aC oE rfl) ?_
   refine Zu (aT dK rfl rfl) ?_
   obtain ⟨nY,aLb,hS⟩:=aU hS
   refine VL.cR (aDY aB dU.name aLb) rfl (by decide) ?_
   rintro ⟨jN,aK5⟩ rfl
   try dsimp only
   refine Zm ?_
   refine Zu (bG rfl rfl) ?_
   refine Zu (bG rfl rfl) ?_
   refine Zv (vc:=(aE jN)) (cs':=(aE jN)) rfl fR ?_
   refine Za ?_
   refine VL.mt (aK5,jN.bD,jN.aX,jN.bK,jN.aP,jN.aF,jN.bC,jN.bA,jN.bJ,jN.aM,jN.aR,jN.bI,jN.aW,jN.aI,jN.aJ,jN.aO,jN.aS,jN.aZ,jN.bB,jN.bL,jN.bE,jN.time) [4,6] (fun _ _ h=>h) hS rfl
  refine Zq (Zr ?_)
  refine Zy ?_
  refine VC.keep (ρ':=[(2,ptr eP 0),(3,ptr jX 0),(4,ptr mT 0),(8,str dU.verb),(31,.bool (decide (dU.verb=[114,109])))]) [2,3,4,8,31] rfl ?_
  refine Zc hS (fun h31 hS => ?_) (fun h31 hS => ?_)
  ·
   cases hS
  refine Zq (Zr ?_)
  refine Zy ?_
  refine Zc hS (fun h39 hS => ?_) (fun h39 hS => ?_)
  ·
   refine Zr ?_
   refine Zu (cL cE rfl rfl) ?_
   refine Zu (aC WY rfl) ?_
   refine Zu (aT dK rfl rfl) ?_
   obtain ⟨n4,aME,hS⟩:=aU hS
   refine VL.cR (YO aB dU.text aME) rfl (by decide) ?_
   rintro ⟨jP,aKo⟩ rfl
   try dsimp only
   refine Zm ?_
   refine Zu (bG rfl rfl) ?_
   refine Zu (bG rfl rfl) ?_
   refine Zv (vc:=(aE jP)) (cs':=(aE jP)) rfl fR ?_
   refine Za ?_
   refine VL.mt (aKo,jP.bD,jP.aX,jP.bK,jP.aP,jP.aF,jP.bC,jP.bA,jP.bJ,jP.aM,jP.aR,jP.bI,jP.aW,jP.aI,jP.aJ,jP.aO,jP.aS,jP.aZ,jP.bB,jP.bL,jP.bE,jP.time) [4,6] (fun _ _ h=>h) hS rfl
  refine Zq (Zr ?_)
  refine Zy ?_
  refine Zc hS (fun h48 hS => ?_) (fun h48 hS => ?_)
  ·
   refine Zq ?_
   cases hS
  refine Zq (Zr ?_)
  refine Zy ?_
  refine Zc hS (fun h55 hS => ?_) (fun h55 hS => ?_)
  ·
   refine Zq ?_
   cases hS
  refine Zq (Zr ?_)
  refine Zy ?_
  refine VC.keep (ρ':=[(2,ptr eP 0),(3,ptr jX 0),(4,ptr mT 0),(8,str dU.verb),(62,.bool (decide (dU.verb=[97,98,111,114,116])))]) [2,3,4,8,62] rfl ?_
  refine Zc hS (fun h62 hS => ?_) (fun h62 hS => ?_)
  ·
   cases hS
  refine Zq (Zr ?_)
  refine Zy ?_
  refine Zc hS (fun h69 hS => ?_) (fun h69 hS => ?_)
  ·
   cases hS
  refine Zq (Zr ?_)
  refine Zy ?_
  refine Zc hS (fun h76 hS => ?_) (fun h76 hS => ?_)
  ·
   cases hS
  refine Zq (Zq (Zr ?_))
  refine Zu (aC dS rfl) ?_
  refine Zu (aC qT rfl) ?_
  refine Zu (aC DM rfl) ?_
  refine Zu (aT dK rfl rfl) ?_
  refine Zu (rL rfl rfl) ?_
  refine Zl ?_
  refine VC.keep (ρ':=[(2,ptr eP 0),(3,ptr jX 0),(4,ptr mT 0),(13,.bool (!decide (aB.bC=[])))]) [2,3,4,13] rfl ?_
  refine rI hS (fun h13 hS => ?_) (fun h13 hS => ?_)
  ·
   refine Zq ?_
   cases hS
  refine Zk ?_
  refine Zq (Zr ?_)
  refine Zu (cL cE rfl rfl) ?_
  refine Zu (cL oY rfl rfl) ?_
  obtain ⟨ZA,aL5,hS⟩:=aU hS
  refine VL.cR (aBd aB dU aL5) rfl (by decide) ?_
  rintro ⟨QA,XG,XH⟩ rfl
  try dsimp only
  refine Zu (bG rfl rfl) ?_
  refine Zu (bG rfl rfl) ?_
  refine Zu (bG rfl rfl) ?_
  refine Zv (vc:=(aE QA)) (cs':=(aE QA)) rfl fR ?_
  refine Zy ?_
  refine VC.keep (ρ':=[(4,ptr mT 0),(5,.bool XG),(6,XH.val)]) [4,5,6] rfl ?_
  cases hS
  exact VC.ret (jV (vs:=[.agg (aE QA).toArray,.bool XG,XH.val]) (.inr rfl) rfl (eW.cell cE rfl rfl Rd.blk (eW.tmp rfl (eW.tmp rfl (eW.nil)))) (QA,XG,XH) rfl rfl (by (try dsimp only); exact cO.out) (fun _ _=>trivial))
 clear hS
 rintro ⟨EW,fK,fY,fO,JK,JL,CI,CJ,CK,CL,CM,xJ,xK,xL,xM,xN,xO,xP,xQ,xR,xS,xU⟩ hS
 refine Zq (Zr ?_)
 refine Zu (cL cE rfl rfl) ?_
 refine Zm ?_
 refine Zv (vc:=[fK.val,fY.val,fO.val,str JK,i64 JL,str CI,i64 CJ,str CK,CL.val,CM.val,i64 xJ,str xK,str xL,i64 xM,xN.val,xO.val,xP.val,xQ.val,xR.val,xS.val,i64 xU]) (cs':=[fK.val,fY.val,fO.val,str JK,i64 JL,str CI,i64 CJ,str CK,CL.val,CM.val,i64 xJ,str xK,str xL,i64 xM,xN.val,xO.val,xP.val,xQ.val,xR.val,xS.val,i64 xU]) rfl fR ?_
 refine Zy ?_
 cases hS
 exact VC.ret (jV (vs:=[.agg #[fK.val,fY.val,fO.val,str JK,i64 JL,str CI,i64 CJ,str CK,CL.val,CM.val,i64 xJ,str xK,str xL,i64 xM,xN.val,xO.val,xP.val,xQ.val,xR.val,xS.val,i64 xU],.bool false,EW.val]) (.inr rfl) rfl (eW.cell cE rfl rfl Rd.blk (eW.tmp rfl (eW.tmp rfl (eW.nil)))) (⟨fK,fY,fO,JK,JL,CI,CJ,CK,CL,CM,xJ,xK,xL,xM,xN,xO,xP,xQ,xR,xS,xU⟩,false,EW) rfl rfl (by (try dsimp only); exact cO.out) (fun _ _=>trivial))
theorem aBF (LR:iX) {r:aV} (hS:Sh.OS LR.pl=some r) :
 Ct Tryz.prog 63 [.agg (kS LR).toArray] (LR.work.ok.and (LR.index.ok.and (LR.refs.ok.and (LR.fV.ok.and (LR.gK.ok.and (LR.fW.ok.and (LR.gL.ok.and LR.fB.ok))))))) (Ow.emp) (X:=Unit) (fun _=>str r) (fun _=>True) (fun _=>Mo.tt) (fun _=>Ow.emp):=by
 refine Zo Tryz.func63 Tryz.ntmps63 fun c => ?_
 unfold Sh.OS at hS
 refine Zq (Zr ?_)
 refine VL.box (cs:=(kS LR)) rfl rfl (by decide) fun iE => ?_
 refine Zy ?_
 refine Zq (Zr ?_)
 refine VL.alloc (cs:=[.slice none 0 0]) (by kernel_rfl) (by decide) fun jX => ?_
 refine Zl ?_
 refine Zq (Zr ?_)
 refine Zu (cL E4 rfl rfl) ?_
 refine VL.lR (⟨none,0,[]⟩:Sv UInt8) 5 ⟨rfl,rfl⟩ ?_
 refine VL.SY jX (cs':=[(⟨none,0,[]⟩:Sv UInt8).val]) rfl ?_
 obtain ⟨q7,NM,hS⟩:=aU hS
 refine VL.cA (D2 jX (⟨(⟨none,0,[]⟩:Sv UInt8)⟩:eB) LR NM) rfl (by decide) ?_
 rintro dI rfl
 try dsimp only
 refine Zl ?_
 refine Zq (Zr ?_)
 refine Zu (aC dV rfl) ?_
 obtain ⟨uJ,SB,hS⟩:=aU hS
 refine VL.cA (ES jX dI SB) rfl (by decide) ?_
 rintro aDT rfl
 try dsimp only
 refine Zu (aOo (s:=aDT) Tryz.underlying124 Tryz.underlying5 Tryz.underlying9 rfl) ?_
 refine Zy ?_
 cases hS
 exact Ze
theorem CZ (aB:Sv aV) {r:List aV} (hS:Sh.qI aB.l=some r) :
 Ct Tryz.prog 175 [aB.val] aB.ok (Ow.emp) (X:=Sv aV) (fun x=>x.val) (fun x=>r=x.l) (fun x=>Mo.tt) (fun x=>Sv.own x 9):=by
 refine Zo Tryz.func175 Tryz.ntmps175 fun c => ?_
 unfold Sh.qI at hS
 refine Zq (Zr ?_)
 refine Zy ?_
 refine Zq (Zq (Zr ?_))
 refine Zm ?_
 refine Zu (DZ (s:=aB) Tryz.underlying23 rfl) ?_
 refine Zl ?_
 refine VC.slnil (s:=aB) rfl (fun h4 => ?_) ?_
 ·
  have hS:(some [])=some r:=by
    simp [lt,gd,h4] at hS ⊢
    try exact hS
  refine Zq (Zr ?_)
  refine Zy ?_
  refine VC.lR (⟨none,0,[]⟩:Sv aV) 9 ⟨rfl,rfl⟩ ?_
  cases hS
  exact VC.ret (fA (.inr rfl) rfl rfl ⟨none,0,[]⟩ rfl rfl (by (try dsimp only); exact cO.out) (by (try dsimp only); exact eT.out))
 refine Zk ?_
 refine Zq (Zr ?_)
 refine VL.YE (α:=aV) Tryz.underlying23 aUU (by decide) (fun wY qD uM => ?_)
 refine VL.lR wY 9 ⟨uM,qD⟩ ?_
 replace hS:=b5 qD hS
 refine Zm ?_
 obtain ⟨b7,hS⟩:=bS hS
 refine VL.app (s:=wY) (r:=aB) Tryz.underlying23 LI (by decide) rfl Fo.out (uW b7) (uX b7 (by decide)) (by decide) (fun GY yI => ?_)
 replace hS:=b5 yI hS
 refine Zy ?_
 cases hS
 exact VC.ret (fA (.inr rfl) rfl rfl GY rfl rfl (by (try dsimp only); exact cO.out) (by (try dsimp only); exact eT.out))
theorem aA7 (dZ:Sv aV) (s_1:aV) {r:List aV} (hS:Sh.N1 dZ.l s_1=some r) :
 Ct Tryz.prog 104 [dZ.val,str s_1] dZ.ok (Ow.emp) (X:=Sv aV) (fun x=>x.val) (fun x=>r=x.l) (fun x=>x.ok) (fun x=>Ow.emp):=by
 refine Zo Tryz.func104 Tryz.ntmps104 fun c => ?_
 unfold Sh.N1 at hS
 refine Zq (Zr ?_)
 refine Zy ?_
 refine Zq (Zr ?_)
 refine Zm ?_
 obtain ⟨iR,lI,hS⟩:=aU hS
 refine VL.cA (CZ dZ lI) rfl (by decide) ?_
 rintro lY rfl
 try dsimp only
 refine Zm ?_
 refine VL.lit (α:=aV) (xs:=[.tmp 8]) (vs:=[str s_1]) [s_1] Tryz.underlying23 wL (by decide) rfl rfl rfl rfl (by decide) (fun _ _ _ _=>trivial) (by decide) (fun aFv aAR => ?_) (by decide)
 replace hS:=b5 aAR hS
 obtain ⟨b10,hS⟩:=bS hS
 refine VL.app (s:=lY) (r:=aFv) Tryz.underlying23 LI (by decide) rfl Fo.out (uW b10) (uX b10 (by decide)) (by decide) (fun aOv aR3 => ?_)
 replace hS:=b5 aR3 hS
 refine Zy ?_
 refine Zq (Zr ?_)
 refine Zy ?_
 refine Zu (dO (s:=aOv) Tryz.underlying23 rfl) ?_
 obtain ⟨b14,hS⟩:=bS hS
 refine Zu (o7 rfl rfl b14) ?_
 refine Zu (aDV rfl) ?_
 refine VL.shut aOv 9 (fun _ _ _ _=>trivial) ?_
 obtain ⟨b16,hS⟩:=bS hS
 refine VL.aPA Tryz.underlying23 o4 rfl rfl b16.1 (b16.2) (by decide) fun aUp aRc => ?_
 replace hS:=b5 aRc hS
 obtain ⟨TL,aC6,hS⟩:=aU hS
 refine VL.cR (gG aUp aC6) rfl (by decide) ?_
 rintro u0 rfl
 try dsimp only
 refine Zy ?_
 refine VC.keep (ρ':=[(4,u0.val)]) [4] rfl ?_
 cases hS
 exact VC.ret (fA (.inr rfl) rfl rfl u0 rfl rfl (by (try dsimp only); exact cO.out) (fun _ _=>trivial))
theorem XE (dZ:xG) (aA6:aV) {r:FQ} (hS:Sh.IU dZ.pl aA6=some r) :
 Ct Tryz.prog 62 [.agg #[dZ.back.val,dZ.F6.val],str aA6] (dZ.back.ok.and dZ.F6.ok) (Ow.emp) (X:=xG) (fun x => .agg (bO.enc x).toArray) (fun x=>r=x.pl) (fun x=>x.m) (fun x=>Ow.emp):=by
 refine Zo Tryz.func62 Tryz.ntmps62 fun c => ?_
 unfold Sh.IU at hS
 refine Zq (Zr ?_)
 refine VL.box (cs:=[dZ.back.val,dZ.F6.val]) rfl rfl (by decide) fun eP => ?_
 refine VL.alloc (cs:=[.slice none 0 0,.slice none 0 0]) (by kernel_rfl) (by decide) fun nA => ?_
 refine Zl ?_
 refine Zq (Zr ?_)
 refine Zu (aC aEZ rfl) ?_
 refine Zu (aT oK rfl rfl) ?_
 refine Zm ?_
 obtain ⟨vA,F2,hS⟩:=aU hS
 refine VL.cR (aA7 dZ.back aA6 F2) rfl (by decide) ?_
 rintro sC rfl
 try dsimp only
 refine Zu (fH (vs:=[(0,sC.val)]) (cs := #[sC.val,.slice none 0 0]) rfl (by kernel_rfl)) ?_
 refine Zv (vc:=[sC.val,.slice none 0 0]) (cs':=[sC.val,.slice none 0 0]) rfl aG2 ?_
 refine Zl ?_
 cases hS
 exact VC.ret (jV (vs:=[.agg #[sC.val,.slice none 0 0]]) (.inr rfl) rfl (eW.cell aH2 rfl rfl Rd.blk (eW.nil)) ⟨sC,⟨none,0,[]⟩⟩ rfl rfl (by (try dsimp only); exact cO.out) (fun _ _=>trivial))
theorem aFr (aB:cC) (dU:pI) {r:bM×gR} (hS:Sh.aAp aB.pl dU.pl=some r) :
 Ct Tryz.prog 34 [.agg (aE aB).toArray,.agg #[str dU.verb,str dU.name,i64 dU.n,str dU.text,.bool dU.force,dU.todo.val]] (aB.bD.ok.and (aB.aX.ok.and (aB.bK.ok.and (aB.aM.ok.and (aB.aR.ok.and (aB.aO.ok.and (aB.aS.ok.and (aB.aZ.ok.and (aB.bB.ok.and (aB.bL.ok.and (aB.bE.ok.and dU.todo.ok))))))))))) (Ow.emp) (X:=cC×Er) (fun x => .tuple #[.agg (bO.enc x.1).toArray,x.2.val]) (fun x=>r=(x.1.pl,x.2.pl)) (fun x=>(x.1.m.and x.2.ok)) (fun x=>Ow.emp):=by
 refine Zo Tryz.func34 Tryz.ntmps34 fun c => ?_
 unfold Sh.aAp at hS
 refine Zq (Zr ?_)
 refine VL.box (cs:=(aE aB)) rfl rfl (by decide) fun eP => ?_
 refine VL.box (cs:=[str dU.verb,str dU.name,i64 dU.n,str dU.text,.bool dU.force,dU.todo.val]) rfl rfl (by decide) fun jX => ?_
 refine VL.alloc (cs:=[.slice none 0 0,.slice none 0 0,.slice none 0 0,str [],i64 0,str [],i64 0,str [],.slice none 0 0,.slice none 0 0,i64 0,str [],str [],i64 0,.slice none 0 0,.slice none 0 0,.slice none 0 0,.slice none 0 0,.slice none 0 0,.slice none 0 0,i64 0]) (by kernel_rfl) (by decide) fun mT => ?_
 refine Zy ?_
 refine Zq (Zq (Zr ?_))
 refine Zu (cL oY rfl rfl) ?_
 obtain ⟨EM,HN,hS⟩:=aU hS
 refine VL.cR (Q8 dU HN) rfl (by decide) ?_
 rintro N7 rfl
 try dsimp only
 refine Zy ?_
 refine Zq (Zr ?_)
 refine Zm ?_
 refine Zu (nD Tryz.underlying27 rfl) ?_
 refine Zl ?_
 refine rI hS (fun h13 hS => ?_) (fun h13 hS => ?_)
 ·
  refine Zq ?_
  cases hS
 refine Zk ?_
 refine VC.keep (ρ':=[(2,ptr eP 0),(3,ptr jX 0),(4,ptr mT 0)]) [2,3,4] rfl ?_
 refine Zq (Zr ?_)
 refine Zu (cL cE rfl rfl) ?_
 refine Zu (cL oY rfl rfl) ?_
 obtain ⟨mX,aCa,hS⟩:=aU hS
 refine VL.cR (aDZ aB dU aCa) rfl (by decide) ?_
 rintro ⟨c9,aAi,OD⟩ rfl
 try dsimp only
 refine Zm ?_
 refine Zu (bG rfl rfl) ?_
 refine Zu (bG rfl rfl) ?_
 refine Zu (bG rfl rfl) ?_
 refine VL.alloc (cs:=[.slice none 0 0,.slice none 0 0,.slice none 0 0,str [],i64 0,str [],i64 0,str [],.slice none 0 0,.slice none 0 0,i64 0,str [],str [],i64 0,.slice none 0 0,.slice none 0 0,.slice none 0 0,.slice none 0 0,.slice none 0 0,.slice none 0 0,i64 0]) (by kernel_rfl) (by decide) fun YA => ?_
 refine Zv (vc:=(aE c9)) (cs':=(aE c9)) rfl fR ?_
 refine Zy ?_
 refine VC.keep (ρ':=[(2,ptr eP 0),(3,ptr jX 0),(4,ptr mT 0),(7,ptr YA 0),(8,.bool aAi),(9,OD.val)]) [2,3,4,7,8,9] rfl ?_
 refine Zq (Zq (Zr ?_))
 refine Zm ?_
 refine Zu (nD Tryz.underlying27 rfl) ?_
 refine Zl ?_
 refine rI hS (fun h25 hS => ?_) (fun h25 hS => ?_)
 ·
  refine Zq ?_
  cases hS
 refine Zk ?_
 refine VC.gD (S:=Sv aV×Sv aV) (fun sg=>(sg.1.l,sg.2.l)) (fun sg=>[(4,ptr mT 0),(7,ptr YA 0),(9,OD.val)]) (fun sg=>(sg.1.ok.and sg.2.ok)) (fun sg=>Ow.star (bP YA [c9.bD.val,c9.aX.val,c9.bK.val,str c9.aP,i64 c9.aF,str c9.bC,i64 c9.bA,str c9.bJ,c9.aM.val,c9.aR.val,i64 c9.bI,str c9.aW,str c9.aI,i64 c9.aJ,c9.aO.val,c9.aS.val,c9.aZ.val,c9.bB.val,sg.1.val,sg.2.val,i64 c9.time] 59) (Ow.star (bP mT [.slice none 0 0,.slice none 0 0,.slice none 0 0,str [],i64 0,str [],i64 0,str [],.slice none 0 0,.slice none 0 0,i64 0,str [],str [],i64 0,.slice none 0 0,.slice none 0 0,.slice none 0 0,.slice none 0 0,.slice none 0 0,.slice none 0 0,i64 0] 59) (Ow.star (bP jX [str dU.verb,str dU.name,i64 dU.n,str dU.text,.bool dU.force,dU.todo.val] 101) (Ow.star (bP eP (aE aB) 59) (Ow.emp))))) hS ?_ ?_
 ·
  clear hS
  intro k9 hS
  refine VC.gD (S:=Bool) (fun (IA:Bool)=>IA) (fun (IA:Bool)=>[(2,ptr eP 0),(4,ptr mT 0),(7,ptr YA 0),(9,OD.val),(46,.bool IA)]) (fun (IA:Bool)=>Mo.tt) (fun (IA:Bool)=>Ow.star (bP YA (aE c9) 59) (Ow.star (bP mT [.slice none 0 0,.slice none 0 0,.slice none 0 0,str [],i64 0,str [],i64 0,str [],.slice none 0 0,.slice none 0 0,i64 0,str [],str [],i64 0,.slice none 0 0,.slice none 0 0,.slice none 0 0,.slice none 0 0,.slice none 0 0,.slice none 0 0,i64 0] 59) (Ow.star (bP jX [str dU.verb,str dU.name,i64 dU.n,str dU.text,.bool dU.force,dU.todo.val] 101) (Ow.star (bP eP (aE aB) 59) (Ow.emp))))) hS ?_ ?_
  ·
   clear hS
   intro k11 hS
   refine Zr ?_
   refine Zu (aC pN rfl) ?_
   refine Zu (aT dK rfl rfl) ?_
   refine Zu (rL rfl rfl) ?_
   refine Zm ?_
   refine NH 42 hS (fun h42 hS => ?_) (fun h42 hS => ?_)
   ·
    refine Zh (aC pN rfl) ?_
    refine Zh (aT dK rfl rfl) ?_
    refine Zh (rL rfl rfl) ?_
    refine Zt ?_
    refine VL.mt (!decide (dU.verb=[114,101,100,111])) [2,4,7,9,46] (fun _ _ h=>h) hS rfl
   refine VL.runs 4 [(46,some false)] (by kernel_rfl) ?_
   refine VL.mt false [2,4,7,9,46] (fun _ _ h=>h) hS rfl
  clear hS
  rintro IA hS
  refine iT hS (fun h46 hS => ?_) (fun h46 hS => ?_)
  ·
   refine VC.draw [(0,true),(1,true),(2,true),(3,true),(4,true),(5,false),(6,true),(7,false)] mixed (by kernel_rfl) (by kernel_rfl) (by kernel_rfl) ?_
   refine Zw rfl (aC NR rfl) ?_
   refine Zw rfl (LX (j:=18) (n:=2) aH2 rfl rfl rfl) ?_
   refine Zw rfl (aC dS rfl) ?_
   refine Zw rfl (LX (j:=0) (n:=17) E4 rfl rfl rfl) ?_
   obtain ⟨QN,Z7,hS⟩:=aU hS
   refine Zw rfl (cN (aBF (⟨aB.bD,aB.aX,aB.bK,aB.aP,aB.aF,aB.bC,aB.bA,aB.bJ,aB.aM,aB.aR,aB.bI,aB.aW,aB.aI,aB.aJ,aB.aO,aB.aS,aB.aZ⟩:iX) Z7) rfl (fun _ _=>rfl)) ?_
   refine VD.one rfl ?_
   obtain ⟨aDk,aML,hS⟩:=aU hS
   refine VL.cR (XE (⟨aB.bL,aB.bE⟩:xG) QN aML) rfl (by decide) ?_
   rintro FJ rfl
   try dsimp only
   refine VL.back (D':=[]) (by kernel_rfl) (aN.nil) ?_
   refine Zw rfl (aC NR rfl) ?_
   refine VD.one rfl ?_
   refine Zv (vc:=[FJ.back.val,FJ.F6.val]) (cs':=[c9.bD.val,c9.aX.val,c9.bK.val,str c9.aP,i64 c9.aF,str c9.bC,i64 c9.bA,str c9.bJ,c9.aM.val,c9.aR.val,i64 c9.bI,str c9.aW,str c9.aI,i64 c9.aJ,c9.aO.val,c9.aS.val,c9.aZ.val,c9.bB.val,FJ.back.val,FJ.F6.val,i64 c9.time]) rfl aG2 ?_
   refine VL.back (D':=[]) (by kernel_rfl) (aN.nil) ?_
   refine VD.mt (FJ.back,FJ.F6) [4,7,9] (fun _ _ h=>h) hS rfl
  refine VC.fZ (c9.bL,c9.bE) [4,7,9] (fun _ _ h=>h) hS rfl
 clear hS
 rintro ⟨aGO,aGP⟩ hS
 refine Zq (Zr ?_)
 refine Zu (cL cE rfl rfl) ?_
 obtain ⟨l6,Z8,hS⟩:=aU hS
 refine VL.cR (OK (⟨c9.bD,c9.aX,c9.bK,c9.aP,c9.aF,c9.bC,c9.bA,c9.bJ,c9.aM,c9.aR,c9.bI,c9.aW,c9.aI,c9.aJ,c9.aO,c9.aS,c9.aZ,c9.bB,aGO,aGP,c9.time⟩:cC) Z8) rfl (by decide) ?_
 rintro QD rfl
 try dsimp only
 refine Zm ?_
 refine Zv (vc:=(aE QD)) (cs':=(aE QD)) rfl fR ?_
 refine Zy ?_
 cases hS
 exact VC.ret (jV (vs:=[.agg (aE QD).toArray,OD.val]) (.inr rfl) rfl (eW.cell cE rfl rfl Rd.blk (eW.tmp rfl (eW.nil))) (QD,OD) rfl rfl (by (try dsimp only); exact cO.out) (fun _ _=>trivial))
theorem tO (aB:cC) (UZ:aV) {r:bM×gR} (hS:Sh.sN aB.pl UZ=some r) :
 Ct Tryz.prog 13 [.agg (aE aB).toArray,str UZ] (aB.bD.ok.and (aB.aX.ok.and (aB.bK.ok.and (aB.aM.ok.and (aB.aR.ok.and (aB.aO.ok.and (aB.aS.ok.and (aB.aZ.ok.and (aB.bB.ok.and (aB.bL.ok.and aB.bE.ok)))))))))) (Ow.emp) (X:=cC×Er) (fun x => .tuple #[.agg (bO.enc x.1).toArray,x.2.val]) (fun x=>r=(x.1.pl,x.2.pl)) (fun x=>(x.1.m.and x.2.ok)) (fun x=>Ow.emp):=by
 refine Zo Tryz.func13 Tryz.ntmps13 fun c => ?_
 unfold Sh.sN at hS
 refine Zq (Zr ?_)
 refine VL.box (cs:=(aE aB)) rfl rfl (by decide) fun eP => ?_
 refine VL.alloc (cs:=[.slice none 0 0,.slice none 0 0,.slice none 0 0,str [],i64 0,str [],i64 0,str [],.slice none 0 0,.slice none 0 0,i64 0,str [],str [],i64 0,.slice none 0 0,.slice none 0 0,.slice none 0 0,.slice none 0 0,.slice none 0 0,.slice none 0 0,i64 0]) (by kernel_rfl) (by decide) fun nA => ?_
 refine Zy ?_
 refine Zq (Zr ?_)
 refine Zm ?_
 obtain ⟨qJ,EY,hS⟩:=aU hS
 refine VL.cR (aBY UZ EY) rfl (by decide) ?_
 rintro ⟨iF,aOX⟩ rfl
 try dsimp only
 refine Zm ?_
 refine Zu (bG rfl rfl) ?_
 refine Zu (bG rfl rfl) ?_
 refine VL.alloc (cs:=[str [],str [],i64 0,str [],.bool false,.slice none 0 0]) (by kernel_rfl) (by decide) fun aV3 => ?_
 refine Zv (vc:=[str iF.verb,str iF.name,i64 iF.n,str iF.text,.bool iF.force,iF.todo.val]) (cs':=[str iF.verb,str iF.name,i64 iF.n,str iF.text,.bool iF.force,iF.todo.val]) rfl LJ ?_
 refine Zy ?_
 refine VC.keep (ρ':=[(2,ptr eP 0),(4,ptr nA 0),(6,ptr aV3 0),(7,aOX.val)]) [2,4,6,7] rfl ?_
 refine Zq (Zq (Zr ?_))
 refine Zm ?_
 refine Zu (nD Tryz.underlying27 rfl) ?_
 refine Zl ?_
 refine rI hS (fun h14 hS => ?_) (fun h14 hS => ?_)
 ·
  refine Zq ?_
  cases hS
 refine Zk ?_
 refine Zq (Zr ?_)
 refine Zu (cL cE rfl rfl) ?_
 refine Zu (cL oY rfl rfl) ?_
 obtain ⟨kD,LC,hS⟩:=aU hS
 refine VL.cR (aFr aB iF LC) rfl (by decide) ?_
 rintro ⟨mK,sB⟩ rfl
 try dsimp only
 refine Zu (bG rfl rfl) ?_
 refine Zu (bG rfl rfl) ?_
 refine Zv (vc:=(aE mK)) (cs':=(aE mK)) rfl fR ?_
 refine Zy ?_
 refine VC.keep (ρ':=[(4,ptr nA 0),(5,sB.val)]) [4,5] rfl ?_
 cases hS
 exact VC.ret (jV (vs:=[.agg (aE mK).toArray,sB.val]) (.inr rfl) rfl (eW.cell cE rfl rfl Rd.blk (eW.tmp rfl (eW.nil))) (mK,sB) rfl rfl (by (try dsimp only); exact cO.out) (fun _ _=>trivial))
theorem zR (aB:cC) (p_1:aV) (data_2:aV) (pU:aV) {r:bM} (hS:Sh.u6 aB.pl p_1 data_2 pU=some r) :
 Ct Tryz.prog 11 [.agg (aE aB).toArray,str p_1,str data_2,str pU] (aB.bD.ok.and (aB.aX.ok.and (aB.bK.ok.and (aB.aM.ok.and (aB.aR.ok.and (aB.aO.ok.and (aB.aS.ok.and (aB.aZ.ok.and (aB.bB.ok.and (aB.bL.ok.and aB.bE.ok)))))))))) (Ow.emp) (X:=cC) (fun x => .agg (bO.enc x).toArray) (fun x=>r=x.pl) (fun x=>x.m) (fun x=>Ow.emp):=by
 refine Zo Tryz.func11 Tryz.ntmps11 fun c => ?_
 unfold Sh.u6 at hS
 refine Zq (Zr ?_)
 refine VL.box (cs:=(aE aB)) rfl rfl (by decide) fun uY => ?_
 refine VL.alloc (cs:=[.slice none 0 0,.slice none 0 0,.slice none 0 0,str [],i64 0,str [],i64 0,str [],.slice none 0 0,.slice none 0 0,i64 0,str [],str [],i64 0,.slice none 0 0,.slice none 0 0,.slice none 0 0,.slice none 0 0,.slice none 0 0,.slice none 0 0,i64 0]) (by kernel_rfl) (by decide) fun DG => ?_
 refine Zl ?_
 refine Zq (Zr ?_)
 refine Zu (cL cE rfl rfl) ?_
 refine Zy ?_
 obtain ⟨kH,rU,hS⟩:=aU hS
 refine VL.cR (S0 aB p_1 data_2 rU) rfl (by decide) ?_
 rintro fN rfl
 try dsimp only
 refine Zv (vc:=(aE fN)) (cs':=(aE fN)) rfl fR ?_
 refine Zl ?_
 refine Zq (Zr ?_)
 refine Zu (cL cE rfl rfl) ?_
 refine Zm ?_
 obtain ⟨b16,hS⟩:=bS hS
 obtain ⟨qK,K8,hS⟩:=AF hS
 refine Zu (QG rfl rfl b16 K8) ?_
 obtain ⟨C4,LB,hS⟩:=aU hS
 refine VL.cR (tO fN qK LB) rfl (by decide) ?_
 rintro ⟨DV,aVi⟩ rfl
 try dsimp only
 refine Zm ?_
 refine Zu (bG rfl rfl) ?_
 refine Zu (bG rfl rfl) ?_
 refine Zv (vc:=(aE DV)) (cs':=(aE DV)) rfl fR ?_
 refine Zl ?_
 refine VC.keep (ρ':=[(3,str pU),(4,ptr uY 0),(8,ptr DG 0)]) [3,4,8] rfl ?_
 refine Zq (Zr ?_)
 refine Zu (cL cE rfl rfl) ?_
 refine Zm ?_
 obtain ⟨b23,hS⟩:=bS hS
 obtain ⟨C5,LD,hS⟩:=AF hS
 refine Zu (QG rfl rfl b23 LD) ?_
 obtain ⟨aDe,aQ5,hS⟩:=aU hS
 refine VL.cR (tO DV C5 aQ5) rfl (by decide) ?_
 rintro ⟨J2,aVj⟩ rfl
 try dsimp only
 refine Zm ?_
 refine Zu (bG rfl rfl) ?_
 refine Zu (bG rfl rfl) ?_
 refine Zv (vc:=(aE J2)) (cs':=(aE J2)) rfl fR ?_
 refine Zl ?_
 refine Zq (Zr ?_)
 refine Zu (cL cE rfl rfl) ?_
 refine Zv (vc:=(aE J2)) (cs':=(aE J2)) rfl fR ?_
 refine Zl ?_
 refine VC.keep (ρ':=[(8,ptr DG 0)]) [8] rfl ?_
 cases hS
 exact VC.ret (jV (vs:=[.agg (aE J2).toArray]) (.inr rfl) rfl (eW.cell cE rfl rfl Rd.blk (eW.nil)) J2 rfl rfl (by (try dsimp only); exact cO.out) (fun _ _=>trivial))
theorem HY (aB:cC) (p_1:aV) {r:aV} (hS:Sh.BN aB.pl p_1=some r) :
 Ct Tryz.prog 14 [.agg (aE aB).toArray,str p_1] (aB.bD.ok.and (aB.aX.ok.and (aB.bK.ok.and (aB.aM.ok.and (aB.aR.ok.and (aB.aO.ok.and (aB.aS.ok.and (aB.aZ.ok.and (aB.bB.ok.and (aB.bL.ok.and aB.bE.ok)))))))))) (Ow.emp) (X:=Unit) (fun _=>str r) (fun _=>True) (fun _=>Mo.tt) (fun _=>Ow.emp):=by
 refine Zo Tryz.func14 Tryz.ntmps14 fun c => ?_
 unfold Sh.BN at hS
 refine Zq (Zr ?_)
 refine VL.box (cs:=(aE aB)) rfl rfl (by decide) fun eP => ?_
 refine Zy ?_
 refine Zq (Zr ?_)
 refine Zu (aC dS rfl) ?_
 refine Zu (aC qS rfl) ?_
 refine Zu (aT iN rfl rfl) ?_
 refine Zm ?_
 obtain ⟨fJ,E0,hS⟩:=aU hS
 refine Zu (cN (pK aB.bD p_1 E0) rfl (fun _ _=>rfl)) ?_
 refine Zm ?_
 refine Zu (bG rfl rfl) ?_
 refine Zu (bG rfl rfl) ?_
 refine VL.alloc (cs:=[str [],i64 0,str []]) (by kernel_rfl) (by decide) fun aBn => ?_
 refine Zv (vc:=[str fJ.1.path,i64 fJ.1.mode,str fJ.1.data]) (cs':=[str fJ.1.path,i64 fJ.1.mode,str fJ.1.data]) rfl fP ?_
 refine Zy ?_
 refine VC.keep (ρ':=[(5,ptr aBn 0),(6,.bool fJ.2)]) [5,6] rfl ?_
 refine Zq (Zq (Zr ?_))
 refine Zm ?_
 refine Zu (lN rfl) ?_
 refine Zl ?_
 refine iT hS (fun h16 hS => ?_) (fun h16 hS => ?_)
 ·
  refine Zq (Zr ?_)
  refine Zy ?_
  cases hS
  exact Ze
 refine Zk ?_
 refine Zq (Zr ?_)
 refine Zu (aC F8 rfl) ?_
 refine Zu (aT dK rfl rfl) ?_
 refine Zy ?_
 cases hS
 exact Ze
theorem SZ  {r:Bool} (hS:Sh.zF=some r) :
 Ct Tryz.prog 4 [] Mo.tt (Ow.emp) (X:=Unit) (fun _ => .bool r) (fun _=>True) (fun _=>Mo.tt) (fun _=>Ow.emp):=by
 refine Zo Tryz.func4 Tryz.ntmps4 fun c => ?_
 unfold Sh.zF at hS
 refine Zq (Zr ?_)
 refine Zy ?_
 refine Zq (Zr ?_)
 obtain ⟨aVs,aUL,hS⟩:=aU hS
 refine Zu (cN (aBg aUL) rfl (fun _ _=>rfl)) ?_
 obtain ⟨uF,zJ,hS⟩:=aU hS
 refine VL.cR (zR (⟨⟨none,0,[]⟩,⟨none,0,[]⟩,⟨none,0,[]⟩,[109,97,105,110],0,[],0,[],⟨none,0,[]⟩,⟨none,0,[]⟩,0,[],[],0,⟨none,0,[]⟩,⟨none,0,[]⟩,⟨none,0,[]⟩,⟨none,0,[]⟩,⟨none,0,[]⟩,⟨none,0,[]⟩,0⟩:cC) [97] [120,10] [111,110,101] zJ) rfl (by decide) ?_
 rintro mS rfl
 try dsimp only
 refine VL.alloc (cs:=[.slice none 0 0,.slice none 0 0,.slice none 0 0,str [],i64 0,str [],i64 0,str [],.slice none 0 0,.slice none 0 0,i64 0,str [],str [],i64 0,.slice none 0 0,.slice none 0 0,.slice none 0 0,.slice none 0 0,.slice none 0 0,.slice none 0 0,i64 0]) (by kernel_rfl) (by decide) fun aLP => ?_
 refine Zv (vc:=(aE mS)) (cs':=(aE mS)) rfl fR ?_
 refine Zl ?_
 refine Zq (Zr ?_)
 refine Zu (cL cE rfl rfl) ?_
 obtain ⟨MI,T0,hS⟩:=aU hS
 refine VL.cR (tO mS [98,114,97,110,99,104,32,100,101,118] T0) rfl (by decide) ?_
 rintro ⟨GL,aAb⟩ rfl
 try dsimp only
 refine Zm ?_
 refine Zu (bG rfl rfl) ?_
 refine Zu (bG rfl rfl) ?_
 refine Zv (vc:=(aE GL)) (cs':=(aE GL)) rfl fR ?_
 refine Zy ?_
 refine Zq (Zr ?_)
 refine Zu (cL cE rfl rfl) ?_
 obtain ⟨aPN,aQC,hS⟩:=aU hS
 refine VL.cR (zR GL [98] [121,10] [116,119,111] aQC) rfl (by decide) ?_
 rintro aAd rfl
 try dsimp only
 refine Zv (vc:=(aE aAd)) (cs':=(aE aAd)) rfl fR ?_
 refine Zl ?_
 refine VC.keep (ρ':=[(1,ptr aLP 0),(2,aAb.val)]) [1,2] rfl ?_
 refine Zq (Zr ?_)
 refine Zu (cL cE rfl rfl) ?_
 obtain ⟨aD9,aQL,hS⟩:=aU hS
 refine VL.cR (tO aAd [115,119,105,116,99,104,32,100,101,118] aQL) rfl (by decide) ?_
 rintro ⟨VH,aFa⟩ rfl
 try dsimp only
 refine Zm ?_
 refine Zu (bG rfl rfl) ?_
 refine Zu (bG rfl rfl) ?_
 refine Zv (vc:=(aE VH)) (cs':=(aE VH)) rfl fR ?_
 refine Zy ?_
 refine Zq (Zr ?_)
 refine Zu (cL cE rfl rfl) ?_
 obtain ⟨X7,aQV,hS⟩:=aU hS
 refine Zu (cN (HY VH [98] aQV) rfl (fun _ _=>rfl)) ?_
 refine Zy ?_
 refine VC.keep (ρ':=[(1,ptr aLP 0),(2,aAb.val),(3,aFa.val),(4,str X7)]) [1,2,3,4] rfl ?_
 refine Zq (Zr ?_)
 refine Zu (cL cE rfl rfl) ?_
 obtain ⟨aDc,aQ3,hS⟩:=aU hS
 refine VL.cR (zR VH [99] [122,10] [116,104,114,101,101] aQ3) rfl (by decide) ?_
 rintro aAj rfl
 try dsimp only
 refine Zv (vc:=(aE aAj)) (cs':=(aE aAj)) rfl fR ?_
 refine Zl ?_
 refine Zq (Zr ?_)
 refine Zu (cL cE rfl rfl) ?_
 obtain ⟨aBR,aQ9,hS⟩:=aU hS
 refine VL.cR (tO aAj [109,101,114,103,101,32,109,97,105,110] aQ9) rfl (by decide) ?_
 rintro ⟨J4,aO9⟩ rfl
 try dsimp only
 refine Zm ?_
 refine Zu (bG rfl rfl) ?_
 refine Zu (bG rfl rfl) ?_
 refine Zv (vc:=(aE J4)) (cs':=(aE J4)) rfl fR ?_
 refine Zy ?_
 refine VC.keep (ρ':=[(1,ptr aLP 0),(2,aAb.val),(3,aFa.val),(4,str X7),(5,aO9.val)]) [1,2,3,4,5] rfl ?_
 refine Zq (Zr ?_)
 refine Zm ?_
 refine Zu (x9 Tryz.underlying27 rfl) ?_
 refine Zm ?_
 refine mF 31 hS (fun h31 hS => ?_) (fun h31 hS => ?_)
 ·
  refine Zg ?_
  refine Zh (x9 Tryz.underlying27 rfl) ?_
  refine Zy ?_
  refine mF 35 hS (fun h35 hS => ?_) (fun h35 hS => ?_)
  ·
   refine Zg ?_
   refine Zh (x9 Tryz.underlying27 rfl) ?_
   refine Zy ?_
   refine mF 39 hS (fun h39 hS => ?_) (fun h39 hS => ?_)
   ·
    refine Zg ?_
    refine Zh (yK rfl rfl) ?_
    refine Zy ?_
    refine mF 43 hS (fun h43 hS => ?_) (fun h43 hS => ?_)
    ·
     refine Zh (cL cE rfl rfl) ?_
     obtain ⟨aJ0,aMD,hS⟩:=aU hS
     refine Zh (cN (HY J4 [98] aMD) rfl (fun _ _=>rfl)) ?_
     refine Zh (yK rfl rfl) ?_
     refine Zy ?_
     refine mF 48 hS (fun h48 hS => ?_) (fun h48 hS => ?_)
     ·
      refine Zh (aC lJ rfl) ?_
      refine Zh (aT qC rfl rfl) ?_
      refine Zh (qG cD.pl (s:=J4.bB) Tryz.underlying55 rfl) ?_
      refine Zh (hU rfl rfl) ?_
      refine Zy ?_
      refine mF 54 hS (fun h54 hS => ?_) (fun h54 hS => ?_)
      ·
       refine Zh (aC lJ rfl) ?_
       refine Zh (aT qC rfl rfl) ?_
       obtain ⟨WK,aFW,aAU,hS⟩:=IK hS
       refine VL.deep WK.m aAU (fun _ q=>q) ?_
       refine Zh (fM (s:=J4.bB) Tryz.underlying55 SI rfl rfl aFW (bQ aFW aAU)) ?_
       refine Zh (aC UG rfl) ?_
       refine Zh (XT (s:=J4.bB) zD rfl aAU rfl) ?_
       refine Zh (dO (s:=WK.parents) Tryz.underlying65 rfl) ?_
       refine Zh (hU rfl rfl) ?_
       refine Zy ?_
       refine VC.keep (ρ':=[(0,.bool (decide ((WK.parents.l.length:Int)=2)))]) [0] rfl ?_
       cases hS
       exact Ze
      refine VL.runs 9 [(0,some false)] (by kernel_rfl) ?_
      refine Zl ?_
      refine VC.keep (ρ':=[(0,.bool false)]) [0] rfl ?_
      cases hS
      exact Ze
     refine VL.runs 15 [(0,some false)] (by kernel_rfl) ?_
     refine Zl ?_
     refine VC.keep (ρ':=[(0,.bool false)]) [0] rfl ?_
     cases hS
     exact Ze
    refine VL.runs 20 [(0,some false)] (by kernel_rfl) ?_
    refine Zl ?_
    refine VC.keep (ρ':=[(0,.bool false)]) [0] rfl ?_
    cases hS
    exact Ze
   refine VL.runs 24 [(0,some false)] (by kernel_rfl) ?_
   refine Zl ?_
   refine VC.keep (ρ':=[(0,.bool false)]) [0] rfl ?_
   cases hS
   exact Ze
  refine VL.runs 28 [(0,some false)] (by kernel_rfl) ?_
  refine Zl ?_
  refine VC.keep (ρ':=[(0,.bool false)]) [0] rfl ?_
  cases hS
  exact Ze
 refine VL.runs 32 [(0,some false)] (by kernel_rfl) ?_
 refine Zl ?_
 cases hS
 exact Ze
theorem M3 (aB:aV) {r:List aV} (hS:Sh.x4 aB=some r) :
 Ct Tryz.prog 5 [str aB] Mo.tt (Ow.emp) (X:=Sv aV) (fun x=>x.val) (fun x=>r=x.l) (fun x=>x.ok) (fun x=>Ow.emp):=by
 refine Zo Tryz.func5 Tryz.ntmps5 fun c => ?_
 unfold Sh.x4 at hS
 refine Zq (Zr ?_)
 refine Zy ?_
 refine Zq (Zr ?_)
 refine Zy ?_
 refine Zq (Zb ?_)
 refine VC.lR (⟨none,0,[]⟩:Sv aV) 9 ⟨rfl,rfl⟩ ?_
 refine VC.iter (S:=aV×Sv aV) (fun sg=>(sg.1,sg.2.l)) (fun sg=>[(0,str sg.1),(3,sg.2.val)]) (fun sg=>Mo.tt) (fun sg=>Ow.star (Sv.own sg.2 9) (Ow.emp)) (aB,⟨none,0,[]⟩) [0,3] hS rfl ?_
 clear hS
 rintro ⟨M5,rB⟩ m1 y1 hS hK1
 refine Zq (Zq (Zr ?_))
 refine Zm ?_
 refine Zu (rL rfl rfl) ?_
 refine Zl ?_
 refine rI hS (fun h6 hS => ?_) (fun h6 hS => ?_)
 ·
  refine Zk ?_
  refine Zb (Zq (Zr ?_))
  refine Zm ?_
  obtain ⟨vA,F2,hS⟩:=aU hS
  refine Zu (cN (wF M5 [10] F2) rfl (fun _ _=>rfl)) ?_
  refine Zy ?_
  refine VC.gD (S:=Int) (fun (GG:Int)=>GG) (fun (GG:Int)=>[(0,str M5),(3,rB.val),(4,i64 GG)]) (fun (GG:Int)=>Mo.tt) (fun (GG:Int)=>Ow.star (Sv.own rB 9) (Ow.emp)) hS ?_ ?_
  ·
   clear hS
   intro k5 hS
   refine Zq (Zr ?_)
   refine Zm ?_
   refine Zu (dL rfl rfl) ?_
   refine Zl ?_
   refine Zc hS (fun h10 hS => ?_) (fun h10 hS => ?_)
   ·
    refine Zr ?_
    refine Zm ?_
    refine Zu (nT Tryz.underlying9 rfl) ?_
    obtain ⟨b13,hS⟩:=bS hS
    refine Zu (o7 rfl rfl b13) ?_
    refine Za ?_
    refine VL.mt ((M5.length:Int) - 1) [0,3,4] (fun _ _ h=>h) hS rfl
   refine VC.fZ vA [0,3,4] (fun _ _ h=>h) hS rfl
  clear hS
  rintro GG hS
  refine Zq (Zr ?_)
  refine Zy ?_
  obtain ⟨b17,hS⟩:=bS hS
  refine Zu (cK rfl rfl b17) ?_
  obtain ⟨b18,hS⟩:=bS hS
  obtain ⟨aDa,aQO,hS⟩:=AF hS
  refine Zu (VV Tryz.underlying9 rfl rfl b18.1 b18.2 aQO) ?_
  refine VL.lit (α:=aV) (xs:=[.tmp 18]) (vs:=[str aDa]) [aDa] Tryz.underlying23 wL (by decide) rfl rfl rfl rfl (by decide) (fun _ _ _ _=>trivial) (by decide) (fun aUs aRh => ?_) (by decide)
  replace hS:=b5 aRh hS
  obtain ⟨b20,hS⟩:=bS hS
  refine VL.app (s:=rB) (r:=aUs) Tryz.underlying23 LI (by decide) rfl Fo.out (uW b20) (uX b20 (by decide)) (by decide) (fun aUu aRj => ?_)
  replace hS:=b5 aRj hS
  refine Zy ?_
  refine Zr ?_
  refine Zy ?_
  obtain ⟨b23,hS⟩:=bS hS
  refine Zu (cK rfl rfl b23) ?_
  obtain ⟨b24,hS⟩:=bS hS
  obtain ⟨aDd,aL8,hS⟩:=AF hS
  refine Zu (J9 Tryz.underlying9 rfl rfl b24.1 b24.2 aL8) ?_
  refine Za ?_
  refine VL.jC (aDd,aUu) [0,3] (fun _ _ h=>h) (go2 hS hK1) rfl
 replace hS:=gQ hS hK1
 refine Zx ?_
 refine Zq (Zr ?_)
 refine Zm ?_
 refine VL.shut rB 9 (fun _ _ _ _=>trivial) ?_
 obtain ⟨aJI,aL9,hS⟩:=aU hS
 refine VL.cR (gG rB aL9) rfl (by decide) ?_
 rintro aK2 rfl
 try dsimp only
 refine Zy ?_
 cases hS
 exact VC.ret (fA (.inr rfl) rfl rfl aK2 rfl rfl (by (try dsimp only); exact cO.out) (fun _ _=>trivial))
theorem rT (OY:Nat) (sQ:pX) (i_1:Int) (NB:Int) {r:Int} (hS:Sh.nL sQ.pl i_1 NB=some r) :
 Ct Tryz.prog 37 [ptr OY 0,i64 i_1,i64 NB] (sQ.a.ok.and (sQ.b.ok.and (sQ.n.ok.and (Cells OY 0 [sQ.a.val,sQ.b.val,sQ.n.val])))) (Ow.emp) (X:=Unit) (fun _=>i64 r) (fun _=>True) (fun _=>Mo.tt) (fun _=>Ow.emp):=by
 refine Zo Tryz.func37 Tryz.ntmps37 fun c => ?_
 unfold Sh.nL at hS
 refine Zq (Zr ?_)
 refine Zy ?_
 refine Zq ?_
 refine VC.draw ((List.range 17).map fun k=>(k,true)) mixed (by kernel_rfl) (by kernel_rfl) (by kernel_rfl) ?_
 refine Zw rfl (bT rfl) ?_
 refine Zw rfl (aG rfl) ?_
 refine Zw rfl (aC aBs rfl) ?_
 refine Zw rfl (CE zD rfl rfl) ?_
 refine Zw rfl (bT rfl) ?_
 refine Zw rfl (bT rfl) ?_
 refine Zw rfl (aG rfl) ?_
 refine Zw rfl (aC P4 rfl) ?_
 refine Zw rfl (CE oK rfl rfl) ?_
 refine Zw rfl (dO (s:=sQ.b) Tryz.underlying23 rfl) ?_
 obtain ⟨b17,hS⟩:=bS hS
 refine Zw rfl (cK rfl rfl b17) ?_
 obtain ⟨b18,hS⟩:=bS hS
 refine Zw rfl (aDW rfl rfl b18) ?_
 refine Zw rfl (bT rfl) ?_
 obtain ⟨b20,hS⟩:=bS hS
 refine Zw rfl (cK rfl rfl b20) ?_
 obtain ⟨aHL,aIW,aHk,hS⟩:=e8 hS
 refine Zw rfl (fM (s:=sQ.n) Tryz.underlying65 AE rfl rfl aIW (bQ aIW aHk)) ?_
 refine Zw rfl (rH (s:=sQ.n) fG rfl aHk rfl) ?_
 refine Zw rfl (fT rfl) ?_
 refine VD.to (fun _ _ h=>h) ?_
 refine VC.keep (ρ':=[(6,i64 aHL)]) [6] rfl ?_
 cases hS
 exact Ze
theorem aB3 (bU:Sv aV) (b_1:Sv aV) {r:(Unit×gR)⊕(uG×Unit)} (hS:Sh.FZ bU.l b_1.l=some r) :
 Ct Tryz.prog 17 [bU.val,b_1.val] (bU.ok.and b_1.ok) (Ow.emp) (X:=(Er)⊕(Nat×pX)) (fun x=>match x with | .inl x => .tuple #[.pointer none,x.val] | .inr x => .tuple #[ptr x.1 0,.nilIface]) (fun x=>match x with | .inl x=>r = .inl ((),x.pl) | .inr x=>r = .inr (x.2.pl,())) (fun x=>match x with | .inl x=>x.ok | .inr x=>(x.2.a.ok.and (x.2.b.ok.and x.2.n.ok))) (fun x=>match x with | .inl x=>Ow.emp | .inr x=>bP x.1 [x.2.a.val,x.2.b.val,x.2.n.val] 108):=by
 refine Zo Tryz.func17 Tryz.ntmps17 fun c => ?_
 unfold Sh.FZ at hS
 refine Zq (Zr ?_)
 refine Zy ?_
 refine Zq (Zq (Zr ?_))
 refine Zm ?_
 refine Zu (dO (s:=bU) Tryz.underlying23 rfl) ?_
 refine Zu (jF rfl rfl) ?_
 refine Zl ?_
 refine Zc hS (fun h12 hS => ?_) (fun h12 hS => ?_)
 ·
  refine Zq (Zr ?_)
  refine Zu (BM Tryz.underlying81 (fun _ h=>by cases h) rfl) ?_
  refine Zu (fH (vs:=[(0,str [108,105,110,101,115]),(1,i64 0),(2,(Er.no 4).val)]) (cs := #[str [108,105,110,101,115],i64 0,(Er.no 4).val]) rfl (by kernel_rfl)) ?_
  refine VL.box (cs:=[str [108,105,110,101,115],i64 0,(Er.no 4).val]) rfl rfl (by decide) fun aGL => ?_
  refine VL.aBD aGL ?_
  refine Zu (BM Tryz.underlying84 (fun _ h=>by cases h) rfl) ?_
  refine Zy ?_
  refine VC.keep (ρ':=[(4,.pointer none),(5,(Er.fault aGL [108,105,110,101,115] 0 (Er.no 4)).val)]) [4,5] rfl ?_
  cases hS
  exact VC.ret (CA (.inr rfl) rfl rfl rfl (.inl (Er.fault aGL [108,105,110,101,115] 0 (Er.no 4))) rfl rfl (by (try dsimp only); exact cO.out) (by (try dsimp only); exact eT.out))
 refine Zk ?_
 refine Zq (Zq (Zr ?_))
 refine Zm ?_
 refine Zu (dO (s:=b_1) Tryz.underlying23 rfl) ?_
 refine Zu (jF rfl rfl) ?_
 refine Zl ?_
 refine Zc hS (fun h19 hS => ?_) (fun h19 hS => ?_)
 ·
  refine Zq (Zr ?_)
  refine Zu (BM Tryz.underlying81 (fun _ h=>by cases h) rfl) ?_
  refine Zu (fH (vs:=[(0,str [108,105,110,101,115]),(1,i64 1),(2,(Er.no 4).val)]) (cs := #[str [108,105,110,101,115],i64 1,(Er.no 4).val]) rfl (by kernel_rfl)) ?_
  refine VL.box (cs:=[str [108,105,110,101,115],i64 1,(Er.no 4).val]) rfl rfl (by decide) fun aGM => ?_
  refine VL.aBD aGM ?_
  refine Zu (BM Tryz.underlying84 (fun _ h=>by cases h) rfl) ?_
  refine Zy ?_
  refine VC.keep (ρ':=[(4,.pointer none),(5,(Er.fault aGM [108,105,110,101,115] 1 (Er.no 4)).val)]) [4,5] rfl ?_
  cases hS
  exact VC.ret (CA (.inr rfl) rfl rfl rfl (.inl (Er.fault aGM [108,105,110,101,115] 1 (Er.no 4))) rfl rfl (by (try dsimp only); exact cO.out) (by (try dsimp only); exact eT.out))
 refine Zk ?_
 refine Zq (Zr ?_)
 refine Zy ?_
 refine Zu (dO (s:=bU) Tryz.underlying23 rfl) ?_
 obtain ⟨b28,hS⟩:=bS hS
 refine Zu (cK rfl rfl b28) ?_
 refine Zm ?_
 refine Zu (dO (s:=b_1) Tryz.underlying23 rfl) ?_
 obtain ⟨b31,hS⟩:=bS hS
 refine Zu (cK rfl rfl b31) ?_
 obtain ⟨b32,hS⟩:=bS hS
 refine Zu (aDW rfl rfl b32) ?_
 obtain ⟨b33,hS⟩:=bS hS
 refine VL.make (α:=Int) (z:=0) Tryz.underlying65 aV8 (by decide) rfl rfl b33.1 (Int.le_refl _) (by omega) (by omega) (by decide) (fun aD0 aRx => ?_)
 replace hS:=b5 aRx hS
 refine Zu (fH (vs:=[(0,bU.val),(1,b_1.val),(2,aD0.val)]) (cs := #[bU.val,b_1.val,aD0.val]) rfl (by kernel_rfl)) ?_
 refine VL.box (cs:=[bU.val,b_1.val,aD0.val]) rfl rfl (by decide) fun AR => ?_
 refine Zy ?_
 refine VC.keep (ρ':=[(0,bU.val),(1,b_1.val),(6,ptr AR 0)]) [0,1,6] rfl ?_
 refine Zq (Zq (Zr ?_))
 refine Zm ?_
 refine Zu (dO (s:=bU) Tryz.underlying23 rfl) ?_
 obtain ⟨b38,hS⟩:=bS hS
 refine Zu (o7 rfl rfl b38) ?_
 refine Zy ?_
 refine Zb ?_
 refine VC.iter (S:=Int×Sv Int) (fun sg=>(sg.1,sg.2.l)) (fun sg=>[(0,bU.val),(1,b_1.val),(6,ptr AR 0),(7,i64 sg.1)]) (fun sg=>Mo.tt) (fun sg=>Ow.star (bP AR [bU.val,b_1.val,sg.2.val] 108) (Ow.star (Sv.own sg.2 3) (Ow.emp))) (((bU.l.length:Int) - 1),aD0) [0,1,6,7] hS rfl ?_
 clear hS
 rintro ⟨wN,fO⟩ m1 y1 hS hK1
 refine Zq (Zq (Zr ?_))
 refine Zm ?_
 refine Zu (qF rfl rfl) ?_
 refine Zl ?_
 refine Zc hS (fun h40 hS => ?_) (fun h40 hS => ?_)
 ·
  refine Zk ?_
  refine Zq (Zb (Zq (Zr ?_)))
  refine Zm ?_
  refine Zu (dO (s:=b_1) Tryz.underlying23 rfl) ?_
  obtain ⟨b45,hS⟩:=bS hS
  refine Zu (o7 rfl rfl b45) ?_
  refine Zy ?_
  refine Zb ?_
  refine VC.iter (S:=Int×Sv Int) (fun sg=>(sg.1,sg.2.l)) (fun sg=>[(0,bU.val),(1,b_1.val),(6,ptr AR 0),(7,i64 wN),(8,i64 sg.1)]) (fun sg=>Mo.tt) (fun sg=>Ow.star (bP AR [bU.val,b_1.val,sg.2.val] 108) (Ow.star (Sv.own sg.2 3) (Ow.emp))) (((b_1.l.length:Int) - 1),fO) [0,1,6,7,8] hS rfl ?_
  clear hS
  rintro ⟨yX,FW⟩ m2 y2 hS hK2
  refine Zq (Zq (Zr ?_))
  refine Zm ?_
  refine Zu (qF rfl rfl) ?_
  refine Zl ?_
  refine Zc hS (fun h47 hS => ?_) (fun h47 hS => ?_)
  ·
   refine Zk ?_
   refine Zq (Zb (Zq (Zr ?_)))
   refine Zy ?_
   obtain ⟨b52,hS⟩:=bS hS
   refine Zu (cK rfl rfl b52) ?_
   refine Zm ?_
   obtain ⟨WB,aMQ,hS⟩:=aU hS
   refine Zu (oO (rT AR (⟨bU,b_1,FW⟩:pX) (wN+1) yX aMQ) rfl (fun _ _=>rfl)) ?_
   refine Zy ?_
   obtain ⟨b58,hS⟩:=bS hS
   refine Zu (cK rfl rfl b58) ?_
   obtain ⟨WC,aMY,hS⟩:=aU hS
   refine Zu (oO (rT AR (⟨bU,b_1,FW⟩:pX) wN (yX+1) aMY) rfl (fun _ _=>rfl)) ?_
   refine Zu (aDV rfl) ?_
   refine Zy ?_
   refine VC.keep (ρ':=[(0,bU.val),(1,b_1.val),(6,ptr AR 0),(7,i64 wN),(8,i64 yX),(9,i64 (max WB WC))]) [0,1,6,7,8,9] rfl ?_
   refine VC.gD (S:=Int) (fun (IQ:Int)=>IQ) (fun (IQ:Int)=>[(0,bU.val),(1,b_1.val),(6,ptr AR 0),(7,i64 wN),(8,i64 yX),(9,i64 IQ)]) (fun (IQ:Int)=>Mo.tt) (fun (IQ:Int)=>Ow.star (bP AR [bU.val,b_1.val,FW.val] 108) (Ow.star (Sv.own FW 3) (Ow.emp))) hS ?_ ?_
   ·
    clear hS
    intro k13 hS
    refine Zq ?_
    refine VC.draw ((List.range 9).map fun k=>(k,true)) mixed (by kernel_rfl) (by kernel_rfl) (by kernel_rfl) ?_
    refine Zw rfl (bT rfl) ?_
    refine Zw rfl (bT rfl) ?_
    obtain ⟨aDv,aFZ,aEr,hS⟩:=e8 hS
    refine Zw rfl (fM (s:=bU) Tryz.underlying23 o4 rfl rfl aFZ (bQ aFZ aEr)) ?_
    refine Zw rfl (rH (s:=bU) dK rfl aEr rfl) ?_
    refine Zw rfl (bT rfl) ?_
    refine Zw rfl (bT rfl) ?_
    obtain ⟨aDw,aF1,aEt,hS⟩:=e8 hS
    refine Zw rfl (fM (s:=b_1) Tryz.underlying23 o4 rfl rfl aF1 (bQ aF1 aEt)) ?_
    refine Zw rfl (rH (s:=b_1) dK rfl aEt rfl) ?_
    refine Zw rfl (yK rfl rfl) ?_
    refine VD.to (fun _ _ h=>h) ?_
    refine VC.keep (ρ':=[(0,bU.val),(1,b_1.val),(6,ptr AR 0),(7,i64 wN),(8,i64 yX),(9,i64 (max WB WC)),(69,.bool (decide (aDv=aDw)))]) [0,1,6,7,8,9,69] rfl ?_
    refine Zc hS (fun h69 hS => ?_) (fun h69 hS => ?_)
    ·
     refine Zr ?_
     refine Zy ?_
     obtain ⟨b72,hS⟩:=bS hS
     refine Zu (cK rfl rfl b72) ?_
     refine Zm ?_
     obtain ⟨b74,hS⟩:=bS hS
     refine Zu (cK rfl rfl b74) ?_
     obtain ⟨ZH,aMk,hS⟩:=aU hS
     refine Zu (oO (rT AR (⟨bU,b_1,FW⟩:pX) (wN+1) (yX+1) aMk) rfl (fun _ _=>rfl)) ?_
     obtain ⟨b76,hS⟩:=bS hS
     refine Zu (cK rfl rfl b76) ?_
     refine Za ?_
     refine VL.mt (ZH+1) [0,1,6,7,8,9] (fun _ _ h=>h) hS rfl
    refine VC.fZ (max WB WC) [0,1,6,7,8,9] (fun _ _ h=>h) hS rfl
   clear hS
   rintro IQ hS
   refine Zr ?_
   refine Zm ?_
   refine Zu (aG rfl) ?_
   refine Zu (aC aBs rfl) ?_
   refine Zu (aT zD rfl rfl) ?_
   refine Zy ?_
   refine Zu (dO (s:=b_1) Tryz.underlying23 rfl) ?_
   obtain ⟨b84,hS⟩:=bS hS
   refine Zu (cK rfl rfl b84) ?_
   obtain ⟨b85,hS⟩:=bS hS
   refine Zu (aDW rfl rfl b85) ?_
   refine Zm ?_
   obtain ⟨b87,hS⟩:=bS hS
   refine Zu (cK rfl rfl b87) ?_
   refine Zm ?_
   obtain ⟨aTw,aF7,aEy,hS⟩:=e8 hS
   refine Zu (l5 (s:=FW) Tryz.underlying65 AE rfl rfl aF7 (bQ aF7 aEy)) ?_
   refine VL.sJ (s:=FW) (T:=3) (j:=0) (vc:=[i64 IQ]) (IQ:Int) (by decide) rfl rfl aEy rfl AE rfl rfl (Nat.le_of_ble_eq_true rfl) rfl (fun w18 hw18 haw18 hcw18 hvw18 hbw18 how18 => ?_)
   rw [← hvw18]
   replace hS:=b5 hw18 hS
   refine Zl ?_
   refine VC.keep (ρ':=[(0,bU.val),(1,b_1.val),(6,ptr AR 0),(7,i64 wN),(8,i64 yX)]) [0,1,6,7,8] rfl ?_
   refine Zr ?_
   refine Zm ?_
   obtain ⟨b49,hS⟩:=bS hS
   refine Zu (o7 rfl rfl b49) ?_
   refine Za ?_
   refine VL.jC ((yX - 1),w18) [0,1,6,7,8] (fun _ _ h=>h) (go2 hS hK2) rfl
  replace hS:=gQ hS hK2
  refine Zx ?_
  refine Zr ?_
  refine Zm ?_
  obtain ⟨b42,hS⟩:=bS hS
  refine Zu (o7 rfl rfl b42) ?_
  refine Za ?_
  refine VL.jC ((wN - 1),FW) [0,1,6,7] (fun _ _ h=>h) (go2 hS hK1) rfl
 replace hS:=gQ hS hK1
 refine Zx ?_
 refine Zq (Zr ?_)
 refine Zy ?_
 refine VC.shut fO 3 (fun _ _ _ _=>trivial) ?_
 cases hS
 exact VC.ret (CA (.inr rfl) rfl rfl rfl (.inr (AR,⟨bU,b_1,fO⟩)) rfl rfl (by (try dsimp only); exact cO.out) (by (try dsimp only); exact eT.out))
theorem mM (aB:Sv dA) {r:List dA} (hS:Sh.fF aB.l=some r) :
 Ct Tryz.prog 19 [aB.val] aB.ok (Ow.emp) (X:=Sv dA) (fun x=>x.val) (fun x=>r=x.l) (fun x=>x.ok) (fun x=>Ow.emp):=by
 refine Zo Tryz.func19 Tryz.ntmps19 fun c => ?_
 unfold Sh.fF at hS
 refine Zq (Zr ?_)
 refine Zy ?_
 refine Zq (Zr ?_)
 refine Zy ?_
 refine Zu (dO (s:=aB) Tryz.underlying25 rfl) ?_
 refine Zm ?_
 refine Zu (dO (s:=aB) Tryz.underlying25 rfl) ?_
 obtain ⟨b8,hS⟩:=bS hS
 refine VL.M7 Tryz.underlying25 EA rfl rfl rfl b8.1 (b8.2) (by decide) fun wZ qU => ?_
 replace hS:=b5 qU hS
 refine Zy ?_
 cases hS
 exact VC.ret (fA (.inr rfl) rfl rfl wZ rfl rfl (by (try dsimp only); exact cO.out) (fun _ _=>trivial))
theorem QX (OY:Nat) (sQ:pX) (i_1:Int) (NB:Int) {r:Int} (hS:Sh.tF sQ.pl i_1 NB=some r) :
 Ct Tryz.prog 18 [ptr OY 0,i64 i_1,i64 NB] (sQ.a.ok.and (sQ.b.ok.and (sQ.n.ok.and (Cells OY 0 [sQ.a.val,sQ.b.val,sQ.n.val])))) (Ow.emp) (X:=Unit) (fun _=>i64 r) (fun _=>True) (fun _=>Mo.tt) (fun _=>Ow.emp):=by
 refine Zo Tryz.func18 Tryz.ntmps18 fun c => ?_
 unfold Sh.tF at hS
 refine Zq (Zr ?_)
 refine Zy ?_
 refine Zq (Zb ?_)
 refine VC.gD (S:=Bool) (fun (YG:Bool)=>YG) (fun (YG:Bool)=>[(0,ptr OY 0),(1,i64 i_1),(2,i64 NB),(7,.bool YG)]) (fun (YG:Bool)=>Mo.tt) (fun (YG:Bool)=>Ow.emp) hS ?_ ?_
 ·
  clear hS
  intro k2 hS
  refine VC.draw ((List.range 34).map fun k=>(k,true)) mixed (by kernel_rfl) (by kernel_rfl) (by kernel_rfl) ?_
  refine Zw rfl (bT rfl) ?_
  refine Zw rfl (bT rfl) ?_
  refine Zw rfl (aG rfl) ?_
  refine Zw rfl (aC WZ rfl) ?_
  refine Zw rfl (CE oK rfl rfl) ?_
  refine Zw rfl (dO (s:=sQ.a) Tryz.underlying23 rfl) ?_
  refine Zw rfl (dL rfl rfl) ?_
  refine Zw rfl (bT rfl) ?_
  refine VD.uP 15 rfl (fun h15 => ?_) (fun h15 => ?_)
  ·
   replace hS:=MZ h15 hS
   refine Zi rfl (bT rfl) ?_
   refine Zi rfl (bT rfl) ?_
   refine Zi rfl (aG rfl) ?_
   refine Zi rfl (aC P4 rfl) ?_
   refine Zi rfl (CE oK rfl rfl) ?_
   refine Zi rfl (dO (s:=sQ.b) Tryz.underlying23 rfl) ?_
   refine Zi rfl (dL rfl rfl) ?_
   refine Zw rfl (jR rfl rfl) ?_
   refine Zw rfl (bT rfl) ?_
   refine VD.uP 24 rfl (fun h24 => ?_) (fun h24 => ?_)
   ·
    replace hS:=MZ h24 hS
    refine Zi rfl (bT rfl) ?_
    refine Zi rfl (aG rfl) ?_
    refine Zi rfl (aC WZ rfl) ?_
    refine Zi rfl (CE oK rfl rfl) ?_
    refine Zi rfl (bT rfl) ?_
    obtain ⟨aHO,aI6,aHs,hS⟩:=e8 hS
    refine Zi rfl (fM (s:=sQ.a) Tryz.underlying23 o4 rfl rfl aI6 (bQ aI6 aHs)) ?_
    refine Zi rfl (rH (s:=sQ.a) dK rfl aHs rfl) ?_
    refine Zi rfl (bT rfl) ?_
    refine Zi rfl (aG rfl) ?_
    refine Zi rfl (aC P4 rfl) ?_
    refine Zi rfl (CE oK rfl rfl) ?_
    refine Zi rfl (bT rfl) ?_
    obtain ⟨aHP,aI9,aHv,hS⟩:=e8 hS
    refine Zi rfl (fM (s:=sQ.b) Tryz.underlying23 o4 rfl rfl aI9 (bQ aI9 aHv)) ?_
    refine Zi rfl (rH (s:=sQ.b) dK rfl aHv rfl) ?_
    refine Zi rfl (yK rfl rfl) ?_
    refine Zw rfl (jR rfl rfl) ?_
    refine Zw rfl (fT rfl) ?_
    refine VD.mt (decide (aHO=aHP)) [0,1,2,7] (fun _ _ h=>h) hS rfl
   replace hS:=RD h24 hS
   refine Zd ?_
   refine Zd ?_
   refine Zd ?_
   refine Zd ?_
   refine Zd ?_
   refine Zd ?_
   refine Zd ?_
   refine Zd ?_
   refine Zd ?_
   refine Zd ?_
   refine Zd ?_
   refine Zd ?_
   refine Zd ?_
   refine Zd ?_
   refine Zd ?_
   refine Zw rfl (iG rfl rfl) ?_
   refine Zw rfl (fT rfl) ?_
   refine VD.mt false [0,1,2,7] (fun _ _ h=>h) hS rfl
  replace hS:=RD h15 hS
  refine Zd ?_
  refine Zd ?_
  refine Zd ?_
  refine Zd ?_
  refine Zd ?_
  refine Zd ?_
  refine Zd ?_
  refine Zw rfl (iG rfl rfl) ?_
  refine Zw rfl (bT rfl) ?_
  refine Zd ?_
  refine Zd ?_
  refine Zd ?_
  refine Zd ?_
  refine Zd ?_
  refine Zd ?_
  refine Zd ?_
  refine Zd ?_
  refine Zd ?_
  refine Zd ?_
  refine Zd ?_
  refine Zd ?_
  refine Zd ?_
  refine Zd ?_
  refine Zd ?_
  refine Zw rfl (iG rfl rfl) ?_
  refine Zw rfl (fT rfl) ?_
  refine VD.mt false [0,1,2,7] (fun _ _ h=>h) hS rfl
 clear hS
 rintro YG hS
 refine iT hS (fun h7 hS => ?_) (fun h7 hS => ?_)
 ·
  refine Zq (Zr ?_)
  refine Zy ?_
  cases hS
  exact Ze
 refine VC.gD (S:=Bool) (fun (PM:Bool)=>PM) (fun (PM:Bool)=>[(41,.bool PM)]) (fun (PM:Bool)=>Mo.tt) (fun (PM:Bool)=>Ow.emp) hS ?_ ?_
 ·
  clear hS
  intro k6 hS
  refine Zr ?_
  refine Zy ?_
  refine Zu (aG rfl) ?_
  refine Zu (aC WZ rfl) ?_
  refine Zu (CE oK rfl rfl) ?_
  refine Zu (dO (s:=sQ.a) Tryz.underlying23 rfl) ?_
  refine Zu (dL rfl rfl) ?_
  refine Zm ?_
  refine mF 49 hS (fun h49 hS => ?_) (fun h49 hS => ?_)
  ·
   refine Zy ?_
   refine Zh (aG rfl) ?_
   refine Zh (aC P4 rfl) ?_
   refine Zh (CE oK rfl rfl) ?_
   refine Zh (dO (s:=sQ.b) Tryz.underlying23 rfl) ?_
   refine Zh (hU rfl rfl) ?_
   refine Zg ?_
   refine mF 57 hS (fun h57 hS => ?_) (fun h57 hS => ?_)
   ·
    refine VL.runs 11 [(68,none)] (by kernel_rfl) ?_
    refine Zh (jR rfl rfl) ?_
    refine Zy ?_
    refine VL.mt true [41] (fun _ _ h=>h) hS rfl
   refine Zy ?_
   obtain ⟨b60,hS⟩:=bS hS
   refine Zh (cK rfl rfl b60) ?_
   refine Zg ?_
   obtain ⟨aHF,aRK,hS⟩:=aU hS
   refine Zh (cN (rT OY sQ (i_1+1) NB aRK) rfl (fun _ _=>rfl)) ?_
   refine Zy ?_
   obtain ⟨b66,hS⟩:=bS hS
   refine Zh (cK rfl rfl b66) ?_
   obtain ⟨aHG,aRO,hS⟩:=aU hS
   refine Zh (cN (rT OY sQ i_1 (NB+1) aRO) rfl (fun _ _=>rfl)) ?_
   refine Zh (qF rfl rfl) ?_
   refine Zh (iG rfl rfl) ?_
   refine Zy ?_
   refine VL.mt (decide (aHG≤aHF)) [41] (fun _ _ h=>h) hS rfl
  refine VL.runs 22 [(41,some false)] (by kernel_rfl) ?_
  refine VL.mt false [41] (fun _ _ h=>h) hS rfl
 clear hS
 rintro PM hS
 refine iT hS (fun h41 hS => ?_) (fun h41 hS => ?_)
 ·
  refine Zq (Zr ?_)
  refine Zy ?_
  cases hS
  exact Ze
 refine Zk ?_
 refine Zq (Zr ?_)
 refine Zy ?_
 cases hS
 exact Ze
theorem Z1 (bU:Sv aV) (b_1:Sv aV) {r:List dA×gR} (hS:Sh.DI bU.l b_1.l=some r) :
 Ct Tryz.prog 6 [bU.val,b_1.val] (bU.ok.and b_1.ok) (Ow.emp) (X:=Sv dA×Er) (fun x => .tuple #[x.1.val,x.2.val]) (fun x=>r=(x.1.l,x.2.pl)) (fun x=>(x.1.ok.and x.2.ok)) (fun x=>Ow.emp):=by
 refine Zo Tryz.func6 Tryz.ntmps6 fun c => ?_
 unfold Sh.DI at hS
 refine Zq (Zr ?_)
 refine Zy ?_
 refine Zq (Zr ?_)
 refine Zy ?_
 obtain ⟨TJ,aQG,hS⟩:=aU hS
 refine VL.cA (aB3 bU b_1 aQG) rfl (by decide) ?_
 rintro (oN | ⟨oN,qB⟩) rfl
 ·
  try dsimp only at hS
  try dsimp only
  refine Zm ?_
  refine Zu (bG rfl rfl) ?_
  refine Zu (bG rfl rfl) ?_
  refine Zy ?_
  refine VC.keep (ρ':=[(0,bU.val),(1,b_1.val),(6,.pointer none),(7,oN.val)]) [0,1,6,7] rfl ?_
  refine Zq (Zq (Zr ?_))
  refine Zm ?_
  refine Zu (nD Tryz.underlying27 rfl) ?_
  refine Zl ?_
  refine rI hS (fun h20 hS => ?_) (fun h20 hS => ?_)
  ·
   refine Zq (Zr ?_)
   refine Zy ?_
   cases hS
   exact VC.ret (CA (.inr rfl) rfl rfl rfl (⟨none,0,[]⟩,oN) rfl rfl (by (try dsimp only); exact cO.out) (fun _ _=>trivial))
  refine Zk ?_
  refine Zq (Zr ?_)
  refine Zy ?_
  refine VC.gD (S:=Unit) (fun (_:Unit)=>()) (fun (_:Unit)=>[(8,.slice none 0 0)]) (fun (_:Unit)=>Mo.tt) (fun (_:Unit)=>Ow.emp) hS ?_ ?_
  ·
   clear hS
   intro k2 hS
   refine Zq (Zr ?_)
   refine Zy ?_
   refine Zb ?_
   refine VC.iter (S:=Unit) (fun (_:Unit)=>()) (fun (_:Unit)=>[(0,bU.val),(1,b_1.val),(6,.pointer none),(8,.slice none 0 0),(9,i64 0),(10,i64 0)]) (fun (_:Unit)=>Mo.tt) (fun (_:Unit)=>Ow.emp) () [0,1,6,8,9,10] hS rfl ?_
   clear hS
   rintro _ m1 y1 hS hK1
   refine VC.gD (S:=Unit) (fun (_:Unit)=>()) (fun (_:Unit)=>[(0,bU.val),(1,b_1.val),(6,.pointer none),(8,.slice none 0 0),(9,i64 0),(10,i64 0)]) (fun (_:Unit)=>Mo.tt) (fun (_:Unit)=>Ow.emp) hS ?_ ?_
   ·
    clear hS
    intro k3 hS
    refine Zq (Zr ?_)
    refine Zy ?_
    refine Zu (dO (s:=bU) Tryz.underlying23 rfl) ?_
    refine Zu (dL rfl rfl) ?_
    refine Zm ?_
    refine mF 26 hS (fun h26 hS => ?_) (fun h26 hS => ?_)
    ·
     refine VL.runs 5 [(31,some true)] (by kernel_rfl) ?_
     refine Zl ?_
     refine VC.EV rfl ?_
     refine VC.fZ () [0,1,6,8,9,10] (fun _ _ h=>h) hS rfl
    refine Zy ?_
    refine Zh (dO (s:=b_1) Tryz.underlying23 rfl) ?_
    refine Zh (dL rfl rfl) ?_
    refine Zy ?_
    refine VC.keep (ρ':=[(0,bU.val),(1,b_1.val),(6,.pointer none),(8,.slice none 0 0),(9,i64 0),(10,i64 0),(31,.bool (decide (0 < (b_1.l.length:Int))))]) [0,1,6,8,9,10,31] rfl ?_
    refine Zc hS (fun h31 hS => ?_) (fun h31 hS => ?_)
    ·
     refine VC.fZ () [0,1,6,8,9,10] (fun _ _ h=>h) hS rfl
    replace hS:=gQ hS hK1
    refine VC.eM () [8] (fun _ _ h=>h) hS rfl
   clear hS
   rintro _ hS
   refine Zb (Zq (Zr ?_))
   refine Zy ?_
   cases hS
  clear hS
  rintro _ hS
  refine Zq (Zr ?_)
  refine Zm ?_
  obtain ⟨aPj,aRM,hS⟩:=aU hS
  refine VL.cR (mM ⟨none,0,[]⟩ aRM) rfl (by decide) ?_
  rintro aOl rfl
  try dsimp only
  refine Zy ?_
  cases hS
  exact VC.ret (CA (.inr rfl) rfl rfl rfl (aOl,.nil) rfl rfl (by (try dsimp only); exact cO.out) (fun _ _=>trivial))
 try dsimp only at hS
 try dsimp only
 refine Zm ?_
 refine Zu (bG rfl rfl) ?_
 refine Zu (bG rfl rfl) ?_
 refine Zy ?_
 refine VC.keep (ρ':=[(0,bU.val),(1,b_1.val),(6,ptr oN 0),(7,.nilIface)]) [0,1,6,7] rfl ?_
 refine Zq (Zq (Zr ?_))
 refine Zm ?_
 refine Zu (aFp Tryz.underlying27 rfl) ?_
 refine Zl ?_
 refine VC.vY rfl ?_
 refine Zk ?_
 refine Zq (Zr ?_)
 refine Zy ?_
 refine VC.gD (S:=Sv dA) (fun (BF:Sv dA)=>BF.l) (fun (BF:Sv dA)=>[(8,BF.val)]) (fun (BF:Sv dA)=>Mo.tt) (fun (BF:Sv dA)=>Ow.star (bP oN [qB.a.val,qB.b.val,qB.n.val] 108) (Ow.star (Sv.own BF 75) (Ow.emp))) hS ?_ ?_
 ·
  clear hS
  intro k6 hS
  refine Zq (Zr ?_)
  refine Zy ?_
  refine Zb ?_
  refine VC.lR (⟨none,0,[]⟩:Sv dA) 75 ⟨rfl,rfl⟩ ?_
  refine VC.iter (S:=Sv dA×Int×Int) (fun sg=>(sg.1.l,sg.2.1,sg.2.2)) (fun sg=>[(0,bU.val),(1,b_1.val),(6,ptr oN 0),(8,sg.1.val),(9,i64 sg.2.1),(10,i64 sg.2.2)]) (fun sg=>Mo.tt) (fun sg=>Ow.star (bP oN [qB.a.val,qB.b.val,qB.n.val] 108) (Ow.star (Sv.own sg.1 75) (Ow.emp))) (⟨none,0,[]⟩,0,0) [0,1,6,8,9,10] hS rfl ?_
  clear hS
  rintro ⟨s4,CC,sL⟩ m1 y1 hS hK1
  refine VC.gD (S:=Unit) (fun (_:Unit)=>()) (fun (_:Unit)=>[(0,bU.val),(1,b_1.val),(6,ptr oN 0),(8,s4.val),(9,i64 CC),(10,i64 sL)]) (fun (_:Unit)=>Mo.tt) (fun (_:Unit)=>Ow.star (bP oN [qB.a.val,qB.b.val,qB.n.val] 108) (Ow.star (Sv.own s4 75) (Ow.emp))) hS ?_ ?_
  ·
   clear hS
   intro k10 hS
   refine Zq (Zr ?_)
   refine Zy ?_
   refine Zu (dO (s:=bU) Tryz.underlying23 rfl) ?_
   refine Zu (dL rfl rfl) ?_
   refine Zm ?_
   refine mF 26 hS (fun h26 hS => ?_) (fun h26 hS => ?_)
   ·
    refine VL.runs 5 [(31,some true)] (by kernel_rfl) ?_
    refine Zl ?_
    refine VC.EV rfl ?_
    refine VC.fZ () [0,1,6,8,9,10] (fun _ _ h=>h) hS rfl
   refine Zy ?_
   refine Zh (dO (s:=b_1) Tryz.underlying23 rfl) ?_
   refine Zh (dL rfl rfl) ?_
   refine Zy ?_
   refine VC.keep (ρ':=[(0,bU.val),(1,b_1.val),(6,ptr oN 0),(8,s4.val),(9,i64 CC),(10,i64 sL),(31,.bool (decide (sL < (b_1.l.length:Int))))]) [0,1,6,8,9,10,31] rfl ?_
   refine Zc hS (fun h31 hS => ?_) (fun h31 hS => ?_)
   ·
    refine VC.fZ () [0,1,6,8,9,10] (fun _ _ h=>h) hS rfl
   replace hS:=gQ hS hK1
   refine VC.eM s4 [8] (fun _ _ h=>h) hS rfl
  clear hS
  rintro _ hS
  refine Zb (Zq (Zr ?_))
  refine Zy ?_
  obtain ⟨tD,aLn,hS⟩:=aU hS
  refine Zu (oO (QX oN qB CC sL aLn) rfl (fun _ _=>rfl)) ?_
  refine Zy ?_
  refine Zq (Zr ?_)
  refine Zy ?_
  refine VC.gD (S:=Int×Int×aV) (fun sg=>(sg.1,sg.2.1,sg.2.2)) (fun sg=>[(0,bU.val),(1,b_1.val),(6,ptr oN 0),(8,s4.val),(9,i64 sg.1),(10,i64 sg.2.1),(11,i64 tD),(12,str sg.2.2)]) (fun sg=>Mo.tt) (fun sg=>Ow.star (bP oN [qB.a.val,qB.b.val,qB.n.val] 108) (Ow.star (Sv.own s4 75) (Ow.emp))) hS ?_ ?_
  ·
   clear hS
   intro k15 hS
   refine Zq (Zr ?_)
   refine Zy ?_
   refine Zb (Zq (Zb ?_))
   refine VC.gD (S:=Int) (fun (E9:Int)=>E9) (fun (E9:Int)=>[(0,bU.val),(1,b_1.val),(6,ptr oN 0),(8,s4.val),(9,i64 CC),(10,i64 E9),(11,i64 tD)]) (fun (E9:Int)=>Mo.tt) (fun (E9:Int)=>Ow.star (bP oN [qB.a.val,qB.b.val,qB.n.val] 108) (Ow.star (Sv.own s4 75) (Ow.emp))) hS ?_ ?_
   ·
    clear hS
    intro k17 hS
    refine Zb (Zq (Zb (Zq (Zq (Zq (Zr ?_))))))
    refine Zu (hU rfl rfl) ?_
    refine Zy ?_
    refine Zc hS (fun h37 hS => ?_) (fun h37 hS => ?_)
    ·
     refine Zx ?_
     refine VC.keep (ρ':=[(0,bU.val),(1,b_1.val),(6,ptr oN 0),(8,s4.val),(9,i64 CC),(10,i64 sL),(11,i64 tD)]) [0,1,6,8,9,10,11] rfl ?_
     refine Zr ?_
     refine Zm ?_
     obtain ⟨b44,hS⟩:=bS hS
     refine Zu (cK rfl rfl b44) ?_
     refine Za ?_
     refine VL.mt (sL+1) [0,1,6,8,9,10,11] (fun _ _ h=>h) hS rfl
    refine Zk ?_
    refine Zq (Zq (Zr ?_))
    refine Zu (hU rfl rfl) ?_
    refine Zy ?_
    refine VC.keep (ρ':=[(0,bU.val),(1,b_1.val),(6,ptr oN 0),(8,s4.val),(9,i64 CC),(10,i64 sL),(11,i64 tD),(12,str []),(36,i64 tD),(39,.bool (decide (tD=2)))]) [0,1,6,8,9,10,11,12,36,39] rfl ?_
    refine Zc hS (fun h39 hS => ?_) (fun h39 hS => ?_)
    ·
     refine VC.eM sL [0,1,6,8,9,10,11] (fun _ _ h=>h) hS rfl
    refine Zk ?_
    refine Zq (Zr ?_)
    refine Zu (hU rfl rfl) ?_
    refine Zy ?_
    refine Zc hS (fun h41 hS => ?_) (fun h41 hS => ?_)
    ·
     refine Zx ?_
     refine Zq (Zq (Zr ?_))
     refine Zy ?_
     obtain ⟨ZJ,aFV,aEo,hS⟩:=e8 hS
     refine Zu (fM (s:=b_1) Tryz.underlying23 o4 rfl rfl aFV (bQ aFV aEo)) ?_
     refine Zu (rH (s:=b_1) dK rfl aEo rfl) ?_
     refine Zy ?_
     refine VC.keep (ρ':=[(0,bU.val),(1,b_1.val),(6,ptr oN 0),(8,s4.val),(9,i64 CC),(10,i64 sL),(11,i64 tD),(12,str ZJ)]) [0,1,6,8,9,10,11,12] rfl ?_
     refine Zr ?_
     refine Zm ?_
     obtain ⟨b56,hS⟩:=bS hS
     refine Zu (cK rfl rfl b56) ?_
     refine Zy ?_
     refine VC.eM (CC,(sL+1),ZJ) [0,1,6,8,9,10,11,12] (fun _ _ h=>h) hS rfl
    refine Zk ?_
    refine VC.eM (CC,sL,[]) [0,1,6,8,9,10,11,12] (fun _ _ h=>h) hS rfl
   clear hS
   rintro E9 hS
   refine Zq (Zq (Zr ?_))
   refine Zy ?_
   obtain ⟨aDt,aFO,aEj,hS⟩:=e8 hS
   refine Zu (fM (s:=bU) Tryz.underlying23 o4 rfl rfl aFO (bQ aFO aEj)) ?_
   refine Zu (rH (s:=bU) dK rfl aEj rfl) ?_
   refine Zy ?_
   refine Zr ?_
   refine Zm ?_
   obtain ⟨b50,hS⟩:=bS hS
   refine Zu (cK rfl rfl b50) ?_
   refine Zy ?_
   refine VC.eM ((CC+1),E9,aDt) [0,1,6,8,9,10,11,12] (fun _ _ h=>h) hS rfl
  clear hS
  rintro ⟨aG5,aDH,CQ⟩ hS
  refine Zr ?_
  refine Zy ?_
  refine Zu (fH (vs:=[(0,i64 tD),(1,str CQ)]) (cs := #[i64 tD,str CQ]) rfl (by kernel_rfl)) ?_
  refine VL.lit (α:=dA) (xs:=[.tmp 60]) (vs:=[.agg #[i64 tD,str CQ]]) [⟨tD,CQ⟩] Tryz.underlying25 aRZ (by decide) rfl rfl rfl rfl (by decide) (fun _ _ _ _=>trivial) (by decide) (fun aSz aNq => ?_) (by decide)
  replace hS:=b5 aNq hS
  obtain ⟨b62,hS⟩:=bS hS
  refine VL.app (s:=s4) (r:=aSz) Tryz.underlying25 aH4 (by decide) rfl Fo.out (uW b62) (uX b62 (by decide)) (by decide) (fun aTA aNs => ?_)
  replace hS:=b5 aNs hS
  refine Za ?_
  refine VL.jC (aTA,aG5,aDH) [0,1,6,8,9,10] (fun _ _ h=>h) (go2 hS hK1) rfl
 clear hS
 rintro BF hS
 refine Zq (Zr ?_)
 refine Zm ?_
 refine VL.shut BF 75 (fun _ _ _ _=>trivial) ?_
 obtain ⟨aJj,aM6,hS⟩:=aU hS
 refine VL.cR (mM BF aM6) rfl (by decide) ?_
 rintro aKy rfl
 try dsimp only
 refine Zy ?_
 cases hS
 exact VC.ret (CA (.inr rfl) rfl rfl rfl (aKy,.nil) rfl rfl (by (try dsimp only); exact cO.out) (fun _ _=>trivial))
theorem CU (dZ:Sv dA) {r:Int×Int×Bool} (hS:Sh.oV dZ.l=some r) :
 Ct Tryz.prog 38 [dZ.val] dZ.ok (Ow.emp) (X:=Unit) (fun _ => .tuple #[i64 r.1,i64 r.2.1,.bool r.2.2]) (fun _=>True) (fun _=>Mo.tt) (fun _=>Ow.emp):=by
 refine Zo Tryz.func38 Tryz.ntmps38 fun c => ?_
 unfold Sh.oV at hS
 refine Zq (Zr ?_)
 refine Zy ?_
 refine Zq (Zq (Zr ?_))
 refine Zm ?_
 refine Zu (dO (s:=dZ) Tryz.underlying25 rfl) ?_
 refine Zy ?_
 refine Zb ?_
 refine VC.iter (S:=Int×Int×Int) (fun sg=>(sg.1,sg.2.1,sg.2.2)) (fun sg=>[(2,i64 sg.1),(3,i64 sg.2.1),(7,dZ.val),(8,i64 (dZ.l.length:Int)),(9,i64 sg.2.2)]) (fun sg=>Mo.tt) (fun sg=>Ow.emp) (0,0,0) [2,3,7,8,9] hS rfl ?_
 clear hS
 rintro ⟨xW,xH,xD⟩ m1 y1 hS hK1
 refine Zq (Zr ?_)
 refine Zu (dL rfl rfl) ?_
 refine Zl ?_
 refine Zq ?_
 refine Zc hS (fun h10 hS => ?_) (fun h10 hS => ?_)
 ·
  refine Zk ?_
  refine Zq (Zb (Zq (Zr ?_)))
  obtain ⟨l7,HV,E6,hS⟩:=e8 hS
  refine Zu (fM (s:=dZ) Tryz.underlying25 EA rfl rfl HV (bQ HV E6)) ?_
  refine Zu (lZ (s:=dZ) YW rfl rfl E6) ?_
  refine VL.alloc (cs:=[i64 0,str []]) (by kernel_rfl) (by decide) fun ZR => ?_
  refine Zv (vc:=[i64 l7.op,str l7.line]) (cs':=[i64 l7.op,str l7.line]) rfl EA ?_
  refine Zl ?_
  refine Zq (Zr ?_)
  refine Zu (aC UH rfl) ?_
  refine Zu (aT fG rfl rfl) ?_
  refine Zl ?_
  refine Zb (Zq (Zb (Zq (Zb (Zq (Zb (Zq (Zb (Zq (Zq (Zq (Zr ?_))))))))))))
  refine Zu (hU rfl rfl) ?_
  refine Zy ?_
  refine Zc hS (fun h15 hS => ?_) (fun h15 hS => ?_)
  ·
   refine Zx ?_
   refine VC.keep (ρ':=[(2,i64 xW),(3,i64 xH),(7,dZ.val),(8,i64 (dZ.l.length:Int)),(9,i64 xD)]) [2,3,7,8,9] rfl ?_
   refine Zr ?_
   refine Zm ?_
   obtain ⟨b22,hS⟩:=bS hS
   refine Zu (cK rfl rfl b22) ?_
   refine Zy ?_
   refine Zq (Zr ?_)
   refine Zm ?_
   obtain ⟨b24,hS⟩:=bS hS
   refine Zu (cK rfl rfl b24) ?_
   refine Zy ?_
   refine Zx ?_
   refine Zr ?_
   obtain ⟨b27,hS⟩:=bS hS
   refine Zu (cK rfl rfl b27) ?_
   refine Zm ?_
   refine VL.jC ((xW+1),(xH+1),(xD+1)) [2,3,7,8,9] (fun _ _ h=>h) (go2 hS hK1) rfl
  refine Zk ?_
  refine VC.keep (ρ':=[(2,i64 xW),(3,i64 xH),(7,dZ.val),(8,i64 (dZ.l.length:Int)),(9,i64 xD),(14,i64 l7.op)]) [2,3,7,8,9,14] rfl ?_
  refine Zq (Zq (Zr ?_))
  refine Zu (hU rfl rfl) ?_
  refine Zy ?_
  refine Zc hS (fun h17 hS => ?_) (fun h17 hS => ?_)
  ·
   refine Zx ?_
   refine Zq (Zr ?_)
   refine Zm ?_
   obtain ⟨b24,hS⟩:=bS hS
   refine Zu (cK rfl rfl b24) ?_
   refine Zy ?_
   refine Zx ?_
   refine Zr ?_
   obtain ⟨b27,hS⟩:=bS hS
   refine Zu (cK rfl rfl b27) ?_
   refine Zm ?_
   refine VL.jC ((xW+1),xH,(xD+1)) [2,3,7,8,9] (fun _ _ h=>h) (go2 hS hK1) rfl
  refine Zk ?_
  refine Zq (Zr ?_)
  refine Zu (hU rfl rfl) ?_
  refine Zy ?_
  refine Zc hS (fun h19 hS => ?_) (fun h19 hS => ?_)
  ·
   refine Zx ?_
   refine Zq (Zr ?_)
   refine Zm ?_
   obtain ⟨b26,hS⟩:=bS hS
   refine Zu (cK rfl rfl b26) ?_
   refine Zy ?_
   refine VC.keep (ρ':=[(2,i64 xW),(3,i64 (xH+1)),(7,dZ.val),(8,i64 (dZ.l.length:Int)),(9,i64 xD)]) [2,3,7,8,9] rfl ?_
   refine Zx ?_
   refine Zr ?_
   obtain ⟨b27,hS⟩:=bS hS
   refine Zu (cK rfl rfl b27) ?_
   refine Zm ?_
   refine VL.jC (xW,(xH+1),(xD+1)) [2,3,7,8,9] (fun _ _ h=>h) (go2 hS hK1) rfl
  refine Zk ?_
  refine Zx ?_
  refine Zq (Zq (Zr ?_))
  refine Zy ?_
  refine VC.keep (ρ':=[(2,i64 0),(3,i64 0),(4,.bool false)]) [2,3,4] rfl ?_
  replace hS:=gQ hS hK1
  cases hS
  exact VC.ret (aBq (.inr rfl) rfl rfl rfl rfl () rfl trivial (fun _ _=>trivial) (fun _ _=>trivial))
 replace hS:=gQ hS hK1
 refine Zx ?_
 refine Zq (Zr ?_)
 refine Zy ?_
 cases hS
 exact VC.ret (aBq (.inr rfl) rfl rfl rfl rfl () rfl trivial (fun _ _=>trivial) (fun _ _=>trivial))
theorem yL (aB:Sv dA) {r:List dA} (hS:Sh.iU aB.l=some r) :
 Ct Tryz.prog 39 [aB.val] aB.ok (Ow.emp) (X:=Sv dA) (fun x=>x.val) (fun x=>r=x.l) (fun x=>Mo.tt) (fun x=>Sv.own x 75):=by
 refine Zo Tryz.func39 Tryz.ntmps39 fun c => ?_
 unfold Sh.iU at hS
 refine Zq (Zr ?_)
 refine Zy ?_
 refine Zq (Zq (Zr ?_))
 refine Zm ?_
 refine Zu (DZ (s:=aB) Tryz.underlying25 rfl) ?_
 refine Zl ?_
 refine VC.slnil (s:=aB) rfl (fun h4 => ?_) ?_
 ·
  have hS:(some [])=some r:=by
    simp [lt,gd,h4] at hS ⊢
    try exact hS
  refine Zq (Zr ?_)
  refine Zy ?_
  refine VC.lR (⟨none,0,[]⟩:Sv dA) 75 ⟨rfl,rfl⟩ ?_
  cases hS
  exact VC.ret (fA (.inr rfl) rfl rfl ⟨none,0,[]⟩ rfl rfl (by (try dsimp only); exact cO.out) (by (try dsimp only); exact eT.out))
 refine Zk ?_
 refine Zq (Zr ?_)
 refine VL.YE (α:=dA) Tryz.underlying25 aRW (by decide) (fun wY qD uM => ?_)
 refine VL.lR wY 75 ⟨uM,qD⟩ ?_
 replace hS:=b5 qD hS
 refine Zm ?_
 obtain ⟨b7,hS⟩:=bS hS
 refine VL.app (s:=wY) (r:=aB) Tryz.underlying25 aH4 (by decide) rfl Fo.out (uW b7) (uX b7 (by decide)) (by decide) (fun GY yI => ?_)
 replace hS:=b5 yI hS
 refine Zy ?_
 cases hS
 exact VC.ret (fA (.inr rfl) rfl rfl GY rfl rfl (by (try dsimp only); exact cO.out) (by (try dsimp only); exact eT.out))
theorem N3 (dZ:Sv dA) (sZ:Int) (OZ:Int) {r:iC} (hS:Sh.AG dZ.l sZ OZ=some r) :
 Ct Tryz.prog 20 [dZ.val,i64 sZ,i64 OZ] dZ.ok (Ow.emp) (X:=eZ) (fun x => .agg (bO.enc x).toArray) (fun x=>r=x.pl) (fun x=>x.m) (fun x=>Ow.emp):=by
 refine Zo Tryz.func20 Tryz.ntmps20 fun c => ?_
 unfold Sh.AG at hS
 refine Zq (Zr ?_)
 refine VL.alloc (cs:=[i64 0,i64 0,i64 0,i64 0,.slice none 0 0]) (by kernel_rfl) (by decide) fun aLS => ?_
 refine Zl ?_
 refine Zq (Zr ?_)
 refine Zy ?_
 obtain ⟨b16,hS⟩:=bS hS
 refine VL.sto Tryz.underlying25 EA rfl rfl b16.1 (b16.2) (by decide) fun aUn aRa => ?_
 replace hS:=b5 aRa hS
 obtain ⟨mQ,LA,hS⟩:=aU hS
 refine Zu (cN (CU aUn LA) rfl (fun _ _=>rfl)) ?_
 refine Zm ?_
 refine Zu (bG rfl rfl) ?_
 refine Zu (bG rfl rfl) ?_
 refine Zu (bG rfl rfl) ?_
 refine Zy ?_
 refine VC.keep (ρ':=[(0,dZ.val),(1,i64 sZ),(2,i64 OZ),(6,ptr aLS 0),(7,i64 mQ.1),(8,i64 mQ.2.1)]) [0,1,2,6,7,8] rfl ?_
 refine Zq (Zr ?_)
 refine Zy ?_
 obtain ⟨b25,hS⟩:=bS hS
 refine VL.aPC Tryz.underlying25 EA rfl rfl rfl b25.1 b25.2.1 (b25.2.2) (by decide) fun aUz aRr => ?_
 replace hS:=b5 aRr hS
 obtain ⟨sU,aCf,hS⟩:=aU hS
 refine Zu (cN (CU aUz aCf) rfl (fun _ _=>rfl)) ?_
 refine Zm ?_
 refine Zu (bG rfl rfl) ?_
 refine Zu (bG rfl rfl) ?_
 refine Zu (bG rfl rfl) ?_
 refine Zy ?_
 refine VC.keep (ρ':=[(0,dZ.val),(1,i64 sZ),(2,i64 OZ),(6,ptr aLS 0),(7,i64 mQ.1),(8,i64 mQ.2.1),(10,i64 sU.1),(11,i64 sU.2.1)]) [0,1,2,6,7,8,10,11] rfl ?_
 refine Zq (Zr ?_)
 refine Zy ?_
 obtain ⟨b37,hS⟩:=bS hS
 refine VL.aPC Tryz.underlying25 EA rfl rfl rfl b37.1 b37.2.1 (b37.2.2) (by decide) fun aVF aSA => ?_
 replace hS:=b5 aSA hS
 obtain ⟨aJU,aLv,hS⟩:=aU hS
 refine VL.cA (yL aVF aLv) rfl (by decide) ?_
 rintro aCC rfl
 try dsimp only
 refine VL.shut aCC 75 (fun _ _ _ _=>trivial) ?_
 obtain ⟨V7,Z3,hS⟩:=aU hS
 refine VL.cR (mM aCC Z3) rfl (by decide) ?_
 rintro x6 rfl
 try dsimp only
 refine Zu (fH (vs:=[(0,i64 mQ.1),(1,i64 sU.1),(2,i64 mQ.2.1),(3,i64 sU.2.1),(4,x6.val)]) (cs := #[i64 mQ.1,i64 sU.1,i64 mQ.2.1,i64 sU.2.1,x6.val]) rfl (by kernel_rfl)) ?_
 refine Zv (vc:=[i64 mQ.1,i64 sU.1,i64 mQ.2.1,i64 sU.2.1,x6.val]) (cs':=[i64 mQ.1,i64 sU.1,i64 mQ.2.1,i64 sU.2.1,x6.val]) rfl aCs ?_
 refine Zl ?_
 refine VC.keep (ρ':=[(6,ptr aLS 0)]) [6] rfl ?_
 cases hS
 exact VC.ret (jV (vs:=[.agg #[i64 mQ.1,i64 sU.1,i64 mQ.2.1,i64 sU.2.1,x6.val]]) (.inr rfl) rfl (eW.cell YX rfl rfl Rd.blk (eW.nil)) ⟨mQ.1,sU.1,mQ.2.1,sU.2.1,x6⟩ rfl rfl (by (try dsimp only); exact cO.out) (fun _ _=>trivial))
theorem pS (aB:Sv eZ) {r:List iC} (hS:Sh.gM (aB.l.map eZ.pl)=some r) :
 Ct Tryz.prog 21 [aB.val] aB.ok (Ow.emp) (X:=Sv eZ) (fun x=>x.val) (fun x=>r=(x.l.map eZ.pl)) (fun x=>x.ok) (fun x=>Ow.emp):=by
 refine Zo Tryz.func21 Tryz.ntmps21 fun c => ?_
 unfold Sh.gM at hS
 refine Zq (Zr ?_)
 refine Zy ?_
 refine Zq (Zr ?_)
 refine Zy ?_
 refine Zu (qG eZ.pl (s:=aB) Tryz.underlying30 rfl) ?_
 refine Zm ?_
 refine Zu (qG eZ.pl (s:=aB) Tryz.underlying30 rfl) ?_
 obtain ⟨b8,hS⟩:=bS hS
 refine VL.M7 Tryz.underlying30 aCs rfl rfl rfl b8.1 (aDK b8.2) (by decide) fun wZ qU => ?_
 replace hS:=b5 ((congrArg (List.map eZ.pl) qU).trans List.map_take) hS
 refine Zy ?_
 cases hS
 exact VC.ret (fA (.inr rfl) rfl rfl wZ rfl rfl (by (try dsimp only); exact cO.out) (fun _ _=>trivial))
end Go.Proofs.YtcenmlklkpgmnaaGreatDoor
end

section
set_option linter.unusedVariables false
namespace Go.Proofs.YtcenmlklkpgmnaaGreatDoor
set_option maxHeartbeats 4000000
set_option maxRecDepth 100000
set_option synthInstance.maxSize 2000
set_option synthInstance.maxHeartbeats 1000000
open Go.RowKit Go.V
open Go.S hiding aV
theorem YK (dZ:Sv dA) (gT:Int) {r:List iC} (hS:Sh.BH dZ.l gT=some r) :
 Ct Tryz.prog 7 [dZ.val,i64 gT] dZ.ok (Ow.emp) (X:=Sv eZ) (fun x=>x.val) (fun x=>r=(x.l.map eZ.pl)) (fun x=>x.ok) (fun x=>Ow.emp):=by
 refine Zo Tryz.func7 Tryz.ntmps7 fun c => ?_
 unfold Sh.BH at hS
 refine Zq (Zr ?_)
 refine Zy ?_
 refine Zq (Zr ?_)
 refine Zm ?_
 refine Zu (aDV rfl) ?_
 refine Zu (aGb rfl) ?_
 refine Zy ?_
 refine Zq (Zr ?_)
 refine Zy ?_
 refine Zq (Zr ?_)
 refine Zy ?_
 refine Zq (Zq (Zr ?_))
 refine Zm ?_
 refine Zu (dO (s:=dZ) Tryz.underlying25 rfl) ?_
 refine Zy ?_
 refine Zb ?_
 refine VC.lR (⟨none,0,[]⟩:Sv eZ) 78 ⟨rfl,rfl⟩ ?_
 refine VC.LQ (s:=(⟨none,0,[]⟩:Sv eZ)) rfl ?_
 refine VC.iter (S:=Sv eZ×Int×Int×Int) (fun sg=>((sg.1.l.map eZ.pl),sg.2.1,sg.2.2.1,sg.2.2.2)) (fun sg=>[(0,dZ.val),(1,i64 (min (max gT 0) 16)),(5,sg.1.val),(6,i64 sg.2.1),(7,i64 sg.2.2.1),(15,dZ.val),(16,i64 (dZ.l.length:Int)),(17,i64 sg.2.2.2)]) (fun sg=>(zI sg.1.l)) (fun sg=>Ow.star (Sv.own sg.1 78) (Ow.emp)) (⟨none,0,[]⟩,0,(-1),0) [0,1,5,6,7,15,16,17] hS rfl ?_
 clear hS
 rintro ⟨jJ,uZ,EI,gY⟩ m1 y1 hS hK1
 refine Zq (Zr ?_)
 refine Zu (dL rfl rfl) ?_
 refine Zl ?_
 refine Zq ?_
 refine Zc hS (fun h18 hS => ?_) (fun h18 hS => ?_)
 ·
  refine Zk ?_
  refine Zq (Zb (Zq (Zr ?_)))
  refine Zm ?_
  obtain ⟨TR,aIU,aHi,hS⟩:=e8 hS
  refine Zu (fM (s:=dZ) Tryz.underlying25 EA rfl rfl aIU (bQ aIU aHi)) ?_
  refine Zu (lZ (s:=dZ) YW rfl rfl aHi) ?_
  refine VL.alloc (cs:=[i64 0,str []]) (by kernel_rfl) (by decide) fun aWG => ?_
  refine Za ?_
  refine Zv (vc:=[i64 TR.op,str TR.line]) (cs':=[i64 TR.op,str TR.line]) rfl EA ?_
  refine Zl ?_
  refine Zq (Zq (Zr ?_))
  refine Zu (aC UH rfl) ?_
  refine Zu (aT fG rfl rfl) ?_
  refine Zu (hU rfl rfl) ?_
  refine Zl ?_
  refine VC.keep (ρ':=[(0,dZ.val),(1,i64 (min (max gT 0) 16)),(5,jJ.val),(6,i64 uZ),(7,i64 EI),(15,dZ.val),(16,i64 (dZ.l.length:Int)),(17,i64 gY),(8,i64 gY),(24,.bool (decide (TR.op=1)))]) [0,1,5,6,7,15,16,17,8,24] rfl ?_
  refine Zc hS (fun h24 hS => ?_) (fun h24 hS => ?_)
  ·
   refine Zx ?_
   refine Zr ?_
   obtain ⟨b53,hS⟩:=bS hS
   refine Zu (cK rfl rfl b53) ?_
   refine Zm ?_
   refine VL.jC (jJ,uZ,EI,(gY+1)) [0,1,5,6,7,15,16,17] (fun _ _ h=>h) (go2 hS hK1) rfl
  refine Zk ?_
  refine Zq (Zr ?_)
  refine Zy ?_
  obtain ⟨b27,hS⟩:=bS hS
  refine Zu (o7 rfl rfl b27) ?_
  refine Zu (aDV rfl) ?_
  refine Zm ?_
  obtain ⟨b30,hS⟩:=bS hS
  refine Zu (cK rfl rfl b30) ?_
  refine Zm ?_
  obtain ⟨b32,hS⟩:=bS hS
  refine Zu (cK rfl rfl b32) ?_
  refine Zm ?_
  refine Zu (dO (s:=dZ) Tryz.underlying25 rfl) ?_
  refine Zu (aGb rfl) ?_
  refine Zy ?_
  refine VC.keep (ρ':=[(0,dZ.val),(1,i64 (min (max gT 0) 16)),(5,jJ.val),(6,i64 uZ),(7,i64 EI),(15,dZ.val),(16,i64 (dZ.l.length:Int)),(17,i64 gY),(10,i64 (max (gY - (min (max gT 0) 16)) 0)),(11,i64 (min ((gY+1)+(min (max gT 0) 16)) (dZ.l.length:Int)))]) [0,1,5,6,7,15,16,17,10,11] rfl ?_
  refine Zq (Zb (Zq (Zr ?_)))
  refine Zm ?_
  refine Zu (dL rfl rfl) ?_
  refine Zy ?_
  refine Zc hS (fun h36 hS => ?_) (fun h36 hS => ?_)
  ·
   refine Zr ?_
   refine Zy ?_
   refine Zr ?_
   refine Zy ?_
   refine VC.keep (ρ':=[(0,dZ.val),(1,i64 (min (max gT 0) 16)),(5,jJ.val),(6,i64 (max (gY - (min (max gT 0) 16)) 0)),(7,i64 (min ((gY+1)+(min (max gT 0) 16)) (dZ.l.length:Int))),(15,dZ.val),(16,i64 (dZ.l.length:Int)),(17,i64 gY)]) [0,1,5,6,7,15,16,17] rfl ?_
   refine Zr ?_
   obtain ⟨b53,hS⟩:=bS hS
   refine Zu (cK rfl rfl b53) ?_
   refine Zm ?_
   refine VL.jC (jJ,(max (gY - (min (max gT 0) 16)) 0),(min ((gY+1)+(min (max gT 0) 16)) (dZ.l.length:Int)),(gY+1)) [0,1,5,6,7,15,16,17] (fun _ _ h=>h) (go2 hS hK1) rfl
  refine Zq (Zr ?_)
  refine Zy ?_
  refine Zu (jF rfl rfl) ?_
  refine Zy ?_
  refine Zc hS (fun h40 hS => ?_) (fun h40 hS => ?_)
  ·
   refine Zq (Zr ?_)
   refine Zy ?_
   obtain ⟨X9,aRH,hS⟩:=aU hS
   refine VL.cR (N3 dZ uZ EI aRH) rfl (by decide) ?_
   rintro wV rfl
   try dsimp only
   refine VL.lit (α:=eZ) (xs:=[.tmp 48]) (vs:=[.agg #[i64 wV.at_,i64 wV.del,i64 wV.C1,i64 wV.add,wV.lines.val]]) [⟨wV.at_,wV.del,wV.C1,wV.add,wV.lines⟩] Tryz.underlying30 aH6 (by decide) rfl rfl rfl rfl (by decide) (fun h m=>List.forall_mem_cons.2 ⟨cO.out (X:=wV.lines.ok) h m,fun _ h=>by cases h⟩) (by decide) (fun aVJ aSF => ?_) (by decide)
   replace hS:=b5 (congrArg (List.map eZ.pl) aSF) hS
   obtain ⟨b50,hS⟩:=bS hS
   refine VL.app (s:=jJ) (r:=aVJ) Tryz.underlying30 aH5 (by decide) rfl Fo.out (uW (TV b50)) (uX (TV b50) (by decide)) (by decide) (fun aIw aE7 => ?_)
   replace hS:=b5 ((congrArg (List.map eZ.pl) aE7).trans List.map_append) hS
   refine VL.SS aE7 ?_
   refine Zy ?_
   refine VC.keep (ρ':=[(0,dZ.val),(1,i64 (min (max gT 0) 16)),(5,aIw.val),(15,dZ.val),(16,i64 (dZ.l.length:Int)),(17,i64 gY),(10,i64 (max (gY - (min (max gT 0) 16)) 0)),(11,i64 (min ((gY+1)+(min (max gT 0) 16)) (dZ.l.length:Int)))]) [0,1,5,15,16,17,10,11] rfl ?_
   refine Zr ?_
   refine Zy ?_
   refine Zr ?_
   refine Zy ?_
   refine Zr ?_
   obtain ⟨b53,hS⟩:=bS hS
   refine Zu (cK rfl rfl b53) ?_
   refine Zm ?_
   refine VL.jC (aIw,(max (gY - (min (max gT 0) 16)) 0),(min ((gY+1)+(min (max gT 0) 16)) (dZ.l.length:Int)),(gY+1)) [0,1,5,6,7,15,16,17] (fun _ _ h=>h) (go2 hS hK1) rfl
  refine Zk ?_
  refine VC.keep (ρ':=[(0,dZ.val),(1,i64 (min (max gT 0) 16)),(5,jJ.val),(6,i64 uZ),(15,dZ.val),(16,i64 (dZ.l.length:Int)),(17,i64 gY),(11,i64 (min ((gY+1)+(min (max gT 0) 16)) (dZ.l.length:Int)))]) [0,1,5,6,15,16,17,11] rfl ?_
  refine Zr ?_
  refine Zy ?_
  refine Zr ?_
  obtain ⟨b53,hS⟩:=bS hS
  refine Zu (cK rfl rfl b53) ?_
  refine Zm ?_
  refine VL.jC (jJ,uZ,(min ((gY+1)+(min (max gT 0) 16)) (dZ.l.length:Int)),(gY+1)) [0,1,5,6,7,15,16,17] (fun _ _ h=>h) (go2 hS hK1) rfl
 replace hS:=gQ hS hK1
 refine Zx ?_
 refine Zq (Zq (Zr ?_))
 refine Zm ?_
 refine Zu (qF rfl rfl) ?_
 refine Zl ?_
 refine Zc hS (fun h55 hS => ?_) (fun h55 hS => ?_)
 ·
  refine Zr ?_
  refine Zy ?_
  obtain ⟨QS,aM0,hS⟩:=aU hS
  refine VL.cR (N3 dZ uZ EI aM0) rfl (by decide) ?_
  rintro tM rfl
  try dsimp only
  refine VL.lit (α:=eZ) (xs:=[.tmp 60]) (vs:=[.agg #[i64 tM.at_,i64 tM.del,i64 tM.C1,i64 tM.add,tM.lines.val]]) [⟨tM.at_,tM.del,tM.C1,tM.add,tM.lines⟩] Tryz.underlying30 aH6 (by decide) rfl rfl rfl rfl (by decide) (fun h m=>List.forall_mem_cons.2 ⟨cO.out (X:=tM.lines.ok) h m,fun _ h=>by cases h⟩) (by decide) (fun aSy aNp => ?_) (by decide)
  replace hS:=b5 (congrArg (List.map eZ.pl) aNp) hS
  obtain ⟨b62,hS⟩:=bS hS
  refine VL.app (s:=jJ) (r:=aSy) Tryz.underlying30 aH5 (by decide) rfl Fo.out (uW (TV b62)) (uX (TV b62) (by decide)) (by decide) (fun Y8 aE8 => ?_)
  replace hS:=b5 ((congrArg (List.map eZ.pl) aE8).trans List.map_append) hS
  refine VL.SS aE8 ?_
  refine Zy ?_
  refine VC.keep (ρ':=[(5,Y8.val)]) [5] rfl ?_
  refine Zq (Zr ?_)
  refine Zm ?_
  refine VL.shut Y8 78 (fun h m=>cO.out (X:=zI Y8.l) h m) ?_
  obtain ⟨aJh,aM4,hS⟩:=aU hS
  refine VL.cR (pS Y8 aM4) rfl (by decide) ?_
  rintro aKw rfl
  try dsimp only
  refine Zy ?_
  cases hS
  exact VC.ret (fA (.inr rfl) rfl rfl aKw rfl rfl (by (try dsimp only); exact cO.out) (fun _ _=>trivial))
 refine Zk ?_
 refine VC.keep (ρ':=[(5,jJ.val)]) [5] rfl ?_
 refine Zq (Zr ?_)
 refine Zm ?_
 refine VL.shut jJ 78 (fun h m=>cO.out (X:=zI jJ.l) h m) ?_
 obtain ⟨aJi,aM5,hS⟩:=aU hS
 refine VL.cR (pS jJ aM5) rfl (by decide) ?_
 rintro aKx rfl
 try dsimp only
 refine Zy ?_
 cases hS
 exact VC.ret (fA (.inr rfl) rfl rfl aKx rfl rfl (by (try dsimp only); exact cO.out) (fun _ _=>trivial))
theorem aA9 (AP:eZ) (end_1:Int) (GZ:Int) {r:Int} (hS:Sh.wQ AP.pl end_1 GZ=some r) :
 Ct Tryz.prog 22 [.agg #[i64 AP.at_,i64 AP.del,i64 AP.C1,i64 AP.add,AP.lines.val],i64 end_1,i64 GZ] AP.lines.ok (Ow.emp) (X:=Unit) (fun _=>i64 r) (fun _=>True) (fun _=>Mo.tt) (fun _=>Ow.emp):=by
 refine Zo Tryz.func22 Tryz.ntmps22 fun c => ?_
 unfold Sh.wQ at hS
 refine Zq (Zr ?_)
 refine VL.box (cs:=[i64 AP.at_,i64 AP.del,i64 AP.C1,i64 AP.add,AP.lines.val]) rfl rfl (by decide) fun iM => ?_
 refine Zy ?_
 refine Zq (Zr ?_)
 refine Zu (aC aAM rfl) ?_
 refine Zu (aT aCn rfl rfl) ?_
 obtain ⟨jH,K5,hS⟩:=aU hS
 refine Zu (cN (CU AP.lines K5) rfl (fun _ _=>rfl)) ?_
 refine Zm ?_
 refine Zu (bG rfl rfl) ?_
 refine Zu (bG rfl rfl) ?_
 refine Zu (bG rfl rfl) ?_
 refine Zy ?_
 refine VC.keep (ρ':=[(1,i64 end_1),(2,i64 GZ),(3,ptr iM 0),(7,i64 jH.1),(8,i64 jH.2.1),(9,.bool jH.2.2)]) [1,2,3,7,8,9] rfl ?_
 refine Zq (Zb (Zq (Zr ?_)))
 refine Zm ?_
 refine Zu (lN rfl) ?_
 refine Zy ?_
 refine iT hS (fun h17 hS => ?_) (fun h17 hS => ?_)
 ·
  refine Zq (Zr ?_)
  refine Zy ?_
  cases hS
  exact Ze
 refine VC.gD (S:=Bool) (fun (rO:Bool)=>rO) (fun (rO:Bool)=>[(20,.bool rO)]) (fun (rO:Bool)=>Mo.tt) (fun (rO:Bool)=>Ow.star (bP iM [i64 AP.at_,i64 AP.del,i64 AP.C1,i64 AP.add,AP.lines.val] 78) (Ow.emp)) hS ?_ ?_
 ·
  clear hS
  intro k4 hS
  refine Zr ?_
  refine Zm ?_
  refine Zu (aC aAL rfl) ?_
  refine Zu (aT fG rfl rfl) ?_
  refine Zu (vJ rfl rfl) ?_
  refine Zm ?_
  refine NH 25 hS (fun h25 hS => ?_) (fun h25 hS => ?_)
  ·
   refine VL.runs 31 [(20,some true)] (by kernel_rfl) ?_
   refine VL.mt true [20] (fun _ _ h=>h) hS rfl
  refine Zg ?_
  refine Zh (aC aNP rfl) ?_
  refine Zh (aT fG rfl rfl) ?_
  refine Zh (vJ rfl rfl) ?_
  refine Zy ?_
  refine NH 31 hS (fun h31 hS => ?_) (fun h31 hS => ?_)
  ·
   refine VL.runs 25 [(20,some true)] (by kernel_rfl) ?_
   refine VL.mt true [20] (fun _ _ h=>h) hS rfl
  refine Zh (aC DN rfl) ?_
  refine Zh (aT fG rfl rfl) ?_
  refine Zh (dL rfl rfl) ?_
  refine Zy ?_
  refine mF 36 hS (fun h36 hS => ?_) (fun h36 hS => ?_)
  ·
   refine VL.runs 20 [(20,some true)] (by kernel_rfl) ?_
   refine VL.mt true [20] (fun _ _ h=>h) hS rfl
  refine Zh (aC aE2 rfl) ?_
  refine Zh (aT fG rfl rfl) ?_
  refine Zh (dL rfl rfl) ?_
  refine Zy ?_
  refine mF 41 hS (fun h41 hS => ?_) (fun h41 hS => ?_)
  ·
   refine VL.runs 15 [(20,some true)] (by kernel_rfl) ?_
   refine VL.mt true [20] (fun _ _ h=>h) hS rfl
  refine Zh (aC DN rfl) ?_
  refine Zh (aT fG rfl rfl) ?_
  refine Zg ?_
  refine Zh (dL rfl rfl) ?_
  refine Zy ?_
  refine mF 47 hS (fun h47 hS => ?_) (fun h47 hS => ?_)
  ·
   refine VL.runs 9 [(20,some true)] (by kernel_rfl) ?_
   refine VL.mt true [20] (fun _ _ h=>h) hS rfl
  refine Zh (aC aE2 rfl) ?_
  refine Zh (aT fG rfl rfl) ?_
  refine Zg ?_
  obtain ⟨b51,hS⟩:=bS hS
  refine Zh (o7 rfl rfl b51) ?_
  refine Zh (aC DN rfl) ?_
  refine Zh (aT fG rfl rfl) ?_
  refine Zh (vJ rfl rfl) ?_
  refine Zy ?_
  refine VL.mt (!decide ((AP.C1 - GZ)=AP.at_)) [20] (fun _ _ h=>h) hS rfl
 clear hS
 rintro rO hS
 refine iT hS (fun h20 hS => ?_) (fun h20 hS => ?_)
 ·
  refine Zq (Zr ?_)
  refine Zy ?_
  cases hS
  exact Ze
 refine Zk ?_
 refine Zq (Zr ?_)
 refine Zy ?_
 cases hS
 exact Ze
theorem aA8 (bU:Sv aV) (h_1:eZ) {r:Int} (hS:Sh.wP bU.l h_1.pl=some r) :
 Ct Tryz.prog 23 [bU.val,.agg #[i64 h_1.at_,i64 h_1.del,i64 h_1.C1,i64 h_1.add,h_1.lines.val]] (bU.ok.and h_1.lines.ok) (Ow.emp) (X:=Unit) (fun _=>i64 r) (fun _=>True) (fun _=>Mo.tt) (fun _=>Ow.emp):=by
 refine Zo Tryz.func23 Tryz.ntmps23 fun c => ?_
 unfold Sh.wP at hS
 refine Zq (Zr ?_)
 refine VL.box (cs:=[i64 h_1.at_,i64 h_1.del,i64 h_1.C1,i64 h_1.add,h_1.lines.val]) rfl rfl (by decide) fun iM => ?_
 refine Zy ?_
 refine Zq ?_
 refine VC.gD (S:=Bool) (fun (PA:Bool)=>PA) (fun (PA:Bool)=>[(0,bU.val),(3,ptr iM 0),(22,.bool PA)]) (fun (PA:Bool)=>Mo.tt) (fun (PA:Bool)=>Ow.star (bP iM [i64 h_1.at_,i64 h_1.del,i64 h_1.C1,i64 h_1.add,h_1.lines.val] 78) (Ow.emp)) hS ?_ ?_
 ·
  clear hS
  intro k3 hS
  refine Zr ?_
  refine Zu (aC DN rfl) ?_
  refine Zu (aT fG rfl rfl) ?_
  refine Zm ?_
  refine Zu (dO (s:=bU) Tryz.underlying23 rfl) ?_
  refine Zu (jF rfl rfl) ?_
  refine Zm ?_
  refine mF 13 hS (fun h13 hS => ?_) (fun h13 hS => ?_)
  ·
   refine VL.runs 9 [(22,some true)] (by kernel_rfl) ?_
   refine VL.mt true [0,3,22] (fun _ _ h=>h) hS rfl
  refine Zh (aC aAL rfl) ?_
  refine Zh (aT fG rfl rfl) ?_
  refine Zg ?_
  refine Zh (dO (s:=bU) Tryz.underlying23 rfl) ?_
  refine Zh (aC DN rfl) ?_
  refine Zh (aT fG rfl rfl) ?_
  obtain ⟨b20,hS⟩:=bS hS
  refine Zh (o7 rfl rfl b20) ?_
  refine Zh (jF rfl rfl) ?_
  refine Zf ?_
  refine VL.mt (decide (((bU.l.length:Int) - h_1.at_) < h_1.del)) [0,3,22] (fun _ _ h=>h) hS rfl
 clear hS
 rintro PA hS
 refine iT hS (fun h22 hS => ?_) (fun h22 hS => ?_)
 ·
  refine Zq (Zr ?_)
  refine Zy ?_
  cases hS
  exact Ze
 refine Zk ?_
 refine Zq (Zr ?_)
 refine Zu (aC DN rfl) ?_
 refine Zu (aT fG rfl rfl) ?_
 refine Zy ?_
 refine Zq (Zq (Zr ?_))
 refine Zu (aC aAM rfl) ?_
 refine Zu (aT aCn rfl rfl) ?_
 refine Zu (dO (s:=h_1.lines) Tryz.underlying25 rfl) ?_
 refine Zy ?_
 refine Zb ?_
 refine VC.iter (S:=Int×Int) (fun sg=>(sg.1,sg.2)) (fun sg=>[(0,bU.val),(5,i64 sg.1),(26,h_1.lines.val),(27,i64 (h_1.lines.l.length:Int)),(28,i64 sg.2)]) (fun sg=>Mo.tt) (fun sg=>Ow.star (bP iM [i64 h_1.at_,i64 h_1.del,i64 h_1.C1,i64 h_1.add,h_1.lines.val] 78) (Ow.emp)) (h_1.at_,0) [0,5,26,27,28] hS rfl ?_
 clear hS
 rintro ⟨gO,G5⟩ m1 y1 hS hK1
 refine Zq (Zr ?_)
 refine Zu (dL rfl rfl) ?_
 refine Zl ?_
 refine Zq ?_
 refine Zc hS (fun h29 hS => ?_) (fun h29 hS => ?_)
 ·
  refine Zk ?_
  refine Zq (Zb (Zq (Zr ?_)))
  obtain ⟨PX,aI7,aHt,hS⟩:=e8 hS
  refine Zu (fM (s:=h_1.lines) Tryz.underlying25 EA rfl rfl aI7 (bQ aI7 aHt)) ?_
  refine Zu (lZ (s:=h_1.lines) YW rfl rfl aHt) ?_
  refine VL.alloc (cs:=[i64 0,str []]) (by kernel_rfl) (by decide) fun aWE => ?_
  refine Zv (vc:=[i64 PX.op,str PX.line]) (cs':=[i64 PX.op,str PX.line]) rfl EA ?_
  refine Zl ?_
  refine Zq (Zq (Zr ?_))
  refine Zu (aC UH rfl) ?_
  refine Zu (aT fG rfl rfl) ?_
  refine Zu (hU rfl rfl) ?_
  refine Zl ?_
  refine Zc hS (fun h34 hS => ?_) (fun h34 hS => ?_)
  ·
   refine Zx ?_
   refine VC.keep (ρ':=[(0,bU.val),(5,i64 gO),(26,h_1.lines.val),(27,i64 (h_1.lines.l.length:Int)),(28,i64 G5)]) [0,5,26,27,28] rfl ?_
   refine Zr ?_
   obtain ⟨b44,hS⟩:=bS hS
   refine Zu (cK rfl rfl b44) ?_
   refine Zm ?_
   refine VL.jC (gO,(G5+1)) [0,5,26,27,28] (fun _ _ h=>h) (go2 hS hK1) rfl
  refine Zk ?_
  refine Zq (Zq ?_)
  refine VC.draw ((List.range 7).map fun k=>(k,true)) mixed (by kernel_rfl) (by kernel_rfl) (by kernel_rfl) ?_
  refine Zw rfl (bT rfl) ?_
  refine Zw rfl (bT rfl) ?_
  obtain ⟨aHQ,aIa,aHw,hS⟩:=e8 hS
  refine Zw rfl (fM (s:=bU) Tryz.underlying23 o4 rfl rfl aIa (bQ aIa aHw)) ?_
  refine Zw rfl (rH (s:=bU) dK rfl aHw rfl) ?_
  refine Zw rfl (aC aE1 rfl) ?_
  refine Zw rfl (aT dK rfl rfl) ?_
  refine Zw rfl (rL rfl rfl) ?_
  refine VD.to (fun _ _ h=>h) ?_
  refine VC.keep (ρ':=[(0,bU.val),(5,i64 gO),(26,h_1.lines.val),(27,i64 (h_1.lines.l.length:Int)),(28,i64 G5),(41,.bool (!decide (aHQ=PX.line)))]) [0,5,26,27,28,41] rfl ?_
  refine rI hS (fun h41 hS => ?_) (fun h41 hS => ?_)
  ·
   refine Zq (Zr ?_)
   refine Zy ?_
   replace hS:=gQ hS hK1
   cases hS
   exact Ze
  refine Zk ?_
  refine Zr ?_
  refine Zm ?_
  obtain ⟨b43,hS⟩:=bS hS
  refine Zu (cK rfl rfl b43) ?_
  refine Zy ?_
  refine Zr ?_
  obtain ⟨b44,hS⟩:=bS hS
  refine Zu (cK rfl rfl b44) ?_
  refine Zm ?_
  refine VL.jC ((gO+1),(G5+1)) [0,5,26,27,28] (fun _ _ h=>h) (go2 hS hK1) rfl
 replace hS:=gQ hS hK1
 refine Zx ?_
 refine Zq (Zr ?_)
 refine Zy ?_
 cases hS
 exact Ze
theorem YJ (bU:Sv aV) (h_1:Sv eZ) {r:List aV×gR} (hS:Sh.BG bU.l (h_1.l.map eZ.pl)=some r) :
 Ct Tryz.prog 8 [bU.val,h_1.val] (bU.ok.and h_1.ok) (Ow.emp) (X:=Sv aV×Er) (fun x => .tuple #[x.1.val,x.2.val]) (fun x=>r=(x.1.l,x.2.pl)) (fun x=>(x.1.ok.and x.2.ok)) (fun x=>Ow.emp):=by
 refine Zo Tryz.func8 Tryz.ntmps8 fun c => ?_
 unfold Sh.BG at hS
 refine Zq (Zr ?_)
 refine Zy ?_
 refine Zq (Zr ?_)
 refine Zy ?_
 refine Zq (Zr ?_)
 refine Zy ?_
 refine Zq (Zq (Zr ?_))
 refine Zm ?_
 refine Zu (qG eZ.pl (s:=h_1) Tryz.underlying30 rfl) ?_
 refine Zy ?_
 refine Zb ?_
 refine VC.lR (⟨none,0,[]⟩:Sv aV) 9 ⟨rfl,rfl⟩ ?_
 refine VC.iter (S:=Sv aV×Int×Int) (fun sg=>(sg.1.l,sg.2.1,sg.2.2)) (fun sg=>[(0,bU.val),(6,sg.1.val),(7,i64 sg.2.1),(13,h_1.val),(14,i64 ((h_1.l.map eZ.pl).length:Int)),(15,i64 sg.2.2)]) (fun sg=>Mo.tt) (fun sg=>Ow.star (Sv.own sg.1 9) (Ow.emp)) (⟨none,0,[]⟩,0,0) [0,6,7,13,14,15] hS rfl ?_
 clear hS
 rintro ⟨wC,uK,sS⟩ m1 y1 hS hK1
 refine Zq (Zr ?_)
 refine Zu (dL rfl rfl) ?_
 refine Zl ?_
 refine Zq ?_
 refine Zc hS (fun h16 hS => ?_) (fun h16 hS => ?_)
 ·
  refine Zk ?_
  refine Zq (Zb (Zq (Zr ?_)))
  refine Zm ?_
  obtain ⟨iL,aIO,aCy,hS⟩:=IK hS
  refine VL.deep iL.m aCy (fun _ q=>q) ?_
  refine Zu (fM (s:=h_1) Tryz.underlying30 aCs rfl rfl aIO (bQ aIO aCy)) ?_
  refine Zu (lZ (s:=h_1) YX rfl rfl aCy) ?_
  refine VL.alloc (cs:=[i64 0,i64 0,i64 0,i64 0,.slice none 0 0]) (by kernel_rfl) (by decide) fun Q5 => ?_
  refine Za ?_
  refine Zv (vc:=[i64 iL.at_,i64 iL.del,i64 iL.C1,i64 iL.add,iL.lines.val]) (cs':=[i64 iL.at_,i64 iL.del,i64 iL.C1,i64 iL.add,iL.lines.val]) rfl aCs ?_
  refine Zl ?_
  refine Zq (Zr ?_)
  refine Zu (cL YX rfl rfl) ?_
  refine Zy ?_
  refine Zu (dO (s:=wC) Tryz.underlying23 rfl) ?_
  refine Zm ?_
  obtain ⟨b25,hS⟩:=bS hS
  refine Zu (o7 rfl rfl b25) ?_
  obtain ⟨PR,aQ8,hS⟩:=aU hS
  refine Zu (cN (aA9 iL uK ((wC.l.length:Int) - uK) aQ8) rfl (fun _ _=>rfl)) ?_
  refine Zy ?_
  refine VC.keep (ρ':=[(0,bU.val),(6,wC.val),(7,i64 uK),(13,h_1.val),(14,i64 ((h_1.l.map eZ.pl).length:Int)),(15,i64 sS),(9,ptr Q5 0),(8,i64 sS),(10,i64 PR)]) [0,6,7,13,14,15,9,8,10] rfl ?_
  refine VC.gD (S:=Int) (fun (AX:Int)=>AX) (fun (AX:Int)=>[(0,bU.val),(6,wC.val),(7,i64 uK),(8,i64 sS),(9,ptr Q5 0),(10,i64 AX),(13,h_1.val),(14,i64 ((h_1.l.map eZ.pl).length:Int)),(15,i64 sS)]) (fun (AX:Int)=>Mo.tt) (fun (AX:Int)=>Ow.star (bP Q5 [i64 iL.at_,i64 iL.del,i64 iL.C1,i64 iL.add,iL.lines.val] 78) (Ow.star (Sv.own wC 9) (Ow.emp))) hS ?_ ?_
  ·
   clear hS
   intro k8 hS
   refine Zq (Zr ?_)
   refine Zm ?_
   refine Zu (hU rfl rfl) ?_
   refine Zl ?_
   refine Zc hS (fun h28 hS => ?_) (fun h28 hS => ?_)
   ·
    refine Zr ?_
    refine Zm ?_
    refine Zu (cL YX rfl rfl) ?_
    obtain ⟨aGz,aQn,hS⟩:=aU hS
    refine Zu (cN (aA8 bU iL aQn) rfl (fun _ _=>rfl)) ?_
    refine Za ?_
    refine VL.mt aGz [0,6,7,8,9,10,13,14,15] (fun _ _ h=>h) hS rfl
   refine VC.fZ PR [0,6,7,8,9,10,13,14,15] (fun _ _ h=>h) hS rfl
  clear hS
  rintro AX hS
  refine Zq (Zq (Zr ?_))
  refine Zm ?_
  refine Zu (vJ rfl rfl) ?_
  refine Zl ?_
  refine rI hS (fun h33 hS => ?_) (fun h33 hS => ?_)
  ·
   refine Zq (Zr ?_)
   refine Zy ?_
   refine Zu (BM Tryz.underlying81 (fun _ h=>by cases h) rfl) ?_
   refine Zu (fH (vs:=[(0,str [104,117,110,107]),(1,i64 sS),(2,(Er.no AX).val)]) (cs := #[str [104,117,110,107],i64 sS,(Er.no AX).val]) rfl (by kernel_rfl)) ?_
   refine VL.box (cs:=[str [104,117,110,107],i64 sS,(Er.no AX).val]) rfl rfl (by decide) fun aCT => ?_
   refine VL.aBD aCT ?_
   refine Zu (BM Tryz.underlying84 (fun _ h=>by cases h) rfl) ?_
   refine Zy ?_
   refine VC.keep (ρ':=[(4,.slice none 0 0),(5,(Er.fault aCT [104,117,110,107] sS (Er.no AX)).val)]) [4,5] rfl ?_
   replace hS:=gQ hS hK1
   cases hS
   exact VC.ret (CA (.inr rfl) rfl rfl rfl (⟨none,0,[]⟩,(Er.fault aCT [104,117,110,107] sS (Er.no AX))) rfl rfl (by (try dsimp only); exact cO.out) (fun _ _=>trivial))
  refine Zk ?_
  refine Zq (Zr ?_)
  refine Zy ?_
  refine Zu (aC DN rfl) ?_
  refine Zu (aT fG rfl rfl) ?_
  obtain ⟨b45,hS⟩:=bS hS
  refine VL.aPC Tryz.underlying23 o4 rfl rfl rfl b45.1 b45.2.1 (b45.2.2) (by decide) fun aSo aNc => ?_
  replace hS:=b5 aNc hS
  obtain ⟨b46,hS⟩:=bS hS
  refine VL.app (s:=wC) (r:=aSo) Tryz.underlying23 LI (by decide) rfl Fo.out (uW b46) (uX b46 (by decide)) (by decide) (fun aIu aNe => ?_)
  replace hS:=b5 aNe hS
  refine Zy ?_
  refine VC.keep (ρ':=[(0,bU.val),(6,aIu.val),(9,ptr Q5 0),(13,h_1.val),(14,i64 ((h_1.l.map eZ.pl).length:Int)),(15,i64 sS)]) [0,6,9,13,14,15] rfl ?_
  refine Zq (Zq (Zr ?_))
  refine Zu (aC aAM rfl) ?_
  refine Zu (aT aCn rfl rfl) ?_
  refine Zu (dO (s:=iL.lines) Tryz.underlying25 rfl) ?_
  refine Zy ?_
  refine Zb ?_
  refine VC.iter (S:=Sv aV×Int) (fun sg=>(sg.1.l,sg.2)) (fun sg=>[(0,bU.val),(6,sg.1.val),(9,ptr Q5 0),(13,h_1.val),(14,i64 ((h_1.l.map eZ.pl).length:Int)),(15,i64 sS),(48,iL.lines.val),(49,i64 (iL.lines.l.length:Int)),(50,i64 sg.2)]) (fun sg=>Mo.tt) (fun sg=>Ow.star (bP Q5 [i64 iL.at_,i64 iL.del,i64 iL.C1,i64 iL.add,iL.lines.val] 78) (Ow.star (Sv.own sg.1 9) (Ow.emp))) (aIu,0) [0,6,9,13,14,15,48,49,50] hS rfl ?_
  clear hS
  rintro ⟨yY,B2⟩ m2 y2 hS hK2
  refine Zq (Zr ?_)
  refine Zu (dL rfl rfl) ?_
  refine Zl ?_
  refine Zq ?_
  refine Zc hS (fun h51 hS => ?_) (fun h51 hS => ?_)
  ·
   refine Zk ?_
   refine Zq (Zb (Zq (Zr ?_)))
   obtain ⟨FE,aFU,aEn,hS⟩:=e8 hS
   refine Zu (fM (s:=iL.lines) Tryz.underlying25 EA rfl rfl aFU (bQ aFU aEn)) ?_
   refine Zu (lZ (s:=iL.lines) YW rfl rfl aEn) ?_
   refine VL.alloc (cs:=[i64 0,str []]) (by kernel_rfl) (by decide) fun aVt => ?_
   refine Zv (vc:=[i64 FE.op,str FE.line]) (cs':=[i64 FE.op,str FE.line]) rfl EA ?_
   refine Zl ?_
   refine Zq (Zr ?_)
   refine Zu (aC UH rfl) ?_
   refine Zu (aT fG rfl rfl) ?_
   refine Zu (vJ rfl rfl) ?_
   refine Zl ?_
   refine rI hS (fun h56 hS => ?_) (fun h56 hS => ?_)
   ·
    refine Zr ?_
    refine Zm ?_
    refine Zu (aC aE1 rfl) ?_
    refine Zu (aT dK rfl rfl) ?_
    refine VL.lit (α:=aV) (xs:=[.tmp 59]) (vs:=[str FE.line]) [FE.line] Tryz.underlying23 wL (by decide) rfl rfl rfl rfl (by decide) (fun _ _ _ _=>trivial) (by decide) (fun aD2 aAQ => ?_) (by decide)
    replace hS:=b5 aAQ hS
    obtain ⟨b61,hS⟩:=bS hS
    refine VL.app (s:=yY) (r:=aD2) Tryz.underlying23 LI (by decide) rfl Fo.out (uW b61) (uX b61 (by decide)) (by decide) (fun aIx aNr => ?_)
    replace hS:=b5 aNr hS
    refine Zy ?_
    refine VC.keep (ρ':=[(0,bU.val),(6,aIx.val),(9,ptr Q5 0),(13,h_1.val),(14,i64 ((h_1.l.map eZ.pl).length:Int)),(15,i64 sS),(48,iL.lines.val),(49,i64 (iL.lines.l.length:Int)),(50,i64 B2)]) [0,6,9,13,14,15,48,49,50] rfl ?_
    refine Zr ?_
    obtain ⟨b62,hS⟩:=bS hS
    refine Zu (cK rfl rfl b62) ?_
    refine Zm ?_
    refine VL.jC (aIx,(B2+1)) [0,6,9,13,14,15,48,49,50] (fun _ _ h=>h) (go2 hS hK2) rfl
   refine Zk ?_
   refine VC.keep (ρ':=[(0,bU.val),(6,yY.val),(9,ptr Q5 0),(13,h_1.val),(14,i64 ((h_1.l.map eZ.pl).length:Int)),(15,i64 sS),(48,iL.lines.val),(49,i64 (iL.lines.l.length:Int)),(50,i64 B2)]) [0,6,9,13,14,15,48,49,50] rfl ?_
   refine Zr ?_
   obtain ⟨b62,hS⟩:=bS hS
   refine Zu (cK rfl rfl b62) ?_
   refine Zm ?_
   refine VL.jC (yY,(B2+1)) [0,6,9,13,14,15,48,49,50] (fun _ _ h=>h) (go2 hS hK2) rfl
  replace hS:=gQ hS hK2
  refine Zx ?_
  refine Zr ?_
  refine Zu (aC DN rfl) ?_
  refine Zu (aT fG rfl rfl) ?_
  refine Zu (aC aAL rfl) ?_
  refine Zu (aT fG rfl rfl) ?_
  obtain ⟨b67,hS⟩:=bS hS
  refine Zu (cK rfl rfl b67) ?_
  refine Zy ?_
  refine VC.keep (ρ':=[(0,bU.val),(6,yY.val),(13,h_1.val),(14,i64 ((h_1.l.map eZ.pl).length:Int)),(15,i64 sS),(7,i64 (iL.at_+iL.del))]) [0,6,13,14,15,7] rfl ?_
  refine Zr ?_
  obtain ⟨b68,hS⟩:=bS hS
  refine Zu (cK rfl rfl b68) ?_
  refine Zm ?_
  refine VL.jC (yY,(iL.at_+iL.del),(sS+1)) [0,6,7,13,14,15] (fun _ _ h=>h) (go2 hS hK1) rfl
 replace hS:=gQ hS hK1
 refine Zx ?_
 refine Zq (Zr ?_)
 refine Zy ?_
 obtain ⟨b72,hS⟩:=bS hS
 refine VL.aPA Tryz.underlying23 o4 rfl rfl b72.1 (b72.2) (by decide) fun aTC aNw => ?_
 replace hS:=b5 aNw hS
 obtain ⟨b73,hS⟩:=bS hS
 refine VL.app (s:=wC) (r:=aTC) Tryz.underlying23 LI (by decide) rfl Fo.out (uW b73) (uX b73 (by decide)) (by decide) (fun aIz aNy => ?_)
 replace hS:=b5 aNy hS
 refine VL.shut aIz 9 (fun _ _ _ _=>trivial) ?_
 obtain ⟨aJr,aMi,hS⟩:=aU hS
 refine VL.cR (gG aIz aMi) rfl (by decide) ?_
 rintro aCH rfl
 try dsimp only
 refine Zy ?_
 refine VC.keep (ρ':=[(4,aCH.val),(5,.nilIface)]) [4,5] rfl ?_
 cases hS
 exact VC.ret (CA (.inr rfl) rfl rfl rfl (aCH,.nil) rfl rfl (by (try dsimp only); exact cO.out) (fun _ _=>trivial))
theorem aOL (s:Sv aV) (sep:aV) (hb:s.l.length≤4294967296∧(Go.S.SN s.l sep).length≤4294967296):Ct Tryz.prog 31 [s.val,str sep] s.ok Ow.emp (X:=Unit) (fun _=>str (Go.S.SN s.l sep)) (fun _=>True) (fun _=>Mo.tt) (fun _=>Ow.emp) :=
  Ct.aU8 (FF Tryz.func31 rfl (by kernel_rfl)) fun w h m l=>by
    by_cases hl:s.l=[]
    . have:=Tryz.strings_Join_none s.a s.c ⟨⟨sep⟩⟩ w
      have e1:s.val = .slice s.a 0 s.c:=by unfold Sv.val; rw [hl]; rfl
      rw [e1]
      exact this.mono fun e w' ⟨h1,h2⟩=>⟨by rw [h1,hl]; rfl,h2▸Gr.refl w⟩
    . obtain ⟨h1,_,h3,h4,_⟩:=m
      have ha:=h3 hl
      have hx:(s.l.map fun z=>(⟨⟨z⟩⟩:ByteArray)).map (·.data.toList)=s.l:=by rw [List.map_map]; exact (List.map_congr_left fun z _=>rfl).trans (List.map_id _)
      have hc : ∀ (j:Nat) x,(s.l.map fun z=>(⟨⟨z⟩⟩:ByteArray))[j]? = some x→w.cell? ⟨s.b,s.o+j,none⟩=some (.string x):=fun j x hj=>by
        rw [List.getElem?_map] at hj
        cases hz:s.l[j]? with
        | none=>rw [hz] at hj; cases hj
        | some z =>
          rw [hz] at hj; cases hj
          have:=h4 j z hz 0 (str z) rfl
          have hs:bO.sz aV=1:=rfl
          rw [hs,Nat.mul_one] at this
          exact rS l (by simpa using this)
      have hlt:s.b < w.heap.size:=by
        have h0:0 < s.l.length:=List.length_pos_iff.2 hl
        have:=hc 0 ⟨⟨s.l[0]⟩⟩ (by simp [h0])
        rcases Nat.lt_or_ge s.b w.heap.size with q | q
        . exact q
        . simp [World.cell?,Array.getElem?_eq_none q] at this
      have:=Tryz.strings_Join s.b s.o s.c (s.l.map fun z=>⟨⟨z⟩⟩) ⟨⟨sep⟩⟩ w hc hlt (by rw [List.length_map]; omega) (by rw [List.length_map]; exact h1) (by rw [hx]; have:=hb.2; unfold Go.S.SN at this; show (Lib.join s.l sep).length≤_; omega)
      rw [hx,List.length_map] at this
      have e1:s.val = .slice (some ⟨s.b,s.o,none⟩) s.l.length s.c:=by unfold Sv.val; rw [ha]
      rw [e1]
      exact this.mono fun e w' ⟨h1,h2⟩=>⟨h1,Gr.XC h2⟩
theorem aA3 (dZ:Sv aV) {r:aV} (hS:Sh.DQ dZ.l=some r) :
 Ct Tryz.prog 10 [dZ.val] dZ.ok (Ow.emp) (X:=Unit) (fun _=>str r) (fun _=>True) (fun _=>Mo.tt) (fun _=>Ow.emp):=by
 refine Zo Tryz.func10 Tryz.ntmps10 fun c => ?_
 unfold Sh.DQ at hS
 refine Zq (Zr ?_)
 refine Zy ?_
 refine Zq (Zr ?_)
 refine Zm ?_
 obtain ⟨b4,hS⟩:=bS hS
 obtain ⟨aGF,aGV,hS⟩:=AF hS
 refine Zu (cN (aOL dZ [] b4) rfl (fun _ _=>congrArg str aGV)) ?_
 refine Zy ?_
 cases hS
 exact Ze
theorem KA (bU:aV) (b_1:aV) {r:Bool} (hS:Sh.sD bU b_1=some r) :
 Ct Tryz.prog 3 [str bU,str b_1] Mo.tt (Ow.emp) (X:=Unit) (fun _ => .bool r) (fun _=>True) (fun _=>Mo.tt) (fun _=>Ow.emp):=by
 refine Zo Tryz.func3 Tryz.ntmps3 fun c => ?_
 unfold Sh.sD at hS
 refine Zq (Zr ?_)
 refine Zy ?_
 refine Zq (Zq (Zr ?_))
 obtain ⟨MJ,T5,hS⟩:=aU hS
 refine Zu (cN (SZ T5) rfl (fun _ _=>rfl)) ?_
 refine Zu (lN rfl) ?_
 refine Zl ?_
 refine iT hS (fun h15 hS => ?_) (fun h15 hS => ?_)
 ·
  refine Zq (Zr ?_)
  refine Zy ?_
  cases hS
  exact Ze
 refine Zk ?_
 refine Zq ?_
 refine VC.gD (S:=Bool) (fun (PB:Bool)=>PB) (fun (PB:Bool)=>[(0,str bU),(1,str b_1),(23,.bool PB)]) (fun (PB:Bool)=>Mo.tt) (fun (PB:Bool)=>Ow.emp) hS ?_ ?_
 ·
  clear hS
  intro k3 hS
  refine Zr ?_
  refine Zm ?_
  refine Zu (nT Tryz.underlying9 rfl) ?_
  refine Zu (jF rfl rfl) ?_
  refine Zm ?_
  refine mF 19 hS (fun h19 hS => ?_) (fun h19 hS => ?_)
  ·
   refine VL.runs 4 [(23,some true)] (by kernel_rfl) ?_
   refine VL.mt true [0,1,23] (fun _ _ h=>h) hS rfl
  refine Zg ?_
  refine Zh (nT Tryz.underlying9 rfl) ?_
  refine Zh (jF rfl rfl) ?_
  refine Zf ?_
  refine VL.mt (decide (60 < (b_1.length:Int))) [0,1,23] (fun _ _ h=>h) hS rfl
 clear hS
 rintro PB hS
 refine iT hS (fun h23 hS => ?_) (fun h23 hS => ?_)
 ·
  refine Zq (Zr ?_)
  refine Zy ?_
  cases hS
  exact Ze
 refine Zk ?_
 refine Zq (Zr ?_)
 refine Zm ?_
 obtain ⟨TM,aCc,hS⟩:=aU hS
 refine VL.cR (M3 bU aCc) rfl (by decide) ?_
 rintro aAl rfl
 try dsimp only
 refine Zy ?_
 refine Zq (Zr ?_)
 refine Zm ?_
 obtain ⟨X8,aCg,hS⟩:=aU hS
 refine VL.cR (M3 b_1 aCg) rfl (by decide) ?_
 rintro J5 rfl
 try dsimp only
 refine Zy ?_
 refine Zq (Zr ?_)
 refine Zy ?_
 obtain ⟨aBT,aQk,hS⟩:=aU hS
 refine VL.cR (Z1 aAl J5 aQk) rfl (by decide) ?_
 rintro ⟨aFh,aOf⟩ rfl
 try dsimp only
 refine Zm ?_
 refine Zu (bG rfl rfl) ?_
 refine Zu (bG rfl rfl) ?_
 refine Zy ?_
 refine VC.keep (ρ':=[(0,str bU),(1,str b_1),(5,aAl.val),(7,aFh.val),(8,aOf.val)]) [0,1,5,7,8] rfl ?_
 refine Zq (Zq (Zr ?_))
 refine Zm ?_
 refine Zu (nD Tryz.underlying27 rfl) ?_
 refine Zl ?_
 refine rI hS (fun h35 hS => ?_) (fun h35 hS => ?_)
 ·
  refine Zq (Zr ?_)
  refine Zy ?_
  cases hS
  exact Ze
 refine Zk ?_
 refine Zq (Zr ?_)
 refine Zm ?_
 obtain ⟨aP7,aQu,hS⟩:=aU hS
 refine VL.cR (YK aFh 1 aQu) rfl (by decide) ?_
 rintro aOj rfl
 try dsimp only
 refine Zy ?_
 refine Zq (Zr ?_)
 refine Zy ?_
 obtain ⟨aHD,aRA,hS⟩:=aU hS
 refine VL.cR (YJ aAl aOj aRA) rfl (by decide) ?_
 rintro ⟨aAo,aFj⟩ rfl
 try dsimp only
 refine Zm ?_
 refine Zu (bG rfl rfl) ?_
 refine Zu (bG rfl rfl) ?_
 refine Zy ?_
 refine VC.keep (ρ':=[(0,str bU),(1,str b_1),(10,aAo.val),(11,aFj.val)]) [0,1,10,11] rfl ?_
 refine Zq (Zr ?_)
 refine Zm ?_
 refine Zu (fH (vs:=[(0,str [102]),(1,i64 1),(2,str bU)]) (cs := #[str [102],i64 1,str bU]) rfl (by kernel_rfl)) ?_
 refine VL.lit (α:=aD) (xs:=[.tmp 46]) (vs:=[.agg #[str [102],i64 1,str bU]]) [⟨[102],1,bU⟩] Tryz.underlying35 HP (by decide) rfl rfl rfl rfl (by decide) (fun _ _ _ _=>trivial) (by decide) (fun aVI aSE => ?_) (by decide)
 replace hS:=b5 aSE hS
 refine Zm ?_
 refine Zu (fH (vs:=[(0,str [102]),(1,i64 1),(2,str b_1)]) (cs := #[str [102],i64 1,str b_1]) rfl (by kernel_rfl)) ?_
 refine VL.lit (α:=aD) (xs:=[.tmp 49]) (vs:=[.agg #[str [102],i64 1,str b_1]]) [⟨[102],1,b_1⟩] Tryz.underlying35 HP (by decide) rfl rfl rfl rfl (by decide) (fun _ _ _ _=>trivial) (by decide) (fun aSt aNj => ?_) (by decide)
 replace hS:=b5 aNj hS
 refine Zm ?_
 refine Zu (fH (vs:=[(0,str [102]),(1,i64 1),(2,str bU)]) (cs := #[str [102],i64 1,str bU]) rfl (by kernel_rfl)) ?_
 refine VL.lit (α:=aD) (xs:=[.tmp 52]) (vs:=[.agg #[str [102],i64 1,str bU]]) [⟨[102],1,bU⟩] Tryz.underlying35 HP (by decide) rfl rfl rfl rfl (by decide) (fun _ _ _ _=>trivial) (by decide) (fun aSv aNl => ?_) (by decide)
 replace hS:=b5 aNl hS
 obtain ⟨ZE,aMR,hS⟩:=aU hS
 refine VL.cR (KE aVI aSt aSv [120] [121] aMR) rfl (by decide) ?_
 rintro ⟨x7,aKr⟩ rfl
 try dsimp only
 refine Zm ?_
 refine Zu (bG rfl rfl) ?_
 refine Zu (bG rfl rfl) ?_
 refine VL.alloc (cs:=[.slice none 0 0,.slice none 0 0,.slice none 0 0]) (by kernel_rfl) (by decide) fun aPs => ?_
 refine Zv (vc:=[x7.files.val,x7.entries.val,x7.conflicts.val]) (cs':=[x7.files.val,x7.entries.val,x7.conflicts.val]) rfl SF ?_
 refine Zy ?_
 refine VC.keep (ρ':=[(1,str b_1),(10,aAo.val),(11,aFj.val),(12,ptr aPs 0),(13,aKr.val)]) [1,10,11,12,13] rfl ?_
 refine Zq (Zr ?_)
 refine Zm ?_
 refine Zu (x9 Tryz.underlying27 rfl) ?_
 refine Zm ?_
 refine mF 59 hS (fun h59 hS => ?_) (fun h59 hS => ?_)
 ·
  refine Zg ?_
  refine Zh (x9 Tryz.underlying27 rfl) ?_
  refine Zy ?_
  refine mF 63 hS (fun h63 hS => ?_) (fun h63 hS => ?_)
  ·
   refine Zg ?_
   obtain ⟨aJk,aM7,hS⟩:=aU hS
   refine Zh (cN (aA3 aAo aM7) rfl (fun _ _=>rfl)) ?_
   refine Zg ?_
   refine Zh (yK rfl rfl) ?_
   refine Zy ?_
   refine mF 69 hS (fun h69 hS => ?_) (fun h69 hS => ?_)
   ·
    refine Zh (aC qR rfl) ?_
    refine Zh (aT iN rfl rfl) ?_
    refine Zh (dO (s:=x7.files) Tryz.underlying35 rfl) ?_
    refine Zh (hU rfl rfl) ?_
    refine Zy ?_
    refine mF 75 hS (fun h75 hS => ?_) (fun h75 hS => ?_)
    ·
     refine Zh (aC qR rfl) ?_
     refine Zh (aT iN rfl rfl) ?_
     obtain ⟨aDx,aF6,aEx,hS⟩:=e8 hS
     refine Zh (fM (s:=x7.files) Tryz.underlying35 fP rfl rfl aF6 (bQ aF6 aEx)) ?_
     refine Zh (aC F8 rfl) ?_
     refine Zh (XT (s:=x7.files) dK rfl aEx rfl) ?_
     refine Zg ?_
     refine Zh (yK rfl rfl) ?_
     refine Zy ?_
     refine VC.keep (ρ':=[(4,.bool (decide (aDx.data=b_1)))]) [4] rfl ?_
     cases hS
     exact Ze
    refine VL.runs 9 [(4,some false)] (by kernel_rfl) ?_
    refine Zl ?_
    refine VC.keep (ρ':=[(4,.bool false)]) [4] rfl ?_
    cases hS
    exact Ze
   refine VL.runs 15 [(4,some false)] (by kernel_rfl) ?_
   refine Zl ?_
   refine VC.keep (ρ':=[(4,.bool false)]) [4] rfl ?_
   cases hS
   exact Ze
  refine VL.runs 21 [(4,some false)] (by kernel_rfl) ?_
  refine Zl ?_
  refine VC.keep (ρ':=[(4,.bool false)]) [4] rfl ?_
  cases hS
  exact Ze
 refine VL.runs 25 [(4,some false)] (by kernel_rfl) ?_
 refine Zl ?_
 cases hS
 exact Ze
end Go.Proofs.YtcenmlklkpgmnaaGreatDoor
end

section
namespace Go.S
end Go.S
end

section
namespace Go.S
theorem zC {α:Type} {l:List α} {i:Int} (h0:0≤i) (h:i < l.length) : ∃ z,l[i.toNat]? = some z:=⟨_,List.getElem?_eq_getElem (by omega)⟩
end Go.S
end

section
namespace Go.S
theorem YZ {α:Type} {l:List α} {i:Nat} {x:α} (h:l[i]? = some x):i < l.length:=(List.getElem?_eq_some_iff.1 h).1
theorem qZ {α:Type} {l:List α} {i:Int} {z:α} (h0:0≤i) (h:l[i.toNat]? = some z):l.take (i+1).toNat=l.take i.toNat++[z]:=by
 rw [show (i+1).toNat=i.toNat+1 by omega,List.take_add_one,h]; rfl
theorem q9 {S R:Type} {K:S→Option R} {F:(S→Option R)→Option R} {Q:R→Prop} (P:S→Prop) (hK : ∀ s,P s→Ok (K s) Q) (hF : ∀ K':S→Option R,(∀ s,P s→Ok (K' s) Q)→Ok (F K') Q):Ok (jn K F) Q:=hF K hK
theorem drop_cons {α:Type} {s:List α} {i:Int} {z:α} (h0:0≤i) (h:s[i.toNat]? = some z):s.drop i.toNat=z::s.drop (i+1).toNat:=by
 obtain ⟨h1,h2⟩:=List.getElem?_eq_some_iff.1 h
 rw [show (i+1).toNat=i.toNat+1 by omega,List.drop_eq_getElem_cons h1,h2]
end Go.S
end

section
namespace Go.S
theorem zN {α:Type} {l:List α} {i:Int} (h0:0≤i) (h:i < l.length) : ∃ z,l[i.toNat]? = some z:=⟨_,List.getElem?_eq_getElem (by omega)⟩
theorem GA {α:Type} {l:List α} {i:Int} {z:α} (h0:0≤i) (h:l[i.toNat]? = some z):l.take (i+1).toNat=l.take i.toNat++[z]:=by
 rw [show (i+1).toNat=i.toNat+1 by omega,List.take_add_one,h]; rfl
end Go.S
end
