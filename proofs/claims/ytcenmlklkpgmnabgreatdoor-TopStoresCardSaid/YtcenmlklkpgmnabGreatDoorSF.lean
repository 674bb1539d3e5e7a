/- Part of the proofs of: a folder's tree, put into a store, file by file, is there again, told in bytes and loaded; each file's bytes are there once, named by one name (any tree) -/
import Derived.Test.YtcenmlklkpgmnabGreatDoorSE
set_option linter.unusedVariables false
set_option linter.unusedSimpArgs false
set_option linter.unusedSectionVars false
section
set_option linter.unusedVariables false
namespace Go.Proofs.YtcenmlklkpgmnabGreatDoor
set_option maxHeartbeats 4000000
set_option maxRecDepth 100000
set_option synthInstance.maxSize 2000
set_option synthInstance.maxHeartbeats 1000000
open Go.RowKit Go.V
open Go.S hiding bB
theorem aEI (CP:bB) (iB:Nat) (a_1:jA) (aTs:Nat) (a_2:aC) {r:Bool} (hS:Sh.R2 CP a_1.pl a_2=some r) :
 Ct Tryz.prog 373 [str CP,ptr iB 0,ptr aTs 0] (a_1.files.ok.and (a_1.entries.ok.and (a_1.conflicts.ok.and ((Cells iB 0 [a_1.files.val,a_1.entries.val,a_1.conflicts.val]).and (Cells aTs 0 [str a_2.path,i64 a_2.mode,str a_2.data]))))) (Ow.emp) (X:=Unit) (fun _ => .bool r) (fun _=>True) (fun _=>Mo.tt) (fun _=>Ow.emp):=by
 refine Zo Tryz.func373 Tryz.ntmps373 fun c => ?_
 unfold Sh.R2 at hS
 refine Zq (Zr ?_)
 refine Zy ?_
 refine Zq (Zr ?_)
 refine Zu (aB tE rfl) ?_
 refine Zu (WC jS rfl rfl) ?_
 refine Zm ?_
 obtain ⟨sS,DH,hS⟩:=aK hS
 refine Zu (bZ (vB a_1.files CP DH) rfl (fun _ _=>rfl)) ?_
 refine Zu (aYW Tryz.underlying362 rfl o9 rfl rfl) ?_
 refine Zm ?_
 refine vV 10 hS (fun h10 hS => ?_) (fun h10 hS => ?_)
 ·
  refine Zg ?_
  refine Zh (aB qS rfl) ?_
  refine Zh (WC dD rfl rfl) ?_
  obtain ⟨GF,aJH,hS⟩:=aK hS
  refine Zh (bZ (wV CP a_2.path aJH) rfl (fun _ _=>rfl)) ?_
  refine Zy ?_
  refine VC.keep (ρ':=[(4,.bool GF)]) [4] rfl ?_
  cases hS
  exact Ze
 refine VL.runs 6 [(4,some false)] (by kernel_rfl) ?_
 refine Zl ?_
 cases hS
 exact Ze
theorem DR (aA:Sv bB) (dV:Nat) (eA:jA) (CH:Nat) (DJ:aC) {r:Int} (hS:Sh.qL aA.l eA.pl DJ=some r) :
 Ct Tryz.prog 383 [aA.val,.func (.func 373) #[] #[ptr dV 0,ptr CH 0]] (aA.ok.and (eA.files.ok.and (eA.entries.ok.and (eA.conflicts.ok.and ((Cells dV 0 [eA.files.val,eA.entries.val,eA.conflicts.val]).and (Cells CH 0 [str DJ.path,i64 DJ.mode,str DJ.data])))))) (Ow.emp) (X:=Unit) (fun _=>i64 r) (fun _=>True) (fun _=>Mo.tt) (fun _=>Ow.emp):=by
 refine Zo Tryz.func383 Tryz.ntmps383 fun c => ?_
 unfold Sh.qL at hS
 refine Zq (Zr ?_)
 refine Zy ?_
 refine Zq (Zq (Zr ?_))
 refine Zm ?_
 refine Zu (dX (s:=aA) Tryz.underlying62 rfl) ?_
 refine Zy ?_
 refine Zb ?_
 refine VC.iter (S:=Int) (fun (cG:Int)=>cG) (fun (cG:Int)=>[(0,aA.val),(1,.func (.func 373) #[] #[ptr dV 0,ptr CH 0]),(7,i64 (aA.l.length:Int)),(8,i64 cG)]) (fun (cG:Int)=>Mo.tt) (fun (cG:Int)=>Ow.emp) 0 [0,1,7,8] hS rfl ?_
 clear hS
 rintro cG m1 y1 hS hK1
 refine Zq (Zr ?_)
 refine Zu (c4 rfl rfl) ?_
 refine Zl ?_
 refine Zq ?_
 refine Zc hS (fun h9 hS => ?_) (fun h9 hS => ?_)
 ·
  refine Zk ?_
  refine Zq (Zb (Zq (Zr ?_)))
  refine Zy ?_
  refine Zq (Zr ?_)
  refine Zy ?_
  obtain ⟨fV,kV,kU,hS⟩:=c6 hS
  refine Zu (e8 (s:=aA) Tryz.underlying62 vA rfl rfl kV (bN kV kU)) ?_
  refine Zu (q9 (s:=aA) dD rfl kU rfl) ?_
  obtain ⟨kC,rB,hS⟩:=aK hS
  refine Zu (uX (vs:=[str fV]) (caps:=[ptr dV 0,ptr CH 0]) (aEI fV dV eA CH DJ rB) rfl rfl (fun _ _=>rfl)) ?_
  refine Zl ?_
  refine VC.keep (ρ':=[(0,aA.val),(1,.func (.func 373) #[] #[ptr dV 0,ptr CH 0]),(7,i64 (aA.l.length:Int)),(8,i64 cG),(5,i64 cG),(16,.bool kC)]) [0,1,7,8,5,16] rfl ?_
  refine iL hS (fun h16 hS => ?_) (fun h16 hS => ?_)
  ·
   refine Zq (Zr ?_)
   refine Zy ?_
   replace hS:=gA hS hK1
   cases hS
   exact Ze
  refine Zk ?_
  refine Zr ?_
  obtain ⟨b18,hS⟩:=bU hS
  refine Zu (cR rfl rfl b18) ?_
  refine Zm ?_
  refine VL.iP (cG+1) [0,1,7,8] (fun _ _ h=>h) (go2 hS hK1) rfl
 replace hS:=gA hS hK1
 refine Zx ?_
 refine Zq (Zr ?_)
 refine Zy ?_
 cases hS
 exact Ze
theorem BQ (aA:Sv bB) (dV:Nat) (eA:jA) (CH:Nat) (DJ:aC) {r:Bool} (hS:Sh.oO aA.l eA.pl DJ=some r) :
 Ct Tryz.prog 372 [aA.val,.func (.func 373) #[] #[ptr dV 0,ptr CH 0]] (aA.ok.and (eA.files.ok.and (eA.entries.ok.and (eA.conflicts.ok.and ((Cells dV 0 [eA.files.val,eA.entries.val,eA.conflicts.val]).and (Cells CH 0 [str DJ.path,i64 DJ.mode,str DJ.data])))))) (Ow.emp) (X:=Unit) (fun _ => .bool r) (fun _=>True) (fun _=>Mo.tt) (fun _=>Ow.emp):=by
 refine Zo Tryz.func372 Tryz.ntmps372 fun c => ?_
 unfold Sh.oO at hS
 refine Zq (Zr ?_)
 refine Zy ?_
 refine Zq (Zr ?_)
 refine Zy ?_
 obtain ⟨iD,kL,hS⟩:=aK hS
 refine Zu (oB (DR aA dV eA CH DJ kL) rfl (fun _ _=>rfl)) ?_
 refine Zu (sK rfl rfl) ?_
 refine Zy ?_
 cases hS
 exact Ze
theorem aHf (iV:Sv aC) (r_1:jA) (FC:Sv aI) (kG:Sv aC) {r:List bB} (hS:Sh.aAU iV.l r_1.pl FC.l kG.l=some r) :
 Ct Tryz.prog 348 [iV.val,.agg #[r_1.files.val,r_1.entries.val,r_1.conflicts.val],FC.val,kG.val] (iV.ok.and (r_1.files.ok.and (r_1.entries.ok.and (r_1.conflicts.ok.and (FC.ok.and kG.ok))))) (Ow.emp) (X:=Sv bB) (fun x=>x.val) (fun x=>r=x.l) (fun x=>x.ok) (fun x=>Ow.emp):=by
 refine Zo Tryz.func348 Tryz.ntmps348 fun c => ?_
 unfold Sh.aAU at hS
 refine Zq (Zr ?_)
 refine VL.box (cs:=[r_1.files.val,r_1.entries.val,r_1.conflicts.val]) rfl rfl (by decide) fun BX => ?_
 refine Zy ?_
 refine Zq (Zr ?_)
 refine Zm ?_
 refine Zu (cD AA rfl rfl) ?_
 obtain ⟨aHH,a0C,hS⟩:=aK hS
 refine VL.bS (PR iV r_1 a0C) rfl (by decide) ?_
 rintro pT rfl
 try dsimp only
 refine Zy ?_
 refine Zq (Zr ?_)
 refine Zy ?_
 refine Zq (Zq (Zr ?_))
 refine Zm ?_
 refine Zu (dX (s:=pT) Tryz.underlying62 rfl) ?_
 refine Zy ?_
 refine Zb ?_
 refine VC.iter (S:=Int) (fun (HD:Int)=>HD) (fun (HD:Int)=>[(0,iV.val),(2,FC.val),(3,kG.val),(5,ptr BX 0),(9,pT.val),(10,.slice none 0 0),(18,pT.val),(19,i64 (pT.l.length:Int)),(20,i64 HD)]) (fun (HD:Int)=>Mo.tt) (fun (HD:Int)=>Ow.star (bD BX [r_1.files.val,r_1.entries.val,r_1.conflicts.val] 293) (Ow.star (Sv.own pT 9) (Ow.emp))) 0 [0,2,3,5,9,10,18,19,20] hS rfl ?_
 clear hS
 rintro HD m1 y1 hS hK1
 refine Zq (Zr ?_)
 refine Zu (c4 rfl rfl) ?_
 refine Zl ?_
 refine Zq ?_
 refine Zc hS (fun h21 hS => ?_) (fun h21 hS => ?_)
 ·
  refine Zk ?_
  refine Zq (Zb (Zq (Zr ?_)))
  obtain ⟨aKs,aQA,aPY,hS⟩:=c6 hS
  refine Zu (lJ (s:=pT) Tryz.underlying62 vA rfl rfl aQA (bN aQA aPY)) ?_
  refine Zu (DN (s:=pT) 9 dD rfl aPY rfl) ?_
  refine Zy ?_
  refine Zq (Zr ?_)
  refine Zy ?_
  obtain ⟨aAj,aJ0,hS⟩:=aK hS
  refine Zu (bZ (aHg iV FC kG aKs aJ0) rfl (fun _ _=>rfl)) ?_
  refine Zu (lQ rfl) ?_
  refine Zl ?_
  refine VC.keep (ρ':=[(0,iV.val),(2,FC.val),(3,kG.val),(5,ptr BX 0),(9,pT.val),(10,.slice none 0 0),(18,pT.val),(19,i64 (pT.l.length:Int)),(20,i64 HD),(12,str aKs),(29,.bool (!aAj))]) [0,2,3,5,9,10,18,19,20,12,29] rfl ?_
  refine iL hS (fun h29 hS => ?_) (fun h29 hS => ?_)
  ·
   cases hS
  refine Zk ?_
  refine Zr ?_
  obtain ⟨b34,hS⟩:=bU hS
  refine Zu (cR rfl rfl b34) ?_
  refine Zm ?_
  refine VL.iP (HD+1) [0,2,3,5,9,10,18,19,20] (fun _ _ h=>h) (go2 hS hK1) rfl
 replace hS:=gA hS hK1
 refine Zx ?_
 refine Zq (Zq (Zr ?_))
 refine Zm ?_
 refine Zu (dX (s:=kG) Tryz.underlying23 rfl) ?_
 refine Zy ?_
 refine VC.keep (ρ':=[(5,ptr BX 0),(9,pT.val),(10,.slice none 0 0),(35,kG.val),(36,i64 (kG.l.length:Int)),(37,i64 0)]) [5,9,10,35,36,37] rfl ?_
 refine Zb ?_
 refine VC.iter (S:=Int) (fun (zH:Int)=>zH) (fun (zH:Int)=>[(5,ptr BX 0),(9,pT.val),(10,.slice none 0 0),(35,kG.val),(36,i64 (kG.l.length:Int)),(37,i64 zH)]) (fun (zH:Int)=>Mo.tt) (fun (zH:Int)=>Ow.star (bD BX [r_1.files.val,r_1.entries.val,r_1.conflicts.val] 293) (Ow.star (Sv.own pT 9) (Ow.emp))) 0 [5,9,10,35,36,37] hS rfl ?_
 clear hS
 rintro zH m1 y1 hS hK1
 refine Zq (Zr ?_)
 refine Zu (c4 rfl rfl) ?_
 refine Zl ?_
 refine Zq ?_
 refine Zc hS (fun h38 hS => ?_) (fun h38 hS => ?_)
 ·
  refine Zk ?_
  refine Zq (Zb (Zq (Zr ?_)))
  obtain ⟨HL,aQR,aPb,hS⟩:=c6 hS
  refine Zu (e8 (s:=kG) Tryz.underlying23 fS rfl rfl aQR (bN aQR aPb)) ?_
  refine Zu (nR (s:=kG) jZ rfl rfl aPb) ?_
  refine VL.alloc (cs:=[str [],i64 0,str []]) (by kernel_rfl) (by decide) fun aEt => ?_
  refine Zv (cs':=[str HL.path,i64 HL.mode,str HL.data]) rfl fS ?_
  refine Zl ?_
  refine VC.gK (S:=Unit) (fun (_:Unit)=>()) (fun (_:Unit)=>[(5,ptr BX 0),(9,pT.val),(10,.slice none 0 0),(14,ptr aEt 0),(35,kG.val),(36,i64 (kG.l.length:Int)),(37,i64 zH)]) (fun (_:Unit)=>Mo.tt) (fun (_:Unit)=>Ow.star (bD aEt [str HL.path,i64 HL.mode,str HL.data] 36) (Ow.star (bD BX [r_1.files.val,r_1.entries.val,r_1.conflicts.val] 293) (Ow.star (Sv.own pT 9) (Ow.emp)))) hS ?_ ?_
  ·
   clear hS
   intro k9 hS
   refine Zq (Zr ?_)
   refine Zm ?_
   refine Zu (aB qS rfl) ?_
   refine Zu (aJ dD rfl rfl) ?_
   obtain ⟨aRU,aUv,hS⟩:=aK hS
   refine Zu (oB (pF pT HL.path aUv) rfl (fun _ _=>rfl)) ?_
   refine Zm ?_
   refine vV 45 hS (fun h45 hS => ?_) (fun h45 hS => ?_)
   ·
    refine Zh (aB tE rfl) ?_
    refine Zh (aJ jS rfl rfl) ?_
    refine Zh (aB qS rfl) ?_
    refine Zh (aJ dD rfl rfl) ?_
    obtain ⟨aKh,aVJ,hS⟩:=aK hS
    refine Zh (bZ (vB r_1.files HL.path aVJ) rfl (fun _ _=>rfl)) ?_
    refine Zh (aYW Tryz.underlying362 rfl o9 rfl rfl) ?_
    refine Zh (lQ rfl) ?_
    refine Zy ?_
    refine VC.keep (ρ':=[(5,ptr BX 0),(9,pT.val),(10,.slice none 0 0),(35,kG.val),(36,i64 (kG.l.length:Int)),(37,i64 zH),(14,ptr aEt 0),(53,.bool (!aKh.is))]) [5,9,10,35,36,37,14,53] rfl ?_
    refine iL hS (fun h53 hS => ?_) (fun h53 hS => ?_)
    ·
     refine Zx ?_
     refine Zr ?_
     obtain ⟨b62,hS⟩:=bU hS
     refine Zu (cR rfl rfl b62) ?_
     refine Zm ?_
     refine VL.iP (zH+1) [5,9,10,35,36,37] (fun _ _ h=>h) (go2 hS hK1) rfl
    refine VC.iC () [5,9,10,14,35,36,37] (fun _ _ h=>h) hS rfl
   refine VL.runs 8 [(53,some false)] (by kernel_rfl) ?_
   refine Zl ?_
   refine VC.keep (ρ':=[(5,ptr BX 0),(9,pT.val),(10,.slice none 0 0),(35,kG.val),(36,i64 (kG.l.length:Int)),(37,i64 zH),(14,ptr aEt 0),(53,.bool false)]) [5,9,10,35,36,37,14,53] rfl ?_
   refine VC.BB rfl ?_
   refine VC.iC () [5,9,10,14,35,36,37] (fun _ _ h=>h) hS rfl
  clear hS
  rintro _ hS
  refine Zq (Zr ?_)
  refine Zm ?_
  refine Zu (sE rfl) ?_
  obtain ⟨aR9,aVV,hS⟩:=aK hS
  refine Zu (oB (BQ pT BX r_1 aEt HL aVV) rfl (fun _ _=>rfl)) ?_
  refine Zl ?_
  refine iL hS (fun h56 hS => ?_) (fun h56 hS => ?_)
  ·
   cases hS
  refine Zk ?_
  refine Zr ?_
  obtain ⟨b62,hS⟩:=bU hS
  refine Zu (cR rfl rfl b62) ?_
  refine Zm ?_
  refine VL.iP (zH+1) [5,9,10,35,36,37] (fun _ _ h=>h) (go2 hS hK1) rfl
 replace hS:=gA hS hK1
 refine Zx ?_
 refine Zq (Zr ?_)
 refine Zm ?_
 refine VL.kH (⟨none,0,[]⟩:Sv bB) 9 ⟨rfl,rfl⟩ ?_
 obtain ⟨b64,hS⟩:=bU hS
 refine VL.bS (WR (⟨none,0,[]⟩:Sv bB) b64) rfl (by decide) ?_
 rintro a6w ⟨aXW,a6s⟩
 try dsimp only
 replace hS:=bV aXW hS
 refine Zl ?_
 refine Zq (Zr ?_)
 refine Zm ?_
 refine VL.kH (⟨none,0,[]⟩:Sv bB) 9 ⟨rfl,rfl⟩ ?_
 obtain ⟨b66,hS⟩:=bU hS
 refine VL.bS (KZ (⟨none,0,[]⟩:Sv bB) b66) rfl (by decide) ?_
 rintro aQv aXX
 try dsimp only
 replace hS:=bV aXX hS
 refine VL.shut aQv 9 (fun _ _ _ _=>trivial) ?_
 obtain ⟨aC8,aF1,hS⟩:=aK hS
 refine VL.cU (jO aQv aF1) rfl (by decide) ?_
 rintro aI9 rfl
 try dsimp only
 refine Zy ?_
 refine VC.keep (ρ':=[(8,aI9.val)]) [8] rfl ?_
 cases hS
 exact VC.ret (eB (.inr rfl) rfl rfl aI9 rfl rfl (by (try dsimp only); exact cA.out) (fun _ _=>trivial))
theorem PF (fL:aI) (iB:Nat) (a_1:bB) {r:Bool} (hS:Sh.HM fL a_1=some r) :
 Ct Tryz.prog 220 [.agg #[str fL.path,i64 fL.gY,i64 fL.mode,str fL.data,i64 fL.time,i64 fL.size],ptr iB 0] (Cells iB 0 [str a_1]) (Ow.emp) (X:=Unit) (fun _ => .bool r) (fun _=>True) (fun _=>Mo.tt) (fun _=>Ow.emp):=by
 refine Zo Tryz.func220 Tryz.ntmps220 fun c => ?_
 unfold Sh.HM at hS
 refine Zq (Zr ?_)
 refine VL.box (cs:=[str fL.path,i64 fL.gY,i64 fL.mode,str fL.data,i64 fL.time,i64 fL.size]) rfl rfl (by decide) fun dQ => ?_
 refine Zy ?_
 refine Zq (Zr ?_)
 refine Zu (aB wQ rfl) ?_
 refine Zu (aJ dD rfl rfl) ?_
 refine Zu (WC dD rfl rfl) ?_
 refine Zy ?_
 cases hS
 exact Ze
theorem vG (aA:Sv aI) (dV:Nat) (eA:bB) {r:Int} (hS:Sh.kR aA.l eA=some r) :
 Ct Tryz.prog 286 [aA.val,.func (.func 220) #[] #[ptr dV 0]] (aA.ok.and (Cells dV 0 [str eA])) (Ow.emp) (X:=Unit) (fun _=>i64 r) (fun _=>True) (fun _=>Mo.tt) (fun _=>Ow.emp):=by
 refine Zo Tryz.func286 Tryz.ntmps286 fun c => ?_
 unfold Sh.kR at hS
 refine Zq (Zr ?_)
 refine Zy ?_
 refine Zq (Zq (Zr ?_))
 refine Zm ?_
 refine Zu (dX (s:=aA) Tryz.underlying50 rfl) ?_
 refine Zy ?_
 refine Zb ?_
 refine VC.iter (S:=Int) (fun (cG:Int)=>cG) (fun (cG:Int)=>[(0,aA.val),(1,.func (.func 220) #[] #[ptr dV 0]),(7,i64 (aA.l.length:Int)),(8,i64 cG)]) (fun (cG:Int)=>Mo.tt) (fun (cG:Int)=>Ow.emp) 0 [0,1,7,8] hS rfl ?_
 clear hS
 rintro cG m1 y1 hS hK1
 refine Zq (Zr ?_)
 refine Zu (c4 rfl rfl) ?_
 refine Zl ?_
 refine Zq ?_
 refine Zc hS (fun h9 hS => ?_) (fun h9 hS => ?_)
 ·
  refine Zk ?_
  refine Zq (Zb (Zq (Zr ?_)))
  refine Zy ?_
  refine Zq (Zr ?_)
  refine Zy ?_
  obtain ⟨fV,kV,kU,hS⟩:=c6 hS
  refine Zu (e8 (s:=aA) Tryz.underlying50 iN rfl rfl kV (bN kV kU)) ?_
  refine Zu (nR (s:=aA) oV rfl rfl kU) ?_
  obtain ⟨kC,rB,hS⟩:=aK hS
  refine Zu (uX (vs:=[.agg #[str fV.path,i64 fV.gY,i64 fV.mode,str fV.data,i64 fV.time,i64 fV.size]]) (caps:=[ptr dV 0]) (PF fV dV eA rB) rfl rfl (fun _ _=>rfl)) ?_
  refine Zl ?_
  refine VC.keep (ρ':=[(0,aA.val),(1,.func (.func 220) #[] #[ptr dV 0]),(7,i64 (aA.l.length:Int)),(8,i64 cG),(5,i64 cG),(16,.bool kC)]) [0,1,7,8,5,16] rfl ?_
  refine iL hS (fun h16 hS => ?_) (fun h16 hS => ?_)
  ·
   refine Zq (Zr ?_)
   refine Zy ?_
   replace hS:=gA hS hK1
   cases hS
   exact Ze
  refine Zk ?_
  refine Zr ?_
  obtain ⟨b18,hS⟩:=bU hS
  refine Zu (cR rfl rfl b18) ?_
  refine Zm ?_
  refine VL.iP (cG+1) [0,1,7,8] (fun _ _ h=>h) (go2 hS hK1) rfl
 replace hS:=gA hS hK1
 refine Zx ?_
 refine Zq (Zr ?_)
 refine Zy ?_
 cases hS
 exact Ze
theorem uP (aA:Sv aI) (dR:Nat) (eH:bB) {r:List aI} (hS:Sh.kJ aA.l eH=some r) :
 Ct Tryz.prog 218 [aA.val,.func (.func 220) #[] #[ptr dR 0]] Mo.tt (Ow.star (Sv.own aA 274) (bD dR [str eH] 9)) (X:=Sv aI) (fun x=>x.val) (fun x=>r=x.l) (fun x=>Mo.tt) (fun x=>Ow.star (Sv.own x 274) (bD dR [str eH] 9)):=by
 refine Zo Tryz.func218 Tryz.ntmps218 fun c => ?_
 unfold Sh.kJ at hS
 refine Zq (Zr ?_)
 refine Zy ?_
 refine Zq (Zr ?_)
 refine Zy ?_
 obtain ⟨c9,nF,hS⟩:=aK hS
 refine Zu (oB (vG aA dR eH nF) rfl (fun _ _=>rfl)) ?_
 refine Zy ?_
 refine Zq (Zq (Zr ?_))
 refine Zm ?_
 refine Zu (gV rfl rfl) ?_
 refine Zl ?_
 refine Zc hS (fun h12 hS => ?_) (fun h12 hS => ?_)
 ·
  refine Zq (Zr ?_)
  refine Zy ?_
  cases hS
  exact VC.ret (eB (.inr rfl) rfl rfl aA rfl rfl (by (try dsimp only); exact cA.out) (by (try dsimp only); exact dJ.out))
 refine Zk ?_
 refine Zq (Zq (Zr ?_))
 refine Zm ?_
 obtain ⟨b15,hS⟩:=bU hS
 refine Zu (cR rfl rfl b15) ?_
 refine Zy ?_
 refine VC.keep (ρ':=[(0,aA.val),(1,.func (.func 220) #[] #[ptr dR 0]),(5,i64 c9),(6,i64 (c9+1))]) [0,1,5,6] rfl ?_
 refine Zb ?_
 refine VC.iter (S:=Sv aI×Int×Int) (fun sg=>(sg.1.l,sg.2.1,sg.2.2)) (fun sg=>[(0,sg.1.val),(1,.func (.func 220) #[] #[ptr dR 0]),(5,i64 sg.2.1),(6,i64 sg.2.2)]) (fun sg=>Mo.tt) (fun sg=>Ow.star (bD dR [str eH] 9) (Ow.star (Sv.own sg.1 274) (Ow.emp))) (aA,c9,(c9+1)) [0,1,5,6] hS rfl ?_
 clear hS
 rintro ⟨fC,gU,mL⟩ m1 y1 hS hK1
 refine Zq (Zq (Zr ?_))
 refine Zy ?_
 refine Zu (dX (s:=fC) Tryz.underlying50 rfl) ?_
 refine Zu (c4 rfl rfl) ?_
 refine Zl ?_
 refine Zc hS (fun h19 hS => ?_) (fun h19 hS => ?_)
 ·
  refine Zk ?_
  refine VC.gK (S:=Sv aI×Int) (fun sg=>(sg.1.l,sg.2)) (fun sg=>[(0,sg.1.val),(1,.func (.func 220) #[] #[ptr dR 0]),(5,i64 sg.2),(6,i64 mL)]) (fun sg=>Mo.tt) (fun sg=>Ow.star (bD dR [str eH] 9) (Ow.star (Sv.own sg.1 274) (Ow.emp))) hS ?_ ?_
  ·
   clear hS
   intro k7 hS
   refine Zb (Zq (Zr ?_))
   refine Zy ?_
   obtain ⟨dN,zR,zN,hS⟩:=c6 hS
   refine Zu (lJ (s:=fC) Tryz.underlying50 iN rfl rfl zR (bN zR zN)) ?_
   refine Zu (R9 (s:=fC) oV rfl rfl zN) ?_
   refine VL.alloc (cs:=[str [],i64 0,i64 0,str [],i64 0,i64 0]) (by kernel_rfl) (by decide) fun aEw => ?_
   refine Zv (cs':=[str dN.path,i64 dN.gY,i64 dN.mode,str dN.data,i64 dN.time,i64 dN.size]) rfl iN ?_
   refine Zl ?_
   refine VC.keep (ρ':=[(0,fC.val),(1,.func (.func 220) #[] #[ptr dR 0]),(5,i64 gU),(6,i64 mL),(7,ptr aEw 0)]) [0,1,5,6,7] rfl ?_
   refine Zq (Zr ?_)
   refine Zm ?_
   refine Zu (cD oV rfl rfl) ?_
   obtain ⟨zX,EY,hS⟩:=aK hS
   refine Zu (uX (vs:=[.agg #[str dN.path,i64 dN.gY,i64 dN.mode,str dN.data,i64 dN.time,i64 dN.size]]) (caps:=[ptr dR 0]) (PF dN dR eH EY) rfl rfl (fun _ _=>rfl)) ?_
   refine Zu (lQ rfl) ?_
   refine Zl ?_
   refine iL hS (fun h29 hS => ?_) (fun h29 hS => ?_)
   ·
    refine Zq (Zr ?_)
    refine Zy ?_
    refine Zu (cD oV rfl rfl) ?_
    obtain ⟨TN,AG,AE,hS⟩:=c6 hS
    refine Zu (lJ (s:=fC) Tryz.underlying50 iN rfl rfl AG (bN AG AE)) ?_
    refine VL.wD (s:=fC) (T:=274) (j:=0) (vc:=[str dN.path,i64 dN.gY,i64 dN.mode,str dN.data,i64 dN.time,i64 dN.size]) (⟨dN.path,dN.gY,dN.mode,dN.data,dN.time,dN.size⟩:aI) (by decide) rfl rfl AE rfl iN rfl rfl (Nat.le_of_ble_eq_true rfl) rfl (fun w12 hw12 haw12 hcw12 hvw12 hbw12 how12 => ?_)
    rw [← hvw12]
    replace hS:=bV hw12 hS
    refine Zl ?_
    refine VC.keep (ρ':=[(0,w12.val),(1,.func (.func 220) #[] #[ptr dR 0]),(5,i64 gU),(6,i64 mL)]) [0,1,5,6] rfl ?_
    refine Zr ?_
    refine Zm ?_
    obtain ⟨b35,hS⟩:=bU hS
    refine Zu (cR rfl rfl b35) ?_
    refine Za ?_
    refine VL.mt (w12,(gU+1)) [0,1,5,6] (fun _ _ h=>h) hS rfl
   refine VC.iC (fC,gU) [0,1,5,6] (fun _ _ h=>h) hS rfl
  clear hS
  rintro ⟨FW,FB⟩ hS
  refine Zr ?_
  refine Zm ?_
  obtain ⟨b21,hS⟩:=bU hS
  refine Zu (cR rfl rfl b21) ?_
  refine Za ?_
  refine VL.iP (FW,FB,(mL+1)) [0,1,5,6] (fun _ _ h=>h) (go2 hS hK1) rfl
 replace hS:=gA hS hK1
 refine Zx ?_
 refine Zq (Zr ?_)
 refine Zy ?_
 obtain ⟨b38,hS⟩:=bU hS
 refine VL.fits (s:=fC) (e:=274) Fo.out fun E0 => ?_
 refine Zu (NH (s:=fC) Tryz.underlying50 iN rfl rfl b38.1 b38.2 E0) ?_
 refine VL.aLL (s:=fC) (i:=gU.toNat) (.agg #[str [],i64 0,i64 0,str [],i64 0,i64 0]) Tryz.underlying50 aPI rfl rfl rfl (by have:=b38; dsimp only at this ⊢; omega) Fo.out fun FX LH MG => ?_
 replace hS:=bV LH hS
 refine Zl ?_
 refine VC.keep (ρ':=[(0,fC.val),(5,i64 gU)]) [0,5] rfl ?_
 refine Zq (Zr ?_)
 refine Zy ?_
 refine Zu (aCH (s:=fC) (q:=FX) Tryz.underlying50 iN rfl rfl b38.1 b38.2 E0 MG) ?_
 refine Zy ?_
 cases hS
 exact VC.ret (eB (.inr rfl) rfl rfl FX rfl rfl (by (try dsimp only); exact cA.out) (by (try dsimp only); exact dJ.out))
theorem aFr (gS:Sv aI) (p_1:bB) {r:List aI} (hS:Sh.VN gS.l p_1=some r) :
 Ct Tryz.prog 150 [gS.val,str p_1] gS.ok (Ow.emp) (X:=Sv aI) (fun x=>x.val) (fun x=>r=x.l) (fun x=>x.ok) (fun x=>Ow.emp):=by
 refine Zo Tryz.func150 Tryz.ntmps150 fun c => ?_
 unfold Sh.VN at hS
 refine Zq (Zr ?_)
 refine VL.box (cs:=[str p_1]) rfl rfl (by decide) fun fX => ?_
 refine Zy ?_
 refine Zq (Zr ?_)
 refine Zm ?_
 obtain ⟨NZ,aAH,hS⟩:=aK hS
 refine VL.bS (mH gS aAH) rfl (by decide) ?_
 rintro aCD rfl
 try dsimp only
 refine Zu (sE rfl) ?_
 obtain ⟨ED,RM,hS⟩:=aK hS
 refine VL.bS (uP aCD fX p_1 RM) rfl (by decide) ?_
 rintro vZ rfl
 try dsimp only
 refine VL.shut vZ 274 (fun _ _ _ _=>trivial) ?_
 obtain ⟨X0,aAK,hS⟩:=aK hS
 refine VL.cU (gI vZ aAK) rfl (by decide) ?_
 rintro aCG rfl
 try dsimp only
 refine Zy ?_
 cases hS
 exact VC.ret (eB (.inr rfl) rfl rfl aCG rfl rfl (by (try dsimp only); exact cA.out) (fun _ _=>trivial))
theorem JD (DI:aC) (iB:Nat) (a_1:bB) {r:Bool} (hS:Sh.BF DI a_1=some r) :
 Ct Tryz.prog 221 [.agg #[str DI.path,i64 DI.mode,str DI.data],ptr iB 0] (Cells iB 0 [str a_1]) (Ow.emp) (X:=Unit) (fun _ => .bool r) (fun _=>True) (fun _=>Mo.tt) (fun _=>Ow.emp):=by
 refine Zo Tryz.func221 Tryz.ntmps221 fun c => ?_
 unfold Sh.BF at hS
 refine Zq (Zr ?_)
 refine VL.box (cs:=[str DI.path,i64 DI.mode,str DI.data]) rfl rfl (by decide) fun dQ => ?_
 refine Zy ?_
 refine Zq (Zr ?_)
 refine Zu (aB qS rfl) ?_
 refine Zu (aJ dD rfl rfl) ?_
 refine Zu (WC dD rfl rfl) ?_
 refine Zy ?_
 cases hS
 exact Ze
theorem xC (aA:Sv aC) (dV:Nat) (eA:bB) {r:Int} (hS:Sh.lU aA.l eA=some r) :
 Ct Tryz.prog 77 [aA.val,.func (.func 221) #[] #[ptr dV 0]] (aA.ok.and (Cells dV 0 [str eA])) (Ow.emp) (X:=Unit) (fun _=>i64 r) (fun _=>True) (fun _=>Mo.tt) (fun _=>Ow.emp):=by
 refine Zo Tryz.func77 Tryz.ntmps77 fun c => ?_
 unfold Sh.lU at hS
 refine Zq (Zr ?_)
 refine Zy ?_
 refine Zq (Zq (Zr ?_))
 refine Zm ?_
 refine Zu (dX (s:=aA) Tryz.underlying23 rfl) ?_
 refine Zy ?_
 refine Zb ?_
 refine VC.iter (S:=Int) (fun (cG:Int)=>cG) (fun (cG:Int)=>[(0,aA.val),(1,.func (.func 221) #[] #[ptr dV 0]),(7,i64 (aA.l.length:Int)),(8,i64 cG)]) (fun (cG:Int)=>Mo.tt) (fun (cG:Int)=>Ow.emp) 0 [0,1,7,8] hS rfl ?_
 clear hS
 rintro cG m1 y1 hS hK1
 refine Zq (Zr ?_)
 refine Zu (c4 rfl rfl) ?_
 refine Zl ?_
 refine Zq ?_
 refine Zc hS (fun h9 hS => ?_) (fun h9 hS => ?_)
 ·
  refine Zk ?_
  refine Zq (Zb (Zq (Zr ?_)))
  refine Zy ?_
  refine Zq (Zr ?_)
  refine Zy ?_
  obtain ⟨fV,kV,kU,hS⟩:=c6 hS
  refine Zu (e8 (s:=aA) Tryz.underlying23 fS rfl rfl kV (bN kV kU)) ?_
  refine Zu (nR (s:=aA) jZ rfl rfl kU) ?_
  obtain ⟨kC,rB,hS⟩:=aK hS
  refine Zu (uX (vs:=[.agg #[str fV.path,i64 fV.mode,str fV.data]]) (caps:=[ptr dV 0]) (JD fV dV eA rB) rfl rfl (fun _ _=>rfl)) ?_
  refine Zl ?_
  refine VC.keep (ρ':=[(0,aA.val),(1,.func (.func 221) #[] #[ptr dV 0]),(7,i64 (aA.l.length:Int)),(8,i64 cG),(5,i64 cG),(16,.bool kC)]) [0,1,7,8,5,16] rfl ?_
  refine iL hS (fun h16 hS => ?_) (fun h16 hS => ?_)
  ·
   refine Zq (Zr ?_)
   refine Zy ?_
   replace hS:=gA hS hK1
   cases hS
   exact Ze
  refine Zk ?_
  refine Zr ?_
  obtain ⟨b18,hS⟩:=bU hS
  refine Zu (cR rfl rfl b18) ?_
  refine Zm ?_
  refine VL.iP (cG+1) [0,1,7,8] (fun _ _ h=>h) (go2 hS hK1) rfl
 replace hS:=gA hS hK1
 refine Zx ?_
 refine Zq (Zr ?_)
 refine Zy ?_
 cases hS
 exact Ze
theorem vW (aA:Sv aC) (dR:Nat) (eH:bB) {r:List aC} (hS:Sh.lK aA.l eH=some r) :
 Ct Tryz.prog 121 [aA.val,.func (.func 221) #[] #[ptr dR 0]] Mo.tt (Ow.star (Sv.own aA 36) (bD dR [str eH] 9)) (X:=Sv aC) (fun x=>x.val) (fun x=>r=x.l) (fun x=>Mo.tt) (fun x=>Ow.star (Sv.own x 36) (bD dR [str eH] 9)):=by
 refine Zo Tryz.func121 Tryz.ntmps121 fun c => ?_
 unfold Sh.lK at hS
 refine Zq (Zr ?_)
 refine Zy ?_
 refine Zq (Zr ?_)
 refine Zy ?_
 obtain ⟨c9,nF,hS⟩:=aK hS
 refine Zu (oB (xC aA dR eH nF) rfl (fun _ _=>rfl)) ?_
 refine Zy ?_
 refine Zq (Zq (Zr ?_))
 refine Zm ?_
 refine Zu (gV rfl rfl) ?_
 refine Zl ?_
 refine Zc hS (fun h12 hS => ?_) (fun h12 hS => ?_)
 ·
  refine Zq (Zr ?_)
  refine Zy ?_
  cases hS
  exact VC.ret (eB (.inr rfl) rfl rfl aA rfl rfl (by (try dsimp only); exact cA.out) (by (try dsimp only); exact dJ.out))
 refine Zk ?_
 refine Zq (Zq (Zr ?_))
 refine Zm ?_
 obtain ⟨b15,hS⟩:=bU hS
 refine Zu (cR rfl rfl b15) ?_
 refine Zy ?_
 refine VC.keep (ρ':=[(0,aA.val),(1,.func (.func 221) #[] #[ptr dR 0]),(5,i64 c9),(6,i64 (c9+1))]) [0,1,5,6] rfl ?_
 refine Zb ?_
 refine VC.iter (S:=Sv aC×Int×Int) (fun sg=>(sg.1.l,sg.2.1,sg.2.2)) (fun sg=>[(0,sg.1.val),(1,.func (.func 221) #[] #[ptr dR 0]),(5,i64 sg.2.1),(6,i64 sg.2.2)]) (fun sg=>Mo.tt) (fun sg=>Ow.star (bD dR [str eH] 9) (Ow.star (Sv.own sg.1 36) (Ow.emp))) (aA,c9,(c9+1)) [0,1,5,6] hS rfl ?_
 clear hS
 rintro ⟨fC,gU,mL⟩ m1 y1 hS hK1
 refine Zq (Zq (Zr ?_))
 refine Zy ?_
 refine Zu (dX (s:=fC) Tryz.underlying23 rfl) ?_
 refine Zu (c4 rfl rfl) ?_
 refine Zl ?_
 refine Zc hS (fun h19 hS => ?_) (fun h19 hS => ?_)
 ·
  refine Zk ?_
  refine VC.gK (S:=Sv aC×Int) (fun sg=>(sg.1.l,sg.2)) (fun sg=>[(0,sg.1.val),(1,.func (.func 221) #[] #[ptr dR 0]),(5,i64 sg.2),(6,i64 mL)]) (fun sg=>Mo.tt) (fun sg=>Ow.star (bD dR [str eH] 9) (Ow.star (Sv.own sg.1 36) (Ow.emp))) hS ?_ ?_
  ·
   clear hS
   intro k7 hS
   refine Zb (Zq (Zr ?_))
   refine Zy ?_
   obtain ⟨dN,zR,zN,hS⟩:=c6 hS
   refine Zu (lJ (s:=fC) Tryz.underlying23 fS rfl rfl zR (bN zR zN)) ?_
   refine Zu (R9 (s:=fC) jZ rfl rfl zN) ?_
   refine VL.alloc (cs:=[str [],i64 0,str []]) (by kernel_rfl) (by decide) fun aEw => ?_
   refine Zv (cs':=[str dN.path,i64 dN.mode,str dN.data]) rfl fS ?_
   refine Zl ?_
   refine VC.keep (ρ':=[(0,fC.val),(1,.func (.func 221) #[] #[ptr dR 0]),(5,i64 gU),(6,i64 mL),(7,ptr aEw 0)]) [0,1,5,6,7] rfl ?_
   refine Zq (Zr ?_)
   refine Zm ?_
   refine Zu (cD jZ rfl rfl) ?_
   obtain ⟨zX,EY,hS⟩:=aK hS
   refine Zu (uX (vs:=[.agg #[str dN.path,i64 dN.mode,str dN.data]]) (caps:=[ptr dR 0]) (JD dN dR eH EY) rfl rfl (fun _ _=>rfl)) ?_
   refine Zu (lQ rfl) ?_
   refine Zl ?_
   refine iL hS (fun h29 hS => ?_) (fun h29 hS => ?_)
   ·
    refine Zq (Zr ?_)
    refine Zy ?_
    refine Zu (cD jZ rfl rfl) ?_
    obtain ⟨TN,AG,AE,hS⟩:=c6 hS
    refine Zu (lJ (s:=fC) Tryz.underlying23 fS rfl rfl AG (bN AG AE)) ?_
    refine VL.wD (s:=fC) (T:=36) (j:=0) (vc:=[str dN.path,i64 dN.mode,str dN.data]) (⟨dN.path,dN.mode,dN.data⟩:aC) (by decide) rfl rfl AE rfl fS rfl rfl (Nat.le_of_ble_eq_true rfl) rfl (fun w12 hw12 haw12 hcw12 hvw12 hbw12 how12 => ?_)
    rw [← hvw12]
    replace hS:=bV hw12 hS
    refine Zl ?_
    refine VC.keep (ρ':=[(0,w12.val),(1,.func (.func 221) #[] #[ptr dR 0]),(5,i64 gU),(6,i64 mL)]) [0,1,5,6] rfl ?_
    refine Zr ?_
    refine Zm ?_
    obtain ⟨b35,hS⟩:=bU hS
    refine Zu (cR rfl rfl b35) ?_
    refine Za ?_
    refine VL.mt (w12,(gU+1)) [0,1,5,6] (fun _ _ h=>h) hS rfl
   refine VC.iC (fC,gU) [0,1,5,6] (fun _ _ h=>h) hS rfl
  clear hS
  rintro ⟨FW,FB⟩ hS
  refine Zr ?_
  refine Zm ?_
  obtain ⟨b21,hS⟩:=bU hS
  refine Zu (cR rfl rfl b21) ?_
  refine Za ?_
  refine VL.iP (FW,FB,(mL+1)) [0,1,5,6] (fun _ _ h=>h) (go2 hS hK1) rfl
 replace hS:=gA hS hK1
 refine Zx ?_
 refine Zq (Zr ?_)
 refine Zy ?_
 obtain ⟨b38,hS⟩:=bU hS
 refine VL.fits (s:=fC) (e:=36) Fo.out fun E0 => ?_
 refine Zu (NH (s:=fC) Tryz.underlying23 fS rfl rfl b38.1 b38.2 E0) ?_
 refine VL.aLL (s:=fC) (i:=gU.toNat) (.agg #[str [],i64 0,str []]) Tryz.underlying23 aWV rfl rfl rfl (by have:=b38; dsimp only at this ⊢; omega) Fo.out fun FX LH MG => ?_
 replace hS:=bV LH hS
 refine Zl ?_
 refine VC.keep (ρ':=[(0,fC.val),(5,i64 gU)]) [0,5] rfl ?_
 refine Zq (Zr ?_)
 refine Zy ?_
 refine Zu (aCH (s:=fC) (q:=FX) Tryz.underlying23 fS rfl rfl b38.1 b38.2 E0 MG) ?_
 refine Zy ?_
 cases hS
 exact VC.ret (eB (.inr rfl) rfl rfl FX rfl rfl (by (try dsimp only); exact cA.out) (by (try dsimp only); exact dJ.out))
theorem aBO (cJ:Sv aC) (p_1:bB) {r:List aC} (hS:Sh.K5 cJ.l p_1=some r) :
 Ct Tryz.prog 151 [cJ.val,str p_1] cJ.ok (Ow.emp) (X:=Sv aC) (fun x=>x.val) (fun x=>r=x.l) (fun x=>x.ok) (fun x=>Ow.emp):=by
 refine Zo Tryz.func151 Tryz.ntmps151 fun c => ?_
 unfold Sh.K5 at hS
 refine Zq (Zr ?_)
 refine VL.box (cs:=[str p_1]) rfl rfl (by decide) fun fX => ?_
 refine Zy ?_
 refine Zq (Zr ?_)
 refine Zm ?_
 obtain ⟨NZ,aAH,hS⟩:=aK hS
 refine VL.bS (iQ cJ aAH) rfl (by decide) ?_
 rintro aCD rfl
 try dsimp only
 refine Zu (sE rfl) ?_
 obtain ⟨ED,RM,hS⟩:=aK hS
 refine VL.bS (vW aCD fX p_1 RM) rfl (by decide) ?_
 rintro vZ rfl
 try dsimp only
 refine VL.shut vZ 36 (fun _ _ _ _=>trivial) ?_
 obtain ⟨X0,aAK,hS⟩:=aK hS
 refine VL.cU (e7 vZ aAK) rfl (by decide) ?_
 rintro aCG rfl
 try dsimp only
 refine Zy ?_
 cases hS
 exact VC.ret (eB (.inr rfl) rfl rfl aCG rfl rfl (by (try dsimp only); exact cA.out) (fun _ _=>trivial))
theorem aKF (cJ:jA) (GR:Sv aI) (p_2:bB) {r:List aI} (hS:Sh.aDL cJ.pl GR.l p_2=some r) :
 Ct Tryz.prog 350 [.agg #[cJ.files.val,cJ.entries.val,cJ.conflicts.val],GR.val,str p_2] (cJ.files.ok.and (cJ.entries.ok.and (cJ.conflicts.ok.and GR.ok))) (Ow.emp) (X:=Sv aI) (fun x=>x.val) (fun x=>r=x.l) (fun x=>x.ok) (fun x=>Ow.emp):=by
 refine Zo Tryz.func350 Tryz.ntmps350 fun c => ?_
 unfold Sh.aDL at hS
 refine Zq (Zr ?_)
 refine VL.box (cs:=[cJ.files.val,cJ.entries.val,cJ.conflicts.val]) rfl rfl (by decide) fun fX => ?_
 refine Zy ?_
 refine Zq (Zq (Zr ?_))
 refine Zu (aB D7 rfl) ?_
 refine Zu (aJ x6 rfl rfl) ?_
 refine Zm ?_
 obtain ⟨pG,aBC,hS⟩:=aK hS
 refine Zu (bZ (pF cJ.conflicts p_2 aBC) rfl (fun _ _=>rfl)) ?_
 refine Zl ?_
 refine iL hS (fun h13 hS => ?_) (fun h13 hS => ?_)
 ·
  refine Zq (Zq ?_)
  cases hS
 refine Zk ?_
 refine Zq (Zr ?_)
 refine Zu (aB tE rfl) ?_
 refine Zu (aJ jS rfl rfl) ?_
 refine Zm ?_
 obtain ⟨GG,a08,hS⟩:=aK hS
 refine Zu (bZ (vB cJ.files p_2 a08) rfl (fun _ _=>rfl)) ?_
 refine VL.alloc (cs:=[str [],i64 0,str [],.bool false]) (by kernel_rfl) (by decide) fun a62 => ?_
 refine Zv (cs':=[str GG.dW,i64 GG.dI,str GG.dH,.bool GG.is]) rfl aEW ?_
 refine Zl ?_
 refine VC.keep (ρ':=[(1,GR.val),(2,str p_2),(9,ptr a62 0)]) [1,2,9] rfl ?_
 refine Zq (Zq (Zr ?_))
 refine Zu (aB aIG rfl) ?_
 refine Zu (aJ o9 rfl rfl) ?_
 refine Zu (lQ rfl) ?_
 refine Zl ?_
 refine iL hS (fun h36 hS => ?_) (fun h36 hS => ?_)
 ·
  refine Zq (Zr ?_)
  refine Zy ?_
  cases hS
  exact VC.ret (eB (.inr rfl) rfl rfl GR rfl rfl (by (try dsimp only); exact cA.out) (fun _ _=>trivial))
 refine Zk ?_
 refine Zq (Zr ?_)
 refine Zy ?_
 refine Zu (aB aCv rfl) ?_
 refine Zu (aB LA rfl) ?_
 refine Zu (aJ eP rfl rfl) ?_
 refine Zu (aB aCv rfl) ?_
 refine Zu (aB E8 rfl) ?_
 refine Zu (aJ dD rfl rfl) ?_
 refine Zu (eN (vs:=[(0,str p_2),(2,i64 GG.dI),(3,str GG.dH)]) (cs := #[str p_2,i64 0,i64 GG.dI,str GG.dH,i64 0,i64 0]) rfl (by kernel_rfl)) ?_
 obtain ⟨aZ0,a0r,hS⟩:=aK hS
 refine VL.cU (ZI GR (⟨p_2,0,GG.dI,GG.dH,0,0⟩:aI) a0r) rfl (by decide) ?_
 rintro aMq rfl
 try dsimp only
 refine Zy ?_
 refine VC.keep (ρ':=[(6,aMq.val)]) [6] rfl ?_
 cases hS
 exact VC.ret (eB (.inr rfl) rfl rfl aMq rfl rfl (by (try dsimp only); exact cA.out) (fun _ _=>trivial))
theorem aGU (iV:Sv aC) (r_1:jA) (FC:Sv aI) (kG:Sv aC) {r:List aI×List aC×eY} (hS:Sh.VZ iV.l r_1.pl FC.l kG.l=some r) :
 Ct Tryz.prog 306 [iV.val,.agg #[r_1.files.val,r_1.entries.val,r_1.conflicts.val],FC.val,kG.val] (iV.ok.and (r_1.files.ok.and (r_1.entries.ok.and (r_1.conflicts.ok.and (FC.ok.and kG.ok))))) (Ow.emp) (X:=Sv aI×Sv aC×Er) (fun x => .tuple #[x.1.val,x.2.1.val,x.2.2.val]) (fun x=>r=(x.1.l,x.2.1.l,x.2.2.pl)) (fun x=>(x.1.ok.and (x.2.1.ok.and x.2.2.ok))) (fun x=>Ow.emp):=by
 refine Zo Tryz.func306 Tryz.ntmps306 fun c => ?_
 unfold Sh.VZ at hS
 refine Zq (Zr ?_)
 refine VL.box (cs:=[r_1.files.val,r_1.entries.val,r_1.conflicts.val]) rfl rfl (by decide) fun BX => ?_
 refine Zy ?_
 refine Zq (Zq (Zr ?_))
 refine Zm ?_
 refine Zu (cD AA rfl rfl) ?_
 refine Zy ?_
 obtain ⟨aOV,a0M,hS⟩:=aK hS
 refine VL.cU (aHf iV r_1 FC kG a0M) rfl (by decide) ?_
 rintro aMe rfl
 try dsimp only
 refine Zy ?_
 refine VC.keep (ρ':=[(0,iV.val),(2,FC.val),(3,kG.val),(5,ptr BX 0),(11,aMe.val)]) [0,2,3,5,11] rfl ?_
 refine Zq (Zr ?_)
 refine Zm ?_
 refine Zu (dX (s:=aMe) Tryz.underlying62 rfl) ?_
 refine Zu (iZ rfl rfl) ?_
 refine Zl ?_
 refine Zc hS (fun h25 hS => ?_) (fun h25 hS => ?_)
 ·
  refine Zq ?_
  cases hS
 refine Zk ?_
 refine Zq (Zr ?_)
 refine Zm ?_
 refine Zu (cD AA rfl rfl) ?_
 obtain ⟨aHO,a0k,hS⟩:=aK hS
 refine VL.bS (PR iV r_1 a0k) rfl (by decide) ?_
 rintro nB rfl
 try dsimp only
 refine Zy ?_
 refine VC.keep (ρ':=[(2,FC.val),(3,kG.val),(5,ptr BX 0),(12,nB.val)]) [2,3,5,12] rfl ?_
 refine Zq (Zr ?_)
 refine Zm ?_
 obtain ⟨aZX,a0n,hS⟩:=aK hS
 refine VL.bS (mH FC a0n) rfl (by decide) ?_
 rintro aMn rfl
 try dsimp only
 refine Zm ?_
 obtain ⟨aZY,a0p,hS⟩:=aK hS
 refine VL.bS (iQ kG a0p) rfl (by decide) ?_
 rintro aMo rfl
 try dsimp only
 refine Zy ?_
 refine Zq (Zq (Zr ?_))
 refine Zm ?_
 refine Zu (dX (s:=nB) Tryz.underlying62 rfl) ?_
 refine Zy ?_
 refine Zb ?_
 refine VC.shut aMn 274 (fun _ _ _ _=>trivial) ?_
 refine VC.shut aMo 36 (fun _ _ _ _=>trivial) ?_
 refine VC.iter (S:=Sv aI×Sv aC×Int) (fun sg=>(sg.1.l,sg.2.1.l,sg.2.2)) (fun sg=>[(2,sg.1.val),(3,sg.2.1.val),(5,ptr BX 0),(12,nB.val),(45,nB.val),(46,i64 (nB.l.length:Int)),(47,i64 sg.2.2)]) (fun sg=>(sg.1.ok.and sg.2.1.ok)) (fun sg=>Ow.star (bD BX [r_1.files.val,r_1.entries.val,r_1.conflicts.val] 293) (Ow.star (Sv.own nB 9) (Ow.emp))) (aMn,aMo,0) [2,3,5,12,45,46,47] hS rfl ?_
 clear hS
 rintro ⟨aFu,W5,aAe⟩ m1 y1 hS hK1
 refine Zq (Zr ?_)
 refine Zu (c4 rfl rfl) ?_
 refine Zl ?_
 refine Zq ?_
 refine Zc hS (fun h48 hS => ?_) (fun h48 hS => ?_)
 ·
  refine Zk ?_
  refine Zq (Zb (Zq (Zr ?_)))
  obtain ⟨aHY,aQX,aPi,hS⟩:=c6 hS
  refine Zu (lJ (s:=nB) Tryz.underlying62 vA rfl rfl aQX (bN aQX aPi)) ?_
  refine Zu (DN (s:=nB) 9 dD rfl aPi rfl) ?_
  refine Zy ?_
  refine Zr ?_
  refine Zy ?_
  obtain ⟨aR4,aVO,hS⟩:=aK hS
  refine VL.cU (aFr aFu aHY aVO) rfl (by decide) ?_
  rintro aI6 rfl
  try dsimp only
  refine Zy ?_
  obtain ⟨aR8,aVU,hS⟩:=aK hS
  refine VL.cU (aBO W5 aHY aVU) rfl (by decide) ?_
  rintro aI7 rfl
  try dsimp only
  refine Zy ?_
  refine VC.keep (ρ':=[(2,aI6.val),(3,aI7.val),(5,ptr BX 0),(12,nB.val),(45,nB.val),(46,i64 (nB.l.length:Int)),(47,i64 aAe)]) [2,3,5,12,45,46,47] rfl ?_
  refine Zr ?_
  obtain ⟨b57,hS⟩:=bU hS
  refine Zu (cR rfl rfl b57) ?_
  refine Zm ?_
  refine VL.iP (aI6,aI7,(aAe+1)) [2,3,5,12,45,46,47] (fun _ _ h=>h) (go2 hS hK1) rfl
 replace hS:=gA hS hK1
 refine Zx ?_
 refine Zq (Zq (Zr ?_))
 refine Zm ?_
 refine Zu (dX (s:=nB) Tryz.underlying62 rfl) ?_
 refine Zy ?_
 refine Zb ?_
 refine VC.iter (S:=Sv aI×Sv aC×Int) (fun sg=>(sg.1.l,sg.2.1.l,sg.2.2)) (fun sg=>[(2,sg.1.val),(3,sg.2.1.val),(5,ptr BX 0),(58,nB.val),(59,i64 (nB.l.length:Int)),(60,i64 sg.2.2)]) (fun sg=>(sg.1.ok.and sg.2.1.ok)) (fun sg=>Ow.star (bD BX [r_1.files.val,r_1.entries.val,r_1.conflicts.val] 293) (Ow.star (Sv.own nB 9) (Ow.emp))) (aFu,W5,0) [2,3,5,58,59,60] hS rfl ?_
 clear hS
 rintro ⟨aB9,BU,DA⟩ m1 y1 hS hK1
 refine Zq (Zr ?_)
 refine Zu (c4 rfl rfl) ?_
 refine Zl ?_
 refine Zq ?_
 refine Zc hS (fun h61 hS => ?_) (fun h61 hS => ?_)
 ·
  refine Zk ?_
  refine Zq (Zb (Zq (Zr ?_)))
  obtain ⟨J6,aBl,U7,hS⟩:=c6 hS
  refine Zu (lJ (s:=nB) Tryz.underlying62 vA rfl rfl aBl (bN aBl U7)) ?_
  refine Zu (DN (s:=nB) 9 dD rfl U7 rfl) ?_
  refine Zy ?_
  refine Zq (Zr ?_)
  refine Zu (cD AA rfl rfl) ?_
  refine Zy ?_
  obtain ⟨aKm,aV8,hS⟩:=aK hS
  refine VL.cU (aKF r_1 aB9 J6 aV8) rfl (by decide) ?_
  rintro P5 rfl
  try dsimp only
  refine Zy ?_
  refine VC.keep (ρ':=[(2,P5.val),(3,BU.val),(5,ptr BX 0),(58,nB.val),(59,i64 (nB.l.length:Int)),(60,i64 DA),(16,str J6)]) [2,3,5,58,59,60,16] rfl ?_
  refine Zq (Zr ?_)
  refine Zu (aB tE rfl) ?_
  refine Zu (aJ jS rfl rfl) ?_
  refine Zm ?_
  obtain ⟨DC,aVd,hS⟩:=aK hS
  refine Zu (bZ (vB r_1.files J6 aVd) rfl (fun _ _=>rfl)) ?_
  refine VL.alloc (cs:=[str [],i64 0,str [],.bool false]) (by kernel_rfl) (by decide) fun a6u => ?_
  refine Zv (cs':=[str DC.dW,i64 DC.dI,str DC.dH,.bool DC.is]) rfl aEW ?_
  refine Zl ?_
  refine Zq (Zr ?_)
  refine Zu (aB aIG rfl) ?_
  refine Zu (aJ o9 rfl rfl) ?_
  refine Zl ?_
  refine iL hS (fun h73 hS => ?_) (fun h73 hS => ?_)
  ·
   refine Zr ?_
   refine Zm ?_
   refine Zu (aB aCv rfl) ?_
   refine Zu (SA (j:=0) (n:=3) jZ rfl rfl rfl) ?_
   obtain ⟨aRu,aVl,hS⟩:=aK hS
   refine VL.cU (MX BU (⟨DC.dW,DC.dI,DC.dH⟩:aC) aVl) rfl (by decide) ?_
   rintro aIa rfl
   try dsimp only
   refine Zy ?_
   refine VC.keep (ρ':=[(2,P5.val),(3,aIa.val),(5,ptr BX 0),(58,nB.val),(59,i64 (nB.l.length:Int)),(60,i64 DA)]) [2,3,5,58,59,60] rfl ?_
   refine Zr ?_
   obtain ⟨b78,hS⟩:=bU hS
   refine Zu (cR rfl rfl b78) ?_
   refine Zm ?_
   refine VL.iP (P5,aIa,(DA+1)) [2,3,5,58,59,60] (fun _ _ h=>h) (go2 hS hK1) rfl
  refine Zk ?_
  refine VC.keep (ρ':=[(2,P5.val),(3,BU.val),(5,ptr BX 0),(58,nB.val),(59,i64 (nB.l.length:Int)),(60,i64 DA)]) [2,3,5,58,59,60] rfl ?_
  refine Zr ?_
  obtain ⟨b78,hS⟩:=bU hS
  refine Zu (cR rfl rfl b78) ?_
  refine Zm ?_
  refine VL.iP (P5,BU,(DA+1)) [2,3,5,58,59,60] (fun _ _ h=>h) (go2 hS hK1) rfl
 replace hS:=gA hS hK1
 refine Zx ?_
 refine Zq (Zr ?_)
 refine Zm ?_
 obtain ⟨aRw,aVo,hS⟩:=aK hS
 refine VL.cU (gI aB9 aVo) rfl (by decide) ?_
 rintro aIb rfl
 try dsimp only
 refine Zm ?_
 obtain ⟨aRz,aVr,hS⟩:=aK hS
 refine VL.cU (e7 BU aVr) rfl (by decide) ?_
 rintro aIc rfl
 try dsimp only
 refine Zy ?_
 refine VC.keep (ρ':=[(8,aIb.val),(9,aIc.val),(10,.nilIface)]) [8,9,10] rfl ?_
 cases hS
 exact VC.ret (aOz (.inr rfl) rfl rfl rfl rfl (aIb,aIc,.nil) rfl rfl (by (try dsimp only); exact cA.out) (fun _ _=>trivial))
theorem ZK (aA:cF) {r:Bool} (hS:Sh.SI aA.pl=some r) :
 Ct Tryz.prog 156 [.agg (aH aA).toArray] (aA.bH.ok.and (aA.aX.ok.and (aA.bQ.ok.and (aA.aN.ok.and (aA.aR.ok.and (aA.aO.ok.and (aA.aS.ok.and (aA.bC.ok.and (aA.bE.ok.and (aA.bT.ok.and aA.bJ.ok)))))))))) (Ow.emp) (X:=Unit) (fun _ => .bool r) (fun _=>True) (fun _=>Mo.tt) (fun _=>Ow.emp):=by
 refine Zo Tryz.func156 Tryz.ntmps156 fun c => ?_
 unfold Sh.SI at hS
 refine Zq (Zr ?_)
 refine VL.box (cs:=(aH aA)) rfl rfl (by decide) fun fE => ?_
 refine Zy ?_
 refine Zq (Zr ?_)
 refine Zu (aB eC rfl) ?_
 refine Zu (aB tI rfl) ?_
 refine Zu (aJ jS rfl rfl) ?_
 refine Zu (dX (s:=aA.bH) Tryz.underlying23 rfl) ?_
 refine Zu (iZ rfl rfl) ?_
 refine Zy ?_
 cases hS
 exact Ze
theorem ZL (aA:cF) (r_1:jA) {r:bR×eY} (hS:Sh.SJ aA.pl r_1.pl=some r) :
 Ct Tryz.prog 240 [.agg (aH aA).toArray,.agg #[r_1.files.val,r_1.entries.val,r_1.conflicts.val]] (aA.bH.ok.and (aA.aX.ok.and (aA.bQ.ok.and (aA.aN.ok.and (aA.aR.ok.and (aA.aO.ok.and (aA.aS.ok.and (aA.bC.ok.and (aA.bE.ok.and (aA.bT.ok.and (aA.bJ.ok.and (r_1.files.ok.and (r_1.entries.ok.and r_1.conflicts.ok))))))))))))) (Ow.emp) (X:=cF×Er) (fun x => .tuple #[.agg (bM.enc x.1).toArray,x.2.val]) (fun x=>r=(x.1.pl,x.2.pl)) (fun x=>(x.1.m.and x.2.ok)) (fun x=>Ow.emp):=by
 refine Zo Tryz.func240 Tryz.ntmps240 fun c => ?_
 unfold Sh.SJ at hS
 refine Zq (Zr ?_)
 refine VL.box (cs:=(aH aA)) rfl rfl (by decide) fun dQ => ?_
 refine VL.box (cs:=[r_1.files.val,r_1.entries.val,r_1.conflicts.val]) rfl rfl (by decide) fun jQ => ?_
 refine VL.alloc (cs:=[.slice none 0 0,.slice none 0 0,.slice none 0 0,str [],i64 0,str [],i64 0,str [],.slice none 0 0,.slice none 0 0,i64 0,str [],str [],i64 0,.slice none 0 0,.slice none 0 0,.slice none 0 0,.slice none 0 0,.slice none 0 0,.slice none 0 0,i64 0]) (by kernel_rfl) (by decide) fun oI => ?_
 refine Zy ?_
 refine Zq ?_
 refine VC.draw [(0,true),(2,true),(3,true),(4,true),(5,true),(6,true),(7,true),(8,true),(1,false),(9,false),(10,true),(11,true),(12,true),(13,true),(14,true),(15,true),(16,true)] mixed (by kernel_rfl) (by kernel_rfl) (by kernel_rfl) ?_
 refine Zw rfl (cD cL rfl rfl) ?_
 refine Zw rfl (cD AA rfl rfl) ?_
 refine Zw rfl (aB eC rfl) ?_
 refine Zw rfl (aB rI rfl) ?_
 refine Zw rfl (aJ nG rfl rfl) ?_
 refine Zw rfl (aB eC rfl) ?_
 refine Zw rfl (aB tI rfl) ?_
 refine Zw rfl (aJ jS rfl rfl) ?_
 refine VD.one rfl ?_
 obtain ⟨I6,MW,hS⟩:=aK hS
 refine VL.cU (HR aA MW) rfl (by decide) ?_
 rintro V0 rfl
 try dsimp only
 refine VL.back (D':=[(8,aA.bH.val),(7,ptr dQ 0),(6,ptr dQ 0),(5,aA.aX.val),(4,ptr dQ 1),(3,ptr dQ 0),(2,.agg #[r_1.files.val,r_1.entries.val,r_1.conflicts.val])]) (by kernel_rfl) (aF.cons rfl (aJ jS rfl rfl) (aF.cons rfl (aB tI rfl) (aF.cons rfl (aB eC rfl) (aF.cons rfl (aJ nG rfl rfl) (aF.cons rfl (aB rI rfl) (aF.cons rfl (aB eC rfl) (aF.cons rfl (cD AA rfl rfl) (aF.nil)))))))) ?_
 refine VD.one rfl ?_
 obtain ⟨mR,RK,hS⟩:=aK hS
 refine VL.cU (aGU V0 r_1 aA.aX aA.bH RK) rfl (by decide) ?_
 rintro ⟨rN,yL,aG1⟩ rfl
 try dsimp only
 refine VL.back (D':=[]) (by kernel_rfl) (aF.nil) ?_
 refine Zw rfl (bA rfl) ?_
 refine Zw rfl (aW rfl rfl) ?_
 refine Zw rfl (aW rfl rfl) ?_
 refine Zw rfl (aW rfl rfl) ?_
 refine Zw rfl (eO rfl) ?_
 refine Zw rfl (eO rfl) ?_
 refine Zw rfl (eO rfl) ?_
 refine VD.to (fun _ _ h=>h) ?_
 refine VC.keep (ρ':=[(2,ptr dQ 0),(4,ptr oI 0),(6,rN.val),(7,yL.val),(8,aG1.val)]) [2,4,6,7,8] rfl ?_
 refine Zq (Zq (Zr ?_))
 refine Zm ?_
 refine Zu (jM Tryz.underlying26 rfl) ?_
 refine Zl ?_
 refine rE hS (fun h24 hS => ?_) (fun h24 hS => ?_)
 ·
  refine Zq ?_
  cases hS
 refine Zk ?_
 refine Zq (Zr ?_)
 refine Zy ?_
 refine Zu (aB eC rfl) ?_
 refine Zu (aB rI rfl) ?_
 refine Zv (cs':=[aA.bH.val,rN.val,aA.bQ.val,str aA.aQ,i64 aA.aG,str aA.bK,i64 aA.bI,str aA.bP,aA.aN.val,aA.aR.val,i64 aA.bO,str aA.aZ,str aA.aL,i64 aA.aM,aA.aO.val,aA.aS.val,aA.bC.val,aA.bE.val,aA.bT.val,aA.bJ.val,i64 aA.time]) rfl aNo ?_
 refine Zu (aB eC rfl) ?_
 refine Zu (aB tI rfl) ?_
 refine Zv (cs':=[yL.val,rN.val,aA.bQ.val,str aA.aQ,i64 aA.aG,str aA.bK,i64 aA.bI,str aA.bP,aA.aN.val,aA.aR.val,i64 aA.bO,str aA.aZ,str aA.aL,i64 aA.aM,aA.aO.val,aA.aS.val,aA.bC.val,aA.bE.val,aA.bT.val,aA.bJ.val,i64 aA.time]) rfl aCw ?_
 refine Zl ?_
 refine VC.keep (ρ':=[(2,ptr dQ 0),(4,ptr oI 0)]) [2,4] rfl ?_
 refine Zq (Zq (Zr ?_))
 refine Zu (cD cL rfl rfl) ?_
 obtain ⟨aZS,a0b,hS⟩:=aK hS
 refine Zu (bZ (ZK (⟨yL,rN,aA.bQ,aA.aQ,aA.aG,aA.bK,aA.bI,aA.bP,aA.aN,aA.aR,aA.bO,aA.aZ,aA.aL,aA.aM,aA.aO,aA.aS,aA.bC,aA.bE,aA.bT,aA.bJ,aA.time⟩:cF) a0b) rfl (fun _ _=>rfl)) ?_
 refine Zl ?_
 refine iL hS (fun h34 hS => ?_) (fun h34 hS => ?_)
 ·
  refine Zq ?_
  cases hS
 refine Zk ?_
 refine Zq (Zr ?_)
 refine Zu (cD cL rfl rfl) ?_
 refine Zv (cs':=[yL.val,rN.val,aA.bQ.val,str aA.aQ,i64 aA.aG,str aA.bK,i64 aA.bI,str aA.bP,aA.aN.val,aA.aR.val,i64 aA.bO,str aA.aZ,str aA.aL,i64 aA.aM,aA.aO.val,aA.aS.val,aA.bC.val,aA.bE.val,aA.bT.val,aA.bJ.val,i64 aA.time]) rfl gG ?_
 refine Zy ?_
 cases hS
 exact VC.ret (hG (vs:=[.agg #[yL.val,rN.val,aA.bQ.val,str aA.aQ,i64 aA.aG,str aA.bK,i64 aA.bI,str aA.bP,aA.aN.val,aA.aR.val,i64 aA.bO,str aA.aZ,str aA.aL,i64 aA.aM,aA.aO.val,aA.aS.val,aA.bC.val,aA.bE.val,aA.bT.val,aA.bJ.val,i64 aA.time],.nilIface]) (.inr rfl) rfl (dS.cell cL rfl rfl Rd.blk (dS.tmp rfl (dS.nil))) (⟨yL,rN,aA.bQ,aA.aQ,aA.aG,aA.bK,aA.bI,aA.bP,aA.aN,aA.aR,aA.bO,aA.aZ,aA.aL,aA.aM,aA.aO,aA.aS,aA.bC,aA.bE,aA.bT,aA.bJ,aA.time⟩,.nil) rfl rfl (by (try dsimp only); exact cA.out) (fun _ _=>trivial))
theorem aEK (aA:cF) (eF:rT) {r:bR×eY} (hS:Sh.SG aA.pl eF.pl=some r) :
 Ct Tryz.prog 164 [.agg (aH aA).toArray,.agg #[str eF.verb,str eF.name,i64 eF.n,str eF.text,.bool eF.force,eF.todo.val]] (aA.bH.ok.and (aA.aX.ok.and (aA.bQ.ok.and (aA.aN.ok.and (aA.aR.ok.and (aA.aO.ok.and (aA.aS.ok.and (aA.bC.ok.and (aA.bE.ok.and (aA.bT.ok.and (aA.bJ.ok.and eF.todo.ok))))))))))) (Ow.emp) (X:=cF×Er) (fun x => .tuple #[.agg (bM.enc x.1).toArray,x.2.val]) (fun x=>r=(x.1.pl,x.2.pl)) (fun x=>(x.1.m.and x.2.ok)) (fun x=>Ow.emp):=by
 refine Zo Tryz.func164 Tryz.ntmps164 fun c => ?_
 unfold Sh.SG at hS
 refine Zq (Zr ?_)
 refine VL.box (cs:=(aH aA)) rfl rfl (by decide) fun dQ => ?_
 refine VL.box (cs:=[str eF.verb,str eF.name,i64 eF.n,str eF.text,.bool eF.force,eF.todo.val]) rfl rfl (by decide) fun jQ => ?_
 refine VL.alloc (cs:=[.slice none 0 0,.slice none 0 0,.slice none 0 0,str [],i64 0,str [],i64 0,str [],.slice none 0 0,.slice none 0 0,i64 0,str [],str [],i64 0,.slice none 0 0,.slice none 0 0,.slice none 0 0,.slice none 0 0,.slice none 0 0,.slice none 0 0,i64 0]) (by kernel_rfl) (by decide) fun oI => ?_
 refine Zy ?_
 refine Zq (Zr ?_)
 refine Zu (cD cL rfl rfl) ?_
 refine Zu (cD rH rfl rfl) ?_
 obtain ⟨A4,aBD,hS⟩:=aK hS
 refine VL.cU (aMu aA eF aBD) rfl (by decide) ?_
 rintro ⟨sR,aXw⟩ rfl
 try dsimp only
 refine Zm ?_
 refine Zu (aW rfl rfl) ?_
 refine Zu (aW rfl rfl) ?_
 refine VL.alloc (cs:=[str [],i64 0]) (by kernel_rfl) (by decide) fun aHu => ?_
 refine Zv (cs':=[str sR.branch,i64 sR.dO]) rfl aAM ?_
 refine Zy ?_
 refine VC.keep (ρ':=[(2,ptr dQ 0),(3,ptr jQ 0),(4,ptr oI 0),(6,ptr aHu 0),(7,aXw.val)]) [2,3,4,6,7] rfl ?_
 refine Zq (Zq (Zr ?_))
 refine Zm ?_
 refine Zu (jM Tryz.underlying26 rfl) ?_
 refine Zl ?_
 refine rE hS (fun h17 hS => ?_) (fun h17 hS => ?_)
 ·
  refine Zq ?_
  cases hS
 refine Zk ?_
 refine Zq (Zr ?_)
 refine Zu (cD cL rfl rfl) ?_
 refine Zu (aB E9 rfl) ?_
 refine Zu (aJ eP rfl rfl) ?_
 obtain ⟨HI,RL,hS⟩:=aK hS
 refine VL.cU (AR aA sR.dO RL) rfl (by decide) ?_
 rintro LZ rfl
 try dsimp only
 refine Zy ?_
 refine VC.keep (ρ':=[(2,ptr dQ 0),(3,ptr jQ 0),(4,ptr oI 0),(6,ptr aHu 0),(8,LZ.val)]) [2,3,4,6,8] rfl ?_
 refine Zq (Zr ?_)
 refine Zu (cD cL rfl rfl) ?_
 refine VL.alloc (cs:=[.slice none 0 0,.slice none 0 0,.slice none 0 0,str [],i64 0,str [],i64 0,str [],.slice none 0 0,.slice none 0 0,i64 0,str [],str [],i64 0,.slice none 0 0,.slice none 0 0,.slice none 0 0,.slice none 0 0,.slice none 0 0,.slice none 0 0,i64 0]) (by kernel_rfl) (by decide) fun aOp => ?_
 refine Zv (cs':=(aH aA)) rfl gG ?_
 refine Zl ?_
 refine Zq (Zb (Zq (Zr ?_)))
 refine Zu (aB aS6 rfl) ?_
 refine Zu (aJ o9 rfl rfl) ?_
 refine Zy ?_
 refine iL hS (fun h36 hS => ?_) (fun h36 hS => ?_)
 ·
  cases hS
 refine Zq (Zr ?_)
 refine Zu (aB eC rfl) ?_
 refine Zu (aB rI rfl) ?_
 refine Zu (aJ nG rfl rfl) ?_
 obtain ⟨aZZ,a0q,hS⟩:=aK hS
 refine VL.cU (B3 aA.aX a0q) rfl (by decide) ?_
 rintro aMp rfl
 try dsimp only
 refine Zu (dX (s:=aMp) Tryz.underlying62 rfl) ?_
 refine Zu (iZ rfl rfl) ?_
 refine Zy ?_
 refine VC.keep (ρ':=[(2,ptr dQ 0),(4,ptr oI 0),(6,ptr aHu 0),(8,LZ.val),(9,ptr aOp 0),(42,.bool (decide (0 < (aMp.l.length:Int))))]) [2,4,6,8,9,42] rfl ?_
 refine Zc hS (fun h42 hS => ?_) (fun h42 hS => ?_)
 ·
  refine Zq ?_
  cases hS
 refine Zq (Zr ?_)
 refine Zu (cD cL rfl rfl) ?_
 refine Zm ?_
 refine Zu (eN (vs:=[(0,LZ.val)]) (cs := #[LZ.val,.slice none 0 0,.slice none 0 0]) rfl (by kernel_rfl)) ?_
 obtain ⟨tX,a03,hS⟩:=aK hS
 refine VL.cU (ZL aA (⟨LZ,⟨none,0,[]⟩,⟨none,0,[]⟩⟩:jA) a03) rfl (by decide) ?_
 rintro ⟨c8,aYM⟩ rfl
 try dsimp only
 refine Zm ?_
 refine Zu (aW rfl rfl) ?_
 refine Zu (aW rfl rfl) ?_
 refine Zv (cs':=(aH c8)) rfl gG ?_
 refine Zy ?_
 refine VC.keep (ρ':=[(2,ptr dQ 0),(4,ptr oI 0),(6,ptr aHu 0),(9,ptr aOp 0),(7,aYM.val)]) [2,4,6,9,7] rfl ?_
 refine Zq (Zr ?_)
 refine Zm ?_
 refine Zu (jM Tryz.underlying26 rfl) ?_
 refine Zl ?_
 refine rE hS (fun h33 hS => ?_) (fun h33 hS => ?_)
 ·
  refine Zq ?_
  cases hS
 refine Zk ?_
 refine Zq ?_
 refine VC.gK (S:=Bool) (fun (NT:Bool)=>NT) (fun (NT:Bool)=>[(2,ptr dQ 0),(4,ptr oI 0),(6,ptr aHu 0),(9,ptr aOp 0),(59,.bool NT)]) (fun (NT:Bool)=>Mo.tt) (fun (NT:Bool)=>Ow.star (bD aOp (aH c8) 66) (Ow.star (bD aHu [str sR.branch,i64 sR.dO] 53) (Ow.star (bD oI [.slice none 0 0,.slice none 0 0,.slice none 0 0,str [],i64 0,str [],i64 0,str [],.slice none 0 0,.slice none 0 0,i64 0,str [],str [],i64 0,.slice none 0 0,.slice none 0 0,.slice none 0 0,.slice none 0 0,.slice none 0 0,.slice none 0 0,i64 0] 66) (Ow.star (bD jQ [str eF.verb,str eF.name,i64 eF.n,str eF.text,.bool eF.force,eF.todo.val] 112) (Ow.star (bD dQ (aH aA) 66) (Ow.emp)))))) hS ?_ ?_
 ·
  clear hS
  intro k11 hS
  refine Zr ?_
  refine Zu (cD cL rfl rfl) ?_
  obtain ⟨aR3,aVL,hS⟩:=aK hS
  refine Zu (bZ (ZK c8 aVL) rfl (fun _ _=>rfl)) ?_
  refine Zm ?_
  refine vV 53 hS (fun h53 hS => ?_) (fun h53 hS => ?_)
  ·
   refine VL.runs 6 [(59,some true)] (by kernel_rfl) ?_
   refine VL.mt true [2,4,6,9,59] (fun _ _ h=>h) hS rfl
  refine Zh (aB eC rfl) ?_
  refine Zh (aB rI rfl) ?_
  refine Zh (aJ nG rfl rfl) ?_
  refine Zh (dX (s:=c8.aX) Tryz.underlying50 rfl) ?_
  refine Zh (iZ rfl rfl) ?_
  refine Zf ?_
  refine VL.mt (decide (256 < (c8.aX.l.length:Int))) [2,4,6,9,59] (fun _ _ h=>h) hS rfl
 clear hS
 rintro NT hS
 refine iL hS (fun h59 hS => ?_) (fun h59 hS => ?_)
 ·
  refine Zq ?_
  cases hS
 refine Zk ?_
 refine Zq (Zr ?_)
 refine Zu (cD aBR rfl rfl) ?_
 refine Zu (aB eC rfl) ?_
 refine Zu (aB pO rfl) ?_
 refine Zv (cs':=[c8.bH.val,c8.aX.val,c8.bQ.val,str sR.branch,i64 sR.dO,str c8.bK,i64 c8.bI,str c8.bP,c8.aN.val,c8.aR.val,i64 c8.bO,str c8.aZ,str c8.aL,i64 c8.aM,c8.aO.val,c8.aS.val,c8.bC.val,c8.bE.val,c8.bT.val,c8.bJ.val,i64 c8.time]) rfl aAM ?_
 refine Zl ?_
 refine Zq (Zr ?_)
 refine Zu (cD cL rfl rfl) ?_
 refine Zv (cs':=[c8.bH.val,c8.aX.val,c8.bQ.val,str sR.branch,i64 sR.dO,str c8.bK,i64 c8.bI,str c8.bP,c8.aN.val,c8.aR.val,i64 c8.bO,str c8.aZ,str c8.aL,i64 c8.aM,c8.aO.val,c8.aS.val,c8.bC.val,c8.bE.val,c8.bT.val,c8.bJ.val,i64 c8.time]) rfl gG ?_
 refine Zy ?_
 cases hS
 exact VC.ret (hG (vs:=[.agg #[c8.bH.val,c8.aX.val,c8.bQ.val,str sR.branch,i64 sR.dO,str c8.bK,i64 c8.bI,str c8.bP,c8.aN.val,c8.aR.val,i64 c8.bO,str c8.aZ,str c8.aL,i64 c8.aM,c8.aO.val,c8.aS.val,c8.bC.val,c8.bE.val,c8.bT.val,c8.bJ.val,i64 c8.time],.nilIface]) (.inr rfl) rfl (dS.cell cL rfl rfl Rd.blk (dS.tmp rfl (dS.nil))) (⟨c8.bH,c8.aX,c8.bQ,sR.branch,sR.dO,c8.bK,c8.bI,c8.bP,c8.aN,c8.aR,c8.bO,c8.aZ,c8.aL,c8.aM,c8.aO,c8.aS,c8.bC,c8.bE,c8.bT,c8.bJ,c8.time⟩,.nil) rfl rfl (by (try dsimp only); exact cA.out) (fun _ _=>trivial))
theorem vO (aA:Sv Int) {r:List Int} (hS:Sh.mI aA.l=some r) :
 Ct Tryz.prog 51 [aA.val] aA.ok (Ow.emp) (X:=Sv Int) (fun x=>x.val) (fun x=>r=x.l) (fun x=>Mo.tt) (fun x=>Sv.own x 3):=by
 refine Zo Tryz.func51 Tryz.ntmps51 fun c => ?_
 unfold Sh.mI at hS
 refine Zq (Zr ?_)
 refine Zy ?_
 refine Zq (Zq (Zr ?_))
 refine Zm ?_
 refine Zu (ID (s:=aA) Tryz.underlying32 rfl) ?_
 refine Zl ?_
 refine VC.slnil (s:=aA) rfl (fun h4 => ?_) ?_
 ·
  have hS:(some [])=some r:=by
    simp [lt,gd,h4] at hS ⊢
    try exact hS
  refine Zq (Zr ?_)
  refine Zy ?_
  refine VC.kH (⟨none,0,[]⟩:Sv Int) 3 ⟨rfl,rfl⟩ ?_
  cases hS
  exact VC.ret (eB (.inr rfl) rfl rfl ⟨none,0,[]⟩ rfl rfl (by (try dsimp only); exact cA.out) (by (try dsimp only); exact dJ.out))
 refine Zk ?_
 refine Zq (Zr ?_)
 refine VL.aDz (α:=Int) Tryz.underlying32 a5B (by decide) (fun yN rK x7 => ?_)
 refine VL.kH yN 3 ⟨x7,rK⟩ ?_
 replace hS:=bV rK hS
 refine Zm ?_
 obtain ⟨b7,hS⟩:=bU hS
 refine VL.app (s:=yN) (r:=aA) Tryz.underlying32 IV (by decide) rfl Fo.out (sU b7) (sV b7 (by decide)) (by decide) (fun L7 B2 => ?_)
 replace hS:=bV B2 hS
 refine Zy ?_
 cases hS
 exact VC.ret (eB (.inr rfl) rfl rfl L7 rfl rfl (by (try dsimp only); exact cA.out) (by (try dsimp only); exact dJ.out))
theorem GJ (aA:Sv (Sv Int)) {r:List (List Int)} (hS:Sh.sM (aA.l.map Sv.l)=some r) :
 Ct Tryz.prog 313 [aA.val] aA.ok (Ow.emp) (X:=Sv (Sv Int)) (fun x=>x.val) (fun x=>r=(x.l.map Sv.l)) (fun x=>x.ok) (fun x=>Ow.emp):=by
 refine Zo Tryz.func313 Tryz.ntmps313 fun c => ?_
 unfold Sh.sM at hS
 refine Zq (Zr ?_)
 refine Zy ?_
 refine Zq (Zr ?_)
 refine Zy ?_
 refine Zu (oN Sv.l (s:=aA) Tryz.underlying313 rfl) ?_
 refine Zm ?_
 refine Zu (oN Sv.l (s:=aA) Tryz.underlying313 rfl) ?_
 obtain ⟨b8,hS⟩:=bU hS
 refine VL.WX Tryz.underlying313 aCx rfl rfl rfl b8.1 (aNw b8.2) (by decide) fun CX vL => ?_
 replace hS:=bV ((congrArg (List.map Sv.l) vL).trans List.map_take) hS
 refine Zy ?_
 cases hS
 exact VC.ret (eB (.inr rfl) rfl rfl CX rfl rfl (by (try dsimp only); exact cA.out) (fun _ _=>trivial))
theorem aEP (aA:cF) {r:List (List Int)} (hS:Sh.SQ aA.pl=some r) :
 Ct Tryz.prog 249 [.agg (aH aA).toArray] (aA.bH.ok.and (aA.aX.ok.and (aA.bQ.ok.and (aA.aN.ok.and (aA.aR.ok.and (aA.aO.ok.and (aA.aS.ok.and (aA.bC.ok.and (aA.bE.ok.and (aA.bT.ok.and aA.bJ.ok)))))))))) (Ow.emp) (X:=Sv (Sv Int)) (fun x=>x.val) (fun x=>r=(x.l.map Sv.l)) (fun x=>x.ok) (fun x=>Ow.emp):=by
 refine Zo Tryz.func249 Tryz.ntmps249 fun c => ?_
 unfold Sh.SQ at hS
 refine Zq (Zr ?_)
 refine VL.box (cs:=(aH aA)) rfl rfl (by decide) fun fE => ?_
 refine Zy ?_
 refine Zq (Zr ?_)
 refine Zy ?_
 refine Zq (Zq (Zr ?_))
 refine Zu (aB nA rfl) ?_
 refine Zu (aJ sW rfl rfl) ?_
 refine Zu (oN cI.pl (s:=aA.bE) Tryz.underlying61 rfl) ?_
 refine Zy ?_
 refine Zb ?_
 refine VC.kH (⟨none,0,[]⟩:Sv (Sv Int)) 32 ⟨rfl,rfl⟩ ?_
 refine VC.RZ (s:=(⟨none,0,[]⟩:Sv (Sv Int))) rfl ?_
 refine VC.iter (S:=Sv (Sv Int)×Int) (fun sg=>((sg.1.l.map Sv.l),sg.2)) (fun sg=>[(3,sg.1.val),(7,aA.bE.val),(8,i64 ((aA.bE.l.map cI.pl).length:Int)),(9,i64 sg.2)]) (fun sg=>(xW sg.1.l)) (fun sg=>Ow.star (bD fE (aH aA) 66) (Ow.star (Sv.own sg.1 32) (Ow.emp))) (⟨none,0,[]⟩,0) [3,7,8,9] hS rfl ?_
 clear hS
 rintro ⟨o6,aHD⟩ m1 y1 hS hK1
 refine Zq (Zr ?_)
 refine Zu (c4 rfl rfl) ?_
 refine Zl ?_
 refine Zq ?_
 refine Zc hS (fun h10 hS => ?_) (fun h10 hS => ?_)
 ·
  refine Zk ?_
  refine Zq (Zb (Zq (Zr ?_)))
  obtain ⟨xP,aBf,YB,hS⟩:=DD hS
  refine VL.deep xP.m YB (fun _ q=>q) ?_
  refine Zu (e8 (s:=aA.bE) Tryz.underlying61 aAO rfl rfl aBf (bN aBf YB)) ?_
  refine Zu (nR (s:=aA.bE) aPD rfl rfl YB) ?_
  refine VL.alloc (cs:=[.slice none 0 0,.slice none 0 0,i64 0,str []]) (by kernel_rfl) (by decide) fun aUA => ?_
  refine Zv (cs':=[xP.tree.val,xP.parents.val,i64 xP.time,str xP.text]) rfl aAO ?_
  refine Zl ?_
  refine Zr ?_
  refine Zm ?_
  refine Zu (aB aBW rfl) ?_
  refine Zu (aJ x5 rfl rfl) ?_
  obtain ⟨uT,RF,hS⟩:=aK hS
  refine VL.bS (vO xP.parents RF) rfl (by decide) ?_
  rintro AM rfl
  try dsimp only
  refine VL.shut AM 3 (fun _ _ _ _=>trivial) ?_
  obtain ⟨OV,aBH,hS⟩:=aK hS
  refine VL.cU (o4 AM aBH) rfl (by decide) ?_
  rintro LY rfl
  try dsimp only
  refine VL.lit (α:=Sv Int) (xs:=[.tmp 17]) (vs:=[LY.val]) [LY] Tryz.underlying313 a1F (by decide) rfl rfl rfl rfl (by decide) (fun h m=>List.forall_mem_cons.2 ⟨cA.out (X:=LY.ok) h m,fun _ h=>by cases h⟩) (by decide) (fun a5o a1Y => ?_) (by decide)
  replace hS:=bV (congrArg (List.map Sv.l) a1Y) hS
  obtain ⟨b19,hS⟩:=bU hS
  refine VL.app (s:=o6) (r:=a5o) Tryz.underlying313 a0w (by decide) rfl Fo.out (sU (apm b19)) (sV (apm b19) (by decide)) (by decide) (fun aQa aL5 => ?_)
  replace hS:=bV ((congrArg (List.map Sv.l) aL5).trans List.map_append) hS
  refine VL.aDD aL5 ?_
  refine Zy ?_
  refine VC.keep (ρ':=[(3,aQa.val),(7,aA.bE.val),(8,i64 ((aA.bE.l.map cI.pl).length:Int)),(9,i64 aHD)]) [3,7,8,9] rfl ?_
  refine Zr ?_
  obtain ⟨b20,hS⟩:=bU hS
  refine Zu (cR rfl rfl b20) ?_
  refine Zm ?_
  refine VL.iP (aQa,(aHD+1)) [3,7,8,9] (fun _ _ h=>h) (go2 hS hK1) rfl
 replace hS:=gA hS hK1
 refine Zx ?_
 refine Zq (Zr ?_)
 refine Zm ?_
 refine VL.shut o6 32 (fun h m=>cA.out (X:=xW o6.l) h m) ?_
 obtain ⟨aQz,aUU,hS⟩:=aK hS
 refine VL.cU (GJ o6 aUU) rfl (by decide) ?_
 rintro aSs rfl
 try dsimp only
 refine Zy ?_
 cases hS
 exact VC.ret (eB (.inr rfl) rfl rfl aSs rfl rfl (by (try dsimp only); exact cA.out) (fun _ _=>trivial))
theorem aJt (cJ:Sv aC) {r:List aI} (hS:Sh.aDA cJ.l=some r) :
 Ct Tryz.prog 242 [cJ.val] cJ.ok (Ow.emp) (X:=Sv aI) (fun x=>x.val) (fun x=>r=x.l) (fun x=>x.ok) (fun x=>Ow.emp):=by
 refine Zo Tryz.func242 Tryz.ntmps242 fun c => ?_
 unfold Sh.aDA at hS
 refine Zq (Zr ?_)
 refine Zy ?_
 refine Zq (Zr ?_)
 refine Zy ?_
 refine Zq (Zq (Zr ?_))
 refine Zm ?_
 refine Zu (dX (s:=cJ) Tryz.underlying23 rfl) ?_
 refine Zy ?_
 refine Zb ?_
 refine VC.kH (⟨none,0,[]⟩:Sv aI) 274 ⟨rfl,rfl⟩ ?_
 refine VC.iter (S:=Sv aI×Int) (fun sg=>(sg.1.l,sg.2)) (fun sg=>[(3,sg.1.val),(6,cJ.val),(7,i64 (cJ.l.length:Int)),(8,i64 sg.2)]) (fun sg=>Mo.tt) (fun sg=>Ow.star (Sv.own sg.1 274) (Ow.emp)) (⟨none,0,[]⟩,0) [3,6,7,8] hS rfl ?_
 clear hS
 rintro ⟨uD,BZ⟩ m1 y1 hS hK1
 refine Zq (Zr ?_)
 refine Zu (c4 rfl rfl) ?_
 refine Zl ?_
 refine Zq ?_
 refine Zc hS (fun h9 hS => ?_) (fun h9 hS => ?_)
 ·
  refine Zk ?_
  refine Zq (Zb (Zq (Zr ?_)))
  obtain ⟨mJ,NB,MZ,hS⟩:=c6 hS
  refine Zu (e8 (s:=cJ) Tryz.underlying23 fS rfl rfl NB (bN NB MZ)) ?_
  refine Zu (nR (s:=cJ) jZ rfl rfl MZ) ?_
  refine VL.alloc (cs:=[str [],i64 0,str []]) (by kernel_rfl) (by decide) fun a7D => ?_
  refine Zv (cs':=[str mJ.path,i64 mJ.mode,str mJ.data]) rfl fS ?_
  refine Zl ?_
  refine Zr ?_
  refine Zm ?_
  refine Zu (aB qS rfl) ?_
  refine Zu (aJ dD rfl rfl) ?_
  refine Zu (aB LA rfl) ?_
  refine Zu (aJ eP rfl rfl) ?_
  refine Zu (aB E8 rfl) ?_
  refine Zu (aJ dD rfl rfl) ?_
  refine Zu (eN (vs:=[(0,str mJ.path),(2,i64 mJ.mode),(3,str mJ.data)]) (cs := #[str mJ.path,i64 0,i64 mJ.mode,str mJ.data,i64 0,i64 0]) rfl (by kernel_rfl)) ?_
  refine VL.lit (α:=aI) (xs:=[.tmp 19]) (vs:=[.agg #[str mJ.path,i64 0,i64 mJ.mode,str mJ.data,i64 0,i64 0]]) [⟨mJ.path,0,mJ.mode,mJ.data,0,0⟩] Tryz.underlying50 aFe (by decide) rfl rfl rfl rfl (by decide) (fun _ _ _ _=>trivial) (by decide) (fun a5p a1Z => ?_) (by decide)
  replace hS:=bV a1Z hS
  obtain ⟨b21,hS⟩:=bU hS
  refine VL.app (s:=uD) (r:=a5p) Tryz.underlying50 UX (by decide) rfl Fo.out (sU b21) (sV b21 (by decide)) (by decide) (fun aYa a14 => ?_)
  replace hS:=bV a14 hS
  refine Zy ?_
  refine VC.keep (ρ':=[(3,aYa.val),(6,cJ.val),(7,i64 (cJ.l.length:Int)),(8,i64 BZ)]) [3,6,7,8] rfl ?_
  refine Zr ?_
  obtain ⟨b22,hS⟩:=bU hS
  refine Zu (cR rfl rfl b22) ?_
  refine Zm ?_
  refine VL.iP (aYa,(BZ+1)) [3,6,7,8] (fun _ _ h=>h) (go2 hS hK1) rfl
 replace hS:=gA hS hK1
 refine Zx ?_
 refine Zq (Zr ?_)
 refine Zm ?_
 refine VL.shut uD 274 (fun _ _ _ _=>trivial) ?_
 obtain ⟨rR,aBL,hS⟩:=aK hS
 refine VL.cU (gI uD aBL) rfl (by decide) ?_
 rintro PX rfl
 try dsimp only
 refine Zy ?_
 cases hS
 exact VC.ret (eB (.inr rfl) rfl rfl PX rfl rfl (by (try dsimp only); exact cA.out) (fun _ _=>trivial))
theorem aGh (aA:cF) {r:Bool} (hS:Sh.WI aA.pl=some r) :
 Ct Tryz.prog 227 [.agg (aH aA).toArray] (aA.bH.ok.and (aA.aX.ok.and (aA.bQ.ok.and (aA.aN.ok.and (aA.aR.ok.and (aA.aO.ok.and (aA.aS.ok.and (aA.bC.ok.and (aA.bE.ok.and (aA.bT.ok.and aA.bJ.ok)))))))))) (Ow.emp) (X:=Unit) (fun _ => .bool r) (fun _=>True) (fun _=>Mo.tt) (fun _=>Ow.emp):=by
 refine Zo Tryz.func227 Tryz.ntmps227 fun c => ?_
 unfold Sh.WI at hS
 refine Zq (Zr ?_)
 refine VL.box (cs:=(aH aA)) rfl rfl (by decide) fun fE => ?_
 refine Zy ?_
 refine Zq ?_
 refine VC.draw [(0,true),(1,true),(2,true),(3,true),(4,false),(5,false),(6,true),(7,true)] mixed (by kernel_rfl) (by kernel_rfl) (by kernel_rfl) ?_
 refine Zw rfl (aB eC rfl) ?_
 refine Zw rfl (aB rI rfl) ?_
 refine Zw rfl (aJ nG rfl rfl) ?_
 refine Zw rfl (cD cL rfl rfl) ?_
 refine VD.one rfl ?_
 obtain ⟨xO,DG,hS⟩:=aK hS
 refine VL.cU (HR aA DG) rfl (by decide) ?_
 rintro qN rfl
 try dsimp only
 refine VL.back (D':=[(2,aA.aX.val),(1,ptr fE 1),(0,ptr fE 0)]) (by kernel_rfl) (aF.cons rfl (aJ nG rfl rfl) (aF.cons rfl (aB rI rfl) (aF.cons rfl (aB eC rfl) (aF.nil)))) ?_
 refine VD.one rfl ?_
 obtain ⟨ED,RM,hS⟩:=aK hS
 refine VL.cU (aJt qN RM) rfl (by decide) ?_
 rintro vZ rfl
 try dsimp only
 refine VL.back (D':=[(2,aA.aX.val),(1,ptr fE 1),(0,ptr fE 0)]) (by kernel_rfl) (aF.cons rfl (aJ nG rfl rfl) (aF.cons rfl (aB rI rfl) (aF.cons rfl (aB eC rfl) (aF.nil)))) ?_
 obtain ⟨X0,aAK,hS⟩:=aK hS
 refine Zw rfl (bZ (VO aA.aX vZ aAK) rfl (fun _ _=>rfl)) ?_
 refine Zw rfl (eO rfl) ?_
 refine VD.to (fun _ _ h=>h) ?_
 cases hS
 exact Ze
theorem u7 (l7:Sv (Sv Int)) (eF:Sv Int) {r:List Bool} (hS:Sh.rY (l7.l.map Sv.l) eF.l=some r) :
 Ct Tryz.prog 314 [l7.val,eF.val] (l7.ok.and eF.ok) (Ow.emp) (X:=Sv Bool) (fun x=>x.val) (fun x=>r=x.l) (fun x=>Mo.tt) (fun x=>Sv.own x 4):=by
 refine Zo Tryz.func314 Tryz.ntmps314 fun c => ?_
 unfold Sh.rY at hS
 refine Zq (Zr ?_)
 refine Zy ?_
 refine Zq (Zr ?_)
 refine Zm ?_
 refine Zu (oN Sv.l (s:=l7) Tryz.underlying313 rfl) ?_
 obtain ⟨b10,hS⟩:=bU hS
 refine Zu (cR rfl rfl b10) ?_
 obtain ⟨b11,hS⟩:=bU hS
 refine VL.make (α:=Bool) (z:=false) Tryz.underlying377 a69 (by decide) rfl rfl b11.1 (Int.le_refl _) (by omega) (by omega) (by decide) (fun WM RU => ?_)
 replace hS:=bV RU hS
 refine Zy ?_
 refine Zq (Zr ?_)
 refine Zm ?_
 obtain ⟨uS,JL,hS⟩:=aK hS
 refine VL.bS (vO eF JL) rfl (by decide) ?_
 rintro LR rfl
 try dsimp only
 refine Zy ?_
 refine VC.keep (ρ':=[(0,l7.val),(5,WM.val),(6,LR.val)]) [0,5,6] rfl ?_
 refine Zq (Zb ?_)
 refine VC.iter (S:=Sv Bool×Sv Int) (fun sg=>(sg.1.l,sg.2.l)) (fun sg=>[(0,l7.val),(5,sg.1.val),(6,sg.2.val)]) (fun sg=>Mo.tt) (fun sg=>Ow.star (Sv.own sg.1 4) (Ow.star (Sv.own sg.2 3) (Ow.emp))) (WM,LR) [0,5,6] hS rfl ?_
 clear hS
 rintro ⟨sA,qX⟩ m1 y1 hS hK1
 refine Zq (Zq (Zr ?_))
 refine Zm ?_
 refine Zu (dX (s:=qX) Tryz.underlying32 rfl) ?_
 refine Zu (iZ rfl rfl) ?_
 refine Zl ?_
 refine Zc hS (fun h16 hS => ?_) (fun h16 hS => ?_)
 ·
  refine Zk ?_
  refine Zb (Zq (Zr ?_))
  refine Zy ?_
  refine Zu (dX (s:=qX) Tryz.underlying32 rfl) ?_
  obtain ⟨b20,hS⟩:=bU hS
  refine Zu (qK rfl rfl b20) ?_
  obtain ⟨I8,aPz,aPX,hS⟩:=c6 hS
  refine Zu (lJ (s:=qX) Tryz.underlying32 u9 rfl rfl aPz (bN aPz aPX)) ?_
  refine Zu (DN (s:=qX) 3 eP rfl aPX rfl) ?_
  refine Zy ?_
  refine VC.keep (ρ':=[(0,l7.val),(5,sA.val),(6,qX.val),(7,i64 I8)]) [0,5,6,7] rfl ?_
  refine Zq (Zr ?_)
  refine Zy ?_
  refine Zu (dX (s:=qX) Tryz.underlying32 rfl) ?_
  obtain ⟨b26,hS⟩:=bU hS
  refine Zu (qK rfl rfl b26) ?_
  obtain ⟨b27,hS⟩:=bU hS
  refine VL.a6i (s:=qX) Tryz.underlying32 u9 rfl rfl b27.1 b27.2 Fo.out (by decide) fun OB aJi => ?_
  replace hS:=bV aJi hS
  refine Zy ?_
  refine Zq (Zq (Zr ?_))
  refine Zm ?_
  refine Zu (c4 rfl rfl) ?_
  refine Zm ?_
  refine pL 30 hS (fun h30 hS => ?_) (fun h30 hS => ?_)
  ·
   refine VL.runs 11 [(41,some true)] (by kernel_rfl) ?_
   refine Zl ?_
   refine VC.keep (ρ':=[(0,l7.val),(5,sA.val),(6,OB.val),(7,i64 I8),(41,.bool true)]) [0,5,6,7,41] rfl ?_
   refine VC.RD rfl ?_
   refine VC.aCt (sA,OB) [0,5,6] (fun _ _ h=>h) (go2 hS hK1) rfl
  refine Zy ?_
  refine Zh (oN Sv.l (s:=l7) Tryz.underlying313 rfl) ?_
  refine Zh (iZ rfl rfl) ?_
  refine Zy ?_
  refine pL 36 hS (fun h36 hS => ?_) (fun h36 hS => ?_)
  ·
   refine VL.runs 5 [(41,some true)] (by kernel_rfl) ?_
   refine Zl ?_
   refine VC.keep (ρ':=[(0,l7.val),(5,sA.val),(6,OB.val),(7,i64 I8),(41,.bool true)]) [0,5,6,7,41] rfl ?_
   refine VC.RD rfl ?_
   refine VC.aCt (sA,OB) [0,5,6] (fun _ _ h=>h) (go2 hS hK1) rfl
  refine Zy ?_
  obtain ⟨aOj,aQS,aPc,hS⟩:=c6 hS
  refine Zh (lJ (s:=sA) Tryz.underlying377 rJ rfl rfl aQS (bN aQS aPc)) ?_
  refine Zh (DN (s:=sA) 4 o9 rfl aPc rfl) ?_
  refine Zy ?_
  refine VC.keep (ρ':=[(0,l7.val),(5,sA.val),(6,OB.val),(7,i64 I8),(41,.bool aOj)]) [0,5,6,7,41] rfl ?_
  refine iL hS (fun h41 hS => ?_) (fun h41 hS => ?_)
  ·
   refine VC.aCt (sA,OB) [0,5,6] (fun _ _ h=>h) (go2 hS hK1) rfl
  refine Zk ?_
  refine Zq (Zr ?_)
  refine Zy ?_
  obtain ⟨a4S,aMT,aLf,hS⟩:=c6 hS
  refine Zu (lJ (s:=sA) Tryz.underlying377 rJ rfl rfl aMT (bN aMT aLf)) ?_
  refine VL.wD (s:=sA) (T:=4) (j:=0) (vc:=[.bool true]) (true:Bool) (by decide) rfl rfl aLf rfl rJ rfl rfl (Nat.le_of_ble_eq_true rfl) rfl (fun w11 hw11 haw11 hcw11 hvw11 hbw11 how11 => ?_)
  rw [← hvw11]
  replace hS:=bV hw11 hS
  refine Zl ?_
  refine Zr ?_
  refine Zy ?_
  obtain ⟨b48,hS⟩:=bU hS
  refine Zu (qK rfl rfl b48) ?_
  obtain ⟨aCf,aMX,aFn,hS⟩:=DD hS
  refine VL.deep aCf.ok aFn (fun _ q=>q) ?_
  refine Zu (e8 (s:=l7) Tryz.underlying313 aCx rfl rfl aMX (bN aMX aFn)) ?_
  refine Zu (q9 (s:=l7) x5 rfl aFn rfl) ?_
  obtain ⟨b51,hS⟩:=bU hS
  refine VL.app (s:=OB) (r:=aCf) Tryz.underlying32 IV (by decide) rfl Fo.out (sU b51) (sV b51 (by decide)) (by decide) (fun a3A aXD => ?_)
  replace hS:=bV aXD hS
  refine Za ?_
  refine VL.iP (w11,a3A) [0,5,6] (fun _ _ h=>h) (go2 hS hK1) rfl
 replace hS:=gA hS hK1
 refine Zx ?_
 refine Zq (Zr ?_)
 refine Zy ?_
 cases hS
 exact VC.ret (eB (.inr rfl) rfl rfl sA rfl rfl (by (try dsimp only); exact cA.out) (by (try dsimp only); exact dJ.out))
theorem LD (l7:Sv (Sv Int)) (a_1:Int) (c_2:Int) {r:Bool} (hS:Sh.C6 (l7.l.map Sv.l) a_1 c_2=some r) :
 Ct Tryz.prog 250 [l7.val,i64 a_1,i64 c_2] l7.ok (Ow.emp) (X:=Unit) (fun _ => .bool r) (fun _=>True) (fun _=>Mo.tt) (fun _=>Ow.emp):=by
 refine Zo Tryz.func250 Tryz.ntmps250 fun c => ?_
 unfold Sh.C6 at hS
 refine Zq (Zr ?_)
 refine Zy ?_
 refine Zq (Zr ?_)
 refine Zm ?_
 refine Zu (sK rfl rfl) ?_
 refine Zm ?_
 refine pL 9 hS (fun h9 hS => ?_) (fun h9 hS => ?_)
 ·
  refine Zy ?_
  refine Zh (oN Sv.l (s:=l7) Tryz.underlying313 rfl) ?_
  refine Zh (aAW rfl rfl) ?_
  refine Zy ?_
  refine pL 15 hS (fun h15 hS => ?_) (fun h15 hS => ?_)
  ·
   refine Zy ?_
   refine VL.guard rfl rfl ?_
   refine VL.lit (α:=Int) (xs:=[.tmp 17]) (vs:=[i64 c_2]) [c_2] Tryz.underlying32 kI (by decide) rfl rfl rfl rfl (by decide) (fun _ _ _ _=>trivial) (by decide) (fun a5n a1V => ?_) (by decide)
   replace hS:=bV a1V hS
   refine VL.guard rfl rfl ?_
   obtain ⟨sN,RJ,hS⟩:=aK hS
   refine VL.bS (u7 l7 a5n RJ) rfl (by decide) ?_
   rintro aBw rfl
   try dsimp only
   refine Zg ?_
   obtain ⟨aHW,aBh,aB3,hS⟩:=c6 hS
   refine Zh (lJ (s:=aBw) Tryz.underlying377 rJ rfl rfl aBh (bN aBh aB3)) ?_
   refine Zh (DN (s:=aBw) 4 o9 rfl aB3 rfl) ?_
   refine Zy ?_
   refine VC.keep (ρ':=[(6,.bool aHW)]) [6] rfl ?_
   cases hS
   exact Ze
  refine VL.runs 9 [(6,some false)] (by kernel_rfl) ?_
  refine Zl ?_
  refine VC.keep (ρ':=[(6,.bool false)]) [6] rfl ?_
  cases hS
  exact Ze
 refine VL.runs 15 [(6,some false)] (by kernel_rfl) ?_
 refine Zl ?_
 cases hS
 exact Ze
theorem aH7 (gS:Sv Bool) {r:List Int} (hS:Sh.aAL gS.l=some r) :
 Ct Tryz.prog 353 [gS.val] gS.ok (Ow.emp) (X:=Sv Int) (fun x=>x.val) (fun x=>r=x.l) (fun x=>x.ok) (fun x=>Ow.emp):=by
 refine Zo Tryz.func353 Tryz.ntmps353 fun c => ?_
 unfold Sh.aAL at hS
 refine Zq (Zr ?_)
 refine Zy ?_
 refine Zq (Zr ?_)
 refine Zy ?_
 refine Zq (Zq (Zr ?_))
 refine Zm ?_
 refine Zu (dX (s:=gS) Tryz.underlying377 rfl) ?_
 refine Zy ?_
 refine Zb ?_
 refine VC.kH (⟨none,0,[]⟩:Sv Int) 3 ⟨rfl,rfl⟩ ?_
 refine VC.iter (S:=Sv Int×Int) (fun sg=>(sg.1.l,sg.2)) (fun sg=>[(3,sg.1.val),(6,gS.val),(7,i64 (gS.l.length:Int)),(8,i64 sg.2)]) (fun sg=>Mo.tt) (fun sg=>Ow.star (Sv.own sg.1 3) (Ow.emp)) (⟨none,0,[]⟩,0) [3,6,7,8] hS rfl ?_
 clear hS
 rintro ⟨uD,BZ⟩ m1 y1 hS hK1
 refine Zq (Zr ?_)
 refine Zu (c4 rfl rfl) ?_
 refine Zl ?_
 refine Zq ?_
 refine Zc hS (fun h9 hS => ?_) (fun h9 hS => ?_)
 ·
  refine Zk ?_
  refine Zq (Zb (Zq (Zr ?_)))
  refine Zm ?_
  obtain ⟨zK,NC,M3,hS⟩:=c6 hS
  refine Zu (e8 (s:=gS) Tryz.underlying377 rJ rfl rfl NC (bN NC M3)) ?_
  refine Zu (q9 (s:=gS) o9 rfl M3 rfl) ?_
  refine Zy ?_
  refine Zq (Zr ?_)
  refine Zy ?_
  refine iL hS (fun h13 hS => ?_) (fun h13 hS => ?_)
  ·
   refine Zr ?_
   refine Zy ?_
   refine VL.lit (α:=Int) (xs:=[.tmp 15]) (vs:=[i64 BZ]) [BZ] Tryz.underlying32 kI (by decide) rfl rfl rfl rfl (by decide) (fun _ _ _ _=>trivial) (by decide) (fun a5l a1S => ?_) (by decide)
   replace hS:=bV a1S hS
   obtain ⟨b17,hS⟩:=bU hS
   refine VL.app (s:=uD) (r:=a5l) Tryz.underlying32 IV (by decide) rfl Fo.out (sU b17) (sV b17 (by decide)) (by decide) (fun aY8 a1U => ?_)
   replace hS:=bV a1U hS
   refine Zy ?_
   refine VC.keep (ρ':=[(3,aY8.val),(6,gS.val),(7,i64 (gS.l.length:Int)),(8,i64 BZ)]) [3,6,7,8] rfl ?_
   refine Zr ?_
   obtain ⟨b18,hS⟩:=bU hS
   refine Zu (cR rfl rfl b18) ?_
   refine Zm ?_
   refine VL.iP (aY8,(BZ+1)) [3,6,7,8] (fun _ _ h=>h) (go2 hS hK1) rfl
  refine Zk ?_
  refine VC.keep (ρ':=[(3,uD.val),(6,gS.val),(7,i64 (gS.l.length:Int)),(8,i64 BZ)]) [3,6,7,8] rfl ?_
  refine Zr ?_
  obtain ⟨b18,hS⟩:=bU hS
  refine Zu (cR rfl rfl b18) ?_
  refine Zm ?_
  refine VL.iP (uD,(BZ+1)) [3,6,7,8] (fun _ _ h=>h) (go2 hS hK1) rfl
 replace hS:=gA hS hK1
 refine Zx ?_
 refine Zq (Zr ?_)
 refine Zm ?_
 refine VL.shut uD 3 (fun _ _ _ _=>trivial) ?_
 obtain ⟨rQ,JM,hS⟩:=aK hS
 refine VL.cU (o4 uD JM) rfl (by decide) ?_
 rintro wW rfl
 try dsimp only
 refine Zy ?_
 cases hS
 exact VC.ret (eB (.inr rfl) rfl rfl wW rfl rfl (by (try dsimp only); exact cA.out) (fun _ _=>trivial))
theorem UA (l7:Sv (Sv Int)) (a_1:Int) (b_2:Int) {r:List Int} (hS:Sh.DK (l7.l.map Sv.l) a_1 b_2=some r) :
 Ct Tryz.prog 315 [l7.val,i64 a_1,i64 b_2] l7.ok (Ow.emp) (X:=Sv Int) (fun x=>x.val) (fun x=>r=x.l) (fun x=>x.ok) (fun x=>Ow.emp):=by
 refine Zo Tryz.func315 Tryz.ntmps315 fun c => ?_
 unfold Sh.DK at hS
 refine Zq (Zr ?_)
 refine Zy ?_
 refine Zq (Zr ?_)
 refine Zy ?_
 refine VL.lit (α:=Int) (xs:=[.tmp 14]) (vs:=[i64 a_1]) [a_1] Tryz.underlying32 kI (by decide) rfl rfl rfl rfl (by decide) (fun _ _ _ _=>trivial) (by decide) (fun a5i a1P => ?_) (by decide)
 replace hS:=bV a1P hS
 obtain ⟨kC,rB,hS⟩:=aK hS
 refine VL.bS (u7 l7 a5i rB) rfl (by decide) ?_
 rintro PW rfl
 try dsimp only
 refine Zy ?_
 refine VL.lit (α:=Int) (xs:=[.tmp 18]) (vs:=[i64 b_2]) [b_2] Tryz.underlying32 kI (by decide) rfl rfl rfl rfl (by decide) (fun _ _ _ _=>trivial) (by decide) (fun SO RV => ?_) (by decide)
 replace hS:=bV RV hS
 obtain ⟨MK,aBK,hS⟩:=aK hS
 refine VL.bS (u7 l7 SO aBK) rfl (by decide) ?_
 rintro AO rfl
 try dsimp only
 refine Zy ?_
 refine VC.keep (ρ':=[(0,l7.val),(7,PW.val),(8,AO.val)]) [0,7,8] rfl ?_
 refine Zq (Zr ?_)
 refine Zy ?_
 refine Zq (Zq (Zr ?_))
 refine Zm ?_
 refine Zu (dX (s:=PW) Tryz.underlying377 rfl) ?_
 refine Zy ?_
 refine Zb ?_
 refine VC.kH (⟨none,0,[]⟩:Sv Int) 3 ⟨rfl,rfl⟩ ?_
 refine VC.iter (S:=Sv Bool×Sv Int×Int) (fun sg=>(sg.1.l,sg.2.1.l,sg.2.2)) (fun sg=>[(0,l7.val),(7,sg.1.val),(8,AO.val),(9,sg.2.1.val),(22,i64 (PW.l.length:Int)),(23,i64 sg.2.2)]) (fun sg=>Mo.tt) (fun sg=>Ow.star (Sv.own AO 4) (Ow.star (Sv.own sg.1 4) (Ow.star (Sv.own sg.2.1 3) (Ow.emp)))) (PW,⟨none,0,[]⟩,0) [0,7,8,9,22,23] hS rfl ?_
 clear hS
 rintro ⟨EC,s8,xM⟩ m1 y1 hS hK1
 refine Zq (Zr ?_)
 refine Zu (c4 rfl rfl) ?_
 refine Zl ?_
 refine Zq ?_
 refine Zc hS (fun h24 hS => ?_) (fun h24 hS => ?_)
 ·
  refine Zk ?_
  refine Zq (Zb (Zq (Zr ?_)))
  refine Zy ?_
  refine VC.gK (S:=Sv Bool) (fun (CD:Sv Bool)=>CD.l) (fun (CD:Sv Bool)=>[(0,l7.val),(7,CD.val),(8,AO.val),(9,s8.val),(10,i64 xM),(22,i64 (PW.l.length:Int)),(23,i64 xM)]) (fun (CD:Sv Bool)=>Mo.tt) (fun (CD:Sv Bool)=>Ow.star (Sv.own AO 4) (Ow.star (Sv.own s8 3) (Ow.star (Sv.own CD 4) (Ow.emp)))) hS ?_ ?_
  ·
   clear hS
   intro k11 hS
   refine Zr ?_
   refine Zy ?_
   obtain ⟨aSG,aML,aL7,hS⟩:=c6 hS
   refine Zu (lJ (s:=EC) Tryz.underlying377 rJ rfl rfl aML (bN aML aL7)) ?_
   refine Zu (DN (s:=EC) 4 o9 rfl aL7 rfl) ?_
   refine Zm ?_
   refine vV 32 hS (fun h32 hS => ?_) (fun h32 hS => ?_)
   ·
    refine Zy ?_
    obtain ⟨aEm,aMN,aL9,hS⟩:=c6 hS
    refine Zh (lJ (s:=AO) Tryz.underlying377 rJ rfl rfl aMN (bN aMN aL9)) ?_
    refine Zh (DN (s:=AO) 4 o9 rfl aL9 rfl) ?_
    refine Zt ?_
    obtain ⟨a4R,aMQ,aLc,hS⟩:=c6 hS
    refine Zu (lJ (s:=EC) Tryz.underlying377 rJ rfl rfl aMQ (bN aMQ aLc)) ?_
    refine VL.wD (s:=EC) (T:=4) (j:=0) (vc:=[.bool aEm]) (aEm:Bool) (by decide) rfl rfl aLc rfl rJ rfl rfl (Nat.le_of_ble_eq_true rfl) rfl (fun w15 hw15 haw15 hcw15 hvw15 hbw15 how15 => ?_)
    rw [← hvw15]
    replace hS:=bV hw15 hS
    refine VL.mt w15 [0,7,8,9,10,22,23] (fun _ _ h=>h) hS rfl
   refine VL.runs 5 [(37,some false)] (by kernel_rfl) ?_
   obtain ⟨yG,VV,U4,hS⟩:=c6 hS
   refine Zu (lJ (s:=EC) Tryz.underlying377 rJ rfl rfl VV (bN VV U4)) ?_
   refine VL.wD (s:=EC) (T:=4) (j:=0) (vc:=[.bool false]) (false:Bool) (by decide) rfl rfl U4 rfl rJ rfl rfl (Nat.le_of_ble_eq_true rfl) rfl (fun w18 hw18 haw18 hcw18 hvw18 hbw18 how18 => ?_)
   rw [← hvw18]
   replace hS:=bV hw18 hS
   refine VL.mt w18 [0,7,8,9,10,22,23] (fun _ _ h=>h) hS rfl
  clear hS
  rintro CD hS
  refine Zq (Zr ?_)
  refine Zy ?_
  obtain ⟨aSH,aMR,aLd,hS⟩:=c6 hS
  refine Zu (lJ (s:=CD) Tryz.underlying377 rJ rfl rfl aMR (bN aMR aLd)) ?_
  refine Zu (DN (s:=CD) 4 o9 rfl aLd rfl) ?_
  refine Zl ?_
  refine iL hS (fun h42 hS => ?_) (fun h42 hS => ?_)
  ·
   refine Zr ?_
   refine Zy ?_
   obtain ⟨b46,hS⟩:=bU hS
   refine Zu (qK rfl rfl b46) ?_
   obtain ⟨aCe,aMW,aFm,hS⟩:=DD hS
   refine VL.deep aCe.ok aFm (fun _ q=>q) ?_
   refine Zu (e8 (s:=l7) Tryz.underlying313 aCx rfl rfl aMW (bN aMW aFm)) ?_
   refine Zu (q9 (s:=l7) x5 rfl aFm rfl) ?_
   obtain ⟨b49,hS⟩:=bU hS
   refine VL.app (s:=s8) (r:=aCe) Tryz.underlying32 IV (by decide) rfl Fo.out (sU b49) (sV b49 (by decide)) (by decide) (fun aQl aXA => ?_)
   replace hS:=bV aXA hS
   refine Zy ?_
   refine VC.keep (ρ':=[(0,l7.val),(7,CD.val),(8,AO.val),(9,aQl.val),(22,i64 (PW.l.length:Int)),(23,i64 xM)]) [0,7,8,9,22,23] rfl ?_
   refine Zr ?_
   obtain ⟨b50,hS⟩:=bU hS
   refine Zu (cR rfl rfl b50) ?_
   refine Zm ?_
   refine VL.iP (CD,aQl,(xM+1)) [0,7,8,9,22,23] (fun _ _ h=>h) (go2 hS hK1) rfl
  refine Zk ?_
  refine Zr ?_
  obtain ⟨b50,hS⟩:=bU hS
  refine Zu (cR rfl rfl b50) ?_
  refine Zm ?_
  refine VL.iP (CD,s8,(xM+1)) [0,7,8,9,22,23] (fun _ _ h=>h) (go2 hS hK1) rfl
 replace hS:=gA hS hK1
 refine Zx ?_
 refine Zq (Zr ?_)
 refine Zy ?_
 obtain ⟨aR6,aVR,hS⟩:=aK hS
 refine VL.aIu (u7 l7 s8 aVR) rfl (by decide) ?_
 rintro G7 rfl
 try dsimp only
 refine Zy ?_
 refine VC.keep (ρ':=[(7,EC.val),(11,G7.val)]) [7,11] rfl ?_
 refine Zq (Zq (Zr ?_))
 refine Zm ?_
 refine Zu (dX (s:=EC) Tryz.underlying377 rfl) ?_
 refine Zy ?_
 refine Zb ?_
 refine VC.iter (S:=Sv Bool×Int) (fun sg=>(sg.1.l,sg.2)) (fun sg=>[(7,sg.1.val),(11,G7.val),(55,i64 (EC.l.length:Int)),(56,i64 sg.2)]) (fun sg=>Mo.tt) (fun sg=>Ow.star (Sv.own G7 4) (Ow.star (Sv.own sg.1 4) (Ow.emp))) (EC,0) [7,11,55,56] hS rfl ?_
 clear hS
 rintro ⟨DX,wE⟩ m1 y1 hS hK1
 refine Zq (Zr ?_)
 refine Zu (c4 rfl rfl) ?_
 refine Zl ?_
 refine Zq ?_
 refine Zc hS (fun h57 hS => ?_) (fun h57 hS => ?_)
 ·
  refine Zk ?_
  refine Zq (Zb (Zq (Zr ?_)))
  refine Zy ?_
  refine Zr ?_
  refine Zy ?_
  obtain ⟨aSJ,aM3,aLo,hS⟩:=c6 hS
  refine Zu (lJ (s:=DX) Tryz.underlying377 rJ rfl rfl aM3 (bN aM3 aLo)) ?_
  refine Zu (DN (s:=DX) 4 o9 rfl aLo rfl) ?_
  refine Zm ?_
  refine vV 65 hS (fun h65 hS => ?_) (fun h65 hS => ?_)
  ·
   refine Zy ?_
   obtain ⟨aEo,aM6,aLq,hS⟩:=c6 hS
   refine Zh (lJ (s:=G7) Tryz.underlying377 rJ rfl rfl aM6 (bN aM6 aLq)) ?_
   refine Zh (DN (s:=G7) 4 o9 rfl aLq rfl) ?_
   refine Zh (lQ rfl) ?_
   refine Zt ?_
   obtain ⟨a4U,aM7,aLr,hS⟩:=c6 hS
   refine Zu (lJ (s:=DX) Tryz.underlying377 rJ rfl rfl aM7 (bN aM7 aLr)) ?_
   refine VL.wD (s:=DX) (T:=4) (j:=0) (vc:=[.bool (!aEo)]) ((!aEo):Bool) (by decide) rfl rfl aLr rfl rJ rfl rfl (Nat.le_of_ble_eq_true rfl) rfl (fun w30 hw30 haw30 hcw30 hvw30 hbw30 how30 => ?_)
   rw [← hvw30]
   replace hS:=bV hw30 hS
   refine Zl ?_
   refine VC.keep (ρ':=[(7,w30.val),(11,G7.val),(55,i64 (EC.l.length:Int)),(56,i64 wE)]) [7,11,55,56] rfl ?_
   refine Zr ?_
   obtain ⟨b73,hS⟩:=bU hS
   refine Zu (cR rfl rfl b73) ?_
   refine Zm ?_
   refine VL.iP (w30,(wE+1)) [7,11,55,56] (fun _ _ h=>h) (go2 hS hK1) rfl
  refine VL.runs 6 [(71,some false)] (by kernel_rfl) ?_
  obtain ⟨a4V,aM8,aLs,hS⟩:=c6 hS
  refine Zu (lJ (s:=DX) Tryz.underlying377 rJ rfl rfl aM8 (bN aM8 aLs)) ?_
  refine VL.wD (s:=DX) (T:=4) (j:=0) (vc:=[.bool false]) (false:Bool) (by decide) rfl rfl aLs rfl rJ rfl rfl (Nat.le_of_ble_eq_true rfl) rfl (fun w33 hw33 haw33 hcw33 hvw33 hbw33 how33 => ?_)
  rw [← hvw33]
  replace hS:=bV hw33 hS
  refine Zl ?_
  refine VC.keep (ρ':=[(7,w33.val),(11,G7.val),(55,i64 (EC.l.length:Int)),(56,i64 wE)]) [7,11,55,56] rfl ?_
  refine Zr ?_
  obtain ⟨b73,hS⟩:=bU hS
  refine Zu (cR rfl rfl b73) ?_
  refine Zm ?_
  refine VL.iP (w33,(wE+1)) [7,11,55,56] (fun _ _ h=>h) (go2 hS hK1) rfl
 replace hS:=gA hS hK1
 refine Zx ?_
 refine Zq (Zr ?_)
 refine Zm ?_
 refine VL.shut DX 4 (fun _ _ _ _=>trivial) ?_
 obtain ⟨aRt,aVk,hS⟩:=aK hS
 refine VL.cU (aH7 DX aVk) rfl (by decide) ?_
 rintro aT9 rfl
 try dsimp only
 refine Zy ?_
 cases hS
 exact VC.ret (eB (.inr rfl) rfl rfl aT9 rfl rfl (by (try dsimp only); exact cA.out) (fun _ _=>trivial))
theorem H7 (l7:Sv (Sv Int)) (a_1:Int) (b_2:Int) {r:Int} (hS:Sh.FA (l7.l.map Sv.l) a_1 b_2=some r) :
 Ct Tryz.prog 251 [l7.val,i64 a_1,i64 b_2] l7.ok (Ow.emp) (X:=Unit) (fun _=>i64 r) (fun _=>True) (fun _=>Mo.tt) (fun _=>Ow.emp):=by
 refine Zo Tryz.func251 Tryz.ntmps251 fun c => ?_
 unfold Sh.FA at hS
 refine Zq (Zr ?_)
 refine Zy ?_
 refine Zq (Zr ?_)
 refine Zy ?_
 obtain ⟨iJ,JK,hS⟩:=aK hS
 refine VL.cU (UA l7 a_1 b_2 JK) rfl (by decide) ?_
 rintro tL rfl
 try dsimp only
 refine Zy ?_
 refine Zq (Zq (Zr ?_))
 refine Zm ?_
 refine Zu (dX (s:=tL) Tryz.underlying32 rfl) ?_
 refine Zu (gV rfl rfl) ?_
 refine Zl ?_
 refine VC.keep (ρ':=[(7,tL.val),(14,.bool (decide ((tL.l.length:Int)=0)))]) [7,14] rfl ?_
 refine Zc hS (fun h14 hS => ?_) (fun h14 hS => ?_)
 ·
  refine Zq ?_
  cases hS
 refine Zk ?_
 refine Zq (Zr ?_)
 refine Zy ?_
 refine Zu (dX (s:=tL) Tryz.underlying32 rfl) ?_
 obtain ⟨b18,hS⟩:=bU hS
 refine Zu (qK rfl rfl b18) ?_
 obtain ⟨aZc,aPt,aPR,hS⟩:=c6 hS
 refine Zu (e8 (s:=tL) Tryz.underlying32 u9 rfl rfl aPt (bN aPt aPR)) ?_
 refine Zu (q9 (s:=tL) eP rfl aPR rfl) ?_
 refine Zy ?_
 cases hS
 exact Ze
theorem OS (cJ:Sv aC) (p_1:bB) {r:QK} (hS:Sh.MD cJ.l p_1=some r) :
 Ct Tryz.prog 363 [cJ.val,str p_1] cJ.ok (Ow.emp) (X:=Unit) (fun _ => .agg #[str r.dW,i64 r.dI,str r.dH,.bool r.is]) (fun _=>True) (fun _=>Mo.tt) (fun _=>Ow.emp):=by
 refine Zo Tryz.func363 Tryz.ntmps363 fun c => ?_
 unfold Sh.MD at hS
 refine Zq (Zr ?_)
 refine VL.alloc (cs:=[str [],i64 0,str [],.bool false]) (by kernel_rfl) (by decide) fun wM => ?_
 refine Zl ?_
 refine Zq (Zr ?_)
 refine Zy ?_
 obtain ⟨fW,JI,hS⟩:=aK hS
 refine Zu (bZ (rW cJ p_1 JI) rfl (fun _ _=>rfl)) ?_
 refine Zm ?_
 refine Zu (aW rfl rfl) ?_
 refine Zu (aW rfl rfl) ?_
 refine VL.alloc (cs:=[str [],i64 0,str []]) (by kernel_rfl) (by decide) fun wN => ?_
 refine Zv (cs':=[str fW.1.path,i64 fW.1.mode,str fW.1.data]) rfl fS ?_
 refine Zy ?_
 refine VC.keep (ρ':=[(4,ptr wM 0),(5,ptr wN 0),(6,.bool fW.2)]) [4,5,6] rfl ?_
 refine Zq (Zr ?_)
 refine Zu (cD jZ rfl rfl) ?_
 refine Zm ?_
 refine Zu (eN (vs:=[(0,.agg #[str fW.1.path,i64 fW.1.mode,str fW.1.data]),(1,.bool fW.2)]) (cs := #[str fW.1.path,i64 fW.1.mode,str fW.1.data,.bool fW.2]) rfl (by kernel_rfl)) ?_
 refine Zv (cs':=[str fW.1.path,i64 fW.1.mode,str fW.1.data,.bool fW.2]) rfl aEX ?_
 refine Zl ?_
 cases hS
 exact VC.ret (hG (vs:=[.agg #[str fW.1.path,i64 fW.1.mode,str fW.1.data,.bool fW.2]]) (.inr rfl) rfl (dS.cell K8 rfl rfl Rd.blk (dS.nil)) () rfl trivial (by (try dsimp only); exact cA.out) (fun _ _=>trivial))
theorem aHB (CP:bB) (A7:Sv aC) (YF:Sv aC) (KI:Sv aC) (a_4:bB) (b_5:bB) {r:aC×Bool×Bool} (hS:Sh.W3 CP A7.l YF.l KI.l a_4 b_5=some r) :
 Ct Tryz.prog 343 [str CP,A7.val,YF.val,KI.val,str a_4,str b_5] (A7.ok.and (YF.ok.and KI.ok)) (Ow.emp) (X:=Unit) (fun _ => .tuple #[.agg #[str r.1.path,i64 r.1.mode,str r.1.data],.bool r.2.1,.bool r.2.2]) (fun _=>True) (fun _=>Mo.tt) (fun _=>Ow.emp):=by
 refine Zo Tryz.func343 Tryz.ntmps343 fun c => ?_
 unfold Sh.W3 at hS
 refine Zq (Zr ?_)
 refine VL.alloc (cs:=[str [],i64 0,str []]) (by kernel_rfl) (by decide) fun KO => ?_
 refine Zy ?_
 refine Zq (Zr ?_)
 refine Zy ?_
 obtain ⟨nV,a0H,hS⟩:=aK hS
 refine Zu (bZ (OS A7 CP a0H) rfl (fun _ _=>rfl)) ?_
 refine Zy ?_
 obtain ⟨j7,a0P,hS⟩:=aK hS
 refine Zu (bZ (OS YF CP a0P) rfl (fun _ _=>rfl)) ?_
 refine Zy ?_
 obtain ⟨iK,aJY,hS⟩:=aK hS
 refine Zu (bZ (OS KI CP aJY) rfl (fun _ _=>rfl)) ?_
 refine VL.alloc (cs:=[str [],i64 0,str [],.bool false]) (by kernel_rfl) (by decide) fun aEu => ?_
 refine VL.alloc (cs:=[str [],i64 0,str [],.bool false]) (by kernel_rfl) (by decide) fun aCl => ?_
 refine VL.alloc (cs:=[str [],i64 0,str [],.bool false]) (by kernel_rfl) (by decide) fun aCm => ?_
 refine Zv (cs':=[str nV.dW,i64 nV.dI,str nV.dH,.bool nV.is]) rfl aEX ?_
 refine Zv (cs':=[str j7.dW,i64 j7.dI,str j7.dH,.bool j7.is]) rfl aEX ?_
 refine Zv (cs':=[str iK.dW,i64 iK.dI,str iK.dH,.bool iK.is]) rfl aEX ?_
 refine Zl ?_
 refine VC.keep (ρ':=[(4,str a_4),(5,str b_5),(12,ptr KO 0),(15,ptr aEu 0),(16,ptr aCl 0),(17,ptr aCm 0)]) [4,5,12,15,16,17] rfl ?_
 refine Zq (Zb ?_)
 refine VC.gK (S:=Bool) (fun (XJ:Bool)=>XJ) (fun (XJ:Bool)=>[(4,str a_4),(5,str b_5),(12,ptr KO 0),(15,ptr aEu 0),(16,ptr aCl 0),(17,ptr aCm 0),(27,.bool XJ)]) (fun (XJ:Bool)=>Mo.tt) (fun (XJ:Bool)=>Ow.star (bD aCm [str iK.dW,i64 iK.dI,str iK.dH,.bool iK.is] 420) (Ow.star (bD aCl [str j7.dW,i64 j7.dI,str j7.dH,.bool j7.is] 420) (Ow.star (bD aEu [str nV.dW,i64 nV.dI,str nV.dH,.bool nV.is] 420) (Ow.star (bD KO [str [],i64 0,str []] 36) (Ow.emp))))) hS ?_ ?_
 ·
  clear hS
  intro k9 hS
  refine Zr ?_
  refine Zu (cD K8 rfl rfl) ?_
  refine Zu (cD K8 rfl rfl) ?_
  refine Zu (WE aFa (aFc j7.dW j7.dI j7.dH j7.is iK.dW iK.dI iK.dH iK.is) rfl rfl) ?_
  refine Zm ?_
  refine pL 31 hS (fun h31 hS => ?_) (fun h31 hS => ?_)
  ·
   refine VL.runs 5 [(27,some true)] (by kernel_rfl) ?_
   refine VL.mt true [4,5,12,15,16,17,27] (fun _ _ h=>h) hS rfl
  refine Zh (cD K8 rfl rfl) ?_
  refine Zh (cD K8 rfl rfl) ?_
  refine Zh (WE aFa (aFc nV.dW nV.dI nV.dH nV.is iK.dW iK.dI iK.dH iK.is) rfl rfl) ?_
  refine Zy ?_
  refine VL.mt (decide (nV.dW=iK.dW∧nV.dI=iK.dI∧nV.dH=iK.dH∧nV.is=iK.is)) [4,5,12,15,16,17,27] (fun _ _ h=>h) hS rfl
 clear hS
 rintro XJ hS
 refine iL hS (fun h27 hS => ?_) (fun h27 hS => ?_)
 ·
  refine Zq ?_
  refine VC.draw [(0,true),(1,true),(2,true),(3,true),(4,false),(5,true),(6,true)] mixed (by kernel_rfl) (by kernel_rfl) (by kernel_rfl) ?_
  refine Zw rfl (aB aIH rfl) ?_
  refine Zw rfl (SA (j:=0) (n:=3) jZ rfl rfl rfl) ?_
  refine Zw rfl (aB G2 rfl) ?_
  refine Zw rfl (aJ o9 rfl rfl) ?_
  refine VD.one rfl ?_
  refine Zv (cs':=[str j7.dW,i64 j7.dI,str j7.dH]) rfl fS ?_
  refine VL.back (D':=[(3,.bool j7.is),(2,ptr aCl 3)]) (by kernel_rfl) (aF.cons rfl (aJ o9 rfl rfl) (aF.cons rfl (aB G2 rfl) (aF.nil))) ?_
  refine Zw rfl (eO rfl) ?_
  refine Zw rfl (eO rfl) ?_
  refine VD.to (fun _ _ h=>h) ?_
  refine VC.keep (ρ':=[(12,ptr KO 0),(13,.bool j7.is),(14,.bool false)]) [12,13,14] rfl ?_
  cases hS
  exact VC.ret (hG (vs:=[.agg #[str j7.dW,i64 j7.dI,str j7.dH],.bool j7.is,.bool false]) (.inr rfl) rfl (dS.cell jZ rfl rfl Rd.blk (dS.tmp rfl (dS.tmp rfl (dS.nil)))) () rfl trivial (by (try dsimp only); exact cA.out) (fun _ _=>trivial))
 refine Zq (Zr ?_)
 refine Zu (cD K8 rfl rfl) ?_
 refine Zu (cD K8 rfl rfl) ?_
 refine Zu (WE aFa (aFc nV.dW nV.dI nV.dH nV.is j7.dW j7.dI j7.dH j7.is) rfl rfl) ?_
 refine Zy ?_
 refine Zc hS (fun h40 hS => ?_) (fun h40 hS => ?_)
 ·
  refine Zq ?_
  refine VC.draw [(0,true),(1,true),(2,true),(3,true),(4,false),(5,true),(6,true)] mixed (by kernel_rfl) (by kernel_rfl) (by kernel_rfl) ?_
  refine Zw rfl (aB aIH rfl) ?_
  refine Zw rfl (SA (j:=0) (n:=3) jZ rfl rfl rfl) ?_
  refine Zw rfl (aB G2 rfl) ?_
  refine Zw rfl (aJ o9 rfl rfl) ?_
  refine VD.one rfl ?_
  refine Zv (cs':=[str iK.dW,i64 iK.dI,str iK.dH]) rfl fS ?_
  refine VL.back (D':=[(3,.bool iK.is),(2,ptr aCm 3)]) (by kernel_rfl) (aF.cons rfl (aJ o9 rfl rfl) (aF.cons rfl (aB G2 rfl) (aF.nil))) ?_
  refine Zw rfl (eO rfl) ?_
  refine Zw rfl (eO rfl) ?_
  refine VD.to (fun _ _ h=>h) ?_
  refine VC.keep (ρ':=[(12,ptr KO 0),(13,.bool iK.is),(14,.bool false)]) [12,13,14] rfl ?_
  cases hS
  exact VC.ret (hG (vs:=[.agg #[str iK.dW,i64 iK.dI,str iK.dH],.bool iK.is,.bool false]) (.inr rfl) rfl (dS.cell jZ rfl rfl Rd.blk (dS.tmp rfl (dS.tmp rfl (dS.nil)))) () rfl trivial (by (try dsimp only); exact cA.out) (fun _ _=>trivial))
 refine VC.gK (S:=Bool) (fun (NR:Bool)=>NR) (fun (NR:Bool)=>[(4,str a_4),(5,str b_5),(12,ptr KO 0),(15,ptr aEu 0),(16,ptr aCl 0),(17,ptr aCm 0),(48,.bool NR)]) (fun (NR:Bool)=>Mo.tt) (fun (NR:Bool)=>Ow.star (bD aCm [str iK.dW,i64 iK.dI,str iK.dH,.bool iK.is] 420) (Ow.star (bD aCl [str j7.dW,i64 j7.dI,str j7.dH,.bool j7.is] 420) (Ow.star (bD aEu [str nV.dW,i64 nV.dI,str nV.dH,.bool nV.is] 420) (Ow.star (bD KO [str [],i64 0,str []] 36) (Ow.emp))))) hS ?_ ?_
 ·
  clear hS
  intro k11 hS
  refine Zr ?_
  refine Zu (aB G2 rfl) ?_
  refine Zu (aJ o9 rfl rfl) ?_
  refine Zm ?_
  refine vV 51 hS (fun h51 hS => ?_) (fun h51 hS => ?_)
  ·
   refine Zh (aB G2 rfl) ?_
   refine Zh (aJ o9 rfl rfl) ?_
   refine Zy ?_
   refine VL.mt iK.is [4,5,12,15,16,17,48] (fun _ _ h=>h) hS rfl
  refine VL.runs 4 [(48,some false)] (by kernel_rfl) ?_
  refine VL.mt false [4,5,12,15,16,17,48] (fun _ _ h=>h) hS rfl
 clear hS
 rintro NR hS
 refine iL hS (fun h48 hS => ?_) (fun h48 hS => ?_)
 ·
  refine Zq ?_
  cases hS
 refine Zq (Zr ?_)
 refine Zu (aB G2 rfl) ?_
 refine Zu (aJ o9 rfl rfl) ?_
 refine Zy ?_
 refine iL hS (fun h66 hS => ?_) (fun h66 hS => ?_)
 ·
  refine Zq ?_
  cases hS
 refine Zk ?_
 refine Zq ?_
 cases hS
theorem aAa (l7:aC) (iB:Nat) (a_1:aC) {r:Bool} (hS:Sh.I2 l7 a_1=some r) :
 Ct Tryz.prog 365 [.agg #[str l7.path,i64 l7.mode,str l7.data],ptr iB 0] (Cells iB 0 [str a_1.path,i64 a_1.mode,str a_1.data]) (Ow.emp) (X:=Unit) (fun _ => .bool r) (fun _=>True) (fun _=>Mo.tt) (fun _=>Ow.emp):=by
 refine Zo Tryz.func365 Tryz.ntmps365 fun c => ?_
 unfold Sh.I2 at hS
 refine Zq (Zr ?_)
 refine VL.box (cs:=[str l7.path,i64 l7.mode,str l7.data]) rfl rfl (by decide) fun dQ => ?_
 refine Zy ?_
 refine Zq (Zr ?_)
 refine Zu (aB qS rfl) ?_
 refine Zu (aJ dD rfl rfl) ?_
 refine Zu (aB qS rfl) ?_
 refine Zu (WC dD rfl rfl) ?_
 obtain ⟨iT,tG,hS⟩:=aK hS
 refine Zu (bZ (wV l7.path a_1.path tG) rfl (fun _ _=>rfl)) ?_
 refine Zy ?_
 cases hS
 exact Ze
theorem xD (aA:Sv aC) (dV:Nat) (eA:aC) {r:Int} (hS:Sh.lW aA.l eA=some r) :
 Ct Tryz.prog 77 [aA.val,.func (.func 365) #[] #[ptr dV 0]] (aA.ok.and (Cells dV 0 [str eA.path,i64 eA.mode,str eA.data])) (Ow.emp) (X:=Unit) (fun _=>i64 r) (fun _=>True) (fun _=>Mo.tt) (fun _=>Ow.emp):=by
 refine Zo Tryz.func77 Tryz.ntmps77 fun c => ?_
 unfold Sh.lW at hS
 refine Zq (Zr ?_)
 refine Zy ?_
 refine Zq (Zq (Zr ?_))
 refine Zm ?_
 refine Zu (dX (s:=aA) Tryz.underlying23 rfl) ?_
 refine Zy ?_
 refine Zb ?_
 refine VC.iter (S:=Int) (fun (cG:Int)=>cG) (fun (cG:Int)=>[(0,aA.val),(1,.func (.func 365) #[] #[ptr dV 0]),(7,i64 (aA.l.length:Int)),(8,i64 cG)]) (fun (cG:Int)=>Mo.tt) (fun (cG:Int)=>Ow.emp) 0 [0,1,7,8] hS rfl ?_
 clear hS
 rintro cG m1 y1 hS hK1
 refine Zq (Zr ?_)
 refine Zu (c4 rfl rfl) ?_
 refine Zl ?_
 refine Zq ?_
 refine Zc hS (fun h9 hS => ?_) (fun h9 hS => ?_)
 ·
  refine Zk ?_
  refine Zq (Zb (Zq (Zr ?_)))
  refine Zy ?_
  refine Zq (Zr ?_)
  refine Zy ?_
  obtain ⟨fV,kV,kU,hS⟩:=c6 hS
  refine Zu (e8 (s:=aA) Tryz.underlying23 fS rfl rfl kV (bN kV kU)) ?_
  refine Zu (nR (s:=aA) jZ rfl rfl kU) ?_
  obtain ⟨kC,rB,hS⟩:=aK hS
  refine Zu (uX (vs:=[.agg #[str fV.path,i64 fV.mode,str fV.data]]) (caps:=[ptr dV 0]) (aAa fV dV eA rB) rfl rfl (fun _ _=>rfl)) ?_
  refine Zl ?_
  refine VC.keep (ρ':=[(0,aA.val),(1,.func (.func 365) #[] #[ptr dV 0]),(7,i64 (aA.l.length:Int)),(8,i64 cG),(5,i64 cG),(16,.bool kC)]) [0,1,7,8,5,16] rfl ?_
  refine iL hS (fun h16 hS => ?_) (fun h16 hS => ?_)
  ·
   refine Zq (Zr ?_)
   refine Zy ?_
   replace hS:=gA hS hK1
   cases hS
   exact Ze
  refine Zk ?_
  refine Zr ?_
  obtain ⟨b18,hS⟩:=bU hS
  refine Zu (cR rfl rfl b18) ?_
  refine Zm ?_
  refine VL.iP (cG+1) [0,1,7,8] (fun _ _ h=>h) (go2 hS hK1) rfl
 replace hS:=gA hS hK1
 refine Zx ?_
 refine Zq (Zr ?_)
 refine Zy ?_
 cases hS
 exact Ze
theorem vD (aA:Sv aC) (dV:Nat) (eA:aC) {r:Bool} (hS:Sh.kP aA.l eA=some r) :
 Ct Tryz.prog 42 [aA.val,.func (.func 365) #[] #[ptr dV 0]] (aA.ok.and (Cells dV 0 [str eA.path,i64 eA.mode,str eA.data])) (Ow.emp) (X:=Unit) (fun _ => .bool r) (fun _=>True) (fun _=>Mo.tt) (fun _=>Ow.emp):=by
 refine Zo Tryz.func42 Tryz.ntmps42 fun c => ?_
 unfold Sh.kP at hS
 refine Zq (Zr ?_)
 refine Zy ?_
 refine Zq (Zr ?_)
 refine Zy ?_
 obtain ⟨iD,kL,hS⟩:=aK hS
 refine Zu (oB (xD aA dV eA kL) rfl (fun _ _=>rfl)) ?_
 refine Zu (sK rfl rfl) ?_
 refine Zy ?_
 cases hS
 exact Ze
theorem aDj (cJ:Sv aC) {r:eY} (hS:Sh.OR cJ.l=some r) :
 Ct Tryz.prog 345 [cJ.val] cJ.ok (Ow.emp) (X:=Er) (fun x=>x.val) (fun x=>r=x.pl) (fun x=>x.ok) (fun x=>Ow.emp):=by
 refine Zo Tryz.func345 Tryz.ntmps345 fun c => ?_
 unfold Sh.OR at hS
 refine Zq (Zr ?_)
 refine Zy ?_
 refine Zq (Zq (Zr ?_))
 refine Zm ?_
 refine Zu (dX (s:=cJ) Tryz.underlying23 rfl) ?_
 refine Zu (iZ rfl rfl) ?_
 refine Zl ?_
 refine Zc hS (fun h7 hS => ?_) (fun h7 hS => ?_)
 ·
  refine Zq ?_
  cases hS
 refine Zk ?_
 refine Zq (Zq (Zr ?_))
 refine Zm ?_
 refine Zu (dX (s:=cJ) Tryz.underlying23 rfl) ?_
 refine Zy ?_
 refine Zb ?_
 refine VC.iter (S:=Int) (fun (rO:Int)=>rO) (fun (rO:Int)=>[(0,cJ.val),(12,cJ.val),(13,i64 (cJ.l.length:Int)),(14,i64 rO)]) (fun (rO:Int)=>Mo.tt) (fun (rO:Int)=>Ow.emp) 0 [0,12,13,14] hS rfl ?_
 clear hS
 rintro rO m1 y1 hS hK1
 refine Zq (Zr ?_)
 refine Zu (c4 rfl rfl) ?_
 refine Zl ?_
 refine Zq ?_
 refine Zc hS (fun h15 hS => ?_) (fun h15 hS => ?_)
 ·
  refine Zk ?_
  refine Zq (Zb (Zq (Zr ?_)))
  refine Zm ?_
  obtain ⟨aDs,aPo,aPN,hS⟩:=c6 hS
  refine Zu (e8 (s:=cJ) Tryz.underlying23 fS rfl rfl aPo (bN aPo aPN)) ?_
  refine Zu (nR (s:=cJ) jZ rfl rfl aPN) ?_
  refine VL.alloc (cs:=[str [],i64 0,str []]) (by kernel_rfl) (by decide) fun oI => ?_
  refine Za ?_
  refine Zv (cs':=[str aDs.path,i64 aDs.mode,str aDs.data]) rfl fS ?_
  refine Zl ?_
  refine Zq (Zr ?_)
  refine Zy ?_
  obtain ⟨b21,hS⟩:=bU hS
  refine VL.sto Tryz.underlying23 fS rfl rfl b21.1 (b21.2) (by decide) fun a5r a11 => ?_
  replace hS:=bV a11 hS
  refine Zu (sE rfl) ?_
  obtain ⟨HI,RL,hS⟩:=aK hS
  refine Zu (oB (vD a5r oI aDs RL) rfl (fun _ _=>rfl)) ?_
  refine Zl ?_
  refine VC.keep (ρ':=[(0,cJ.val),(12,cJ.val),(13,i64 (cJ.l.length:Int)),(14,i64 rO),(3,i64 rO),(23,.bool HI)]) [0,12,13,14,3,23] rfl ?_
  refine iL hS (fun h23 hS => ?_) (fun h23 hS => ?_)
  ·
   refine Zq ?_
   cases hS
  refine Zk ?_
  refine Zr ?_
  obtain ⟨b29,hS⟩:=bU hS
  refine Zu (cR rfl rfl b29) ?_
  refine Zm ?_
  refine VL.iP (rO+1) [0,12,13,14] (fun _ _ h=>h) (go2 hS hK1) rfl
 replace hS:=gA hS hK1
 refine Zx ?_
 refine Zq (Zr ?_)
 refine Zy ?_
 cases hS
 exact VC.ret (eB (.inr rfl) rfl rfl .nil rfl rfl (by (try dsimp only); exact cA.out) (fun _ _=>trivial))
theorem aDi (rV:Sv aC) (r9:Sv aC) (jE:Sv aC) (a_3:bB) (b_4:bB) {r:jY×eY} (hS:Sh.OQ rV.l r9.l jE.l a_3 b_4=some r) :
 Ct Tryz.prog 300 [rV.val,r9.val,jE.val,str a_3,str b_4] (rV.ok.and (r9.ok.and jE.ok)) (Ow.emp) (X:=jA×Er) (fun x => .tuple #[.agg (bM.enc x.1).toArray,x.2.val]) (fun x=>r=(x.1.pl,x.2.pl)) (fun x=>(x.1.m.and x.2.ok)) (fun x=>Ow.emp):=by
 refine Zo Tryz.func300 Tryz.ntmps300 fun c => ?_
 unfold Sh.OQ at hS
 refine Zq (Zr ?_)
 refine VL.alloc (cs:=[.slice none 0 0,.slice none 0 0,.slice none 0 0]) (by kernel_rfl) (by decide) fun z6 => ?_
 refine Zy ?_
 refine Zq (Zq (Zr ?_))
 refine Zy ?_
 refine VL.lit (α:=Sv aC) (xs:=[.tmp 22,.tmp 23,.tmp 24]) (vs:=[rV.val,r9.val,jE.val]) [rV,r9,jE] Tryz.underlying347 aJ8 (by decide) rfl rfl rfl rfl (by decide) (fun h m=>List.forall_mem_cons.2 ⟨cA.out (X:=rV.ok) h m,List.forall_mem_cons.2 ⟨cA.out (X:=r9.ok) h m,List.forall_mem_cons.2 ⟨cA.out (X:=jE.ok) h m,fun _ h=>by cases h⟩⟩⟩) (by decide) (fun aA6 a19 => ?_) (by decide)
 replace hS:=bV (congrArg (List.map Sv.l) a19) hS
 refine Zu (oN Sv.l (s:=aA6) Tryz.underlying347 rfl) ?_
 refine Zy ?_
 refine Zb ?_
 refine VC.iter (S:=Int) (fun (HE:Int)=>HE) (fun (HE:Int)=>[(0,rV.val),(1,r9.val),(2,jE.val),(3,str a_3),(4,str b_4),(10,ptr z6 0),(25,aA6.val),(26,i64 ((aA6.l.map Sv.l).length:Int)),(27,i64 HE)]) (fun (HE:Int)=>Mo.tt) (fun (HE:Int)=>Ow.star (bD z6 [.slice none 0 0,.slice none 0 0,.slice none 0 0] 293) (Ow.emp)) 0 [0,1,2,3,4,10,25,26,27] hS rfl ?_
 clear hS
 rintro HE m1 y1 hS hK1
 refine Zq (Zr ?_)
 refine Zu (c4 rfl rfl) ?_
 refine Zl ?_
 refine Zq ?_
 refine Zc hS (fun h28 hS => ?_) (fun h28 hS => ?_)
 ·
  refine Zk ?_
  refine Zq (Zb (Zq (Zr ?_)))
  obtain ⟨aKt,aQH,aJp,hS⟩:=DD hS
  refine VL.deep aKt.ok aJp (fun _ q=>q) ?_
  refine Zu (e8 (s:=aA6) Tryz.underlying347 aCw rfl rfl aQH (bN aQH aJp)) ?_
  refine Zu (q9 (s:=aA6) jS rfl aJp rfl) ?_
  refine Zy ?_
  refine Zq (Zr ?_)
  refine Zm ?_
  obtain ⟨XW,aJ2,hS⟩:=aK hS
  refine VL.cU (vY aKt aJ2) rfl (by decide) ?_
  rintro L1 rfl
  try dsimp only
  refine Zy ?_
  refine Zq (Zr ?_)
  refine Zm ?_
  refine Zu (jM Tryz.underlying26 rfl) ?_
  refine Zl ?_
  refine VC.keep (ρ':=[(0,rV.val),(1,r9.val),(2,jE.val),(3,str a_3),(4,str b_4),(10,ptr z6 0),(25,aA6.val),(26,i64 ((aA6.l.map Sv.l).length:Int)),(27,i64 HE),(14,L1.val),(34,.bool (!decide (L1.pl.isNil=true)))]) [0,1,2,3,4,10,25,26,27,14,34] rfl ?_
  refine rE hS (fun h34 hS => ?_) (fun h34 hS => ?_)
  ·
   refine Zq ?_
   cases hS
  refine Zk ?_
  refine Zr ?_
  obtain ⟨b37,hS⟩:=bU hS
  refine Zu (cR rfl rfl b37) ?_
  refine Zm ?_
  refine VL.iP (HE+1) [0,1,2,3,4,10,25,26,27] (fun _ _ h=>h) (go2 hS hK1) rfl
 replace hS:=gA hS hK1
 refine Zx ?_
 refine Zq (Zr ?_)
 refine VL.alloc (cs:=[.slice none 0 0,.slice none 0 0,.slice none 0 0]) (by kernel_rfl) (by decide) fun KP => ?_
 refine Zl ?_
 refine Zq (Zq (Zr ?_))
 refine Zy ?_
 refine VL.lit (α:=Sv aC) (xs:=[.tmp 38,.tmp 39,.tmp 40]) (vs:=[rV.val,r9.val,jE.val]) [rV,r9,jE] Tryz.underlying347 aJ8 (by decide) rfl rfl rfl rfl (by decide) (fun h m=>List.forall_mem_cons.2 ⟨cA.out (X:=rV.ok) h m,List.forall_mem_cons.2 ⟨cA.out (X:=r9.ok) h m,List.forall_mem_cons.2 ⟨cA.out (X:=jE.ok) h m,fun _ h=>by cases h⟩⟩⟩) (by decide) (fun a6C a1j => ?_) (by decide)
 replace hS:=bV (congrArg (List.map Sv.l) a1j) hS
 obtain ⟨aKf,aUs,hS⟩:=aK hS
 refine VL.cU (T0 a6C aUs) rfl (by decide) ?_
 rintro wY rfl
 try dsimp only
 refine Zu (dX (s:=wY) Tryz.underlying62 rfl) ?_
 refine Zy ?_
 refine VC.keep (ρ':=[(0,rV.val),(1,r9.val),(2,jE.val),(3,str a_3),(4,str b_4),(10,ptr z6 0),(15,ptr KP 0),(42,wY.val),(43,i64 (wY.l.length:Int)),(44,i64 0)]) [0,1,2,3,4,10,15,42,43,44] rfl ?_
 refine Zb ?_
 refine VC.kH (⟨none,0,[]⟩:Sv aC) 36 ⟨rfl,rfl⟩ ?_
 refine VC.SD KP (cs':=[(⟨none,0,[]⟩:Sv aC).val,.slice none 0 0,.slice none 0 0]) rfl ?_
 refine VC.iter (S:=Int×Sv aC) (fun sg=>(sg.1,sg.2.l)) (fun sg=>[(0,rV.val),(1,r9.val),(2,jE.val),(3,str a_3),(4,str b_4),(10,ptr z6 0),(15,ptr KP 0),(42,wY.val),(43,i64 (wY.l.length:Int)),(44,i64 sg.1)]) (fun sg=>Mo.tt) (fun sg=>Ow.star (bD KP [sg.2.val,.slice none 0 0,.slice none 0 0] 293) (Ow.star (bD z6 [.slice none 0 0,.slice none 0 0,.slice none 0 0] 293) (Ow.star (Sv.own sg.2 36) (Ow.emp)))) (0,(⟨none,0,[]⟩:Sv aC)) [0,1,2,3,4,10,15,42,43,44] hS rfl ?_
 clear hS
 rintro ⟨NO,nP⟩ m1 y1 hS hK1
 refine Zq (Zr ?_)
 refine Zu (c4 rfl rfl) ?_
 refine Zl ?_
 refine Zq ?_
 refine Zc hS (fun h45 hS => ?_) (fun h45 hS => ?_)
 ·
  refine Zk ?_
  refine Zq (Zb (Zq (Zr ?_)))
  obtain ⟨aCd,aMU,aLg,hS⟩:=c6 hS
  refine Zu (e8 (s:=wY) Tryz.underlying62 vA rfl rfl aMU (bN aMU aLg)) ?_
  refine Zu (q9 (s:=wY) dD rfl aLg rfl) ?_
  refine Zy ?_
  refine Zq (Zr ?_)
  refine Zy ?_
  obtain ⟨o8,aFW,hS⟩:=aK hS
  refine Zu (bZ (aHB aCd rV r9 jE a_3 b_4 aFW) rfl (fun _ _=>rfl)) ?_
  refine Zm ?_
  refine Zu (aW rfl rfl) ?_
  refine Zu (aW rfl rfl) ?_
  refine Zu (aW rfl rfl) ?_
  refine VL.alloc (cs:=[str [],i64 0,str []]) (by kernel_rfl) (by decide) fun aOm => ?_
  refine Zv (cs':=[str o8.1.path,i64 o8.1.mode,str o8.1.data]) rfl fS ?_
  refine Zy ?_
  refine VC.keep (ρ':=[(0,rV.val),(1,r9.val),(2,jE.val),(3,str a_3),(4,str b_4),(10,ptr z6 0),(15,ptr KP 0),(42,wY.val),(43,i64 (wY.l.length:Int)),(44,i64 NO),(17,str aCd),(18,ptr aOm 0),(19,.bool o8.2.1),(20,.bool o8.2.2)]) [0,1,2,3,4,10,15,42,43,44,17,18,19,20] rfl ?_
  refine VC.gK (S:=Sv aC) (fun (B1:Sv aC)=>B1.l) (fun (B1:Sv aC)=>[(0,rV.val),(1,r9.val),(2,jE.val),(3,str a_3),(4,str b_4),(10,ptr z6 0),(15,ptr KP 0),(17,str aCd),(20,.bool o8.2.2),(42,wY.val),(43,i64 (wY.l.length:Int)),(44,i64 NO)]) (fun (B1:Sv aC)=>Mo.tt) (fun (B1:Sv aC)=>Ow.star (bD aOm [str o8.1.path,i64 o8.1.mode,str o8.1.data] 36) (Ow.star (bD KP [B1.val,.slice none 0 0,.slice none 0 0] 293) (Ow.star (bD z6 [.slice none 0 0,.slice none 0 0,.slice none 0 0] 293) (Ow.star (Sv.own B1 36) (Ow.emp))))) hS ?_ ?_
  ·
   clear hS
   intro k17 hS
   refine Zq (Zr ?_)
   refine Zy ?_
   refine iL hS (fun h59 hS => ?_) (fun h59 hS => ?_)
   ·
    refine Zr ?_
    refine Zu (aB tE rfl) ?_
    refine Zu (aJ jS rfl rfl) ?_
    refine Zu (cD jZ rfl rfl) ?_
    refine VL.lit (α:=aC) (xs:=[.tmp 62]) (vs:=[.agg #[str o8.1.path,i64 o8.1.mode,str o8.1.data]]) [⟨o8.1.path,o8.1.mode,o8.1.data⟩] Tryz.underlying23 X9 (by decide) rfl rfl rfl rfl (by decide) (fun _ _ _ _=>trivial) (by decide) (fun a3F aXK => ?_) (by decide)
    replace hS:=bV aXK hS
    obtain ⟨b64,hS⟩:=bU hS
    refine VL.app (s:=nP) (r:=a3F) Tryz.underlying23 RO (by decide) rfl Fo.out (sU b64) (sV b64 (by decide)) (by decide) (fun aQn aXL => ?_)
    replace hS:=bV aXL hS
    refine Zu (aB tE rfl) ?_
    refine Zv (cs':=[aQn.val,.slice none 0 0,.slice none 0 0]) rfl aCw ?_
    refine VL.mt aQn [0,1,2,3,4,10,15,17,20,42,43,44] (fun _ _ h=>h) hS rfl
   refine VC.iC nP [0,1,2,3,4,10,15,17,20,42,43,44] (fun _ _ h=>h) hS rfl
  clear hS
  rintro B1 hS
  refine Zq (Zr ?_)
  refine Zy ?_
  refine iL hS (fun h66 hS => ?_) (fun h66 hS => ?_)
  ·
   refine Zq ?_
   cases hS
  refine Zk ?_
  refine Zr ?_
  obtain ⟨b83,hS⟩:=bU hS
  refine Zu (cR rfl rfl b83) ?_
  refine Zm ?_
  refine VL.iP ((NO+1),B1) [0,1,2,3,4,10,15,42,43,44] (fun _ _ h=>h) (go2 hS hK1) rfl
 replace hS:=gA hS hK1
 refine Zx ?_
 refine VC.keep (ρ':=[(10,ptr z6 0),(15,ptr KP 0)]) [10,15] rfl ?_
 refine Zq (Zq (Zr ?_))
 refine Zu (aB tE rfl) ?_
 refine Zu (aJ jS rfl rfl) ?_
 refine VL.shut nP 36 (fun _ _ _ _=>trivial) ?_
 obtain ⟨aSC,aVv,hS⟩:=aK hS
 refine VL.cU (aDj nP aVv) rfl (by decide) ?_
 rintro a6T rfl
 try dsimp only
 refine Zy ?_
 refine Zq (Zr ?_)
 refine Zm ?_
 refine Zu (jM Tryz.underlying26 rfl) ?_
 refine Zl ?_
 refine rE hS (fun h88 hS => ?_) (fun h88 hS => ?_)
 ·
  refine Zq ?_
  cases hS
 refine Zk ?_
 refine Zq ?_
 refine VC.draw [(0,true),(1,true),(3,true),(4,true),(6,true),(7,true),(2,false),(5,false),(8,false),(9,true),(10,false),(11,true)] mixed (by kernel_rfl) (by kernel_rfl) (by kernel_rfl) ?_
 refine Zw rfl (aB tE rfl) ?_
 refine Zw rfl (aJ jS rfl rfl) ?_
 refine Zw rfl (aB aIF rfl) ?_
 refine Zw rfl (aJ nG rfl rfl) ?_
 refine Zw rfl (aB D7 rfl) ?_
 refine Zw rfl (aJ x6 rfl rfl) ?_
 refine VD.one rfl ?_
 obtain ⟨aSD,aVw,hS⟩:=aK hS
 refine VL.cU (e7 nP aVw) rfl (by decide) ?_
 rintro P6 rfl
 try dsimp only
 refine VL.back (D':=[(7,.slice none 0 0),(6,ptr KP 2),(4,.slice none 0 0),(3,ptr KP 1)]) (by kernel_rfl) (aF.cons rfl (aJ x6 rfl rfl) (aF.cons rfl (aB D7 rfl) (aF.cons rfl (aJ nG rfl rfl) (aF.cons rfl (aB aIF rfl) (aF.nil))))) ?_
 refine VD.one rfl ?_
 obtain ⟨aSE,aVx,hS⟩:=aK hS
 refine VL.cU (gI ⟨none,0,[]⟩ aVx) rfl (by decide) ?_
 rintro P7 rfl
 try dsimp only
 refine VL.back (D':=[(7,.slice none 0 0),(6,ptr KP 2)]) (by kernel_rfl) (aF.cons rfl (aJ x6 rfl rfl) (aF.cons rfl (aB D7 rfl) (aF.nil))) ?_
 refine VD.one rfl ?_
 obtain ⟨aSF,aVy,hS⟩:=aK hS
 refine VL.cU (jO ⟨none,0,[]⟩ aVy) rfl (by decide) ?_
 rintro P8 rfl
 try dsimp only
 refine VL.back (D':=[]) (by kernel_rfl) (aF.nil) ?_
 refine Zw rfl (eN (vs:=[(0,P6.val),(1,P7.val),(2,P8.val)]) (cs := #[P6.val,P7.val,P8.val]) rfl (by kernel_rfl)) ?_
 refine VD.one rfl ?_
 refine Zv (cs':=[P6.val,P7.val,P8.val]) rfl YA ?_
 refine VL.back (D':=[]) (by kernel_rfl) (aF.nil) ?_
 refine Zw rfl (eO rfl) ?_
 refine VD.to (fun _ _ h=>h) ?_
 refine VC.keep (ρ':=[(10,ptr z6 0),(11,.nilIface)]) [10,11] rfl ?_
 cases hS
 exact VC.ret (hG (vs:=[.agg #[P6.val,P7.val,P8.val],.nilIface]) (.inr rfl) rfl (dS.cell AA rfl rfl Rd.blk (dS.tmp rfl (dS.nil))) (⟨P6,P7,P8⟩,.nil) rfl rfl (by (try dsimp only); exact cA.out) (fun _ _=>trivial))
theorem IZ (aA:cF) (A7:Sv aC) (jE:Sv aC) (name_3:bB) {r:bR×jY×eY} (hS:Sh.SL aA.pl A7.l jE.l name_3=some r) :
 Ct Tryz.prog 231 [.agg (aH aA).toArray,A7.val,jE.val,str name_3] (aA.bH.ok.and (aA.aX.ok.and (aA.bQ.ok.and (aA.aN.ok.and (aA.aR.ok.and (aA.aO.ok.and (aA.aS.ok.and (aA.bC.ok.and (aA.bE.ok.and (aA.bT.ok.and (aA.bJ.ok.and (A7.ok.and jE.ok)))))))))))) (Ow.emp) (X:=cF×jA×Er) (fun x => .tuple #[.agg (bM.enc x.1).toArray,.agg (bM.enc x.2.1).toArray,x.2.2.val]) (fun x=>r=(x.1.pl,x.2.1.pl,x.2.2.pl)) (fun x=>(x.1.m.and (x.2.1.m.and x.2.2.ok))) (fun x=>Ow.emp):=by
 refine Zo Tryz.func231 Tryz.ntmps231 fun c => ?_
 unfold Sh.SL at hS
 refine Zq (Zr ?_)
 refine VL.box (cs:=(aH aA)) rfl rfl (by decide) fun wM => ?_
 refine VL.alloc (cs:=[.slice none 0 0,.slice none 0 0,.slice none 0 0,str [],i64 0,str [],i64 0,str [],.slice none 0 0,.slice none 0 0,i64 0,str [],str [],i64 0,.slice none 0 0,.slice none 0 0,.slice none 0 0,.slice none 0 0,.slice none 0 0,.slice none 0 0,i64 0]) (by kernel_rfl) (by decide) fun HW => ?_
 refine VL.alloc (cs:=[.slice none 0 0,.slice none 0 0,.slice none 0 0]) (by kernel_rfl) (by decide) fun aUC => ?_
 refine Zy ?_
 refine Zq (Zr ?_)
 refine Zm ?_
 refine Zu (cD cL rfl rfl) ?_
 obtain ⟨DY,RH,hS⟩:=aK hS
 refine VL.cU (HR aA RH) rfl (by decide) ?_
 rintro yK rfl
 try dsimp only
 refine Zy ?_
 obtain ⟨oP,aJP,hS⟩:=aK hS
 refine VL.cU (aDi A7 yK jE [72,69,65,68] name_3 aJP) rfl (by decide) ?_
 rintro ⟨dF,aG3⟩ rfl
 try dsimp only
 refine Zm ?_
 refine Zu (aW rfl rfl) ?_
 refine Zu (aW rfl rfl) ?_
 refine VL.alloc (cs:=[.slice none 0 0,.slice none 0 0,.slice none 0 0]) (by kernel_rfl) (by decide) fun aTy => ?_
 refine Zv (cs':=[dF.files.val,dF.entries.val,dF.conflicts.val]) rfl YA ?_
 refine Zy ?_
 refine VC.keep (ρ':=[(4,ptr wM 0),(8,ptr HW 0),(9,ptr aUC 0),(11,ptr aTy 0),(12,aG3.val)]) [4,8,9,11,12] rfl ?_
 refine Zq (Zq (Zr ?_))
 refine Zm ?_
 refine Zu (jM Tryz.underlying26 rfl) ?_
 refine Zl ?_
 refine rE hS (fun h24 hS => ?_) (fun h24 hS => ?_)
 ·
  refine Zq ?_
  cases hS
 refine Zk ?_
 refine Zq (Zr ?_)
 refine Zu (cD cL rfl rfl) ?_
 refine Zu (cD AA rfl rfl) ?_
 obtain ⟨TB,aBN,hS⟩:=aK hS
 refine VL.cU (ZL aA dF aBN) rfl (by decide) ?_
 rintro ⟨AP,aG8⟩ rfl
 try dsimp only
 refine Zm ?_
 refine Zu (aW rfl rfl) ?_
 refine Zu (aW rfl rfl) ?_
 refine VL.alloc (cs:=[.slice none 0 0,.slice none 0 0,.slice none 0 0,str [],i64 0,str [],i64 0,str [],.slice none 0 0,.slice none 0 0,i64 0,str [],str [],i64 0,.slice none 0 0,.slice none 0 0,.slice none 0 0,.slice none 0 0,.slice none 0 0,.slice none 0 0,i64 0]) (by kernel_rfl) (by decide) fun a4l => ?_
 refine Zv (cs':=(aH AP)) rfl gG ?_
 refine Zy ?_
 refine VC.keep (ρ':=[(8,ptr HW 0),(9,ptr aUC 0),(11,ptr aTy 0),(12,aG8.val),(13,ptr a4l 0)]) [8,9,11,12,13] rfl ?_
 refine Zq ?_
 refine VC.draw [(0,true),(1,true),(2,true),(3,false),(4,false),(5,true)] mixed (by kernel_rfl) (by kernel_rfl) (by kernel_rfl) ?_
 refine Zw rfl (cD cL rfl rfl) ?_
 refine Zw rfl (cD AA rfl rfl) ?_
 refine Zw rfl (bA rfl) ?_
 refine VD.one rfl ?_
 refine Zv (cs':=(aH AP)) rfl gG ?_
 refine VL.back (D':=[(1,.agg #[dF.files.val,dF.entries.val,dF.conflicts.val])]) (by kernel_rfl) (aF.cons rfl (cD AA rfl rfl) (aF.nil)) ?_
 refine VD.one rfl ?_
 refine Zv (cs':=[dF.files.val,dF.entries.val,dF.conflicts.val]) rfl YA ?_
 refine VL.back (D':=[]) (by kernel_rfl) (aF.nil) ?_
 refine Zw rfl (eO rfl) ?_
 refine VD.to (fun _ _ h=>h) ?_
 cases hS
 exact VC.ret (hG (vs:=[.agg (aH AP).toArray,.agg #[dF.files.val,dF.entries.val,dF.conflicts.val],aG8.val]) (.inr rfl) rfl (dS.cell cL rfl rfl Rd.blk (dS.cell AA rfl rfl Rd.blk (dS.tmp rfl (dS.nil)))) (AP,⟨dF.files,dF.entries,dF.conflicts⟩,aG8) rfl rfl (by (try dsimp only); exact cA.out) (fun _ _=>trivial))
end Go.Proofs.YtcenmlklkpgmnabGreatDoor
end

section
set_option linter.unusedVariables false
namespace Go.Proofs.YtcenmlklkpgmnabGreatDoor
set_option maxHeartbeats 40000000
set_option maxRecDepth 100000
set_option synthInstance.maxSize 2000
set_option synthInstance.maxHeartbeats 1000000
open Go.RowKit Go.V
open Go.S hiding bB
theorem aGj (aA:cF) (fD:bB) {r:bR×Bool×eY} (hS:Sh.WK aA.pl fD=some r) :
 Ct Tryz.prog 168 [.agg (aH aA).toArray,str fD] (aA.bH.ok.and (aA.aX.ok.and (aA.bQ.ok.and (aA.aN.ok.and (aA.aR.ok.and (aA.aO.ok.and (aA.aS.ok.and (aA.bC.ok.and (aA.bE.ok.and (aA.bT.ok.and aA.bJ.ok)))))))))) (Ow.emp) (X:=cF×Bool×Er) (fun x => .tuple #[.agg (bM.enc x.1).toArray,.bool x.2.1,x.2.2.val]) (fun x=>r=(x.1.pl,x.2.1,x.2.2.pl)) (fun x=>(x.1.m.and x.2.2.ok)) (fun x=>Ow.emp):=by
 refine Zo Tryz.func168 Tryz.ntmps168 fun c => ?_
 unfold Sh.WK at hS
 refine Zq (Zr ?_)
 refine VL.box (cs:=(aH aA)) rfl rfl (by decide) fun dQ => ?_
 refine VL.alloc (cs:=[.slice none 0 0,.slice none 0 0,.slice none 0 0,str [],i64 0,str [],i64 0,str [],.slice none 0 0,.slice none 0 0,i64 0,str [],str [],i64 0,.slice none 0 0,.slice none 0 0,.slice none 0 0,.slice none 0 0,.slice none 0 0,.slice none 0 0,i64 0]) (by kernel_rfl) (by decide) fun oS => ?_
 refine Zy ?_
 refine Zq (Zr ?_)
 refine Zu (cD cL rfl rfl) ?_
 refine Zm ?_
 obtain ⟨A5,aES,hS⟩:=aK hS
 refine Zu (bZ (CW aA fD aES) rfl (fun _ _=>rfl)) ?_
 refine Zm ?_
 refine Zu (aW rfl rfl) ?_
 refine Zu (aW rfl rfl) ?_
 refine Zy ?_
 refine VC.keep (ρ':=[(1,str fD),(2,ptr dQ 0),(4,ptr oS 0),(7,i64 A5.1),(8,.bool A5.2)]) [1,2,4,7,8] rfl ?_
 refine Zq ?_
 refine VC.draw [(0,true),(1,true),(2,true),(3,true),(4,true),(5,false),(6,true),(7,true)] mixed (by kernel_rfl) (by kernel_rfl) (by kernel_rfl) ?_
 refine Zw rfl (aB eC rfl) ?_
 refine Zw rfl (aB pO rfl) ?_
 refine Zw rfl (aB E9 rfl) ?_
 refine Zw rfl (aJ eP rfl rfl) ?_
 refine Zw rfl (cD cL rfl rfl) ?_
 refine VD.one rfl ?_
 obtain ⟨iK,aJY,hS⟩:=aK hS
 refine VL.cU (aEP aA aJY) rfl (by decide) ?_
 rintro IB rfl
 try dsimp only
 refine VL.back (D':=[(3,i64 aA.aG),(2,ptr dQ 4),(1,ptr dQ 3),(0,ptr dQ 0)]) (by kernel_rfl) (aF.cons rfl (aJ eP rfl rfl) (aF.cons rfl (aB E9 rfl) (aF.cons rfl (aB pO rfl) (aF.cons rfl (aB eC rfl) (aF.nil))))) ?_
 refine Zw rfl (eO rfl) ?_
 refine Zw rfl (eO rfl) ?_
 refine VD.to (fun _ _ h=>h) ?_
 refine Zq (Zb (Zq (Zr ?_)))
 refine Zm ?_
 refine Zu (lQ rfl) ?_
 refine Zy ?_
 refine VC.keep (ρ':=[(1,str fD),(2,ptr dQ 0),(4,ptr oS 0),(7,i64 A5.1),(9,i64 aA.aG),(10,IB.val),(27,.bool (!A5.2))]) [1,2,4,7,9,10,27] rfl ?_
 refine iL hS (fun h27 hS => ?_) (fun h27 hS => ?_)
 ·
  refine Zq ?_
  cases hS
 refine Zq (Zr ?_)
 refine Zm ?_
 refine Zu (gV rfl rfl) ?_
 refine Zy ?_
 refine Zc hS (fun h32 hS => ?_) (fun h32 hS => ?_)
 ·
  refine Zq ?_
  cases hS
 refine Zq (Zr ?_)
 refine Zu (cD cL rfl rfl) ?_
 obtain ⟨aO6,a0j,hS⟩:=aK hS
 refine Zu (bZ (aGh aA a0j) rfl (fun _ _=>rfl)) ?_
 refine Zu (lQ rfl) ?_
 refine Zy ?_
 refine VC.keep (ρ':=[(1,str fD),(2,ptr dQ 0),(4,ptr oS 0),(7,i64 A5.1),(9,i64 aA.aG),(10,IB.val),(37,.bool (!aO6))]) [1,2,4,7,9,10,37] rfl ?_
 refine iL hS (fun h37 hS => ?_) (fun h37 hS => ?_)
 ·
  refine Zq ?_
  cases hS
 refine Zk ?_
 refine Zq (Zr ?_)
 refine Zu (aB eC rfl) ?_
 refine Zu (aB kZ rfl) ?_
 refine Zu (aJ u6 rfl rfl) ?_
 refine Zm ?_
 obtain ⟨sO,aQW,aPh,hS⟩:=c6 hS
 refine Zu (e8 (s:=aA.bQ) Tryz.underlying51 pP rfl rfl aQW (bN aQW aPh)) ?_
 refine Zu (aB X6 rfl) ?_
 refine Zu (FT (s:=aA.bQ) eP rfl aPh rfl) ?_
 refine Zy ?_
 refine VC.keep (ρ':=[(1,str fD),(2,ptr dQ 0),(4,ptr oS 0),(9,i64 aA.aG),(10,IB.val),(11,i64 sO.dO)]) [1,2,4,9,10,11] rfl ?_
 refine Zq (Zq (Zr ?_))
 refine Zy ?_
 obtain ⟨aZ1,a0s,hS⟩:=aK hS
 refine Zu (bZ (LD IB sO.dO aA.aG a0s) rfl (fun _ _=>rfl)) ?_
 refine Zl ?_
 refine iL hS (fun h53 hS => ?_) (fun h53 hS => ?_)
 ·
  refine Zq ?_
  cases hS
 refine Zk ?_
 refine Zq (Zr ?_)
 refine Zu (cD cL rfl rfl) ?_
 refine Zm ?_
 obtain ⟨aZ2,a0t,hS⟩:=aK hS
 refine VL.cU (AR aA sO.dO a0t) rfl (by decide) ?_
 rintro aCC rfl
 try dsimp only
 refine Zy ?_
 refine VC.keep (ρ':=[(1,str fD),(2,ptr dQ 0),(4,ptr oS 0),(9,i64 aA.aG),(10,IB.val),(11,i64 sO.dO),(12,aCC.val)]) [1,2,4,9,10,11,12] rfl ?_
 refine Zq (Zq (Zr ?_))
 refine Zy ?_
 obtain ⟨aZ3,a0u,hS⟩:=aK hS
 refine Zu (bZ (LD IB aA.aG sO.dO a0u) rfl (fun _ _=>rfl)) ?_
 refine Zl ?_
 refine iL hS (fun h62 hS => ?_) (fun h62 hS => ?_)
 ·
  refine Zq (Zq ?_)
  cases hS
 refine Zk ?_
 refine Zq ?_
 refine VC.aFJ (n:=10) (listed := #[true,true,true,true,true,true,false,true,true,false,false,false,false,false,false,false,false,false]) [(0,true),(1,true),(2,true),(3,true),(4,true),(5,true),(7,true),(8,true)] mixed (by kernel_rfl) (by kernel_rfl) (by kernel_rfl) (by kernel_rfl) ?_
 refine VD.q rfl (cD cL rfl rfl) (by decide) ?_
 refine VD.q rfl (cD cL rfl rfl) (by decide) ?_
 refine VD.q rfl (bA rfl) (by decide) ?_
 refine VD.q rfl (bA rfl) (by decide) ?_
 refine VD.q rfl (bA rfl) (by decide) ?_
 obtain ⟨aCa,aLS,hS⟩:=aK hS
 refine VD.q rfl (bZ (H7 IB aA.aG sO.dO aLS) rfl (fun _ _=>rfl)) (by decide) ?_
 refine VD.q rfl (bA rfl) (by decide) ?_
 refine VD.q rfl (bA rfl) (by decide) ?_
 obtain ⟨aSB,aLT,hS⟩:=aK hS
 obtain ⟨Y2,aF2,hS⟩:=aK hS
 refine VD.toG fun hcl => ?_
 refine VG.fork (l:=[6,14]) (n:=9) (by kernel_rfl) rfl fun i hi => ?_
 obtain rfl | rfl:i=6∨i=14:=by simpa using hi
 ·
  refine QL.of rfl ?_
  refine VL.cU (AR aA aCa aLT) rfl (by decide) ?_
  rintro ND rfl
  try dsimp only
  refine VL.B0 (D':=[(0,.agg (aH aA).toArray)]) (listed' := #[true,true,true,true,true,true,true,true,true,false,false,false,false,false,false,false,false,false]) (aF.cons rfl (cD cL rfl rfl) (aF.nil)) (by kernel_rfl) (by kernel_rfl) ?_
  refine VG.fork (l:=[9,14]) (n:=8) (by kernel_rfl) rfl fun i hi => ?_
  obtain rfl | rfl:i=9∨i=14:=by simpa using hi
  ·
   refine QL.of rfl ?_
   refine VL.cU (IZ aA ND aCC fD aF2) rfl (by decide) ?_
   rintro ⟨oZ,fB,o3⟩ rfl
   try dsimp only
   refine VL.B0 (D':=[]) (listed' := #[true,true,true,true,true,true,true,true,true,true,false,false,false,false,false,false,false,false]) (aF.nil) (by kernel_rfl) (by kernel_rfl) ?_
   refine VG.ord [(10,true),(11,true),(12,true),(13,true),(14,false),(15,false),(16,false),(17,true)] (by kernel_rfl) (qZ (by kernel_rfl)) (by kernel_rfl) ?_
   refine Zw rfl (bA rfl) ?_
   refine Zw rfl (aW rfl rfl) ?_
   refine Zw rfl (aW rfl rfl) ?_
   refine Zw rfl (aW rfl rfl) ?_
   refine VD.one rfl ?_
   refine VL.alloc (cs:=[.slice none 0 0,.slice none 0 0,.slice none 0 0]) (by kernel_rfl) (by decide) fun D3 => ?_
   refine VL.back (D':=[(13,o3.val),(12,.agg #[fB.files.val,fB.entries.val,fB.conflicts.val]),(11,.agg (aH oZ).toArray),(10,.tuple #[.agg (aH oZ).toArray,.agg #[fB.files.val,fB.entries.val,fB.conflicts.val],o3.val])]) (by kernel_rfl) (aF.cons rfl (aW rfl rfl) (aF.cons rfl (aW rfl rfl) (aF.cons rfl (aW rfl rfl) (aF.cons rfl (bA rfl) (aF.nil))))) ?_
   refine VD.one rfl ?_
   refine Zv (cs':=(aH oZ)) rfl gG ?_
   refine VL.back (D':=[(13,o3.val),(12,.agg #[fB.files.val,fB.entries.val,fB.conflicts.val])]) (by kernel_rfl) (aF.cons rfl (aW rfl rfl) (aF.cons rfl (aW rfl rfl) (aF.nil))) ?_
   refine VD.one rfl ?_
   refine Zv (cs':=[fB.files.val,fB.entries.val,fB.conflicts.val]) rfl YA ?_
   refine VL.back (D':=[(13,o3.val)]) (by kernel_rfl) (aF.cons rfl (aW rfl rfl) (aF.nil)) ?_
   refine Zw rfl (eO rfl) ?_
   refine VD.to (fun _ _ h=>h) ?_
   refine VC.keep (ρ':=[(1,str fD),(2,ptr dQ 0),(4,ptr oS 0),(9,i64 aA.aG),(11,i64 sO.dO),(13,ptr D3 0),(6,o3.val)]) [1,2,4,9,11,13,6] rfl ?_
   refine Zq (Zr ?_)
   refine Zm ?_
   obtain ⟨b92,hS⟩:=bU hS
   obtain ⟨HV,UT,hS⟩:=qT hS
   refine Zu (YN rfl rfl b92 UT) ?_
   refine Zy ?_
   refine Zq (Zb (Zq (Zr ?_)))
   refine Zm ?_
   refine Zu (jM Tryz.underlying26 rfl) ?_
   refine Zy ?_
   refine rE hS (fun h93 hS => ?_) (fun h93 hS => ?_)
   ·
    refine Zq ?_
    cases hS
   refine Zq (Zr ?_)
   refine Zu (aB D7 rfl) ?_
   refine Zu (aJ x6 rfl rfl) ?_
   refine Zu (dX (s:=fB.conflicts) Tryz.underlying62 rfl) ?_
   refine Zu (iZ rfl rfl) ?_
   refine Zy ?_
   refine VC.keep (ρ':=[(2,ptr dQ 0),(4,ptr oS 0),(9,i64 aA.aG),(11,i64 sO.dO),(13,ptr D3 0),(14,str HV),(98,.bool (decide (0 < (fB.conflicts.l.length:Int))))]) [2,4,9,11,13,14,98] rfl ?_
   refine Zc hS (fun h98 hS => ?_) (fun h98 hS => ?_)
   ·
    refine Zq ?_
    cases hS
   refine Zq (Zr ?_)
   refine Zu (cD cL rfl rfl) ?_
   obtain ⟨aCT,O6,hS⟩:=aK hS
   refine Zu (bZ (HS oZ O6) rfl (fun _ _=>rfl)) ?_
   refine Zu (lQ rfl) ?_
   refine Zy ?_
   refine iL hS (fun h111 hS => ?_) (fun h111 hS => ?_)
   ·
    refine Zq ?_
    cases hS
   refine Zk ?_
   refine Zq (Zr ?_)
   refine Zu (cD cL rfl rfl) ?_
   refine Zu (aB tE rfl) ?_
   refine Zu (aJ jS rfl rfl) ?_
   refine Zy ?_
   refine VL.lit (α:=Int) (xs:=[.tmp 120,.tmp 121]) (vs:=[i64 aA.aG,i64 sO.dO]) [aA.aG,sO.dO] Tryz.underlying32 kI (by decide) rfl rfl rfl rfl (by decide) (fun _ _ _ _=>trivial) (by decide) (fun WN PA => ?_) (by decide)
   replace hS:=bV PA hS
   refine Zm ?_
   obtain ⟨aCV,O7,hS⟩:=aK hS
   refine VL.cU (yW oZ fB.files WN HV O7) rfl (by decide) ?_
   rintro tN rfl
   try dsimp only
   refine Zv (cs':=(aH tN)) rfl gG ?_
   refine Zy ?_
   refine VC.keep (ρ':=[(4,ptr oS 0),(5,.bool false),(6,.nilIface)]) [4,5,6] rfl ?_
   cases hS
   exact VC.ret (hG (vs:=[.agg (aH tN).toArray,.bool false,.nilIface]) (.inr rfl) rfl (dS.cell cL rfl rfl Rd.blk (dS.tmp rfl (dS.tmp rfl (dS.nil)))) (tN,false,.nil) rfl rfl (by (try dsimp only); exact cA.out) (fun _ _=>trivial))
  refine QL.of rfl ?_
  refine VL.alloc (cs:=[.slice none 0 0,.slice none 0 0,.slice none 0 0]) (by kernel_rfl) (by decide) fun D3 => ?_
  refine VL.B0 (D':=[(0,.agg (aH aA).toArray)]) (listed' := #[true,true,true,true,true,true,true,true,true,false,false,false,false,false,true,false,false,false]) (aF.cons rfl (cD cL rfl rfl) (aF.nil)) (by kernel_rfl) (by kernel_rfl) ?_
  refine VG.ord [(9,false),(10,true),(11,true),(12,true),(13,true),(15,false),(16,false),(17,true)] (by kernel_rfl) (qZ (by kernel_rfl)) (by kernel_rfl) ?_
  refine VD.one rfl ?_
  refine VL.cU (IZ aA ND aCC fD aF2) rfl (by decide) ?_
  rintro ⟨oZ,fB,o3⟩ rfl
  try dsimp only
  refine VL.back (D':=[]) (by kernel_rfl) (aF.nil) ?_
  refine Zw rfl (bA rfl) ?_
  refine Zw rfl (aW rfl rfl) ?_
  refine Zw rfl (aW rfl rfl) ?_
  refine Zw rfl (aW rfl rfl) ?_
  refine VD.one rfl ?_
  refine Zv (cs':=(aH oZ)) rfl gG ?_
  refine VL.back (D':=[(13,o3.val),(12,.agg #[fB.files.val,fB.entries.val,fB.conflicts.val])]) (by kernel_rfl) (aF.cons rfl (aW rfl rfl) (aF.cons rfl (aW rfl rfl) (aF.nil))) ?_
  refine VD.one rfl ?_
  refine Zv (cs':=[fB.files.val,fB.entries.val,fB.conflicts.val]) rfl YA ?_
  refine VL.back (D':=[(13,o3.val)]) (by kernel_rfl) (aF.cons rfl (aW rfl rfl) (aF.nil)) ?_
  refine Zw rfl (eO rfl) ?_
  refine VD.to (fun _ _ h=>h) ?_
  refine VC.keep (ρ':=[(1,str fD),(2,ptr dQ 0),(4,ptr oS 0),(9,i64 aA.aG),(11,i64 sO.dO),(13,ptr D3 0),(6,o3.val)]) [1,2,4,9,11,13,6] rfl ?_
  refine Zq (Zr ?_)
  refine Zm ?_
  obtain ⟨b92,hS⟩:=bU hS
  obtain ⟨HV,UT,hS⟩:=qT hS
  refine Zu (YN rfl rfl b92 UT) ?_
  refine Zy ?_
  refine Zq (Zb (Zq (Zr ?_)))
  refine Zm ?_
  refine Zu (jM Tryz.underlying26 rfl) ?_
  refine Zy ?_
  refine rE hS (fun h93 hS => ?_) (fun h93 hS => ?_)
  ·
   refine Zq ?_
   cases hS
  refine Zq (Zr ?_)
  refine Zu (aB D7 rfl) ?_
  refine Zu (aJ x6 rfl rfl) ?_
  refine Zu (dX (s:=fB.conflicts) Tryz.underlying62 rfl) ?_
  refine Zu (iZ rfl rfl) ?_
  refine Zy ?_
  refine VC.keep (ρ':=[(2,ptr dQ 0),(4,ptr oS 0),(9,i64 aA.aG),(11,i64 sO.dO),(13,ptr D3 0),(14,str HV),(98,.bool (decide (0 < (fB.conflicts.l.length:Int))))]) [2,4,9,11,13,14,98] rfl ?_
  refine Zc hS (fun h98 hS => ?_) (fun h98 hS => ?_)
  ·
   refine Zq ?_
   cases hS
  refine Zq (Zr ?_)
  refine Zu (cD cL rfl rfl) ?_
  obtain ⟨aCT,O6,hS⟩:=aK hS
  refine Zu (bZ (HS oZ O6) rfl (fun _ _=>rfl)) ?_
  refine Zu (lQ rfl) ?_
  refine Zy ?_
  refine iL hS (fun h111 hS => ?_) (fun h111 hS => ?_)
  ·
   refine Zq ?_
   cases hS
  refine Zk ?_
  refine Zq (Zr ?_)
  refine Zu (cD cL rfl rfl) ?_
  refine Zu (aB tE rfl) ?_
  refine Zu (aJ jS rfl rfl) ?_
  refine Zy ?_
  refine VL.lit (α:=Int) (xs:=[.tmp 120,.tmp 121]) (vs:=[i64 aA.aG,i64 sO.dO]) [aA.aG,sO.dO] Tryz.underlying32 kI (by decide) rfl rfl rfl rfl (by decide) (fun _ _ _ _=>trivial) (by decide) (fun WN PA => ?_) (by decide)
  replace hS:=bV PA hS
  refine Zm ?_
  obtain ⟨aCV,O7,hS⟩:=aK hS
  refine VL.cU (yW oZ fB.files WN HV O7) rfl (by decide) ?_
  rintro tN rfl
  try dsimp only
  refine Zv (cs':=(aH tN)) rfl gG ?_
  refine Zy ?_
  refine VC.keep (ρ':=[(4,ptr oS 0),(5,.bool false),(6,.nilIface)]) [4,5,6] rfl ?_
  cases hS
  exact VC.ret (hG (vs:=[.agg (aH tN).toArray,.bool false,.nilIface]) (.inr rfl) rfl (dS.cell cL rfl rfl Rd.blk (dS.tmp rfl (dS.tmp rfl (dS.nil)))) (tN,false,.nil) rfl rfl (by (try dsimp only); exact cA.out) (fun _ _=>trivial))
 refine QL.of rfl ?_
 refine VL.alloc (cs:=[.slice none 0 0,.slice none 0 0,.slice none 0 0]) (by kernel_rfl) (by decide) fun D3 => ?_
 refine VL.B0 (D':=[(5,i64 aCa),(1,.agg (aH aA).toArray),(0,.agg (aH aA).toArray)]) (listed' := #[true,true,true,true,true,true,false,true,true,false,false,false,false,false,true,false,false,false]) (aF.cons rfl (bZ (H7 IB aA.aG sO.dO aLS) rfl (fun _ _=>rfl)) (aF.cons rfl (cD cL rfl rfl) (aF.cons rfl (cD cL rfl rfl) (aF.nil)))) (by kernel_rfl) (by kernel_rfl) ?_
 refine VG.ord [(6,false),(9,false),(10,true),(11,true),(12,true),(13,true),(15,false),(16,false),(17,true)] (by kernel_rfl) (qZ (by kernel_rfl)) (by kernel_rfl) ?_
 refine VD.one rfl ?_
 refine VL.cU (AR aA aCa aLT) rfl (by decide) ?_
 rintro ND rfl
 try dsimp only
 refine VL.back (D':=[(0,.agg (aH aA).toArray)]) (by kernel_rfl) (aF.cons rfl (cD cL rfl rfl) (aF.nil)) ?_
 refine VD.one rfl ?_
 refine VL.cU (IZ aA ND aCC fD aF2) rfl (by decide) ?_
 rintro ⟨oZ,fB,o3⟩ rfl
 try dsimp only
 refine VL.back (D':=[]) (by kernel_rfl) (aF.nil) ?_
 refine Zw rfl (bA rfl) ?_
 refine Zw rfl (aW rfl rfl) ?_
 refine Zw rfl (aW rfl rfl) ?_
 refine Zw rfl (aW rfl rfl) ?_
 refine VD.one rfl ?_
 refine Zv (cs':=(aH oZ)) rfl gG ?_
 refine VL.back (D':=[(13,o3.val),(12,.agg #[fB.files.val,fB.entries.val,fB.conflicts.val])]) (by kernel_rfl) (aF.cons rfl (aW rfl rfl) (aF.cons rfl (aW rfl rfl) (aF.nil))) ?_
 refine VD.one rfl ?_
 refine Zv (cs':=[fB.files.val,fB.entries.val,fB.conflicts.val]) rfl YA ?_
 refine VL.back (D':=[(13,o3.val)]) (by kernel_rfl) (aF.cons rfl (aW rfl rfl) (aF.nil)) ?_
 refine Zw rfl (eO rfl) ?_
 refine VD.to (fun _ _ h=>h) ?_
 refine VC.keep (ρ':=[(1,str fD),(2,ptr dQ 0),(4,ptr oS 0),(9,i64 aA.aG),(11,i64 sO.dO),(13,ptr D3 0),(6,o3.val)]) [1,2,4,9,11,13,6] rfl ?_
 refine Zq (Zr ?_)
 refine Zm ?_
 obtain ⟨b92,hS⟩:=bU hS
 obtain ⟨HV,UT,hS⟩:=qT hS
 refine Zu (YN rfl rfl b92 UT) ?_
 refine Zy ?_
 refine Zq (Zb (Zq (Zr ?_)))
 refine Zm ?_
 refine Zu (jM Tryz.underlying26 rfl) ?_
 refine Zy ?_
 refine rE hS (fun h93 hS => ?_) (fun h93 hS => ?_)
 ·
  refine Zq ?_
  cases hS
 refine Zq (Zr ?_)
 refine Zu (aB D7 rfl) ?_
 refine Zu (aJ x6 rfl rfl) ?_
 refine Zu (dX (s:=fB.conflicts) Tryz.underlying62 rfl) ?_
 refine Zu (iZ rfl rfl) ?_
 refine Zy ?_
 refine VC.keep (ρ':=[(2,ptr dQ 0),(4,ptr oS 0),(9,i64 aA.aG),(11,i64 sO.dO),(13,ptr D3 0),(14,str HV),(98,.bool (decide (0 < (fB.conflicts.l.length:Int))))]) [2,4,9,11,13,14,98] rfl ?_
 refine Zc hS (fun h98 hS => ?_) (fun h98 hS => ?_)
 ·
  refine Zq ?_
  cases hS
 refine Zq (Zr ?_)
 refine Zu (cD cL rfl rfl) ?_
 obtain ⟨aCT,O6,hS⟩:=aK hS
 refine Zu (bZ (HS oZ O6) rfl (fun _ _=>rfl)) ?_
 refine Zu (lQ rfl) ?_
 refine Zy ?_
 refine iL hS (fun h111 hS => ?_) (fun h111 hS => ?_)
 ·
  refine Zq ?_
  cases hS
 refine Zk ?_
 refine Zq (Zr ?_)
 refine Zu (cD cL rfl rfl) ?_
 refine Zu (aB tE rfl) ?_
 refine Zu (aJ jS rfl rfl) ?_
 refine Zy ?_
 refine VL.lit (α:=Int) (xs:=[.tmp 120,.tmp 121]) (vs:=[i64 aA.aG,i64 sO.dO]) [aA.aG,sO.dO] Tryz.underlying32 kI (by decide) rfl rfl rfl rfl (by decide) (fun _ _ _ _=>trivial) (by decide) (fun WN PA => ?_) (by decide)
 replace hS:=bV PA hS
 refine Zm ?_
 obtain ⟨aCV,O7,hS⟩:=aK hS
 refine VL.cU (yW oZ fB.files WN HV O7) rfl (by decide) ?_
 rintro tN rfl
 try dsimp only
 refine Zv (cs':=(aH tN)) rfl gG ?_
 refine Zy ?_
 refine VC.keep (ρ':=[(4,ptr oS 0),(5,.bool false),(6,.nilIface)]) [4,5,6] rfl ?_
 cases hS
 exact VC.ret (hG (vs:=[.agg (aH tN).toArray,.bool false,.nilIface]) (.inr rfl) rfl (dS.cell cL rfl rfl Rd.blk (dS.tmp rfl (dS.tmp rfl (dS.nil)))) (tN,false,.nil) rfl rfl (by (try dsimp only); exact cA.out) (fun _ _=>trivial))
theorem aHh (aA:cF) (eF:rT) {r:bR×Bool×eY} (hS:Sh.aA0 aA.pl eF.pl=some r) :
 Ct Tryz.prog 106 [.agg (aH aA).toArray,.agg #[str eF.verb,str eF.name,i64 eF.n,str eF.text,.bool eF.force,eF.todo.val]] (aA.bH.ok.and (aA.aX.ok.and (aA.bQ.ok.and (aA.aN.ok.and (aA.aR.ok.and (aA.aO.ok.and (aA.aS.ok.and (aA.bC.ok.and (aA.bE.ok.and (aA.bT.ok.and (aA.bJ.ok.and eF.todo.ok))))))))))) (Ow.emp) (X:=cF×Bool×Er) (fun x => .tuple #[.agg (bM.enc x.1).toArray,.bool x.2.1,x.2.2.val]) (fun x=>r=(x.1.pl,x.2.1,x.2.2.pl)) (fun x=>(x.1.m.and x.2.2.ok)) (fun x=>Ow.emp):=by
 refine Zo Tryz.func106 Tryz.ntmps106 fun c => ?_
 unfold Sh.aA0 at hS
 refine Zq (Zr ?_)
 refine VL.box (cs:=(aH aA)) rfl rfl (by decide) fun dQ => ?_
 refine VL.box (cs:=[str eF.verb,str eF.name,i64 eF.n,str eF.text,.bool eF.force,eF.todo.val]) rfl rfl (by decide) fun jQ => ?_
 refine VL.alloc (cs:=[.slice none 0 0,.slice none 0 0,.slice none 0 0,str [],i64 0,str [],i64 0,str [],.slice none 0 0,.slice none 0 0,i64 0,str [],str [],i64 0,.slice none 0 0,.slice none 0 0,.slice none 0 0,.slice none 0 0,.slice none 0 0,.slice none 0 0,i64 0]) (by kernel_rfl) (by decide) fun oI => ?_
 refine Zy ?_
 refine VC.gK (S:=Er×Sv aC×Sv aI×Sv eV×bB×Int×bB×Int×bB×Sv cZ×Sv cZ×Int×bB×bB×Int×Sv aI×Sv aC×Sv dZ×Sv cI×Sv bB×Sv bB×Int) (fun sg=>(sg.1.pl,sg.2.1.l,sg.2.2.1.l,sg.2.2.2.1.l,sg.2.2.2.2.1,sg.2.2.2.2.2.1,sg.2.2.2.2.2.2.1,sg.2.2.2.2.2.2.2.1,sg.2.2.2.2.2.2.2.2.1,sg.2.2.2.2.2.2.2.2.2.1.l,sg.2.2.2.2.2.2.2.2.2.2.1.l,sg.2.2.2.2.2.2.2.2.2.2.2.1,sg.2.2.2.2.2.2.2.2.2.2.2.2.1,sg.2.2.2.2.2.2.2.2.2.2.2.2.2.1,sg.2.2.2.2.2.2.2.2.2.2.2.2.2.2.1,sg.2.2.2.2.2.2.2.2.2.2.2.2.2.2.2.1.l,sg.2.2.2.2.2.2.2.2.2.2.2.2.2.2.2.2.1.l,(sg.2.2.2.2.2.2.2.2.2.2.2.2.2.2.2.2.2.1.l.map dZ.pl),(sg.2.2.2.2.2.2.2.2.2.2.2.2.2.2.2.2.2.2.1.l.map cI.pl),sg.2.2.2.2.2.2.2.2.2.2.2.2.2.2.2.2.2.2.2.1.l,sg.2.2.2.2.2.2.2.2.2.2.2.2.2.2.2.2.2.2.2.2.1.l,sg.2.2.2.2.2.2.2.2.2.2.2.2.2.2.2.2.2.2.2.2.2)) (fun sg=>[(4,ptr oI 0),(6,sg.1.val)]) (fun sg=>(sg.1.ok.and (sg.2.1.ok.and (sg.2.2.1.ok.and (sg.2.2.2.1.ok.and (sg.2.2.2.2.2.2.2.2.2.1.ok.and (sg.2.2.2.2.2.2.2.2.2.2.1.ok.and (sg.2.2.2.2.2.2.2.2.2.2.2.2.2.2.2.1.ok.and (sg.2.2.2.2.2.2.2.2.2.2.2.2.2.2.2.2.1.ok.and (sg.2.2.2.2.2.2.2.2.2.2.2.2.2.2.2.2.2.1.ok.and (sg.2.2.2.2.2.2.2.2.2.2.2.2.2.2.2.2.2.2.1.ok.and (sg.2.2.2.2.2.2.2.2.2.2.2.2.2.2.2.2.2.2.2.1.ok.and sg.2.2.2.2.2.2.2.2.2.2.2.2.2.2.2.2.2.2.2.2.1.ok)))))))))))) (fun sg=>Ow.star (bD oI [sg.2.1.val,sg.2.2.1.val,sg.2.2.2.1.val,str sg.2.2.2.2.1,i64 sg.2.2.2.2.2.1,str sg.2.2.2.2.2.2.1,i64 sg.2.2.2.2.2.2.2.1,str sg.2.2.2.2.2.2.2.2.1,sg.2.2.2.2.2.2.2.2.2.1.val,sg.2.2.2.2.2.2.2.2.2.2.1.val,i64 sg.2.2.2.2.2.2.2.2.2.2.2.1,str sg.2.2.2.2.2.2.2.2.2.2.2.2.1,str sg.2.2.2.2.2.2.2.2.2.2.2.2.2.1,i64 sg.2.2.2.2.2.2.2.2.2.2.2.2.2.2.1,sg.2.2.2.2.2.2.2.2.2.2.2.2.2.2.2.1.val,sg.2.2.2.2.2.2.2.2.2.2.2.2.2.2.2.2.1.val,sg.2.2.2.2.2.2.2.2.2.2.2.2.2.2.2.2.2.1.val,sg.2.2.2.2.2.2.2.2.2.2.2.2.2.2.2.2.2.2.1.val,sg.2.2.2.2.2.2.2.2.2.2.2.2.2.2.2.2.2.2.2.1.val,sg.2.2.2.2.2.2.2.2.2.2.2.2.2.2.2.2.2.2.2.2.1.val,i64 sg.2.2.2.2.2.2.2.2.2.2.2.2.2.2.2.2.2.2.2.2.2] 66) (Ow.star (bD jQ [str eF.verb,str eF.name,i64 eF.n,str eF.text,.bool eF.force,eF.todo.val] 112) (Ow.star (bD dQ (aH aA) 66) (Ow.emp)))) hS ?_ ?_
 ·
  clear hS
  intro k26 hS
  refine Zq (Zr ?_)
  refine Zu (aB rX rfl) ?_
  refine Zu (aJ dD rfl rfl) ?_
  refine Zl ?_
  refine Zb (Zq (Zb ?_))
  refine VC.gK (S:=Unit) (fun (_:Unit)=>()) (fun (_:Unit)=>[(2,ptr dQ 0),(3,ptr jQ 0),(4,ptr oI 0)]) (fun (_:Unit)=>Mo.tt) (fun (_:Unit)=>Ow.star (bD oI [.slice none 0 0,.slice none 0 0,.slice none 0 0,str [],i64 0,str [],i64 0,str [],.slice none 0 0,.slice none 0 0,i64 0,str [],str [],i64 0,.slice none 0 0,.slice none 0 0,.slice none 0 0,.slice none 0 0,.slice none 0 0,.slice none 0 0,i64 0] 66) (Ow.star (bD jQ [str eF.verb,str eF.name,i64 eF.n,str eF.text,.bool eF.force,eF.todo.val] 112) (Ow.star (bD dQ (aH aA) 66) (Ow.emp)))) hS ?_ ?_
  ·
   clear hS
   intro k27 hS
   refine Zb (Zb ?_)
   refine VC.gK (S:=Unit) (fun (_:Unit)=>()) (fun (_:Unit)=>[(2,ptr dQ 0),(3,ptr jQ 0),(4,ptr oI 0)]) (fun (_:Unit)=>Mo.tt) (fun (_:Unit)=>Ow.star (bD oI [.slice none 0 0,.slice none 0 0,.slice none 0 0,str [],i64 0,str [],i64 0,str [],.slice none 0 0,.slice none 0 0,i64 0,str [],str [],i64 0,.slice none 0 0,.slice none 0 0,.slice none 0 0,.slice none 0 0,.slice none 0 0,.slice none 0 0,i64 0] 66) (Ow.star (bD jQ [str eF.verb,str eF.name,i64 eF.n,str eF.text,.bool eF.force,eF.todo.val] 112) (Ow.star (bD dQ (aH aA) 66) (Ow.emp)))) hS ?_ ?_
   ·
    clear hS
    intro k28 hS
    refine Zb (Zb (Zq (Zb (Zq (Zb (Zq (Zb (Zq (Zb (Zq (Zb (Zq (Zb (Zq (Zb (Zq (Zq (Zq (Zr ?_)))))))))))))))))))
    refine Zy ?_
    refine Zc hS (fun h9 hS => ?_) (fun h9 hS => ?_)
    ·
     refine Zx ?_
     refine VC.keep (ρ':=[(2,ptr dQ 0),(3,ptr jQ 0),(4,ptr oI 0)]) [2,3,4] rfl ?_
     refine Zq (Zr ?_)
     refine Zu (cD cL rfl rfl) ?_
     refine Zu (aB qE rfl) ?_
     refine Zu (aJ dD rfl rfl) ?_
     obtain ⟨p8,aUc,hS⟩:=aK hS
     refine VL.cU (aEJ aA eF.name aUc) rfl (by decide) ?_
     rintro ⟨lD,aIZ⟩ rfl
     try dsimp only
     refine Zm ?_
     refine Zu (aW rfl rfl) ?_
     refine Zu (aW rfl rfl) ?_
     refine Zv (cs':=(aH lD)) rfl gG ?_
     refine Zy ?_
     refine VC.keep (ρ':=[(4,ptr oI 0),(6,aIZ.val)]) [4,6] rfl ?_
     refine VC.eW (aIZ,lD.bH,lD.aX,lD.bQ,lD.aQ,lD.aG,lD.bK,lD.bI,lD.bP,lD.aN,lD.aR,lD.bO,lD.aZ,lD.aL,lD.aM,lD.aO,lD.aS,lD.bC,lD.bE,lD.bT,lD.bJ,lD.time) [4,6] (fun _ _ h=>h) hS rfl
    refine Zk ?_
    refine VC.keep (ρ':=[(2,ptr dQ 0),(3,ptr jQ 0),(4,ptr oI 0),(8,str eF.verb)]) [2,3,4,8] rfl ?_
    refine Zq (Zq (Zr ?_))
    refine Zy ?_
    refine Zc hS (fun h11 hS => ?_) (fun h11 hS => ?_)
    ·
     refine Zx ?_
     refine Zq ?_
     cases hS
    refine Zk ?_
    refine Zq (Zq (Zr ?_))
    refine Zy ?_
    refine Zc hS (fun h13 hS => ?_) (fun h13 hS => ?_)
    ·
     refine Zx ?_
     refine Zq (Zr ?_)
     refine Zu (cD cL rfl rfl) ?_
     refine Zu (cD rH rfl rfl) ?_
     obtain ⟨qA,aVF,hS⟩:=aK hS
     refine VL.cU (aEK aA eF aVF) rfl (by decide) ?_
     rintro ⟨lF,aI2⟩ rfl
     try dsimp only
     refine Zm ?_
     refine Zu (aW rfl rfl) ?_
     refine Zu (aW rfl rfl) ?_
     refine Zv (cs':=(aH lF)) rfl gG ?_
     refine Zy ?_
     refine VC.keep (ρ':=[(4,ptr oI 0),(6,aI2.val)]) [4,6] rfl ?_
     refine VC.eW (aI2,lF.bH,lF.aX,lF.bQ,lF.aQ,lF.aG,lF.bK,lF.bI,lF.bP,lF.aN,lF.aR,lF.bO,lF.aZ,lF.aL,lF.aM,lF.aO,lF.aS,lF.bC,lF.bE,lF.bT,lF.bJ,lF.time) [4,6] (fun _ _ h=>h) hS rfl
    refine Zk ?_
    refine Zq (Zq (Zr ?_))
    refine Zy ?_
    refine Zc hS (fun h15 hS => ?_) (fun h15 hS => ?_)
    ·
     refine Zx ?_
     refine Zq ?_
     cases hS
    refine Zk ?_
    refine Zq (Zq (Zr ?_))
    refine Zy ?_
    refine VC.keep (ρ':=[(2,ptr dQ 0),(3,ptr jQ 0),(4,ptr oI 0),(8,str eF.verb),(17,.bool (decide (eF.verb=[115,116,97,115,104])))]) [2,3,4,8,17] rfl ?_
    refine Zc hS (fun h17 hS => ?_) (fun h17 hS => ?_)
    ·
     refine Zx ?_
     refine Zq ?_
     cases hS
    refine Zk ?_
    refine Zq (Zq (Zr ?_))
    refine Zy ?_
    refine Zc hS (fun h19 hS => ?_) (fun h19 hS => ?_)
    ·
     refine Zx ?_
     refine Zq ?_
     cases hS
    refine Zk ?_
    refine Zq (Zq (Zr ?_))
    refine Zy ?_
    refine Zc hS (fun h21 hS => ?_) (fun h21 hS => ?_)
    ·
     refine Zx ?_
     refine Zq (Zq (Zr ?_))
     refine Zu (cD cL rfl rfl) ?_
     refine Zu (aB qE rfl) ?_
     refine Zu (aJ dD rfl rfl) ?_
     obtain ⟨aEk,aVj,hS⟩:=aK hS
     refine VL.cU (aGj aA eF.name aVj) rfl (by decide) ?_
     rintro ⟨aD5,aD6,aD7⟩ rfl
     try dsimp only
     refine Zu (aW rfl rfl) ?_
     refine Zu (aW rfl rfl) ?_
     refine Zu (aW rfl rfl) ?_
     refine Zv (cs':=(aH aD5)) rfl gG ?_
     refine Zy ?_
     refine VC.keep (ρ':=[(4,ptr oI 0),(5,.bool aD6),(6,aD7.val)]) [4,5,6] rfl ?_
     cases hS
     exact VC.ret (hG (vs:=[.agg (aH aD5).toArray,.bool aD6,aD7.val]) (.inr rfl) rfl (dS.cell cL rfl rfl Rd.blk (dS.tmp rfl (dS.tmp rfl (dS.nil)))) (aD5,aD6,aD7) rfl rfl (by (try dsimp only); exact cA.out) (fun _ _=>trivial))
    refine Zk ?_
    refine Zq (Zq (Zr ?_))
    refine Zy ?_
    refine Zc hS (fun h23 hS => ?_) (fun h23 hS => ?_)
    ·
     refine VC.eW () [2,3,4] (fun _ _ h=>h) hS rfl
    refine Zk ?_
    refine VC.keep (ρ':=[(2,ptr dQ 0),(3,ptr jQ 0),(4,ptr oI 0),(8,str eF.verb)]) [2,3,4,8] rfl ?_
    refine Zq (Zq (Zr ?_))
    refine Zy ?_
    refine Zc hS (fun h25 hS => ?_) (fun h25 hS => ?_)
    ·
     refine VC.eW () [2,3,4] (fun _ _ h=>h) hS rfl
    refine Zk ?_
    refine Zq (Zq (Zr ?_))
    refine Zy ?_
    refine Zc hS (fun h27 hS => ?_) (fun h27 hS => ?_)
    ·
     refine VC.eW () [2,3,4] (fun _ _ h=>h) hS rfl
    refine Zk ?_
    refine Zq (Zr ?_)
    refine Zy ?_
    refine Zc hS (fun h29 hS => ?_) (fun h29 hS => ?_)
    ·
     refine VC.eW () [2,3,4] (fun _ _ h=>h) hS rfl
    refine Zk ?_
    refine Zx ?_
    refine Zq (Zq ?_)
    cases hS
   clear hS
   rintro _ hS
   refine Zq (Zq ?_)
   cases hS
  clear hS
  rintro _ hS
  refine Zq (Zq ?_)
  cases hS
 clear hS
 rintro ⟨JH,fA,gQ,gR,UL,UM,KT,KU,KV,KW,KX,EH,EI,EJ,EK,EL,EM,EN,EO,EP,ER,ET⟩ hS
 refine Zq (Zr ?_)
 refine Zu (cD cL rfl rfl) ?_
 refine Zm ?_
 refine Zv (cs':=[fA.val,gQ.val,gR.val,str UL,i64 UM,str KT,i64 KU,str KV,KW.val,KX.val,i64 EH,str EI,str EJ,i64 EK,EL.val,EM.val,EN.val,EO.val,EP.val,ER.val,i64 ET]) rfl gG ?_
 refine Zy ?_
 cases hS
 exact VC.ret (hG (vs:=[.agg #[fA.val,gQ.val,gR.val,str UL,i64 UM,str KT,i64 KU,str KV,KW.val,KX.val,i64 EH,str EI,str EJ,i64 EK,EL.val,EM.val,EN.val,EO.val,EP.val,ER.val,i64 ET],.bool false,JH.val]) (.inr rfl) rfl (dS.cell cL rfl rfl Rd.blk (dS.tmp rfl (dS.tmp rfl (dS.nil)))) (⟨fA,gQ,gR,UL,UM,KT,KU,KV,KW,KX,EH,EI,EJ,EK,EL,EM,EN,EO,EP,ER,ET⟩,false,JH) rfl rfl (by (try dsimp only); exact cA.out) (fun _ _=>trivial))
theorem aKK (aA:cF) (eF:rT) {r:bR×Bool×eY} (hS:Sh.aDb aA.pl eF.pl=some r) :
 Ct Tryz.prog 68 [.agg (aH aA).toArray,.agg #[str eF.verb,str eF.name,i64 eF.n,str eF.text,.bool eF.force,eF.todo.val]] (aA.bH.ok.and (aA.aX.ok.and (aA.bQ.ok.and (aA.aN.ok.and (aA.aR.ok.and (aA.aO.ok.and (aA.aS.ok.and (aA.bC.ok.and (aA.bE.ok.and (aA.bT.ok.and (aA.bJ.ok.and eF.todo.ok))))))))))) (Ow.emp) (X:=cF×Bool×Er) (fun x => .tuple #[.agg (bM.enc x.1).toArray,.bool x.2.1,x.2.2.val]) (fun x=>r=(x.1.pl,x.2.1,x.2.2.pl)) (fun x=>(x.1.m.and x.2.2.ok)) (fun x=>Ow.emp):=by
 refine Zo Tryz.func68 Tryz.ntmps68 fun c => ?_
 unfold Sh.aDb at hS
 refine Zq (Zr ?_)
 refine VL.box (cs:=(aH aA)) rfl rfl (by decide) fun dQ => ?_
 refine VL.box (cs:=[str eF.verb,str eF.name,i64 eF.n,str eF.text,.bool eF.force,eF.todo.val]) rfl rfl (by decide) fun jQ => ?_
 refine VL.alloc (cs:=[.slice none 0 0,.slice none 0 0,.slice none 0 0,str [],i64 0,str [],i64 0,str [],.slice none 0 0,.slice none 0 0,i64 0,str [],str [],i64 0,.slice none 0 0,.slice none 0 0,.slice none 0 0,.slice none 0 0,.slice none 0 0,.slice none 0 0,i64 0]) (by kernel_rfl) (by decide) fun oI => ?_
 refine Zy ?_
 refine VC.gK (S:=Er×Sv aC×Sv aI×Sv eV×bB×Int×bB×Int×bB×Sv cZ×Sv cZ×Int×bB×bB×Int×Sv aI×Sv aC×Sv dZ×Sv cI×Sv bB×Sv bB×Int) (fun sg=>(sg.1.pl,sg.2.1.l,sg.2.2.1.l,sg.2.2.2.1.l,sg.2.2.2.2.1,sg.2.2.2.2.2.1,sg.2.2.2.2.2.2.1,sg.2.2.2.2.2.2.2.1,sg.2.2.2.2.2.2.2.2.1,sg.2.2.2.2.2.2.2.2.2.1.l,sg.2.2.2.2.2.2.2.2.2.2.1.l,sg.2.2.2.2.2.2.2.2.2.2.2.1,sg.2.2.2.2.2.2.2.2.2.2.2.2.1,sg.2.2.2.2.2.2.2.2.2.2.2.2.2.1,sg.2.2.2.2.2.2.2.2.2.2.2.2.2.2.1,sg.2.2.2.2.2.2.2.2.2.2.2.2.2.2.2.1.l,sg.2.2.2.2.2.2.2.2.2.2.2.2.2.2.2.2.1.l,(sg.2.2.2.2.2.2.2.2.2.2.2.2.2.2.2.2.2.1.l.map dZ.pl),(sg.2.2.2.2.2.2.2.2.2.2.2.2.2.2.2.2.2.2.1.l.map cI.pl),sg.2.2.2.2.2.2.2.2.2.2.2.2.2.2.2.2.2.2.2.1.l,sg.2.2.2.2.2.2.2.2.2.2.2.2.2.2.2.2.2.2.2.2.1.l,sg.2.2.2.2.2.2.2.2.2.2.2.2.2.2.2.2.2.2.2.2.2)) (fun sg=>[(4,ptr oI 0),(6,sg.1.val)]) (fun sg=>(sg.1.ok.and (sg.2.1.ok.and (sg.2.2.1.ok.and (sg.2.2.2.1.ok.and (sg.2.2.2.2.2.2.2.2.2.1.ok.and (sg.2.2.2.2.2.2.2.2.2.2.1.ok.and (sg.2.2.2.2.2.2.2.2.2.2.2.2.2.2.2.1.ok.and (sg.2.2.2.2.2.2.2.2.2.2.2.2.2.2.2.2.1.ok.and (sg.2.2.2.2.2.2.2.2.2.2.2.2.2.2.2.2.2.1.ok.and (sg.2.2.2.2.2.2.2.2.2.2.2.2.2.2.2.2.2.2.1.ok.and (sg.2.2.2.2.2.2.2.2.2.2.2.2.2.2.2.2.2.2.2.1.ok.and sg.2.2.2.2.2.2.2.2.2.2.2.2.2.2.2.2.2.2.2.2.1.ok)))))))))))) (fun sg=>Ow.star (bD oI [sg.2.1.val,sg.2.2.1.val,sg.2.2.2.1.val,str sg.2.2.2.2.1,i64 sg.2.2.2.2.2.1,str sg.2.2.2.2.2.2.1,i64 sg.2.2.2.2.2.2.2.1,str sg.2.2.2.2.2.2.2.2.1,sg.2.2.2.2.2.2.2.2.2.1.val,sg.2.2.2.2.2.2.2.2.2.2.1.val,i64 sg.2.2.2.2.2.2.2.2.2.2.2.1,str sg.2.2.2.2.2.2.2.2.2.2.2.2.1,str sg.2.2.2.2.2.2.2.2.2.2.2.2.2.1,i64 sg.2.2.2.2.2.2.2.2.2.2.2.2.2.2.1,sg.2.2.2.2.2.2.2.2.2.2.2.2.2.2.2.1.val,sg.2.2.2.2.2.2.2.2.2.2.2.2.2.2.2.2.1.val,sg.2.2.2.2.2.2.2.2.2.2.2.2.2.2.2.2.2.1.val,sg.2.2.2.2.2.2.2.2.2.2.2.2.2.2.2.2.2.2.1.val,sg.2.2.2.2.2.2.2.2.2.2.2.2.2.2.2.2.2.2.2.1.val,sg.2.2.2.2.2.2.2.2.2.2.2.2.2.2.2.2.2.2.2.2.1.val,i64 sg.2.2.2.2.2.2.2.2.2.2.2.2.2.2.2.2.2.2.2.2.2] 66) (Ow.star (bD jQ [str eF.verb,str eF.name,i64 eF.n,str eF.text,.bool eF.force,eF.todo.val] 112) (Ow.star (bD dQ (aH aA) 66) (Ow.emp)))) hS ?_ ?_
 ·
  clear hS
  intro k26 hS
  refine Zq (Zr ?_)
  refine Zu (aB rX rfl) ?_
  refine Zu (aJ dD rfl rfl) ?_
  refine Zl ?_
  refine Zb (Zq (Zr ?_))
  refine Zy ?_
  refine Zc hS (fun h22 hS => ?_) (fun h22 hS => ?_)
  ·
   refine Zr ?_
   refine Zu (cD cL rfl rfl) ?_
   refine Zu (aB qE rfl) ?_
   refine Zu (aJ dD rfl rfl) ?_
   obtain ⟨p7,aUY,hS⟩:=aK hS
   refine VL.cU (aKJ aA eF.name aUY) rfl (by decide) ?_
   rintro ⟨lC,aSx⟩ rfl
   try dsimp only
   refine Zm ?_
   refine Zu (aW rfl rfl) ?_
   refine Zu (aW rfl rfl) ?_
   refine Zv (cs':=(aH lC)) rfl gG ?_
   refine Za ?_
   refine VL.mt (aSx,lC.bH,lC.aX,lC.bQ,lC.aQ,lC.aG,lC.bK,lC.bI,lC.bP,lC.aN,lC.aR,lC.bO,lC.aZ,lC.aL,lC.aM,lC.aO,lC.aS,lC.bC,lC.bE,lC.bT,lC.bJ,lC.time) [4,6] (fun _ _ h=>h) hS rfl
  refine Zq (Zr ?_)
  refine Zy ?_
  refine VC.keep (ρ':=[(2,ptr dQ 0),(3,ptr jQ 0),(4,ptr oI 0),(8,str eF.verb),(31,.bool (decide (eF.verb=[114,109])))]) [2,3,4,8,31] rfl ?_
  refine Zc hS (fun h31 hS => ?_) (fun h31 hS => ?_)
  ·
   cases hS
  refine Zq (Zr ?_)
  refine Zy ?_
  refine Zc hS (fun h39 hS => ?_) (fun h39 hS => ?_)
  ·
   refine Zr ?_
   refine Zu (cD cL rfl rfl) ?_
   refine Zu (aB aCu rfl) ?_
   refine Zu (aJ dD rfl rfl) ?_
   obtain ⟨p9,aUz,hS⟩:=aK hS
   refine VL.cU (aEL aA eF.text aUz) rfl (by decide) ?_
   rintro ⟨lE,aTT⟩ rfl
   try dsimp only
   refine Zm ?_
   refine Zu (aW rfl rfl) ?_
   refine Zu (aW rfl rfl) ?_
   refine Zv (cs':=(aH lE)) rfl gG ?_
   refine Za ?_
   refine VL.mt (aTT,lE.bH,lE.aX,lE.bQ,lE.aQ,lE.aG,lE.bK,lE.bI,lE.bP,lE.aN,lE.aR,lE.bO,lE.aZ,lE.aL,lE.aM,lE.aO,lE.aS,lE.bC,lE.bE,lE.bT,lE.bJ,lE.time) [4,6] (fun _ _ h=>h) hS rfl
  refine Zq (Zr ?_)
  refine Zy ?_
  refine Zc hS (fun h48 hS => ?_) (fun h48 hS => ?_)
  ·
   refine Zq ?_
   cases hS
  refine Zq (Zr ?_)
  refine Zy ?_
  refine Zc hS (fun h55 hS => ?_) (fun h55 hS => ?_)
  ·
   refine Zq ?_
   cases hS
  refine Zq (Zr ?_)
  refine Zy ?_
  refine VC.keep (ρ':=[(2,ptr dQ 0),(3,ptr jQ 0),(4,ptr oI 0),(8,str eF.verb),(62,.bool (decide (eF.verb=[97,98,111,114,116])))]) [2,3,4,8,62] rfl ?_
  refine Zc hS (fun h62 hS => ?_) (fun h62 hS => ?_)
  ·
   cases hS
  refine Zq (Zr ?_)
  refine Zy ?_
  refine Zc hS (fun h69 hS => ?_) (fun h69 hS => ?_)
  ·
   cases hS
  refine Zq (Zr ?_)
  refine Zy ?_
  refine Zc hS (fun h76 hS => ?_) (fun h76 hS => ?_)
  ·
   cases hS
  refine Zq (Zq (Zr ?_))
  refine Zu (aB eC rfl) ?_
  refine Zu (aB tJ rfl) ?_
  refine Zu (aB H6 rfl) ?_
  refine Zu (aJ dD rfl rfl) ?_
  refine Zu (wZ rfl rfl) ?_
  refine Zl ?_
  refine VC.keep (ρ':=[(2,ptr dQ 0),(3,ptr jQ 0),(4,ptr oI 0),(13,.bool (!decide (aA.bK=[])))]) [2,3,4,13] rfl ?_
  refine rE hS (fun h13 hS => ?_) (fun h13 hS => ?_)
  ·
   refine Zq ?_
   cases hS
  refine Zk ?_
  refine Zq (Zr ?_)
  refine Zu (cD cL rfl rfl) ?_
  refine Zu (cD rH rfl rfl) ?_
  obtain ⟨aEa,aUS,hS⟩:=aK hS
  refine VL.cU (aHh aA eF aUS) rfl (by decide) ?_
  rintro ⟨aDM,aDN,aDO⟩ rfl
  try dsimp only
  refine Zu (aW rfl rfl) ?_
  refine Zu (aW rfl rfl) ?_
  refine Zu (aW rfl rfl) ?_
  refine Zv (cs':=(aH aDM)) rfl gG ?_
  refine Zy ?_
  refine VC.keep (ρ':=[(4,ptr oI 0),(5,.bool aDN),(6,aDO.val)]) [4,5,6] rfl ?_
  cases hS
  exact VC.ret (hG (vs:=[.agg (aH aDM).toArray,.bool aDN,aDO.val]) (.inr rfl) rfl (dS.cell cL rfl rfl Rd.blk (dS.tmp rfl (dS.tmp rfl (dS.nil)))) (aDM,aDN,aDO) rfl rfl (by (try dsimp only); exact cA.out) (fun _ _=>trivial))
 clear hS
 rintro ⟨JH,fA,gQ,gR,UL,UM,KT,KU,KV,KW,KX,EH,EI,EJ,EK,EL,EM,EN,EO,EP,ER,ET⟩ hS
 refine Zq (Zr ?_)
 refine Zu (cD cL rfl rfl) ?_
 refine Zm ?_
 refine Zv (cs':=[fA.val,gQ.val,gR.val,str UL,i64 UM,str KT,i64 KU,str KV,KW.val,KX.val,i64 EH,str EI,str EJ,i64 EK,EL.val,EM.val,EN.val,EO.val,EP.val,ER.val,i64 ET]) rfl gG ?_
 refine Zy ?_
 cases hS
 exact VC.ret (hG (vs:=[.agg #[fA.val,gQ.val,gR.val,str UL,i64 UM,str KT,i64 KU,str KV,KW.val,KX.val,i64 EH,str EI,str EJ,i64 EK,EL.val,EM.val,EN.val,EO.val,EP.val,ER.val,i64 ET],.bool false,JH.val]) (.inr rfl) rfl (dS.cell cL rfl rfl Rd.blk (dS.tmp rfl (dS.tmp rfl (dS.nil)))) (⟨fA,gQ,gR,UL,UM,KT,KU,KV,KW,KX,EH,EI,EJ,EK,EL,EM,EN,EO,EP,ER,ET⟩,false,JH) rfl rfl (by (try dsimp only); exact cA.out) (fun _ _=>trivial))
theorem aGy (JV:jV) {r:bB} (hS:Sh.WT JV.pl=some r) :
 Ct Tryz.prog 72 [.agg (mK JV).toArray] (JV.work.ok.and (JV.index.ok.and (JV.refs.ok.and (JV.gO.ok.and (JV.iE.ok.and (JV.gP.ok.and (JV.iF.ok.and JV.fK.ok))))))) (Ow.emp) (X:=Unit) (fun _=>str r) (fun _=>True) (fun _=>Mo.tt) (fun _=>Ow.emp):=by
 refine Zo Tryz.func72 Tryz.ntmps72 fun c => ?_
 unfold Sh.WT at hS
 refine Zq (Zr ?_)
 refine VL.box (cs:=(mK JV)) rfl rfl (by decide) fun fE => ?_
 refine Zy ?_
 refine Zq (Zr ?_)
 refine VL.alloc (cs:=[.slice none 0 0]) (by kernel_rfl) (by decide) fun jQ => ?_
 refine Zl ?_
 refine Zq (Zr ?_)
 refine Zu (cD JP rfl rfl) ?_
 refine VL.kH (⟨none,0,[]⟩:Sv UInt8) 5 ⟨rfl,rfl⟩ ?_
 refine VL.SD jQ (cs':=[(⟨none,0,[]⟩:Sv UInt8).val]) rfl ?_
 obtain ⟨tY,UR,hS⟩:=aK hS
 refine VL.bS (II jQ (⟨(⟨none,0,[]⟩:Sv UInt8)⟩:eS) JV UR) rfl (by decide) ?_
 rintro eT rfl
 try dsimp only
 refine Zl ?_
 refine Zq (Zr ?_)
 refine Zu (aB eG rfl) ?_
 obtain ⟨xV,aAI,hS⟩:=aK hS
 refine VL.bS (JB jQ eT aAI) rfl (by decide) ?_
 rintro aKG rfl
 try dsimp only
 refine Zu (R6 (s:=aKG) Tryz.underlying30 Tryz.underlying5 Tryz.underlying9 rfl) ?_
 refine Zy ?_
 cases hS
 exact Ze
theorem HA (aA:Sv bB) {r:List bB} (hS:Sh.sZ aA.l=some r) :
 Ct Tryz.prog 172 [aA.val] aA.ok (Ow.emp) (X:=Sv bB) (fun x=>x.val) (fun x=>r=x.l) (fun x=>Mo.tt) (fun x=>Sv.own x 9):=by
 refine Zo Tryz.func172 Tryz.ntmps172 fun c => ?_
 unfold Sh.sZ at hS
 refine Zq (Zr ?_)
 refine Zy ?_
 refine Zq (Zq (Zr ?_))
 refine Zm ?_
 refine Zu (ID (s:=aA) Tryz.underlying62 rfl) ?_
 refine Zl ?_
 refine VC.slnil (s:=aA) rfl (fun h4 => ?_) ?_
 ·
  have hS:(some [])=some r:=by
    simp [lt,gd,h4] at hS ⊢
    try exact hS
  refine Zq (Zr ?_)
  refine Zy ?_
  refine VC.kH (⟨none,0,[]⟩:Sv bB) 9 ⟨rfl,rfl⟩ ?_
  cases hS
  exact VC.ret (eB (.inr rfl) rfl rfl ⟨none,0,[]⟩ rfl rfl (by (try dsimp only); exact cA.out) (by (try dsimp only); exact dJ.out))
 refine Zk ?_
 refine Zq (Zr ?_)
 refine VL.aDz (α:=bB) Tryz.underlying62 a5D (by decide) (fun yN rK x7 => ?_)
 refine VL.kH yN 9 ⟨x7,rK⟩ ?_
 replace hS:=bV rK hS
 refine Zm ?_
 obtain ⟨b7,hS⟩:=bU hS
 refine VL.app (s:=yN) (r:=aA) Tryz.underlying62 aF8 (by decide) rfl Fo.out (sU b7) (sV b7 (by decide)) (by decide) (fun L7 B2 => ?_)
 replace hS:=bV B2 hS
 refine Zy ?_
 cases hS
 exact VC.ret (eB (.inr rfl) rfl rfl L7 rfl rfl (by (try dsimp only); exact cA.out) (by (try dsimp only); exact dJ.out))
theorem aGR (gS:Sv bB) (s_1:bB) {r:List bB} (hS:Sh.VX gS.l s_1=some r) :
 Ct Tryz.prog 107 [gS.val,str s_1] gS.ok (Ow.emp) (X:=Sv bB) (fun x=>x.val) (fun x=>r=x.l) (fun x=>x.ok) (fun x=>Ow.emp):=by
 refine Zo Tryz.func107 Tryz.ntmps107 fun c => ?_
 unfold Sh.VX at hS
 refine Zq (Zr ?_)
 refine Zy ?_
 refine Zq (Zr ?_)
 refine Zm ?_
 obtain ⟨iD,kL,hS⟩:=aK hS
 refine VL.bS (HA gS kL) rfl (by decide) ?_
 rintro lZ rfl
 try dsimp only
 refine Zm ?_
 refine VL.lit (α:=bB) (xs:=[.tmp 8]) (vs:=[str s_1]) [s_1] Tryz.underlying62 x4 (by decide) rfl rfl rfl rfl (by decide) (fun _ _ _ _=>trivial) (by decide) (fun aMy aFl => ?_) (by decide)
 replace hS:=bV aFl hS
 obtain ⟨b10,hS⟩:=bU hS
 refine VL.app (s:=lZ) (r:=aMy) Tryz.underlying62 aF8 (by decide) rfl Fo.out (sU b10) (sV b10 (by decide)) (by decide) (fun aY5 a1K => ?_)
 replace hS:=bV a1K hS
 refine Zy ?_
 refine Zq (Zr ?_)
 refine Zy ?_
 refine Zu (dX (s:=aY5) Tryz.underlying62 rfl) ?_
 obtain ⟨b14,hS⟩:=bU hS
 refine Zu (qK rfl rfl b14) ?_
 refine Zu (aYY rfl) ?_
 refine VL.shut aY5 9 (fun _ _ _ _=>trivial) ?_
 obtain ⟨b16,hS⟩:=bU hS
 refine VL.aYi Tryz.underlying62 vA rfl rfl b16.1 (b16.2) (by decide) fun a5m a1T => ?_
 replace hS:=bV a1T hS
 obtain ⟨aAg,aJM,hS⟩:=aK hS
 refine VL.cU (jO a5m aJM) rfl (by decide) ?_
 rintro CR rfl
 try dsimp only
 refine Zy ?_
 refine VC.keep (ρ':=[(4,CR.val)]) [4] rfl ?_
 cases hS
 exact VC.ret (eB (.inr rfl) rfl rfl CR rfl rfl (by (try dsimp only); exact cA.out) (fun _ _=>trivial))
theorem aDK (gS:A6) (aFz:bB) {r:KK} (hS:Sh.N8 gS.pl aFz=some r) :
 Ct Tryz.prog 71 [.agg #[gS.back.val,gS.N5.val],str aFz] (gS.back.ok.and gS.N5.ok) (Ow.emp) (X:=A6) (fun x => .agg (bM.enc x).toArray) (fun x=>r=x.pl) (fun x=>x.m) (fun x=>Ow.emp):=by
 refine Zo Tryz.func71 Tryz.ntmps71 fun c => ?_
 unfold Sh.N8 at hS
 refine Zq (Zr ?_)
 refine VL.box (cs:=[gS.back.val,gS.N5.val]) rfl rfl (by decide) fun dQ => ?_
 refine VL.alloc (cs:=[.slice none 0 0,.slice none 0 0]) (by kernel_rfl) (by decide) fun oS => ?_
 refine Zl ?_
 refine Zq (Zr ?_)
 refine Zu (aB aL0 rfl) ?_
 refine Zu (aJ x6 rfl rfl) ?_
 refine Zm ?_
 obtain ⟨ED,RM,hS⟩:=aK hS
 refine VL.cU (aGR gS.back aFz RM) rfl (by decide) ?_
 rintro vZ rfl
 try dsimp only
 refine Zu (eN (vs:=[(0,vZ.val)]) (cs := #[vZ.val,.slice none 0 0]) rfl (by kernel_rfl)) ?_
 refine Zv (cs':=[vZ.val,.slice none 0 0]) rfl aNq ?_
 refine Zl ?_
 cases hS
 exact VC.ret (hG (vs:=[.agg #[vZ.val,.slice none 0 0]]) (.inr rfl) rfl (dS.cell aPC rfl rfl Rd.blk (dS.nil)) ⟨vZ,⟨none,0,[]⟩⟩ rfl rfl (by (try dsimp only); exact cA.out) (fun _ _=>trivial))
theorem aMt (aA:cF) (eF:rT) {r:bR×eY} (hS:Sh.aGf aA.pl eF.pl=some r) :
 Ct Tryz.prog 38 [.agg (aH aA).toArray,.agg #[str eF.verb,str eF.name,i64 eF.n,str eF.text,.bool eF.force,eF.todo.val]] (aA.bH.ok.and (aA.aX.ok.and (aA.bQ.ok.and (aA.aN.ok.and (aA.aR.ok.and (aA.aO.ok.and (aA.aS.ok.and (aA.bC.ok.and (aA.bE.ok.and (aA.bT.ok.and (aA.bJ.ok.and eF.todo.ok))))))))))) (Ow.emp) (X:=cF×Er) (fun x => .tuple #[.agg (bM.enc x.1).toArray,x.2.val]) (fun x=>r=(x.1.pl,x.2.pl)) (fun x=>(x.1.m.and x.2.ok)) (fun x=>Ow.emp):=by
 refine Zo Tryz.func38 Tryz.ntmps38 fun c => ?_
 unfold Sh.aGf at hS
 refine Zq (Zr ?_)
 refine VL.box (cs:=(aH aA)) rfl rfl (by decide) fun dQ => ?_
 refine VL.box (cs:=[str eF.verb,str eF.name,i64 eF.n,str eF.text,.bool eF.force,eF.todo.val]) rfl rfl (by decide) fun jQ => ?_
 refine VL.alloc (cs:=[.slice none 0 0,.slice none 0 0,.slice none 0 0,str [],i64 0,str [],i64 0,str [],.slice none 0 0,.slice none 0 0,i64 0,str [],str [],i64 0,.slice none 0 0,.slice none 0 0,.slice none 0 0,.slice none 0 0,.slice none 0 0,.slice none 0 0,i64 0]) (by kernel_rfl) (by decide) fun oI => ?_
 refine Zy ?_
 refine Zq (Zq (Zr ?_))
 refine Zu (cD rH rfl rfl) ?_
 obtain ⟨I6,MW,hS⟩:=aK hS
 refine VL.cU (ZE eF MW) rfl (by decide) ?_
 rintro V0 rfl
 try dsimp only
 refine Zy ?_
 refine Zq (Zr ?_)
 refine Zm ?_
 refine Zu (jM Tryz.underlying26 rfl) ?_
 refine Zl ?_
 refine rE hS (fun h13 hS => ?_) (fun h13 hS => ?_)
 ·
  refine Zq ?_
  cases hS
 refine Zk ?_
 refine VC.keep (ρ':=[(2,ptr dQ 0),(3,ptr jQ 0),(4,ptr oI 0)]) [2,3,4] rfl ?_
 refine Zq (Zr ?_)
 refine Zu (cD cL rfl rfl) ?_
 refine Zu (cD rH rfl rfl) ?_
 obtain ⟨oP,aJP,hS⟩:=aK hS
 refine VL.cU (aKK aA eF aJP) rfl (by decide) ?_
 rintro ⟨dF,aG3,V6⟩ rfl
 try dsimp only
 refine Zm ?_
 refine Zu (aW rfl rfl) ?_
 refine Zu (aW rfl rfl) ?_
 refine Zu (aW rfl rfl) ?_
 refine VL.alloc (cs:=[.slice none 0 0,.slice none 0 0,.slice none 0 0,str [],i64 0,str [],i64 0,str [],.slice none 0 0,.slice none 0 0,i64 0,str [],str [],i64 0,.slice none 0 0,.slice none 0 0,.slice none 0 0,.slice none 0 0,.slice none 0 0,.slice none 0 0,i64 0]) (by kernel_rfl) (by decide) fun D5 => ?_
 refine Zv (cs':=(aH dF)) rfl gG ?_
 refine Zy ?_
 refine VC.keep (ρ':=[(2,ptr dQ 0),(3,ptr jQ 0),(4,ptr oI 0),(7,ptr D5 0),(8,.bool aG3),(9,V6.val)]) [2,3,4,7,8,9] rfl ?_
 refine Zq (Zq (Zr ?_))
 refine Zm ?_
 refine Zu (jM Tryz.underlying26 rfl) ?_
 refine Zl ?_
 refine rE hS (fun h25 hS => ?_) (fun h25 hS => ?_)
 ·
  refine Zq ?_
  cases hS
 refine Zk ?_
 refine VC.gK (S:=Sv bB×Sv bB) (fun sg=>(sg.1.l,sg.2.l)) (fun sg=>[(4,ptr oI 0),(7,ptr D5 0),(9,V6.val)]) (fun sg=>(sg.1.ok.and sg.2.ok)) (fun sg=>Ow.star (bD D5 [dF.bH.val,dF.aX.val,dF.bQ.val,str dF.aQ,i64 dF.aG,str dF.bK,i64 dF.bI,str dF.bP,dF.aN.val,dF.aR.val,i64 dF.bO,str dF.aZ,str dF.aL,i64 dF.aM,dF.aO.val,dF.aS.val,dF.bC.val,dF.bE.val,sg.1.val,sg.2.val,i64 dF.time] 66) (Ow.star (bD oI [.slice none 0 0,.slice none 0 0,.slice none 0 0,str [],i64 0,str [],i64 0,str [],.slice none 0 0,.slice none 0 0,i64 0,str [],str [],i64 0,.slice none 0 0,.slice none 0 0,.slice none 0 0,.slice none 0 0,.slice none 0 0,.slice none 0 0,i64 0] 66) (Ow.star (bD jQ [str eF.verb,str eF.name,i64 eF.n,str eF.text,.bool eF.force,eF.todo.val] 112) (Ow.star (bD dQ (aH aA) 66) (Ow.emp))))) hS ?_ ?_
 ·
  clear hS
  intro k9 hS
  refine VC.gK (S:=Bool) (fun (NP:Bool)=>NP) (fun (NP:Bool)=>[(2,ptr dQ 0),(4,ptr oI 0),(7,ptr D5 0),(9,V6.val),(46,.bool NP)]) (fun (NP:Bool)=>Mo.tt) (fun (NP:Bool)=>Ow.star (bD D5 (aH dF) 66) (Ow.star (bD oI [.slice none 0 0,.slice none 0 0,.slice none 0 0,str [],i64 0,str [],i64 0,str [],.slice none 0 0,.slice none 0 0,i64 0,str [],str [],i64 0,.slice none 0 0,.slice none 0 0,.slice none 0 0,.slice none 0 0,.slice none 0 0,.slice none 0 0,i64 0] 66) (Ow.star (bD jQ [str eF.verb,str eF.name,i64 eF.n,str eF.text,.bool eF.force,eF.todo.val] 112) (Ow.star (bD dQ (aH aA) 66) (Ow.emp))))) hS ?_ ?_
  ·
   clear hS
   intro k11 hS
   refine Zr ?_
   refine Zu (aB rX rfl) ?_
   refine Zu (aJ dD rfl rfl) ?_
   refine Zu (wZ rfl rfl) ?_
   refine Zm ?_
   refine OZ 42 hS (fun h42 hS => ?_) (fun h42 hS => ?_)
   ·
    refine Zh (aB rX rfl) ?_
    refine Zh (aJ dD rfl rfl) ?_
    refine Zh (wZ rfl rfl) ?_
    refine Zt ?_
    refine VL.mt (!decide (eF.verb=[114,101,100,111])) [2,4,7,9,46] (fun _ _ h=>h) hS rfl
   refine VL.runs 4 [(46,some false)] (by kernel_rfl) ?_
   refine VL.mt false [2,4,7,9,46] (fun _ _ h=>h) hS rfl
  clear hS
  rintro NP hS
  refine iL hS (fun h46 hS => ?_) (fun h46 hS => ?_)
  ·
   refine VC.draw [(0,true),(1,true),(2,true),(3,true),(4,true),(5,false),(6,true),(7,false)] mixed (by kernel_rfl) (by kernel_rfl) (by kernel_rfl) ?_
   refine Zw rfl (aB UZ rfl) ?_
   refine Zw rfl (SA (j:=18) (n:=2) aPC rfl rfl rfl) ?_
   refine Zw rfl (aB eC rfl) ?_
   refine Zw rfl (SA (j:=0) (n:=17) JP rfl rfl rfl) ?_
   obtain ⟨YY,aFV,hS⟩:=aK hS
   refine Zw rfl (bZ (aGy (⟨aA.bH,aA.aX,aA.bQ,aA.aQ,aA.aG,aA.bK,aA.bI,aA.bP,aA.aN,aA.aR,aA.bO,aA.aZ,aA.aL,aA.aM,aA.aO,aA.aS,aA.bC⟩:jV) aFV) rfl (fun _ _=>rfl)) ?_
   refine VD.one rfl ?_
   obtain ⟨aKi,aVM,hS⟩:=aK hS
   refine VL.cU (aDK (⟨aA.bT,aA.bJ⟩:A6) YY aVM) rfl (by decide) ?_
   rintro YK rfl
   try dsimp only
   refine VL.back (D':=[]) (by kernel_rfl) (aF.nil) ?_
   refine Zw rfl (aB UZ rfl) ?_
   refine VD.one rfl ?_
   refine Zv (cs':=[dF.bH.val,dF.aX.val,dF.bQ.val,str dF.aQ,i64 dF.aG,str dF.bK,i64 dF.bI,str dF.bP,dF.aN.val,dF.aR.val,i64 dF.bO,str dF.aZ,str dF.aL,i64 dF.aM,dF.aO.val,dF.aS.val,dF.bC.val,dF.bE.val,YK.back.val,YK.N5.val,i64 dF.time]) rfl aNq ?_
   refine VL.back (D':=[]) (by kernel_rfl) (aF.nil) ?_
   refine VD.mt (YK.back,YK.N5) [4,7,9] (fun _ _ h=>h) hS rfl
  refine VC.iC (dF.bT,dF.bJ) [4,7,9] (fun _ _ h=>h) hS rfl
 clear hS
 rintro ⟨aN3,aN4⟩ hS
 refine Zq (Zr ?_)
 refine Zu (cD cL rfl rfl) ?_
 obtain ⟨o8,aFW,hS⟩:=aK hS
 refine VL.cU (WH (⟨dF.bH,dF.aX,dF.bQ,dF.aQ,dF.aG,dF.bK,dF.bI,dF.bP,dF.aN,dF.aR,dF.bO,dF.aZ,dF.aL,dF.aM,dF.aO,dF.aS,dF.bC,dF.bE,aN3,aN4,dF.time⟩:cF) aFW) rfl (by decide) ?_
 rintro aD1 rfl
 try dsimp only
 refine Zm ?_
 refine Zv (cs':=(aH aD1)) rfl gG ?_
 refine Zy ?_
 cases hS
 exact VC.ret (hG (vs:=[.agg (aH aD1).toArray,V6.val]) (.inr rfl) rfl (dS.cell cL rfl rfl Rd.blk (dS.tmp rfl (dS.nil))) (aD1,V6) rfl rfl (by (try dsimp only); exact cA.out) (fun _ _=>trivial))
theorem w6 (aA:cF) (aBd:bB) {r:bR×eY} (hS:Sh.vN aA.pl aBd=some r) :
 Ct Tryz.prog 15 [.agg (aH aA).toArray,str aBd] (aA.bH.ok.and (aA.aX.ok.and (aA.bQ.ok.and (aA.aN.ok.and (aA.aR.ok.and (aA.aO.ok.and (aA.aS.ok.and (aA.bC.ok.and (aA.bE.ok.and (aA.bT.ok.and aA.bJ.ok)))))))))) (Ow.emp) (X:=cF×Er) (fun x => .tuple #[.agg (bM.enc x.1).toArray,x.2.val]) (fun x=>r=(x.1.pl,x.2.pl)) (fun x=>(x.1.m.and x.2.ok)) (fun x=>Ow.emp):=by
 refine Zo Tryz.func15 Tryz.ntmps15 fun c => ?_
 unfold Sh.vN at hS
 refine Zq (Zr ?_)
 refine VL.box (cs:=(aH aA)) rfl rfl (by decide) fun dQ => ?_
 refine VL.alloc (cs:=[.slice none 0 0,.slice none 0 0,.slice none 0 0,str [],i64 0,str [],i64 0,str [],.slice none 0 0,.slice none 0 0,i64 0,str [],str [],i64 0,.slice none 0 0,.slice none 0 0,.slice none 0 0,.slice none 0 0,.slice none 0 0,.slice none 0 0,i64 0]) (by kernel_rfl) (by decide) fun oS => ?_
 refine Zy ?_
 refine Zq (Zr ?_)
 refine Zm ?_
 obtain ⟨s4,JJ,hS⟩:=aK hS
 refine VL.cU (aH1 aBd JJ) rfl (by decide) ?_
 rintro ⟨lB,aXs⟩ rfl
 try dsimp only
 refine Zm ?_
 refine Zu (aW rfl rfl) ?_
 refine Zu (aW rfl rfl) ?_
 refine VL.alloc (cs:=[str [],str [],i64 0,str [],.bool false,.slice none 0 0]) (by kernel_rfl) (by decide) fun a6Z => ?_
 refine Zv (cs':=[str lB.verb,str lB.name,i64 lB.n,str lB.text,.bool lB.force,lB.todo.val]) rfl RT ?_
 refine Zy ?_
 refine VC.keep (ρ':=[(2,ptr dQ 0),(4,ptr oS 0),(6,ptr a6Z 0),(7,aXs.val)]) [2,4,6,7] rfl ?_
 refine Zq (Zq (Zr ?_))
 refine Zm ?_
 refine Zu (jM Tryz.underlying26 rfl) ?_
 refine Zl ?_
 refine rE hS (fun h14 hS => ?_) (fun h14 hS => ?_)
 ·
  refine Zq ?_
  cases hS
 refine Zk ?_
 refine Zq (Zr ?_)
 refine Zu (cD cL rfl rfl) ?_
 refine Zu (cD rH rfl rfl) ?_
 obtain ⟨mR,RK,hS⟩:=aK hS
 refine VL.cU (aMt aA lB RK) rfl (by decide) ?_
 rintro ⟨rN,yL⟩ rfl
 try dsimp only
 refine Zu (aW rfl rfl) ?_
 refine Zu (aW rfl rfl) ?_
 refine Zv (cs':=(aH rN)) rfl gG ?_
 refine Zy ?_
 refine VC.keep (ρ':=[(4,ptr oS 0),(5,yL.val)]) [4,5] rfl ?_
 cases hS
 exact VC.ret (hG (vs:=[.agg (aH rN).toArray,yL.val]) (.inr rfl) rfl (dS.cell cL rfl rfl Rd.blk (dS.tmp rfl (dS.nil))) (rN,yL) rfl rfl (by (try dsimp only); exact cA.out) (fun _ _=>trivial))
theorem DO (aA:cF) (p_1:bB) (data_2:bB) (sG:bB) {r:bR} (hS:Sh.yM aA.pl p_1 data_2 sG=some r) :
 Ct Tryz.prog 13 [.agg (aH aA).toArray,str p_1,str data_2,str sG] (aA.bH.ok.and (aA.aX.ok.and (aA.bQ.ok.and (aA.aN.ok.and (aA.aR.ok.and (aA.aO.ok.and (aA.aS.ok.and (aA.bC.ok.and (aA.bE.ok.and (aA.bT.ok.and aA.bJ.ok)))))))))) (Ow.emp) (X:=cF) (fun x => .agg (bM.enc x).toArray) (fun x=>r=x.pl) (fun x=>x.m) (fun x=>Ow.emp):=by
 refine Zo Tryz.func13 Tryz.ntmps13 fun c => ?_
 unfold Sh.yM at hS
 refine Zq (Zr ?_)
 refine VL.box (cs:=(aH aA)) rfl rfl (by decide) fun wM => ?_
 refine VL.alloc (cs:=[.slice none 0 0,.slice none 0 0,.slice none 0 0,str [],i64 0,str [],i64 0,str [],.slice none 0 0,.slice none 0 0,i64 0,str [],str [],i64 0,.slice none 0 0,.slice none 0 0,.slice none 0 0,.slice none 0 0,.slice none 0 0,.slice none 0 0,i64 0]) (by kernel_rfl) (by decide) fun HW => ?_
 refine Zl ?_
 refine Zq (Zr ?_)
 refine Zu (cD cL rfl rfl) ?_
 refine Zy ?_
 obtain ⟨lY,uZ,hS⟩:=aK hS
 refine VL.cU (aAZ aA p_1 data_2 uZ) rfl (by decide) ?_
 rintro gT rfl
 try dsimp only
 refine Zv (cs':=(aH gT)) rfl gG ?_
 refine Zl ?_
 refine Zq (Zr ?_)
 refine Zu (cD cL rfl rfl) ?_
 refine Zm ?_
 obtain ⟨b16,hS⟩:=bU hS
 obtain ⟨kS,BE,hS⟩:=qT hS
 refine Zu (YN rfl rfl b16 BE) ?_
 obtain ⟨HG,RI,hS⟩:=aK hS
 refine VL.cU (w6 gT kS RI) rfl (by decide) ?_
 rintro ⟨LX,a6l⟩ rfl
 try dsimp only
 refine Zm ?_
 refine Zu (aW rfl rfl) ?_
 refine Zu (aW rfl rfl) ?_
 refine Zv (cs':=(aH LX)) rfl gG ?_
 refine Zl ?_
 refine VC.keep (ρ':=[(3,str sG),(4,ptr wM 0),(8,ptr HW 0)]) [3,4,8] rfl ?_
 refine Zq (Zr ?_)
 refine Zu (cD cL rfl rfl) ?_
 refine Zm ?_
 obtain ⟨b23,hS⟩:=bU hS
 obtain ⟨HI,RL,hS⟩:=qT hS
 refine Zu (YN rfl rfl b23 RL) ?_
 obtain ⟨ML,aJV,hS⟩:=aK hS
 refine VL.cU (w6 LX HI aJV) rfl (by decide) ?_
 rintro ⟨FP,aBz⟩ rfl
 try dsimp only
 refine Zm ?_
 refine Zu (aW rfl rfl) ?_
 refine Zu (aW rfl rfl) ?_
 refine Zv (cs':=(aH FP)) rfl gG ?_
 refine Zl ?_
 refine Zq (Zr ?_)
 refine Zu (cD cL rfl rfl) ?_
 refine Zv (cs':=(aH FP)) rfl gG ?_
 refine Zl ?_
 refine VC.keep (ρ':=[(8,ptr HW 0)]) [8] rfl ?_
 cases hS
 exact VC.ret (hG (vs:=[.agg (aH FP).toArray]) (.inr rfl) rfl (dS.cell cL rfl rfl Rd.blk (dS.nil)) FP rfl rfl (by (try dsimp only); exact cA.out) (fun _ _=>trivial))
theorem NI (aA:cF) (p_1:bB) {r:bB} (hS:Sh.FV aA.pl p_1=some r) :
 Ct Tryz.prog 16 [.agg (aH aA).toArray,str p_1] (aA.bH.ok.and (aA.aX.ok.and (aA.bQ.ok.and (aA.aN.ok.and (aA.aR.ok.and (aA.aO.ok.and (aA.aS.ok.and (aA.bC.ok.and (aA.bE.ok.and (aA.bT.ok.and aA.bJ.ok)))))))))) (Ow.emp) (X:=Unit) (fun _=>str r) (fun _=>True) (fun _=>Mo.tt) (fun _=>Ow.emp):=by
 refine Zo Tryz.func16 Tryz.ntmps16 fun c => ?_
 unfold Sh.FV at hS
 refine Zq (Zr ?_)
 refine VL.box (cs:=(aH aA)) rfl rfl (by decide) fun dQ => ?_
 refine Zy ?_
 refine Zq (Zr ?_)
 refine Zu (aB eC rfl) ?_
 refine Zu (aB tI rfl) ?_
 refine Zu (aJ jS rfl rfl) ?_
 refine Zm ?_
 obtain ⟨fP,BD,hS⟩:=aK hS
 refine Zu (bZ (rW aA.bH p_1 BD) rfl (fun _ _=>rfl)) ?_
 refine Zm ?_
 refine Zu (aW rfl rfl) ?_
 refine Zu (aW rfl rfl) ?_
 refine VL.alloc (cs:=[str [],i64 0,str []]) (by kernel_rfl) (by decide) fun wN => ?_
 refine Zv (cs':=[str fP.1.path,i64 fP.1.mode,str fP.1.data]) rfl fS ?_
 refine Zy ?_
 refine VC.keep (ρ':=[(5,ptr wN 0),(6,.bool fP.2)]) [5,6] rfl ?_
 refine Zq (Zq (Zr ?_))
 refine Zm ?_
 refine Zu (lQ rfl) ?_
 refine Zl ?_
 refine iL hS (fun h16 hS => ?_) (fun h16 hS => ?_)
 ·
  refine Zq (Zr ?_)
  refine Zy ?_
  cases hS
  exact Ze
 refine Zk ?_
 refine Zq (Zr ?_)
 refine Zu (aB E8 rfl) ?_
 refine Zu (aJ dD rfl rfl) ?_
 refine Zy ?_
 cases hS
 exact Ze
theorem aAY  {r:Bool} (hS:Sh.C7=some r) :
 Ct Tryz.prog 4 [] Mo.tt (Ow.emp) (X:=Unit) (fun _ => .bool r) (fun _=>True) (fun _=>Mo.tt) (fun _=>Ow.emp):=by
 refine Zo Tryz.func4 Tryz.ntmps4 fun c => ?_
 unfold Sh.C7 at hS
 refine Zq (Zr ?_)
 refine Zy ?_
 refine Zq (Zr ?_)
 obtain ⟨a6t,a4u,hS⟩:=aK hS
 refine Zu (bZ (aHn a4u) rfl (fun _ _=>rfl)) ?_
 obtain ⟨xO,DG,hS⟩:=aK hS
 refine VL.cU (DO (⟨⟨none,0,[]⟩,⟨none,0,[]⟩,⟨none,0,[]⟩,[109,97,105,110],0,[],0,[],⟨none,0,[]⟩,⟨none,0,[]⟩,0,[],[],0,⟨none,0,[]⟩,⟨none,0,[]⟩,⟨none,0,[]⟩,⟨none,0,[]⟩,⟨none,0,[]⟩,⟨none,0,[]⟩,0⟩:cF) [97] [120,10] [111,110,101] DG) rfl (by decide) ?_
 rintro qN rfl
 try dsimp only
 refine VL.alloc (cs:=[.slice none 0 0,.slice none 0 0,.slice none 0 0,str [],i64 0,str [],i64 0,str [],.slice none 0 0,.slice none 0 0,i64 0,str [],str [],i64 0,.slice none 0 0,.slice none 0 0,.slice none 0 0,.slice none 0 0,.slice none 0 0,.slice none 0 0,i64 0]) (by kernel_rfl) (by decide) fun aTz => ?_
 refine Zv (cs':=(aH qN)) rfl gG ?_
 refine Zl ?_
 refine Zq (Zr ?_)
 refine Zu (cD cL rfl rfl) ?_
 obtain ⟨S2,aAz,hS⟩:=aK hS
 refine VL.cU (w6 qN [98,114,97,110,99,104,32,100,101,118] aAz) rfl (by decide) ?_
 rintro ⟨PU,aGV⟩ rfl
 try dsimp only
 refine Zm ?_
 refine Zu (aW rfl rfl) ?_
 refine Zu (aW rfl rfl) ?_
 refine Zv (cs':=(aH PU)) rfl gG ?_
 refine Zy ?_
 refine Zq (Zr ?_)
 refine Zu (cD cL rfl rfl) ?_
 obtain ⟨aHE,aJJ,hS⟩:=aK hS
 refine VL.cU (DO PU [98] [121,10] [116,119,111] aJJ) rfl (by decide) ?_
 rintro LU rfl
 try dsimp only
 refine Zv (cs':=(aH LU)) rfl gG ?_
 refine Zl ?_
 refine VC.keep (ρ':=[(1,ptr aTz 0),(2,aGV.val)]) [1,2] rfl ?_
 refine Zq (Zr ?_)
 refine Zu (cD cL rfl rfl) ?_
 obtain ⟨aK4,a0D,hS⟩:=aK hS
 refine VL.cU (w6 LU [115,119,105,116,99,104,32,100,101,118] a0D) rfl (by decide) ?_
 rintro ⟨aGY,aMc⟩ rfl
 try dsimp only
 refine Zm ?_
 refine Zu (aW rfl rfl) ?_
 refine Zu (aW rfl rfl) ?_
 refine Zv (cs':=(aH aGY)) rfl gG ?_
 refine Zy ?_
 refine Zq (Zr ?_)
 refine Zu (cD cL rfl rfl) ?_
 obtain ⟨S8,aJQ,hS⟩:=aK hS
 refine Zu (bZ (NI aGY [98] aJQ) rfl (fun _ _=>rfl)) ?_
 refine Zy ?_
 refine VC.keep (ρ':=[(1,ptr aTz 0),(2,aGV.val),(3,aMc.val),(4,str S8)]) [1,2,3,4] rfl ?_
 refine Zq (Zr ?_)
 refine Zu (cD cL rfl rfl) ?_
 obtain ⟨aDo,a0S,hS⟩:=aK hS
 refine VL.cU (DO aGY [99] [122,10] [116,104,114,101,101] a0S) rfl (by decide) ?_
 rintro aMg rfl
 try dsimp only
 refine Zv (cs':=(aH aMg)) rfl gG ?_
 refine Zl ?_
 refine Zq (Zr ?_)
 refine Zu (cD cL rfl rfl) ?_
 obtain ⟨XV,aJZ,hS⟩:=aK hS
 refine VL.cU (w6 aMg [109,101,114,103,101,32,109,97,105,110] aJZ) rfl (by decide) ?_
 rintro ⟨CT,aMj⟩ rfl
 try dsimp only
 refine Zm ?_
 refine Zu (aW rfl rfl) ?_
 refine Zu (aW rfl rfl) ?_
 refine Zv (cs':=(aH CT)) rfl gG ?_
 refine Zy ?_
 refine VC.keep (ρ':=[(1,ptr aTz 0),(2,aGV.val),(3,aMc.val),(4,str S8),(5,aMj.val)]) [1,2,3,4,5] rfl ?_
 refine Zq (Zr ?_)
 refine Zm ?_
 refine Zu (FU Tryz.underlying26 rfl) ?_
 refine Zm ?_
 refine pL 31 hS (fun h31 hS => ?_) (fun h31 hS => ?_)
 ·
  refine Zg ?_
  refine Zh (FU Tryz.underlying26 rfl) ?_
  refine Zy ?_
  refine pL 35 hS (fun h35 hS => ?_) (fun h35 hS => ?_)
  ·
   refine Zg ?_
   refine Zh (FU Tryz.underlying26 rfl) ?_
   refine Zy ?_
   refine pL 39 hS (fun h39 hS => ?_) (fun h39 hS => ?_)
   ·
    refine Zg ?_
    refine Zh (IX rfl rfl) ?_
    refine Zy ?_
    refine pL 43 hS (fun h43 hS => ?_) (fun h43 hS => ?_)
    ·
     refine Zh (cD cL rfl rfl) ?_
     obtain ⟨aRW,aUx,hS⟩:=aK hS
     refine Zh (bZ (NI CT [98] aUx) rfl (fun _ _=>rfl)) ?_
     refine Zh (IX rfl rfl) ?_
     refine Zy ?_
     refine pL 48 hS (fun h48 hS => ?_) (fun h48 hS => ?_)
     ·
      refine Zh (aB nA rfl) ?_
      refine Zh (aJ sW rfl rfl) ?_
      refine Zh (oN cI.pl (s:=CT.bE) Tryz.underlying61 rfl) ?_
      refine Zh (gV rfl rfl) ?_
      refine Zy ?_
      refine pL 54 hS (fun h54 hS => ?_) (fun h54 hS => ?_)
      ·
       refine Zh (aB nA rfl) ?_
       refine Zh (aJ sW rfl rfl) ?_
       obtain ⟨aCh,aM0,aFo,hS⟩:=DD hS
       refine VL.deep aCh.m aFo (fun _ q=>q) ?_
       refine Zh (e8 (s:=CT.bE) Tryz.underlying61 aAO rfl rfl aM0 (bN aM0 aFo)) ?_
       refine Zh (aB aBW rfl) ?_
       refine Zh (FT (s:=CT.bE) x5 rfl aFo rfl) ?_
       refine Zh (dX (s:=aCh.parents) Tryz.underlying32 rfl) ?_
       refine Zh (gV rfl rfl) ?_
       refine Zy ?_
       refine VC.keep (ρ':=[(0,.bool (decide ((aCh.parents.l.length:Int)=2)))]) [0] rfl ?_
       cases hS
       exact Ze
      refine VL.runs 9 [(0,some false)] (by kernel_rfl) ?_
      refine Zl ?_
      refine VC.keep (ρ':=[(0,.bool false)]) [0] rfl ?_
      cases hS
      exact Ze
     refine VL.runs 15 [(0,some false)] (by kernel_rfl) ?_
     refine Zl ?_
     refine VC.keep (ρ':=[(0,.bool false)]) [0] rfl ?_
     cases hS
     exact Ze
    refine VL.runs 20 [(0,some false)] (by kernel_rfl) ?_
    refine Zl ?_
    refine VC.keep (ρ':=[(0,.bool false)]) [0] rfl ?_
    cases hS
    exact Ze
   refine VL.runs 24 [(0,some false)] (by kernel_rfl) ?_
   refine Zl ?_
   refine VC.keep (ρ':=[(0,.bool false)]) [0] rfl ?_
   cases hS
   exact Ze
  refine VL.runs 28 [(0,some false)] (by kernel_rfl) ?_
  refine Zl ?_
  refine VC.keep (ρ':=[(0,.bool false)]) [0] rfl ?_
  cases hS
  exact Ze
 refine VL.runs 32 [(0,some false)] (by kernel_rfl) ?_
 refine Zl ?_
 cases hS
 exact Ze
theorem ZN  {r:kK} (hS:Sh.HB=some r) :
 Ct Tryz.prog 6 [] Mo.tt (Ow.emp) (X:=Nat×mE) (fun x=>ptr x.1 0) (fun x=>r=x.2.pl) (fun x=>(xW x.2.l.l)) (fun x=>Ow.star (bD x.1 [x.2.l.val,x.2.mY.val] 82) (Ow.star (Sv.own x.2.l 34) (Mv.own x.2.mY Tryz.prog 9 3 wU uJ))):=by
 refine Zo Tryz.func6 Tryz.ntmps6 fun c => ?_
 unfold Sh.HB at hS
 refine Zq (Zr ?_)
 refine Zy ?_
 refine Zq (Zr ?_)
 refine VL.a6f (k:=9) (e:=3) (A:=wU) (B:=uJ) (by decide) fun aMG a5L => ?_
 replace hS:=bV a5L hS
 refine Zu (eN (vs:=[(1,aMG.val)]) (cs := #[.slice none 0 0,aMG.val]) rfl (by kernel_rfl)) ?_
 refine VL.box (cs:=[.slice none 0 0,aMG.val]) rfl rfl (by decide) fun KQ => ?_
 refine Zy ?_
 refine VC.kH (⟨none,0,[]⟩:Sv cN) 34 ⟨rfl,rfl⟩ ?_
 refine VC.RZ (s:=(⟨none,0,[]⟩:Sv cN)) rfl ?_
 refine VC.SD KQ (cs':=[(⟨none,0,[]⟩:Sv cN).val,aMG.val]) rfl ?_
 cases hS
 exact VC.ret (eB (.inr rfl) rfl rfl (KQ,⟨(⟨none,0,[]⟩:Sv cN),aMG⟩) rfl rfl (by (try dsimp only); exact cA.out) (by (try dsimp only); exact dJ.out))
theorem aEG (m_0:Int) {r:Bool} (hS:Sh.FJ m_0=some r) :
 Ct Tryz.prog 261 [i64 m_0] Mo.tt (Ow.emp) (X:=Unit) (fun _ => .bool r) (fun _=>True) (fun _=>Mo.tt) (fun _=>Ow.emp):=by
 refine Zo Tryz.func261 Tryz.ntmps261 fun c => ?_
 unfold Sh.FJ at hS
 refine Zq (Zr ?_)
 refine Zy ?_
 refine Zq (Zq (Zr ?_))
 refine Zy ?_
 refine Zb ?_
 refine VC.gK (S:=Unit) (fun (_:Unit)=>()) (fun (_:Unit)=>[]) (fun (_:Unit)=>Mo.tt) (fun (_:Unit)=>Ow.emp) hS ?_ ?_
 ·
  clear hS
  intro k1 hS
  refine Zb (Zb (Zq (Zq (Zq (Zr ?_)))))
  refine Zu (gV rfl rfl) ?_
  refine Zy ?_
  refine Zc hS (fun h4 hS => ?_) (fun h4 hS => ?_)
  ·
   refine VC.eW () [] (fun _ _ h=>h) hS rfl
  refine Zk ?_
  refine Zq (Zr ?_)
  refine Zu (gV rfl rfl) ?_
  refine Zy ?_
  refine Zc hS (fun h6 hS => ?_) (fun h6 hS => ?_)
  ·
   refine VC.eW () [] (fun _ _ h=>h) hS rfl
  refine Zk ?_
  refine Zx ?_
  refine Zq (Zr ?_)
  refine Zy ?_
  cases hS
  exact Ze
 clear hS
 rintro _ hS
 refine Zq (Zq (Zr ?_))
 refine Zy ?_
 cases hS
 exact Ze
theorem aBo (y_0:b5) (iB:Nat) (a_1:b5) {r:Bool} (hS:Sh.FI y_0 a_1=some r) :
 Ct Tryz.prog 263 [.agg #[str y_0.path,i64 y_0.mode,i64 y_0.oJ],ptr iB 0] (Cells iB 0 [str a_1.path,i64 a_1.mode,i64 a_1.oJ]) (Ow.emp) (X:=Unit) (fun _ => .bool r) (fun _=>True) (fun _=>Mo.tt) (fun _=>Ow.emp):=by
 refine Zo Tryz.func263 Tryz.ntmps263 fun c => ?_
 unfold Sh.FI at hS
 refine Zq (Zr ?_)
 refine VL.box (cs:=[str y_0.path,i64 y_0.mode,i64 y_0.oJ]) rfl rfl (by decide) fun dQ => ?_
 refine Zy ?_
 refine Zq (Zr ?_)
 refine Zu (aB LB rfl) ?_
 refine Zu (aJ dD rfl rfl) ?_
 refine Zu (aB LB rfl) ?_
 refine Zu (WC dD rfl rfl) ?_
 obtain ⟨iT,tG,hS⟩:=aK hS
 refine Zu (bZ (wV y_0.path a_1.path tG) rfl (fun _ _=>rfl)) ?_
 refine Zy ?_
 cases hS
 exact Ze
theorem xF (aA:Sv b5) (dV:Nat) (eA:b5) {r:Int} (hS:Sh.jH aA.l eA=some r) :
 Ct Tryz.prog 318 [aA.val,.func (.func 263) #[] #[ptr dV 0]] (aA.ok.and (Cells dV 0 [str eA.path,i64 eA.mode,i64 eA.oJ])) (Ow.emp) (X:=Unit) (fun _=>i64 r) (fun _=>True) (fun _=>Mo.tt) (fun _=>Ow.emp):=by
 refine Zo Tryz.func318 Tryz.ntmps318 fun c => ?_
 unfold Sh.jH at hS
 refine Zq (Zr ?_)
 refine Zy ?_
 refine Zq (Zq (Zr ?_))
 refine Zm ?_
 refine Zu (dX (s:=aA) Tryz.underlying31 rfl) ?_
 refine Zy ?_
 refine Zb ?_
 refine VC.iter (S:=Int) (fun (cG:Int)=>cG) (fun (cG:Int)=>[(0,aA.val),(1,.func (.func 263) #[] #[ptr dV 0]),(7,i64 (aA.l.length:Int)),(8,i64 cG)]) (fun (cG:Int)=>Mo.tt) (fun (cG:Int)=>Ow.emp) 0 [0,1,7,8] hS rfl ?_
 clear hS
 rintro cG m1 y1 hS hK1
 refine Zq (Zr ?_)
 refine Zu (c4 rfl rfl) ?_
 refine Zl ?_
 refine Zq ?_
 refine Zc hS (fun h9 hS => ?_) (fun h9 hS => ?_)
 ·
  refine Zk ?_
  refine Zq (Zb (Zq (Zr ?_)))
  refine Zy ?_
  refine Zq (Zr ?_)
  refine Zy ?_
  obtain ⟨fV,kV,kU,hS⟩:=c6 hS
  refine Zu (e8 (s:=aA) Tryz.underlying31 G3 rfl rfl kV (bN kV kU)) ?_
  refine Zu (nR (s:=aA) aET rfl rfl kU) ?_
  obtain ⟨kC,rB,hS⟩:=aK hS
  refine Zu (uX (vs:=[.agg #[str fV.path,i64 fV.mode,i64 fV.oJ]]) (caps:=[ptr dV 0]) (aBo fV dV eA rB) rfl rfl (fun _ _=>rfl)) ?_
  refine Zl ?_
  refine VC.keep (ρ':=[(0,aA.val),(1,.func (.func 263) #[] #[ptr dV 0]),(7,i64 (aA.l.length:Int)),(8,i64 cG),(5,i64 cG),(16,.bool kC)]) [0,1,7,8,5,16] rfl ?_
  refine iL hS (fun h16 hS => ?_) (fun h16 hS => ?_)
  ·
   refine Zq (Zr ?_)
   refine Zy ?_
   replace hS:=gA hS hK1
   cases hS
   exact Ze
  refine Zk ?_
  refine Zr ?_
  obtain ⟨b18,hS⟩:=bU hS
  refine Zu (cR rfl rfl b18) ?_
  refine Zm ?_
  refine VL.iP (cG+1) [0,1,7,8] (fun _ _ h=>h) (go2 hS hK1) rfl
 replace hS:=gA hS hK1
 refine Zx ?_
 refine Zq (Zr ?_)
 refine Zy ?_
 cases hS
 exact Ze
theorem vE (aA:Sv b5) (dV:Nat) (eA:b5) {r:Bool} (hS:Sh.gM aA.l eA=some r) :
 Ct Tryz.prog 262 [aA.val,.func (.func 263) #[] #[ptr dV 0]] (aA.ok.and (Cells dV 0 [str eA.path,i64 eA.mode,i64 eA.oJ])) (Ow.emp) (X:=Unit) (fun _ => .bool r) (fun _=>True) (fun _=>Mo.tt) (fun _=>Ow.emp):=by
 refine Zo Tryz.func262 Tryz.ntmps262 fun c => ?_
 unfold Sh.gM at hS
 refine Zq (Zr ?_)
 refine Zy ?_
 refine Zq (Zr ?_)
 refine Zy ?_
 obtain ⟨iD,kL,hS⟩:=aK hS
 refine Zu (oB (xF aA dV eA kL) rfl (fun _ _=>rfl)) ?_
 refine Zu (sK rfl rfl) ?_
 refine Zy ?_
 cases hS
 exact Ze
theorem aEF (gS:Sv b5) (i_1:Int) {r:Int} (hS:Sh.FH gS.l i_1=some r) :
 Ct Tryz.prog 182 [gS.val,i64 i_1] gS.ok (Ow.emp) (X:=Unit) (fun _=>i64 r) (fun _=>True) (fun _=>Mo.tt) (fun _=>Ow.emp):=by
 refine Zo Tryz.func182 Tryz.ntmps182 fun c => ?_
 unfold Sh.FH at hS
 refine Zq (Zr ?_)
 refine Zy ?_
 refine Zq (Zr ?_)
 refine Zy ?_
 obtain ⟨o5,aGQ,aFq,hS⟩:=c6 hS
 refine Zu (e8 (s:=gS) Tryz.underlying31 G3 rfl rfl aGQ (bN aGQ aFq)) ?_
 refine Zu (nR (s:=gS) aET rfl rfl aFq) ?_
 refine VL.alloc (cs:=[str [],i64 0,i64 0]) (by kernel_rfl) (by decide) fun xR => ?_
 refine Zv (cs':=[str o5.path,i64 o5.mode,i64 o5.oJ]) rfl G3 ?_
 refine Zl ?_
 refine Zq (Zq (Zr ?_))
 refine Zu (aB LB rfl) ?_
 refine Zu (aJ dD rfl rfl) ?_
 obtain ⟨uS,JL,hS⟩:=aK hS
 refine Zu (bZ (LM o5.path JL) rfl (fun _ _=>rfl)) ?_
 refine Zy ?_
 refine VC.keep (ρ':=[(0,gS.val),(1,i64 i_1),(5,ptr xR 0),(6,i64 uS)]) [0,1,5,6] rfl ?_
 refine Zq (Zr ?_)
 refine Zm ?_
 refine Zu (yY rfl rfl) ?_
 refine Zl ?_
 refine rE hS (fun h15 hS => ?_) (fun h15 hS => ?_)
 ·
  refine Zq (Zr ?_)
  refine Zy ?_
  cases hS
  exact Ze
 refine Zk ?_
 refine Zq (Zb ?_)
 refine VC.gK (S:=Bool) (fun (AY:Bool)=>AY) (fun (AY:Bool)=>[(0,gS.val),(1,i64 i_1),(5,ptr xR 0),(17,.bool AY)]) (fun (AY:Bool)=>Mo.tt) (fun (AY:Bool)=>Ow.star (bD xR [str o5.path,i64 o5.mode,i64 o5.oJ] 40) (Ow.emp)) hS ?_ ?_
 ·
  clear hS
  intro k5 hS
  refine Zr ?_
  refine Zu (aB aFd rfl) ?_
  refine Zu (aJ eP rfl rfl) ?_
  obtain ⟨MK,aBK,hS⟩:=aK hS
  refine Zu (bZ (aEG o5.mode aBK) rfl (fun _ _=>rfl)) ?_
  refine Zu (lQ rfl) ?_
  refine Zm ?_
  refine vV 22 hS (fun h22 hS => ?_) (fun h22 hS => ?_)
  ·
   refine VL.runs 5 [(17,some true)] (by kernel_rfl) ?_
   refine VL.mt true [0,1,5,17] (fun _ _ h=>h) hS rfl
  refine Zh (aB aBU rfl) ?_
  refine Zh (aJ eP rfl rfl) ?_
  refine Zh (c4 rfl rfl) ?_
  refine Zy ?_
  refine VL.mt (decide (o5.oJ < 1)) [0,1,5,17] (fun _ _ h=>h) hS rfl
 clear hS
 rintro AY hS
 refine iL hS (fun h17 hS => ?_) (fun h17 hS => ?_)
 ·
  refine Zq (Zr ?_)
  refine Zy ?_
  cases hS
  exact Ze
 refine VC.gK (S:=Bool) (fun (A3:Bool)=>A3) (fun (A3:Bool)=>[(0,gS.val),(1,i64 i_1),(5,ptr xR 0),(27,.bool A3)]) (fun (A3:Bool)=>Mo.tt) (fun (A3:Bool)=>Ow.star (bD xR [str o5.path,i64 o5.mode,i64 o5.oJ] 40) (Ow.emp)) hS ?_ ?_
 ·
  clear hS
  intro k8 hS
  refine VC.draw ((List.range 15).map fun k=>(k,true)) mixed (by kernel_rfl) (by kernel_rfl) (by kernel_rfl) ?_
  refine Zw rfl (bA rfl) ?_
  refine Zw rfl (iZ rfl rfl) ?_
  refine Zw rfl (bA rfl) ?_
  refine VD.vP 30 rfl (fun h30 => ?_) (fun h30 => ?_)
  ·
   replace hS:=M5 h30 hS
   refine Zi rfl (bA rfl) ?_
   refine Zi rfl (bA rfl) ?_
   obtain ⟨b33,hS⟩:=bU hS
   refine Zi rfl (qK rfl rfl b33) ?_
   obtain ⟨aOh,aQP,aP9,hS⟩:=c6 hS
   refine Zi rfl (e8 (s:=gS) Tryz.underlying31 G3 rfl rfl aQP (bN aQP aP9)) ?_
   refine Zi rfl (aB LB rfl) ?_
   refine Zi rfl (FT (s:=gS) dD rfl aP9 rfl) ?_
   refine Zi rfl (aB LB rfl) ?_
   refine Zi rfl (aJ dD rfl rfl) ?_
   obtain ⟨aKc,aUk,hS⟩:=aK hS
   refine Zi rfl (bZ (BN aOh.path o5.path aUk) rfl (fun _ _=>rfl)) ?_
   refine Zi rfl (sK rfl rfl) ?_
   refine Zw rfl (kE rfl rfl) ?_
   refine Zw rfl (eO rfl) ?_
   refine VD.mt (decide (0≤aKc)) [0,1,5,27] (fun _ _ h=>h) hS rfl
  replace hS:=VR h30 hS
  refine Zd ?_
  refine Zd ?_
  refine Zd ?_
  refine Zd ?_
  refine Zd ?_
  refine Zd ?_
  refine Zd ?_
  refine Zd ?_
  refine Zd ?_
  refine Zd ?_
  refine Zw rfl (iX rfl rfl) ?_
  refine Zw rfl (eO rfl) ?_
  refine VD.mt false [0,1,5,27] (fun _ _ h=>h) hS rfl
 clear hS
 rintro A3 hS
 refine iL hS (fun h27 hS => ?_) (fun h27 hS => ?_)
 ·
  refine Zq (Zr ?_)
  refine Zy ?_
  cases hS
  exact Ze
 refine Zq (Zr ?_)
 refine Zy ?_
 obtain ⟨b45,hS⟩:=bU hS
 refine VL.sto Tryz.underlying31 G3 rfl rfl b45.1 (b45.2) (by decide) fun a2r aWr => ?_
 replace hS:=bV aWr hS
 refine Zu (sE rfl) ?_
 obtain ⟨aRY,aVD,hS⟩:=aK hS
 refine Zu (oB (vE a2r xR o5 aVD) rfl (fun _ _=>rfl)) ?_
 refine Zy ?_
 refine iL hS (fun h42 hS => ?_) (fun h42 hS => ?_)
 ·
  refine Zq (Zr ?_)
  refine Zy ?_
  refine VC.keep (ρ':=[(4,i64 11)]) [4] rfl ?_
  cases hS
  exact Ze
 refine Zk ?_
 refine Zq (Zr ?_)
 refine Zy ?_
 refine VC.keep (ρ':=[(4,i64 0)]) [4] rfl ?_
 cases hS
 exact Ze
theorem aEH (bX:cN) {r:eY} (hS:Sh.FL bX.pl=some r) :
 Ct Tryz.prog 115 [.agg #[i64 bX.kind,bX.data.val,bX.items.val,i64 bX.tree,bX.parents.val,i64 bX.time,str bX.text]] (bX.data.ok.and (bX.items.ok.and bX.parents.ok)) (Ow.emp) (X:=Er) (fun x=>x.val) (fun x=>r=x.pl) (fun x=>x.ok) (fun x=>Ow.emp):=by
 refine Zo Tryz.func115 Tryz.ntmps115 fun c => ?_
 unfold Sh.FL at hS
 refine Zq (Zr ?_)
 refine VL.box (cs:=[i64 bX.kind,bX.data.val,bX.items.val,i64 bX.tree,bX.parents.val,i64 bX.time,str bX.text]) rfl rfl (by decide) fun fE => ?_
 refine Zy ?_
 refine Zq (Zq (Zr ?_))
 refine Zu (aB sQ rfl) ?_
 refine Zu (aJ BH rfl rfl) ?_
 refine Zu (dX (s:=bX.items) Tryz.underlying31 rfl) ?_
 refine Zu (iZ rfl rfl) ?_
 refine Zl ?_
 refine Zc hS (fun h8 hS => ?_) (fun h8 hS => ?_)
 ·
  refine Zq (Zr ?_)
  refine Zu (kW Tryz.underlying75 (fun _ h=>by cases h) rfl) ?_
  refine Zy ?_
  cases hS
  exact VC.ret (eB (.inr rfl) rfl rfl (Er.no 4) rfl rfl (by (try dsimp only); exact cA.out) (fun _ _=>trivial))
 refine Zk ?_
 refine Zq (Zq (Zr ?_))
 refine Zu (aB sQ rfl) ?_
 refine Zu (aJ BH rfl rfl) ?_
 refine Zu (dX (s:=bX.items) Tryz.underlying31 rfl) ?_
 refine Zy ?_
 refine VC.keep (ρ':=[(1,ptr fE 0),(12,i64 (bX.items.l.length:Int)),(13,i64 0)]) [1,12,13] rfl ?_
 refine Zb ?_
 refine VC.iter (S:=Int) (fun (vT:Int)=>vT) (fun (vT:Int)=>[(1,ptr fE 0),(12,i64 (bX.items.l.length:Int)),(13,i64 vT)]) (fun (vT:Int)=>Mo.tt) (fun (vT:Int)=>Ow.star (bD fE [i64 bX.kind,bX.data.val,bX.items.val,i64 bX.tree,bX.parents.val,i64 bX.time,str bX.text] 34) (Ow.emp)) 0 [1,12,13] hS rfl ?_
 clear hS
 rintro vT m1 y1 hS hK1
 refine Zq (Zr ?_)
 refine Zu (c4 rfl rfl) ?_
 refine Zl ?_
 refine Zq ?_
 refine Zc hS (fun h14 hS => ?_) (fun h14 hS => ?_)
 ·
  refine Zk ?_
  refine Zq (Zb (Zq (Zr ?_)))
  refine Zy ?_
  refine Zq (Zr ?_)
  refine Zu (aB sQ rfl) ?_
  refine Zu (aJ BH rfl rfl) ?_
  refine Zm ?_
  obtain ⟨sN,RJ,hS⟩:=aK hS
  refine Zu (bZ (aEF bX.items vT RJ) rfl (fun _ _=>rfl)) ?_
  refine Zy ?_
  refine Zq (Zr ?_)
  refine Zm ?_
  refine Zu (yY rfl rfl) ?_
  refine Zl ?_
  refine VC.keep (ρ':=[(1,ptr fE 0),(12,i64 (bX.items.l.length:Int)),(13,i64 vT),(3,i64 vT),(4,i64 sN),(21,.bool (!decide (sN=0)))]) [1,12,13,3,4,21] rfl ?_
  refine rE hS (fun h21 hS => ?_) (fun h21 hS => ?_)
  ·
   refine Zq (Zr ?_)
   refine Zy ?_
   refine Zu (kW Tryz.underlying75 (fun _ h=>by cases h) rfl) ?_
   refine Zu (eN (vs:=[(0,str [105,116,101,109]),(1,i64 vT),(2,(Er.no sN).val)]) (cs := #[str [105,116,101,109],i64 vT,(Er.no sN).val]) rfl (by kernel_rfl)) ?_
   refine VL.box (cs:=[str [105,116,101,109],i64 vT,(Er.no sN).val]) rfl rfl (by decide) fun ZS => ?_
   refine VL.OD ZS ?_
   refine Zu (kW Tryz.underlying74 (fun _ h=>by cases h) rfl) ?_
   refine Zy ?_
   refine VC.keep (ρ':=[(2,(Er.fault ZS [105,116,101,109] vT (Er.no sN)).val)]) [2] rfl ?_
   replace hS:=gA hS hK1
   cases hS
   exact VC.ret (eB (.inr rfl) rfl rfl (Er.fault ZS [105,116,101,109] vT (Er.no sN)) rfl rfl (by (try dsimp only); exact cA.out) (fun _ _=>trivial))
  refine Zk ?_
  refine Zr ?_
  obtain ⟨b28,hS⟩:=bU hS
  refine Zu (cR rfl rfl b28) ?_
  refine Zm ?_
  refine VL.iP (vT+1) [1,12,13] (fun _ _ h=>h) (go2 hS hK1) rfl
 replace hS:=gA hS hK1
 refine Zx ?_
 refine Zq (Zr ?_)
 refine Zy ?_
 cases hS
 exact VC.ret (eB (.inr rfl) rfl rfl .nil rfl rfl (by (try dsimp only); exact cA.out) (fun _ _=>trivial))
theorem ZA (JV:Int) {r:Bool} (hS:Sh.BL JV=some r) :
 Ct Tryz.prog 184 [i64 JV] Mo.tt (Ow.emp) (X:=Unit) (fun _ => .bool r) (fun _=>True) (fun _=>Mo.tt) (fun _=>Ow.emp):=by
 refine Zo Tryz.func184 Tryz.ntmps184 fun c => ?_
 unfold Sh.BL at hS
 refine Zq (Zr ?_)
 refine Zy ?_
 refine Zq (Zr ?_)
 refine Zm ?_
 refine Zu (c4 rfl rfl) ?_
 refine Zy ?_
 cases hS
 exact Ze
theorem GL (aA:Sv Int) {r:Int} (hS:Sh.oH aA.l=some r) :
 Ct Tryz.prog 264 [aA.val,.func (.func 184) #[] #[]] aA.ok (Ow.emp) (X:=Unit) (fun _=>i64 r) (fun _=>True) (fun _=>Mo.tt) (fun _=>Ow.emp):=by
 refine Zo Tryz.func264 Tryz.ntmps264 fun c => ?_
 unfold Sh.oH at hS
 refine Zq (Zr ?_)
 refine Zy ?_
 refine Zq (Zq (Zr ?_))
 refine Zm ?_
 refine Zu (dX (s:=aA) Tryz.underlying32 rfl) ?_
 refine Zy ?_
 refine Zb ?_
 refine VC.iter (S:=Int) (fun (cG:Int)=>cG) (fun (cG:Int)=>[(0,aA.val),(1,.func (.func 184) #[] #[]),(7,i64 (aA.l.length:Int)),(8,i64 cG)]) (fun (cG:Int)=>Mo.tt) (fun (cG:Int)=>Ow.emp) 0 [0,1,7,8] hS rfl ?_
 clear hS
 rintro cG m1 y1 hS hK1
 refine Zq (Zr ?_)
 refine Zu (c4 rfl rfl) ?_
 refine Zl ?_
 refine Zq ?_
 refine Zc hS (fun h9 hS => ?_) (fun h9 hS => ?_)
 ·
  refine Zk ?_
  refine Zq (Zb (Zq (Zr ?_)))
  refine Zy ?_
  refine Zq (Zr ?_)
  refine Zy ?_
  obtain ⟨fV,kV,kU,hS⟩:=c6 hS
  refine Zu (e8 (s:=aA) Tryz.underlying32 u9 rfl rfl kV (bN kV kU)) ?_
  refine Zu (q9 (s:=aA) eP rfl kU rfl) ?_
  obtain ⟨kC,rB,hS⟩:=aK hS
  refine Zu (IC (ZA fV rB) rfl rfl (fun _ _=>rfl)) ?_
  refine Zl ?_
  refine VC.keep (ρ':=[(0,aA.val),(1,.func (.func 184) #[] #[]),(7,i64 (aA.l.length:Int)),(8,i64 cG),(5,i64 cG),(16,.bool kC)]) [0,1,7,8,5,16] rfl ?_
  refine iL hS (fun h16 hS => ?_) (fun h16 hS => ?_)
  ·
   refine Zq (Zr ?_)
   refine Zy ?_
   replace hS:=gA hS hK1
   cases hS
   exact Ze
  refine Zk ?_
  refine Zr ?_
  obtain ⟨b18,hS⟩:=bU hS
  refine Zu (cR rfl rfl b18) ?_
  refine Zm ?_
  refine VL.iP (cG+1) [0,1,7,8] (fun _ _ h=>h) (go2 hS hK1) rfl
 replace hS:=gA hS hK1
 refine Zx ?_
 refine Zq (Zr ?_)
 refine Zy ?_
 cases hS
 exact Ze
theorem GK (aA:Sv Int) {r:Bool} (hS:Sh.lR aA.l=some r) :
 Ct Tryz.prog 183 [aA.val,.func (.func 184) #[] #[]] aA.ok (Ow.emp) (X:=Unit) (fun _ => .bool r) (fun _=>True) (fun _=>Mo.tt) (fun _=>Ow.emp):=by
 refine Zo Tryz.func183 Tryz.ntmps183 fun c => ?_
 unfold Sh.lR at hS
 refine Zq (Zr ?_)
 refine Zy ?_
 refine Zq (Zr ?_)
 refine Zy ?_
 obtain ⟨iD,kL,hS⟩:=aK hS
 refine Zu (bZ (GL aA kL) rfl (fun _ _=>rfl)) ?_
 refine Zu (sK rfl rfl) ?_
 refine Zy ?_
 cases hS
 exact Ze
theorem aBn (bX:cN) {r:eY} (hS:Sh.AJ bX.pl=some r) :
 Ct Tryz.prog 116 [.agg #[i64 bX.kind,bX.data.val,bX.items.val,i64 bX.tree,bX.parents.val,i64 bX.time,str bX.text]] (bX.data.ok.and (bX.items.ok.and bX.parents.ok)) (Ow.emp) (X:=Er) (fun x=>x.val) (fun x=>r=x.pl) (fun x=>x.ok) (fun x=>Ow.emp):=by
 refine Zo Tryz.func116 Tryz.ntmps116 fun c => ?_
 unfold Sh.AJ at hS
 refine Zq (Zr ?_)
 refine VL.box (cs:=[i64 bX.kind,bX.data.val,bX.items.val,i64 bX.tree,bX.parents.val,i64 bX.time,str bX.text]) rfl rfl (by decide) fun fE => ?_
 refine Zy ?_
 refine Zq (Zr ?_)
 refine Zu (aB K9 rfl) ?_
 refine Zu (aJ x5 rfl rfl) ?_
 refine Zy ?_
 refine Zq (Zb ?_)
 refine VC.gK (S:=Bool) (fun (aEB:Bool)=>aEB) (fun (aEB:Bool)=>[(1,ptr fE 0),(3,bX.parents.val),(6,.bool aEB)]) (fun (aEB:Bool)=>Mo.tt) (fun (aEB:Bool)=>Ow.star (bD fE [i64 bX.kind,bX.data.val,bX.items.val,i64 bX.tree,bX.parents.val,i64 bX.time,str bX.text] 34) (Ow.emp)) hS ?_ ?_
 ·
  clear hS
  intro k3 hS
  refine Zr ?_
  refine Zu (aB CI rfl) ?_
  refine Zu (aJ eP rfl rfl) ?_
  refine Zu (c4 rfl rfl) ?_
  refine Zm ?_
  refine pL 10 hS (fun h10 hS => ?_) (fun h10 hS => ?_)
  ·
   refine VL.runs 14 [(6,some true)] (by kernel_rfl) ?_
   refine VL.mt true [1,3,6] (fun _ _ h=>h) hS rfl
  refine Zg ?_
  refine Zh (dX (s:=bX.parents) Tryz.underlying32 rfl) ?_
  refine Zh (iZ rfl rfl) ?_
  refine Zy ?_
  refine pL 15 hS (fun h15 hS => ?_) (fun h15 hS => ?_)
  ·
   refine VL.runs 9 [(6,some true)] (by kernel_rfl) ?_
   refine VL.mt true [1,3,6] (fun _ _ h=>h) hS rfl
  refine Zg ?_
  obtain ⟨DY,RH,hS⟩:=aK hS
  refine Zh (bZ (GK bX.parents RH) rfl (fun _ _=>rfl)) ?_
  refine Zy ?_
  refine vV 19 hS (fun h19 hS => ?_) (fun h19 hS => ?_)
  ·
   refine VL.runs 5 [(6,some true)] (by kernel_rfl) ?_
   refine VL.mt true [1,3,6] (fun _ _ h=>h) hS rfl
  refine Zh (aB CJ rfl) ?_
  refine Zh (aJ eP rfl rfl) ?_
  refine Zh (c4 rfl rfl) ?_
  refine Zy ?_
  refine VL.mt (decide (bX.time < 0)) [1,3,6] (fun _ _ h=>h) hS rfl
 clear hS
 rintro aEB hS
 refine iL hS (fun h6 hS => ?_) (fun h6 hS => ?_)
 ·
  refine Zq (Zr ?_)
  refine Zu (kW Tryz.underlying75 (fun _ h=>by cases h) rfl) ?_
  refine Zy ?_
  cases hS
  exact VC.ret (eB (.inr rfl) rfl rfl (Er.no 1) rfl rfl (by (try dsimp only); exact cA.out) (fun _ _=>trivial))
 refine VC.gK (S:=Bool) (fun (XH:Bool)=>XH) (fun (XH:Bool)=>[(1,ptr fE 0),(25,.bool XH)]) (fun (XH:Bool)=>Mo.tt) (fun (XH:Bool)=>Ow.star (bD fE [i64 bX.kind,bX.data.val,bX.items.val,i64 bX.tree,bX.parents.val,i64 bX.time,str bX.text] 34) (Ow.emp)) hS ?_ ?_
 ·
  clear hS
  intro k6 hS
  refine VC.draw ((List.range 13).map fun k=>(k,true)) mixed (by kernel_rfl) (by kernel_rfl) (by kernel_rfl) ?_
  refine Zw rfl (bA rfl) ?_
  refine Zw rfl (dX (s:=bX.parents) Tryz.underlying32 rfl) ?_
  refine Zw rfl (gV rfl rfl) ?_
  refine Zw rfl (bA rfl) ?_
  refine VD.vP 29 rfl (fun h29 => ?_) (fun h29 => ?_)
  ·
   replace hS:=M5 h29 hS
   refine Zi rfl (bA rfl) ?_
   obtain ⟨aOf,aQK,aP4,hS⟩:=c6 hS
   refine Zi rfl (e8 (s:=bX.parents) Tryz.underlying32 u9 rfl rfl aQK (bN aQK aP4)) ?_
   refine Zi rfl (q9 (s:=bX.parents) eP rfl aP4 rfl) ?_
   refine Zi rfl (bA rfl) ?_
   obtain ⟨aOg,aQO,aP8,hS⟩:=c6 hS
   refine Zi rfl (e8 (s:=bX.parents) Tryz.underlying32 u9 rfl rfl aQO (bN aQO aP8)) ?_
   refine Zi rfl (q9 (s:=bX.parents) eP rfl aP8 rfl) ?_
   refine Zi rfl (gV rfl rfl) ?_
   refine Zw rfl (kE rfl rfl) ?_
   refine Zw rfl (eO rfl) ?_
   refine VD.mt (decide (aOf=aOg)) [1,25] (fun _ _ h=>h) hS rfl
  replace hS:=VR h29 hS
  refine Zd ?_
  refine Zd ?_
  refine Zd ?_
  refine Zd ?_
  refine Zd ?_
  refine Zd ?_
  refine Zd ?_
  refine Zw rfl (iX rfl rfl) ?_
  refine Zw rfl (eO rfl) ?_
  refine VD.mt false [1,25] (fun _ _ h=>h) hS rfl
 clear hS
 rintro XH hS
 refine iL hS (fun h25 hS => ?_) (fun h25 hS => ?_)
 ·
  refine Zq (Zr ?_)
  refine Zu (kW Tryz.underlying75 (fun _ h=>by cases h) rfl) ?_
  refine Zy ?_
  cases hS
  exact VC.ret (eB (.inr rfl) rfl rfl (Er.no 6) rfl rfl (by (try dsimp only); exact cA.out) (fun _ _=>trivial))
 refine Zq (Zr ?_)
 refine Zu (aB CK rfl) ?_
 refine Zu (aJ dD rfl rfl) ?_
 refine Zu (pU Tryz.underlying9 rfl) ?_
 refine Zu (iZ rfl rfl) ?_
 refine Zy ?_
 refine Zc hS (fun h39 hS => ?_) (fun h39 hS => ?_)
 ·
  refine Zq (Zr ?_)
  refine Zu (kW Tryz.underlying75 (fun _ h=>by cases h) rfl) ?_
  refine Zy ?_
  cases hS
  exact VC.ret (eB (.inr rfl) rfl rfl (Er.no 4) rfl rfl (by (try dsimp only); exact cA.out) (fun _ _=>trivial))
 refine Zk ?_
 refine Zq (Zr ?_)
 refine Zy ?_
 cases hS
 exact VC.ret (eB (.inr rfl) rfl rfl .nil rfl rfl (by (try dsimp only); exact cA.out) (fun _ _=>trivial))
theorem aDJ (bX:cN) {r:eY} (hS:Sh.CO bX.pl=some r) :
 Ct Tryz.prog 79 [.agg #[i64 bX.kind,bX.data.val,bX.items.val,i64 bX.tree,bX.parents.val,i64 bX.time,str bX.text]] (bX.data.ok.and (bX.items.ok.and bX.parents.ok)) (Ow.emp) (X:=Er) (fun x=>x.val) (fun x=>r=x.pl) (fun x=>x.ok) (fun x=>Ow.emp):=by
 refine Zo Tryz.func79 Tryz.ntmps79 fun c => ?_
 unfold Sh.CO at hS
 refine Zq (Zr ?_)
 refine VL.box (cs:=[i64 bX.kind,bX.data.val,bX.items.val,i64 bX.tree,bX.parents.val,i64 bX.time,str bX.text]) rfl rfl (by decide) fun fE => ?_
 refine Zy ?_
 refine Zq (Zq (Zr ?_))
 refine Zu (aB E7 rfl) ?_
 refine Zu (aJ eP rfl rfl) ?_
 refine Zl ?_
 refine Zb (Zq (Zr ?_))
 refine Zu (gV rfl rfl) ?_
 refine Zy ?_
 refine Zc hS (fun h5 hS => ?_) (fun h5 hS => ?_)
 ·
  refine Zq (Zq (Zr ?_))
  refine Zu (aB HZ rfl) ?_
  refine Zu (aJ qM rfl rfl) ?_
  refine Zu (dX (s:=bX.data) Tryz.underlying30 rfl) ?_
  refine Zu (iZ rfl rfl) ?_
  refine Zl ?_
  refine VC.keep (ρ':=[(10,.bool (decide (4096 < (bX.data.l.length:Int))))]) [10] rfl ?_
  refine Zc hS (fun h10 hS => ?_) (fun h10 hS => ?_)
  ·
   refine Zq (Zr ?_)
   refine Zu (kW Tryz.underlying75 (fun _ h=>by cases h) rfl) ?_
   refine Zy ?_
   cases hS
   exact VC.ret (eB (.inr rfl) rfl rfl (Er.no 4) rfl rfl (by (try dsimp only); exact cA.out) (fun _ _=>trivial))
  refine Zk ?_
  refine Zq (Zr ?_)
  refine Zy ?_
  cases hS
  exact VC.ret (eB (.inr rfl) rfl rfl .nil rfl rfl (by (try dsimp only); exact cA.out) (fun _ _=>trivial))
 refine Zq (Zr ?_)
 refine Zu (gV rfl rfl) ?_
 refine Zy ?_
 refine Zc hS (fun h12 hS => ?_) (fun h12 hS => ?_)
 ·
  refine Zq (Zr ?_)
  refine Zu (cD iY rfl rfl) ?_
  obtain ⟨XT,aJK,hS⟩:=aK hS
  refine VL.cU (aEH bX aJK) rfl (by decide) ?_
  rintro aMa rfl
  try dsimp only
  refine Zy ?_
  refine VC.keep (ρ':=[(2,aMa.val)]) [2] rfl ?_
  cases hS
  exact VC.ret (eB (.inr rfl) rfl rfl aMa rfl rfl (by (try dsimp only); exact cA.out) (fun _ _=>trivial))
 refine Zq (Zr ?_)
 refine Zu (gV rfl rfl) ?_
 refine Zy ?_
 refine VC.keep (ρ':=[(1,ptr fE 0),(16,.bool (decide (bX.kind=3)))]) [1,16] rfl ?_
 refine Zc hS (fun h16 hS => ?_) (fun h16 hS => ?_)
 ·
  refine Zq (Zr ?_)
  refine Zu (cD iY rfl rfl) ?_
  obtain ⟨sN,RJ,hS⟩:=aK hS
  refine VL.cU (aBn bX RJ) rfl (by decide) ?_
  rintro aBw rfl
  try dsimp only
  refine Zy ?_
  cases hS
  exact VC.ret (eB (.inr rfl) rfl rfl aBw rfl rfl (by (try dsimp only); exact cA.out) (fun _ _=>trivial))
 refine Zk ?_
 refine Zq (Zr ?_)
 refine Zu (kW Tryz.underlying75 (fun _ h=>by cases h) rfl) ?_
 refine Zy ?_
 cases hS
 exact VC.ret (eB (.inr rfl) rfl rfl (Er.no 1) rfl rfl (by (try dsimp only); exact cA.out) (fun _ _=>trivial))
theorem BM (M6:Int) (N4:Er) {r:eY} (hS:Sh.s7 M6 N4.pl=some r) :
 Ct Tryz.prog 56 [i64 M6,N4.val] N4.ok (Ow.emp) (X:=Er) (fun x=>x.val) (fun x=>r=x.pl) (fun x=>x.ok) (fun x=>Ow.emp):=by
 refine Zo Tryz.func56 Tryz.ntmps56 fun c => ?_
 unfold Sh.s7 at hS
 refine Zq (Zr ?_)
 refine Zy ?_
 refine Zq (Zr ?_)
 refine Zm ?_
 refine Zu (aYY rfl) ?_
 refine Zu (aYZ rfl) ?_
 refine Zm ?_
 refine Zu (eN (vs:=[(0,str [111,98,106,101,99,116]),(1,i64 (min (max M6 0) 255)),(2,N4.val)]) (cs := #[str [111,98,106,101,99,116],i64 (min (max M6 0) 255),N4.val]) rfl (by generalize N4=z0; cases z0 <;> kernel_rfl)) ?_
 refine VL.box (cs:=[str [111,98,106,101,99,116],i64 (min (max M6 0) 255),N4.val]) rfl rfl (by decide) fun z6 => ?_
 refine VL.OD z6 ?_
 refine Zu (kW Tryz.underlying74 (fun _ h=>by cases h) rfl) ?_
 refine Zy ?_
 cases hS
 exact VC.ret (eB (.inr rfl) rfl rfl (Er.fault z6 [111,98,106,101,99,116] (min (max M6 0) 255) N4) rfl rfl (by (try dsimp only); exact cA.out) (fun _ _=>trivial))
theorem aDI (bX:cN) {r:eY} (hS:Sh.CN bX.pl=some r) :
 Ct Tryz.prog 45 [.agg #[i64 bX.kind,bX.data.val,bX.items.val,i64 bX.tree,bX.parents.val,i64 bX.time,str bX.text]] (bX.data.ok.and (bX.items.ok.and bX.parents.ok)) (Ow.emp) (X:=Er) (fun x=>x.val) (fun x=>r=x.pl) (fun x=>x.ok) (fun x=>Ow.emp):=by
 refine Zo Tryz.func45 Tryz.ntmps45 fun c => ?_
 unfold Sh.CN at hS
 refine Zq (Zr ?_)
 refine VL.box (cs:=[i64 bX.kind,bX.data.val,bX.items.val,i64 bX.tree,bX.parents.val,i64 bX.time,str bX.text]) rfl rfl (by decide) fun fE => ?_
 refine Zy ?_
 refine Zq (Zq (Zr ?_))
 refine Zu (cD iY rfl rfl) ?_
 obtain ⟨tC,aNk,hS⟩:=aK hS
 refine VL.cU (aDJ bX aNk) rfl (by decide) ?_
 rintro a2G rfl
 try dsimp only
 refine Zy ?_
 refine Zq (Zr ?_)
 refine Zm ?_
 refine Zu (jM Tryz.underlying26 rfl) ?_
 refine Zl ?_
 refine rE hS (fun h7 hS => ?_) (fun h7 hS => ?_)
 ·
  refine Zq (Zr ?_)
  refine Zu (aB E7 rfl) ?_
  refine Zu (aJ eP rfl rfl) ?_
  refine Zm ?_
  obtain ⟨S3,aJE,hS⟩:=aK hS
  refine VL.cU (BM bX.kind a2G aJE) rfl (by decide) ?_
  rintro aM9 rfl
  try dsimp only
  refine Zy ?_
  refine VC.keep (ρ':=[(2,aM9.val)]) [2] rfl ?_
  cases hS
  exact VC.ret (eB (.inr rfl) rfl rfl aM9 rfl rfl (by (try dsimp only); exact cA.out) (fun _ _=>trivial))
 refine Zk ?_
 refine Zq (Zr ?_)
 refine Zy ?_
 cases hS
 exact VC.ret (eB (.inr rfl) rfl rfl .nil rfl rfl (by (try dsimp only); exact cA.out) (fun _ _=>trivial))
theorem kY (jJ:Nat) (uL:nZ) (l_1:Sv Int) {r:mX} (hS:Sh.jG uL.pl l_1.l=some r) :
 Ct Tryz.prog 28 [ptr jJ 0,l_1.val] l_1.ok (Ow.star (Sv.own uL.b 5) (bD jJ [uL.b.val] 97)) (X:=nZ) (fun x => .tuple #[]) (fun x=>r=x.pl) (fun x=>Mo.tt) (fun x=>Ow.star (bD jJ [x.b.val] 97) (Sv.own x.b 5)):=by
 refine Zo Tryz.func28 Tryz.ntmps28 fun c => ?_
 unfold Sh.jG at hS
 refine Zq (Zr ?_)
 refine Zm ?_
 refine Zu (dX (s:=l_1) Tryz.underlying32 rfl) ?_
 refine Zy ?_
 refine Zb ?_
 refine VC.iter (S:=Int×Sv UInt8) (fun sg=>(sg.1,sg.2.l)) (fun sg=>[(0,ptr jJ 0),(7,l_1.val),(8,i64 (l_1.l.length:Int)),(9,i64 sg.1)]) (fun sg=>Mo.tt) (fun sg=>Ow.star (bD jJ [sg.2.val] 97) (Ow.star (Sv.own sg.2 5) (Ow.emp))) (0,uL.b) [0,7,8,9] hS rfl ?_
 clear hS
 rintro ⟨uK,z7⟩ m1 y1 hS hK1
 refine Zq (Zr ?_)
 refine Zu (c4 rfl rfl) ?_
 refine Zl ?_
 refine Zq ?_
 refine Zc hS (fun h10 hS => ?_) (fun h10 hS => ?_)
 ·
  refine Zk ?_
  refine Zq (Zb (Zq (Zr ?_)))
  obtain ⟨zK,NC,M3,hS⟩:=c6 hS
  refine Zu (e8 (s:=l_1) Tryz.underlying32 u9 rfl rfl NC (bN NC M3)) ?_
  refine Zu (q9 (s:=l_1) eP rfl M3 rfl) ?_
  refine Zy ?_
  refine Zq (Zr ?_)
  refine Zm ?_
  refine Zu (jK Tryz.underlying3 Tryz.underlying101 rfl) ?_
  refine Zu (aAX rfl rfl (by decide)) ?_
  refine Zm ?_
  refine Zu (yZ rfl rfl (by decide)) ?_
  refine Zu (jK Tryz.underlying2 Tryz.underlying101 rfl) ?_
  refine Zu (tP rfl rfl) ?_
  refine Zy ?_
  refine VC.keep (ρ':=[(0,ptr jJ 0),(7,l_1.val),(8,i64 (l_1.l.length:Int)),(9,i64 uK),(6,.int .u64 (fF .u64 (I0 .u64 (IntKind.wrap .u64 zK) 1) (IntKind.wrap .u64 (nD .i64 zK 63))))]) [0,7,8,9,6] rfl ?_
  refine Zq (Zb ?_)
  refine VC.iter (S:=Int×Sv UInt8) (fun sg=>(sg.1,sg.2.l)) (fun sg=>[(0,ptr jJ 0),(6,.int .u64 sg.1),(7,l_1.val),(8,i64 (l_1.l.length:Int)),(9,i64 uK)]) (fun sg=>Mo.tt) (fun sg=>Ow.star (bD jJ [sg.2.val] 97) (Ow.star (Sv.own sg.2 5) (Ow.emp))) ((fF .u64 (I0 .u64 (IntKind.wrap .u64 zK) 1) (IntKind.wrap .u64 (nD .i64 zK 63))),z7) [0,6,7,8,9] hS rfl ?_
  clear hS
  rintro ⟨AX,fA⟩ m2 y2 hS hK2
  refine Zq (Zq (Zr ?_))
  refine Zm ?_
  refine Zu (sK rfl rfl) ?_
  refine Zl ?_
  refine Zc hS (fun h21 hS => ?_) (fun h21 hS => ?_)
  ·
   refine Zk ?_
   refine Zb (Zq (Zr ?_))
   refine Zy ?_
   refine Zu (aD rfl) ?_
   refine Zu (aB u5 rfl) ?_
   refine Zu (aJ qM rfl rfl) ?_
   refine Zm ?_
   refine Zu (B4 rfl rfl) ?_
   refine Zu (jK Tryz.underlying101 Tryz.underlying5 rfl) ?_
   refine Zu (aGd rfl rfl) ?_
   obtain ⟨aIo,hS⟩:=bU hS
   obtain ⟨ME,aJC,hS⟩:=qT hS
   refine VL.D9 30 rfl (congrArg (Value.int .u8) (ZO aIo aJC)) ?_
   refine VL.lit (α:=UInt8) (xs:=[.tmp 30]) (vs:=[.int .u8 (ME.toNat:Int)]) [ME] Tryz.underlying30 U0 (by decide) rfl rfl rfl rfl (by decide) (fun _ _ _ _=>trivial) (by decide) (fun aOJ aJj => ?_) (by decide)
   replace hS:=bV aJj hS
   obtain ⟨b32,hS⟩:=bU hS
   refine VL.app (s:=fA) (r:=aOJ) Tryz.underlying30 RP (by decide) rfl Fo.out (sU b32) (sV b32 (by decide)) (by decide) (fun aGt aJk => ?_)
   replace hS:=bV aJk hS
   refine Zu (aD rfl) ?_
   refine Zu (aB u5 rfl) ?_
   refine Zv (cs':=[aGt.val]) rfl LF ?_
   refine Zl ?_
   refine VC.keep (ρ':=[(0,ptr jJ 0),(6,.int .u64 AX),(7,l_1.val),(8,i64 (l_1.l.length:Int)),(9,i64 uK)]) [0,6,7,8,9] rfl ?_
   refine Zr ?_
   refine Zm ?_
   refine Zu (yZ rfl rfl (by decide)) ?_
   refine Za ?_
   refine VL.iP ((nD .u64 AX 7),aGt) [0,6,7,8,9] (fun _ _ h=>h) (go2 hS hK2) rfl
  replace hS:=gA hS hK2
  refine Zx ?_
  refine Zr ?_
  refine Zy ?_
  refine Zu (aD rfl) ?_
  refine Zu (aB u5 rfl) ?_
  refine Zu (aJ qM rfl rfl) ?_
  refine Zm ?_
  refine Zu (jK Tryz.underlying101 Tryz.underlying5 rfl) ?_
  obtain ⟨aIp,hS⟩:=bU hS
  obtain ⟨F9,aFL,hS⟩:=qT hS
  refine VL.D9 43 rfl (congrArg (Value.int .u8) (ZO aIp aFL)) ?_
  refine VL.lit (α:=UInt8) (xs:=[.tmp 43]) (vs:=[.int .u8 (F9.toNat:Int)]) [F9] Tryz.underlying30 U0 (by decide) rfl rfl rfl rfl (by decide) (fun _ _ _ _=>trivial) (by decide) (fun aKL aFj => ?_) (by decide)
  replace hS:=bV aFj hS
  obtain ⟨b45,hS⟩:=bU hS
  refine VL.app (s:=fA) (r:=aKL) Tryz.underlying30 RP (by decide) rfl Fo.out (sU b45) (sV b45 (by decide)) (by decide) (fun aCK aFk => ?_)
  replace hS:=bV aFk hS
  refine Zu (aD rfl) ?_
  refine Zu (aB u5 rfl) ?_
  refine Zv (cs':=[aCK.val]) rfl LF ?_
  refine Zl ?_
  refine VC.keep (ρ':=[(0,ptr jJ 0),(7,l_1.val),(8,i64 (l_1.l.length:Int)),(9,i64 uK)]) [0,7,8,9] rfl ?_
  refine Zr ?_
  obtain ⟨b48,hS⟩:=bU hS
  refine Zu (cR rfl rfl b48) ?_
  refine Zm ?_
  refine VL.iP ((uK+1),aCK) [0,7,8,9] (fun _ _ h=>h) (go2 hS hK1) rfl
 replace hS:=gA hS hK1
 cases hS
 exact VC.exit (q8 (.inl rfl) rfl ⟨z7⟩ rfl rfl (by (try dsimp only); exact cA.out) (by (try dsimp only); exact dJ.out))
theorem uC (jJ:Nat) (uL:nZ) (l_1:Sv bB) {r:mX} (hS:Sh.mZ uL.pl l_1.l=some r) :
 Ct Tryz.prog 29 [ptr jJ 0,l_1.val] l_1.ok (Ow.star (Sv.own uL.b 5) (bD jJ [uL.b.val] 97)) (X:=nZ) (fun x => .tuple #[]) (fun x=>r=x.pl) (fun x=>Mo.tt) (fun x=>Ow.star (bD jJ [x.b.val] 97) (Sv.own x.b 5)):=by
 refine Zo Tryz.func29 Tryz.ntmps29 fun c => ?_
 unfold Sh.mZ at hS
 refine Zq (Zr ?_)
 refine Zm ?_
 refine Zu (dX (s:=l_1) Tryz.underlying62 rfl) ?_
 refine Zy ?_
 refine Zb ?_
 refine VC.iter (S:=Int×Sv UInt8) (fun sg=>(sg.1,sg.2.l)) (fun sg=>[(0,ptr jJ 0),(6,l_1.val),(7,i64 (l_1.l.length:Int)),(8,i64 sg.1)]) (fun sg=>Mo.tt) (fun sg=>Ow.star (bD jJ [sg.2.val] 97) (Ow.star (Sv.own sg.2 5) (Ow.emp))) (0,uL.b) [0,6,7,8] hS rfl ?_
 clear hS
 rintro ⟨cG,z7⟩ m1 y1 hS hK1
 refine Zq (Zr ?_)
 refine Zu (c4 rfl rfl) ?_
 refine Zl ?_
 refine Zq ?_
 refine Zc hS (fun h9 hS => ?_) (fun h9 hS => ?_)
 ·
  refine Zk ?_
  refine Zq (Zb (Zq (Zr ?_)))
  obtain ⟨mJ,NB,MZ,hS⟩:=c6 hS
  refine Zu (e8 (s:=l_1) Tryz.underlying62 vA rfl rfl NB (bN NB MZ)) ?_
  refine Zu (q9 (s:=l_1) dD rfl MZ rfl) ?_
  refine Zy ?_
  refine Zq (Zr ?_)
  refine Zy ?_
  refine Zu (pU Tryz.underlying9 rfl) ?_
  refine VL.lit (α:=Int) (xs:=[.tmp 14]) (vs:=[i64 (mJ.length:Int)]) [(mJ.length:Int)] Tryz.underlying32 kI (by decide) rfl rfl rfl rfl (by decide) (fun _ _ _ _=>trivial) (by decide) (fun aGq aBZ => ?_) (by decide)
  replace hS:=bV aBZ hS
  obtain ⟨uT,RF,hS⟩:=aK hS
  refine VL.bS (kY jJ (⟨z7⟩:nZ) aGq RF) rfl (by decide) ?_
  rintro AM rfl
  try dsimp only
  refine Zl ?_
  refine VC.keep (ρ':=[(0,ptr jJ 0),(6,l_1.val),(7,i64 (l_1.l.length:Int)),(8,i64 cG),(5,str mJ)]) [0,6,7,8,5] rfl ?_
  refine Zr ?_
  refine Zy ?_
  refine Zu (aD rfl) ?_
  refine Zu (aB u5 rfl) ?_
  refine Zu (aJ qM rfl rfl) ?_
  refine Zm ?_
  obtain ⟨b23,hS⟩:=bU hS
  refine VL.a47 (s:=AM.b) (r:=mJ) Tryz.underlying30 Tryz.underlying9 aWD rfl Fo.out b23 (by decide) fun aGs aJg _ => ?_
  replace hS:=bV aJg hS
  refine Zu (aD rfl) ?_
  refine Zu (aB u5 rfl) ?_
  refine Zv (cs':=[aGs.val]) rfl LF ?_
  refine Zl ?_
  refine VC.keep (ρ':=[(0,ptr jJ 0),(6,l_1.val),(7,i64 (l_1.l.length:Int)),(8,i64 cG)]) [0,6,7,8] rfl ?_
  refine Zr ?_
  obtain ⟨b26,hS⟩:=bU hS
  refine Zu (cR rfl rfl b26) ?_
  refine Zm ?_
  refine VL.iP ((cG+1),aGs) [0,6,7,8] (fun _ _ h=>h) (go2 hS hK1) rfl
 replace hS:=gA hS hK1
 cases hS
 exact VC.exit (q8 (.inl rfl) rfl ⟨z7⟩ rfl rfl (by (try dsimp only); exact cA.out) (by (try dsimp only); exact dJ.out))
theorem EW (jJ:Nat) (uL:nZ) {r:List UInt8} (hS:Sh.qC uL.pl=some r) :
 Ct Tryz.prog 30 [ptr jJ 0] Mo.tt (Ow.star (Sv.own uL.b 5) (bD jJ [uL.b.val] 97)) (X:=Sv UInt8) (fun x=>x.val) (fun x=>r=x.l) (fun x=>x.ok) (fun x=>Ow.star (bD jJ [uL.b.val] 97) (Sv.own uL.b 5)):=by
 refine Zo Tryz.func30 Tryz.ntmps30 fun c => ?_
 unfold Sh.qC at hS
 refine Zq (Zr ?_)
 refine Zy ?_
 refine Zq (Zr ?_)
 refine Zm ?_
 refine Zu (aD rfl) ?_
 refine Zu (aB u5 rfl) ?_
 refine Zu (aJ qM rfl rfl) ?_
 obtain ⟨iD,kL,hS⟩:=aK hS
 refine VL.aIu (kO uL.b kL) rfl (by decide) ?_
 rintro lZ rfl
 try dsimp only
 refine VL.shut lZ 5 (fun _ _ _ _=>trivial) ?_
 obtain ⟨iT,tG,hS⟩:=aK hS
 refine VL.cU (qO lZ tG) rfl (by decide) ?_
 rintro jT rfl
 try dsimp only
 refine Zy ?_
 cases hS
 exact VC.ret (eB (.inr rfl) rfl rfl jT rfl rfl (by (try dsimp only); exact cA.out) (by (try dsimp only); exact dJ.out))
theorem aKP (pR:Sv (Sv UInt8)) {r:Int} (hS:Sh.QD (pR.l.map Sv.l)=some r) :
 Ct Tryz.prog 80 [pR.val] pR.ok (Ow.emp) (X:=Unit) (fun _ => .int .u32 r) (fun _=>True) (fun _=>Mo.tt) (fun _=>Ow.emp):=by
 refine Zo Tryz.func80 Tryz.ntmps80 fun c => ?_
 unfold Sh.QD at hS
 refine Zq (Zr ?_)
 refine Zy ?_
 refine Zq (Zr ?_)
 refine Zy ?_
 refine Zq (Zq (Zr ?_))
 refine Zm ?_
 refine Zu (oN Sv.l (s:=pR) Tryz.underlying191 rfl) ?_
 refine Zy ?_
 refine Zb ?_
 refine VC.iter (S:=Int×Int) (fun sg=>(sg.1,sg.2)) (fun sg=>[(3,.int .u32 sg.1),(9,pR.val),(10,i64 ((pR.l.map Sv.l).length:Int)),(11,i64 sg.2)]) (fun sg=>Mo.tt) (fun sg=>Ow.emp) (4294967295,0) [3,9,10,11] hS rfl ?_
 clear hS
 rintro ⟨aE6,i7⟩ m1 y1 hS hK1
 refine Zq (Zr ?_)
 refine Zu (c4 rfl rfl) ?_
 refine Zl ?_
 refine Zq ?_
 refine Zc hS (fun h12 hS => ?_) (fun h12 hS => ?_)
 ·
  refine Zk ?_
  refine Zq (Zb (Zq (Zr ?_)))
  obtain ⟨nW,FE,zM,hS⟩:=DD hS
  refine VL.deep nW.ok zM (fun _ q=>q) ?_
  refine Zu (e8 (s:=pR) Tryz.underlying191 LF rfl rfl FE (bN FE zM)) ?_
  refine Zu (q9 (s:=pR) qM rfl zM rfl) ?_
  refine Zy ?_
  refine Zq (Zr ?_)
  refine Zm ?_
  refine Zu (dX (s:=nW) Tryz.underlying30 rfl) ?_
  refine Zy ?_
  refine Zb ?_
  refine VC.iter (S:=Int×Int) (fun sg=>(sg.1,sg.2)) (fun sg=>[(3,.int .u32 sg.1),(9,pR.val),(10,i64 ((pR.l.map Sv.l).length:Int)),(11,i64 i7),(15,nW.val),(16,i64 (nW.l.length:Int)),(17,i64 sg.2)]) (fun sg=>Mo.tt) (fun sg=>Ow.emp) (aE6,0) [3,9,10,11,15,16,17] hS rfl ?_
  clear hS
  rintro ⟨YR,AZ⟩ m2 y2 hS hK2
  refine Zq (Zr ?_)
  refine Zu (c4 rfl rfl) ?_
  refine Zl ?_
  refine Zq ?_
  refine Zc hS (fun h18 hS => ?_) (fun h18 hS => ?_)
  ·
   refine Zk ?_
   refine Zq (Zb (Zq (Zr ?_)))
   obtain ⟨aKr,aPv,aPT,hS⟩:=c6 hS
   refine Zu (e8 (s:=nW) Tryz.underlying30 AD rfl rfl aPv (bN aPv aPT)) ?_
   refine Zu (q9 (s:=nW) RS rfl aPT rfl) ?_
   refine Zy ?_
   refine Zq (Zr ?_)
   refine Zy ?_
   refine Zu (jK Tryz.underlying5 Tryz.underlying102 rfl) ?_
   refine Zu (tP rfl rfl) ?_
   refine Zy ?_
   refine VC.keep (ρ':=[(3,.int .u32 (fF .u32 YR (IntKind.wrap .u32 (aKr.toNat:Int)))),(9,pR.val),(10,i64 ((pR.l.map Sv.l).length:Int)),(11,i64 i7),(15,nW.val),(16,i64 (nW.l.length:Int)),(17,i64 AZ)]) [3,9,10,11,15,16,17] rfl ?_
   refine Zq (Zr ?_)
   refine Zy ?_
   refine Zb ?_
   refine VC.iter (S:=Int×Int) (fun sg=>(sg.1,sg.2)) (fun sg=>[(3,.int .u32 sg.1),(9,pR.val),(10,i64 ((pR.l.map Sv.l).length:Int)),(11,i64 i7),(15,nW.val),(16,i64 (nW.l.length:Int)),(17,i64 AZ),(25,i64 sg.2)]) (fun sg=>Mo.tt) (fun sg=>Ow.emp) ((fF .u32 YR (IntKind.wrap .u32 (aKr.toNat:Int))),0) [3,9,10,11,15,16,17,25] hS rfl ?_
   clear hS
   rintro ⟨HT,SZ⟩ m3 y3 hS hK3
   refine Zq (Zr ?_)
   refine Zu (c4 rfl rfl) ?_
   refine Zl ?_
   refine Zq ?_
   refine Zc hS (fun h26 hS => ?_) (fun h26 hS => ?_)
   ·
    refine Zk ?_
    refine Zq (Zb (Zq (Zr ?_)))
    refine Zm ?_
    refine Zu (B4 rfl rfl) ?_
    refine Zy ?_
    refine Zq (Zr ?_)
    refine Zm ?_
    refine Zu (yZ rfl rfl (by decide)) ?_
    refine Zy ?_
    refine Zq (Zr ?_)
    refine Zm ?_
    refine Zu (gV rfl rfl) ?_
    refine Zl ?_
    refine VC.keep (ρ':=[(3,.int .u32 (nD .u32 HT 1)),(9,pR.val),(10,i64 ((pR.l.map Sv.l).length:Int)),(11,i64 i7),(15,nW.val),(16,i64 (nW.l.length:Int)),(17,i64 AZ),(25,i64 SZ),(32,.bool (decide ((gE .u32 HT 1)=1)))]) [3,9,10,11,15,16,17,25,32] rfl ?_
    refine Zc hS (fun h32 hS => ?_) (fun h32 hS => ?_)
    ·
     refine Zr ?_
     refine Zm ?_
     refine Zu (tP rfl rfl) ?_
     refine Zy ?_
     refine Zr ?_
     obtain ⟨b35,hS⟩:=bU hS
     refine Zu (cR rfl rfl b35) ?_
     refine Zm ?_
     refine VL.iP ((fF .u32 (nD .u32 HT 1) 3988292384),(SZ+1)) [3,9,10,11,15,16,17,25] (fun _ _ h=>h) (go2 hS hK3) rfl
    refine Zk ?_
    refine Zr ?_
    obtain ⟨b35,hS⟩:=bU hS
    refine Zu (cR rfl rfl b35) ?_
    refine Zm ?_
    refine VL.iP ((nD .u32 HT 1),(SZ+1)) [3,9,10,11,15,16,17,25] (fun _ _ h=>h) (go2 hS hK3) rfl
   replace hS:=gA hS hK3
   refine Zx ?_
   refine Zr ?_
   obtain ⟨b36,hS⟩:=bU hS
   refine Zu (cR rfl rfl b36) ?_
   refine Zm ?_
   refine VL.iP (HT,(AZ+1)) [3,9,10,11,15,16,17] (fun _ _ h=>h) (go2 hS hK2) rfl
  replace hS:=gA hS hK2
  refine Zx ?_
  refine Zr ?_
  obtain ⟨b37,hS⟩:=bU hS
  refine Zu (cR rfl rfl b37) ?_
  refine Zm ?_
  refine VL.iP (YR,(i7+1)) [3,9,10,11] (fun _ _ h=>h) (go2 hS hK1) rfl
 replace hS:=gA hS hK1
 refine Zx ?_
 refine Zq (Zr ?_)
 refine Zm ?_
 refine Zu (aKI rfl) ?_
 refine Zy ?_
 cases hS
 exact Ze
end Go.Proofs.YtcenmlklkpgmnabGreatDoor
end
