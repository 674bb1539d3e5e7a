/- Part of the proofs of: a folder's tree, put into a store, file by file, is there again, told in bytes and loaded; each file's bytes are there once, named by one name (any tree) -/
import Derived.Test.YtcenmlklkpgmnabGreatDoorSF
set_option linter.unusedVariables false
set_option linter.unusedSimpArgs false
set_option linter.unusedSectionVars false
section
set_option linter.unusedVariables false
namespace Go.Proofs.YtcenmlklkpgmnabGreatDoor
set_option maxHeartbeats 4000000
set_option maxRecDepth 100000
set_option synthInstance.maxSize 2000
set_option synthInstance.maxHeartbeats 1000000
open Go.RowKit Go.V
open Go.S hiding bB
theorem MQ (n_1:Int) {r:List UInt8} (hS:Sh.p4 n_1=some r) :
 Ct Tryz.prog 117 [.slice none 0 0,i64 n_1] Mo.tt (Ow.emp) (X:=Sv UInt8) (fun x=>x.val) (fun x=>r=x.l) (fun x=>Mo.tt) (fun x=>Sv.own x 5):=by
 refine Zo Tryz.func117 Tryz.ntmps117 fun c => ?_
 unfold Sh.p4 at hS
 refine Zq (Zr ?_)
 refine Zy ?_
 refine Zq (Zq (Zr ?_))
 refine Zm ?_
 refine Zu (c4 rfl rfl) ?_
 refine Zl ?_
 refine Zc hS (fun h6 hS => ?_) (fun h6 hS => ?_)
 ·
  refine Zr ?_
  refine Zu (kW Tryz.underlying9 (fun _ h=>by cases h) rfl) ?_
  cases hS
 refine Zk ?_
 refine Zq (Zq (Zr ?_))
 refine Zy ?_
 refine Zu (aQ2 Tryz.underlying30 rfl) ?_
 refine Zm ?_
 refine Zu (aOE Tryz.underlying30 rfl) ?_
 obtain ⟨b13,hS⟩:=bU hS
 refine Zu (qK rfl rfl b13) ?_
 obtain ⟨b14,hS⟩:=bU hS
 refine Zu (qK rfl rfl b14) ?_
 refine Zy ?_
 refine VC.keep (ρ':=[(0,.slice none 0 0),(1,i64 (n_1 - (0 - 0)))]) [0,1] rfl ?_
 refine Zq (Zr ?_)
 refine Zm ?_
 refine Zu (iZ rfl rfl) ?_
 refine Zl ?_
 refine Zc hS (fun h16 hS => ?_) (fun h16 hS => ?_)
 ·
  refine Zr ?_
  refine Zy ?_
  refine Zu (aQ2 Tryz.underlying30 rfl) ?_
  refine Zu (a2S UInt8 Tryz.underlying30 AD rfl rfl) ?_
  refine Zm ?_
  obtain ⟨b22,hS⟩:=bU hS
  refine VL.a6X (α:=UInt8) (z:=(0:UInt8)) Tryz.underlying30 Tryz.underlying3 a6a (by decide) rfl b22.1 b22.2 (by decide) (by decide) fun a5t a15 => ?_
  replace hS:=bV a15 hS
  refine Zm ?_
  refine Zu (aOE Tryz.underlying30 rfl) ?_
  refine VL.a6h (s:=a5t) Tryz.underlying30 AD rfl rfl Fo.out (by decide) fun aYb a1a => ?_
  replace hS:=bV a1a hS
  refine Zy ?_
  refine VC.keep (ρ':=[(0,aYb.val)]) [0] rfl ?_
  refine Zq (Zr ?_)
  refine Zy ?_
  cases hS
  exact VC.ret (eB (.inr rfl) rfl rfl aYb rfl rfl (by (try dsimp only); exact cA.out) (by (try dsimp only); exact dJ.out))
 refine Zk ?_
 refine Zq (Zr ?_)
 refine Zy ?_
 refine VC.kH (⟨none,0,[]⟩:Sv UInt8) 5 ⟨rfl,rfl⟩ ?_
 cases hS
 exact VC.ret (eB (.inr rfl) rfl rfl ⟨none,0,[]⟩ rfl rfl (by (try dsimp only); exact cA.out) (by (try dsimp only); exact dJ.out))
theorem J0 (jN:Sv (Sv UInt8)) {r:List UInt8} (hS:Sh.oE (jN.l.map Sv.l)=some r) :
 Ct Tryz.prog 81 [jN.val] jN.ok (Ow.emp) (X:=Sv UInt8) (fun x=>x.val) (fun x=>r=x.l) (fun x=>Mo.tt) (fun x=>Sv.own x 5):=by
 refine Zo Tryz.func81 Tryz.ntmps81 fun c => ?_
 unfold Sh.oE at hS
 refine Zq (Zr ?_)
 refine Zy ?_
 refine Zq (Zr ?_)
 refine Zy ?_
 refine Zq (Zq (Zr ?_))
 refine Zm ?_
 refine Zu (oN Sv.l (s:=jN) Tryz.underlying191 rfl) ?_
 refine Zy ?_
 refine Zb ?_
 refine VC.iter (S:=Int×Int) (fun sg=>(sg.1,sg.2)) (fun sg=>[(0,jN.val),(3,i64 sg.1),(9,jN.val),(10,i64 ((jN.l.map Sv.l).length:Int)),(11,i64 sg.2)]) (fun sg=>Mo.tt) (fun sg=>Ow.emp) (0,0) [0,3,9,10,11] hS rfl ?_
 clear hS
 rintro ⟨IE,i7⟩ m1 y1 hS hK1
 refine Zq (Zr ?_)
 refine Zu (c4 rfl rfl) ?_
 refine Zl ?_
 refine Zq ?_
 refine Zc hS (fun h12 hS => ?_) (fun h12 hS => ?_)
 ·
  refine Zk ?_
  refine Zq (Zb (Zq (Zr ?_)))
  obtain ⟨nW,FE,zM,hS⟩:=DD hS
  refine VL.deep nW.ok zM (fun _ q=>q) ?_
  refine Zu (e8 (s:=jN) Tryz.underlying191 LF rfl rfl FE (bN FE zM)) ?_
  refine Zu (q9 (s:=jN) qM rfl zM rfl) ?_
  refine Zy ?_
  refine Zq (Zr ?_)
  refine Zy ?_
  refine Zu (dX (s:=nW) Tryz.underlying30 rfl) ?_
  obtain ⟨b18,hS⟩:=bU hS
  refine Zu (cR rfl rfl b18) ?_
  refine Zy ?_
  refine VC.keep (ρ':=[(0,jN.val),(3,i64 (IE+(nW.l.length:Int))),(9,jN.val),(10,i64 ((jN.l.map Sv.l).length:Int)),(11,i64 i7)]) [0,3,9,10,11] rfl ?_
  refine Zq (Zr ?_)
  refine Zm ?_
  refine Zu (c4 rfl rfl) ?_
  refine Zl ?_
  refine Zc hS (fun h20 hS => ?_) (fun h20 hS => ?_)
  ·
   refine Zr ?_
   refine Zu (kW Tryz.underlying9 (fun _ h=>by cases h) rfl) ?_
   cases hS
  refine Zk ?_
  refine Zr ?_
  obtain ⟨b22,hS⟩:=bU hS
  refine Zu (cR rfl rfl b22) ?_
  refine Zm ?_
  refine VL.iP ((IE+(nW.l.length:Int)),(i7+1)) [0,3,9,10,11] (fun _ _ h=>h) (go2 hS hK1) rfl
 replace hS:=gA hS hK1
 refine Zx ?_
 refine Zq (Zr ?_)
 refine Zm ?_
 obtain ⟨CF,aJT,hS⟩:=aK hS
 refine VL.bS (MQ IE aJT) rfl (by decide) ?_
 rintro aMh rfl
 try dsimp only
 refine Zy ?_
 refine Zq (Zq (Zr ?_))
 refine Zm ?_
 refine Zu (oN Sv.l (s:=jN) Tryz.underlying191 rfl) ?_
 refine Zy ?_
 refine VC.keep (ρ':=[(6,aMh.val),(25,jN.val),(26,i64 ((jN.l.map Sv.l).length:Int)),(27,i64 0)]) [6,25,26,27] rfl ?_
 refine Zb ?_
 refine VC.iter (S:=Sv UInt8×Int) (fun sg=>(sg.1.l,sg.2)) (fun sg=>[(6,sg.1.val),(25,jN.val),(26,i64 ((jN.l.map Sv.l).length:Int)),(27,i64 sg.2)]) (fun sg=>Mo.tt) (fun sg=>Ow.star (Sv.own sg.1 5) (Ow.emp)) (aMh,0) [6,25,26,27] hS rfl ?_
 clear hS
 rintro ⟨BK,aAc⟩ m1 y1 hS hK1
 refine Zq (Zr ?_)
 refine Zu (c4 rfl rfl) ?_
 refine Zl ?_
 refine Zq ?_
 refine Zc hS (fun h28 hS => ?_) (fun h28 hS => ?_)
 ·
  refine Zk ?_
  refine Zq (Zb (Zq (Zr ?_)))
  obtain ⟨aHX,aQI,aJq,hS⟩:=DD hS
  refine VL.deep aHX.ok aJq (fun _ q=>q) ?_
  refine Zu (e8 (s:=jN) Tryz.underlying191 LF rfl rfl aQI (bN aQI aJq)) ?_
  refine Zu (q9 (s:=jN) qM rfl aJq rfl) ?_
  refine Zy ?_
  refine Zr ?_
  refine Zy ?_
  obtain ⟨b33,hS⟩:=bU hS
  refine VL.app (s:=BK) (r:=aHX) Tryz.underlying30 RP (by decide) rfl Fo.out (sU b33) (sV b33 (by decide)) (by decide) (fun aYd a1g => ?_)
  replace hS:=bV a1g hS
  refine Zy ?_
  refine VC.keep (ρ':=[(6,aYd.val),(25,jN.val),(26,i64 ((jN.l.map Sv.l).length:Int)),(27,i64 aAc)]) [6,25,26,27] rfl ?_
  refine Zr ?_
  obtain ⟨b34,hS⟩:=bU hS
  refine Zu (cR rfl rfl b34) ?_
  refine Zm ?_
  refine VL.iP (aYd,(aAc+1)) [6,25,26,27] (fun _ _ h=>h) (go2 hS hK1) rfl
 replace hS:=gA hS hK1
 refine Zx ?_
 refine Zq (Zr ?_)
 refine Zy ?_
 cases hS
 exact VC.ret (eB (.inr rfl) rfl rfl BK rfl rfl (by (try dsimp only); exact cA.out) (by (try dsimp only); exact dJ.out))
theorem aCM (iA:Sv UInt8) {r:List UInt8} (hS:Sh.KH iA.l=some r) :
 Ct Tryz.prog 46 [iA.val] iA.ok (Ow.emp) (X:=Sv UInt8) (fun x=>x.val) (fun x=>r=x.l) (fun x=>Mo.tt) (fun x=>Sv.own x 5):=by
 refine Zo Tryz.func46 Tryz.ntmps46 fun c => ?_
 unfold Sh.KH at hS
 refine Zq (Zr ?_)
 refine Zy ?_
 refine Zq (Zr ?_)
 refine Zm ?_
 refine VL.lit (α:=Sv UInt8) (xs:=[.tmp 4]) (vs:=[iA.val]) [iA] Tryz.underlying191 aPF (by decide) rfl rfl rfl rfl (by decide) (fun h m=>List.forall_mem_cons.2 ⟨cA.out (X:=iA.ok) h m,fun _ h=>by cases h⟩) (by decide) (fun yN rK => ?_) (by decide)
 replace hS:=bV (congrArg (List.map Sv.l) rK) hS
 obtain ⟨mT,K3,hS⟩:=aK hS
 refine Zu (bZ (aKP yN K3) rfl (fun _ _=>rfl)) ?_
 refine Zy ?_
 refine Zq (Zr ?_)
 refine Zy ?_
 refine Zu (jK Tryz.underlying102 Tryz.underlying5 rfl) ?_
 refine Zm ?_
 refine Zu (yZ rfl rfl (by decide)) ?_
 refine Zu (jK Tryz.underlying102 Tryz.underlying5 rfl) ?_
 refine Zm ?_
 refine Zu (yZ rfl rfl (by decide)) ?_
 refine Zu (jK Tryz.underlying102 Tryz.underlying5 rfl) ?_
 refine Zm ?_
 refine Zu (yZ rfl rfl (by decide)) ?_
 refine Zu (jK Tryz.underlying102 Tryz.underlying5 rfl) ?_
 obtain ⟨a4m,hS⟩:=bU hS
 obtain ⟨aKV,aZq,hS⟩:=qT hS
 refine VL.D9 9 rfl (congrArg (Value.int .u8) (ZO a4m aZq)) ?_
 obtain ⟨aZl,hS⟩:=bU hS
 obtain ⟨aKW,aZr,hS⟩:=qT hS
 refine VL.D9 12 rfl (congrArg (Value.int .u8) (ZO aZl aZr)) ?_
 obtain ⟨aZm,hS⟩:=bU hS
 obtain ⟨aKX,aZs,hS⟩:=qT hS
 refine VL.D9 15 rfl (congrArg (Value.int .u8) (ZO aZm aZs)) ?_
 obtain ⟨aZn,hS⟩:=bU hS
 obtain ⟨aKY,aZt,hS⟩:=qT hS
 refine VL.D9 18 rfl (congrArg (Value.int .u8) (ZO aZn aZt)) ?_
 refine VL.lit (α:=UInt8) (xs:=[.tmp 9,.tmp 12,.tmp 15,.tmp 18]) (vs:=[.int .u8 (aKV.toNat:Int),.int .u8 (aKW.toNat:Int),.int .u8 (aKX.toNat:Int),.int .u8 (aKY.toNat:Int)]) [aKV,aKW,aKX,aKY] Tryz.underlying30 U0 (by decide) rfl rfl rfl rfl (by decide) (fun _ _ _ _=>trivial) (by decide) (fun SO RV => ?_) (by decide)
 replace hS:=bV RV hS
 refine VL.lit (α:=Sv UInt8) (xs:=[.tmp 7,.tmp 19]) (vs:=[iA.val,SO.val]) [iA,SO] Tryz.underlying191 aPF (by decide) rfl rfl rfl rfl (by decide) (fun h m=>List.forall_mem_cons.2 ⟨cA.out (X:=iA.ok) h m,List.forall_mem_cons.2 ⟨cA.out (X:=SO.ok) h m,fun _ h=>by cases h⟩⟩) (by decide) (fun a2W aWX => ?_) (by decide)
 replace hS:=bV (congrArg (List.map Sv.l) aWX) hS
 obtain ⟨aQx,aUT,hS⟩:=aK hS
 refine VL.bS (J0 a2W aUT) rfl (by decide) ?_
 rintro aIX rfl
 try dsimp only
 refine Zy ?_
 refine VC.keep (ρ':=[(2,aIX.val)]) [2] rfl ?_
 cases hS
 exact VC.ret (eB (.inr rfl) rfl rfl aIX rfl rfl (by (try dsimp only); exact cA.out) (by (try dsimp only); exact dJ.out))
theorem FG (bX:cN) {r:List UInt8×eY} (hS:Sh.rL bX.pl=some r) :
 Ct Tryz.prog 18 [.agg #[i64 bX.kind,bX.data.val,bX.items.val,i64 bX.tree,bX.parents.val,i64 bX.time,str bX.text]] (bX.data.ok.and (bX.items.ok.and bX.parents.ok)) (Ow.emp) (X:=Sv UInt8×Er) (fun x => .tuple #[x.1.val,x.2.val]) (fun x=>r=(x.1.l,x.2.pl)) (fun x=>x.2.ok) (fun x=>Sv.own x.1 5):=by
 refine Zo Tryz.func18 Tryz.ntmps18 fun c => ?_
 unfold Sh.rL at hS
 refine Zq (Zr ?_)
 refine VL.box (cs:=[i64 bX.kind,bX.data.val,bX.items.val,i64 bX.tree,bX.parents.val,i64 bX.time,str bX.text]) rfl rfl (by decide) fun fE => ?_
 refine Zy ?_
 refine Zq (Zq (Zr ?_))
 refine Zu (cD iY rfl rfl) ?_
 obtain ⟨EE,aAJ,hS⟩:=aK hS
 refine VL.cU (aDI bX aAJ) rfl (by decide) ?_
 rintro NG rfl
 try dsimp only
 refine Zy ?_
 refine Zq (Zr ?_)
 refine Zm ?_
 refine Zu (jM Tryz.underlying26 rfl) ?_
 refine Zl ?_
 refine rE hS (fun h11 hS => ?_) (fun h11 hS => ?_)
 ·
  refine Zq (Zr ?_)
  refine Zy ?_
  refine VC.kH (⟨none,0,[]⟩:Sv UInt8) 5 ⟨rfl,rfl⟩ ?_
  cases hS
  exact VC.ret (s6 (.inr rfl) rfl rfl rfl (⟨none,0,[]⟩,NG) rfl rfl (by (try dsimp only); exact cA.out) (by (try dsimp only); exact dJ.out))
 refine Zk ?_
 refine Zq (Zr ?_)
 refine VL.alloc (cs:=[.slice none 0 0]) (by kernel_rfl) (by decide) fun wN => ?_
 refine Zl ?_
 refine Zq (Zr ?_)
 refine Zu (aB E7 rfl) ?_
 refine Zu (aJ eP rfl rfl) ?_
 refine VL.lit (α:=Int) (xs:=[.tmp 14]) (vs:=[i64 bX.kind]) [bX.kind] Tryz.underlying32 kI (by decide) rfl rfl rfl rfl (by decide) (fun _ _ _ _=>trivial) (by decide) (fun aGq aBZ => ?_) (by decide)
 replace hS:=bV aBZ hS
 refine VL.kH (⟨none,0,[]⟩:Sv UInt8) 5 ⟨rfl,rfl⟩ ?_
 refine VL.SD wN (cs':=[(⟨none,0,[]⟩:Sv UInt8).val]) rfl ?_
 obtain ⟨uT,RF,hS⟩:=aK hS
 refine VL.bS (kY wN (⟨(⟨none,0,[]⟩:Sv UInt8)⟩:nZ) aGq RF) rfl (by decide) ?_
 rintro AM rfl
 try dsimp only
 refine Zl ?_
 refine VC.keep (ρ':=[(1,ptr fE 0),(5,ptr wN 0)]) [1,5] rfl ?_
 refine VC.gK (S:=Sv UInt8) (fun (JA:Sv UInt8)=>JA.l) (fun (JA:Sv UInt8)=>[(5,ptr wN 0)]) (fun (JA:Sv UInt8)=>Mo.tt) (fun (JA:Sv UInt8)=>Ow.star (bD wN [JA.val] 97) (Ow.star (bD fE [i64 bX.kind,bX.data.val,bX.items.val,i64 bX.tree,bX.parents.val,i64 bX.time,str bX.text] 34) (Ow.star (Sv.own JA 5) (Ow.emp)))) hS ?_ ?_
 ·
  clear hS
  intro k8 hS
  refine Zq (Zr ?_)
  refine Zu (aB E7 rfl) ?_
  refine Zu (aJ eP rfl rfl) ?_
  refine Zl ?_
  refine Zb (Zq (Zr ?_))
  refine Zu (gV rfl rfl) ?_
  refine Zy ?_
  refine Zc hS (fun h19 hS => ?_) (fun h19 hS => ?_)
  ·
   refine Zr ?_
   refine Zu (aB HZ rfl) ?_
   refine Zu (aJ qM rfl rfl) ?_
   refine Zu (R6 (s:=bX.data) Tryz.underlying30 Tryz.underlying5 Tryz.underlying9 rfl) ?_
   refine VL.lit (α:=bB) (xs:=[.tmp 23]) (vs:=[str bX.data.l]) [bX.data.l] Tryz.underlying62 x4 (by decide) rfl rfl rfl rfl (by decide) (fun _ _ _ _=>trivial) (by decide) (fun a5w a18 => ?_) (by decide)
   replace hS:=bV a18 hS
   obtain ⟨aCY,aUW,hS⟩:=aK hS
   refine VL.bS (uC wN AM a5w aUW) rfl (by decide) ?_
   rintro aSu rfl
   try dsimp only
   refine VL.mt aSu.b [5] (fun _ _ h=>h) hS rfl
  refine Zq (Zr ?_)
  refine Zu (gV rfl rfl) ?_
  refine Zy ?_
  refine Zc hS (fun h26 hS => ?_) (fun h26 hS => ?_)
  ·
   refine Zq (Zr ?_)
   refine Zu (aB sQ rfl) ?_
   refine Zu (aJ BH rfl rfl) ?_
   refine Zu (dX (s:=bX.items) Tryz.underlying31 rfl) ?_
   refine VL.lit (α:=Int) (xs:=[.tmp 30]) (vs:=[i64 (bX.items.l.length:Int)]) [(bX.items.l.length:Int)] Tryz.underlying32 kI (by decide) rfl rfl rfl rfl (by decide) (fun _ _ _ _=>trivial) (by decide) (fun a2e aWa => ?_) (by decide)
   replace hS:=bV aWa hS
   obtain ⟨aRG,aU8,hS⟩:=aK hS
   refine VL.bS (kY wN AM a2e aU8) rfl (by decide) ?_
   rintro aTE rfl
   try dsimp only
   refine Zl ?_
   refine VC.keep (ρ':=[(1,ptr fE 0),(5,ptr wN 0)]) [1,5] rfl ?_
   refine Zq (Zr ?_)
   refine Zu (aB sQ rfl) ?_
   refine Zu (aJ BH rfl rfl) ?_
   refine Zu (dX (s:=bX.items) Tryz.underlying31 rfl) ?_
   refine Zy ?_
   refine Zb ?_
   refine VC.iter (S:=Int×Sv UInt8) (fun sg=>(sg.1,sg.2.l)) (fun sg=>[(5,ptr wN 0),(34,bX.items.val),(35,i64 (bX.items.l.length:Int)),(36,i64 sg.1)]) (fun sg=>Mo.tt) (fun sg=>Ow.star (bD wN [sg.2.val] 97) (Ow.star (bD fE [i64 bX.kind,bX.data.val,bX.items.val,i64 bX.tree,bX.parents.val,i64 bX.time,str bX.text] 34) (Ow.star (Sv.own sg.2 5) (Ow.emp)))) (0,aTE.b) [5,34,35,36] hS rfl ?_
   clear hS
   rintro ⟨NN,B1⟩ m1 y1 hS hK1
   refine Zq (Zr ?_)
   refine Zu (c4 rfl rfl) ?_
   refine Zl ?_
   refine Zq ?_
   refine Zc hS (fun h37 hS => ?_) (fun h37 hS => ?_)
   ·
    refine Zk ?_
    refine Zq (Zb (Zq (Zr ?_)))
    obtain ⟨yG,VV,U4,hS⟩:=c6 hS
    refine Zu (e8 (s:=bX.items) Tryz.underlying31 G3 rfl rfl VV (bN VV U4)) ?_
    refine Zu (nR (s:=bX.items) aET rfl rfl U4) ?_
    refine VL.alloc (cs:=[str [],i64 0,i64 0]) (by kernel_rfl) (by decide) fun a4o => ?_
    refine Zv (cs':=[str yG.path,i64 yG.mode,i64 yG.oJ]) rfl G3 ?_
    refine Zl ?_
    refine Zq (Zr ?_)
    refine Zu (aB LB rfl) ?_
    refine Zu (aJ dD rfl rfl) ?_
    refine VL.lit (α:=bB) (xs:=[.tmp 41]) (vs:=[str yG.path]) [yG.path] Tryz.underlying62 x4 (by decide) rfl rfl rfl rfl (by decide) (fun _ _ _ _=>trivial) (by decide) (fun a2p aWp => ?_) (by decide)
    replace hS:=bV aWp hS
    obtain ⟨aRT,aUu,hS⟩:=aK hS
    refine VL.bS (uC wN (⟨B1⟩:nZ) a2p aUu) rfl (by decide) ?_
    rintro aTQ rfl
    try dsimp only
    refine Zl ?_
    refine VC.keep (ρ':=[(5,ptr wN 0),(34,bX.items.val),(35,i64 (bX.items.l.length:Int)),(36,i64 NN),(7,ptr a4o 0)]) [5,34,35,36,7] rfl ?_
    refine Zr ?_
    refine Zu (aB aFd rfl) ?_
    refine Zu (aJ eP rfl rfl) ?_
    refine Zu (aB aBU rfl) ?_
    refine Zu (aJ eP rfl rfl) ?_
    refine VL.lit (α:=Int) (xs:=[.tmp 45,.tmp 47]) (vs:=[i64 yG.mode,i64 yG.oJ]) [yG.mode,yG.oJ] Tryz.underlying32 kI (by decide) rfl rfl rfl rfl (by decide) (fun _ _ _ _=>trivial) (by decide) (fun a2w aWw => ?_) (by decide)
    replace hS:=bV aWw hS
    obtain ⟨aR1,aVH,hS⟩:=aK hS
    refine VL.bS (kY wN aTQ a2w aVH) rfl (by decide) ?_
    rintro aTV rfl
    try dsimp only
    refine Zl ?_
    refine VC.keep (ρ':=[(5,ptr wN 0),(34,bX.items.val),(35,i64 (bX.items.l.length:Int)),(36,i64 NN)]) [5,34,35,36] rfl ?_
    refine Zr ?_
    obtain ⟨b50,hS⟩:=bU hS
    refine Zu (cR rfl rfl b50) ?_
    refine Zm ?_
    refine VL.iP ((NN+1),aTV.b) [5,34,35,36] (fun _ _ h=>h) (go2 hS hK1) rfl
   replace hS:=gA hS hK1
   refine VC.eW B1 [5] (fun _ _ h=>h) hS rfl
  refine Zq (Zr ?_)
  refine Zu (gV rfl rfl) ?_
  refine Zy ?_
  refine Zc hS (fun h51 hS => ?_) (fun h51 hS => ?_)
  ·
   refine Zq (Zr ?_)
   refine Zu (aB CI rfl) ?_
   refine Zu (aJ eP rfl rfl) ?_
   refine Zu (aB K9 rfl) ?_
   refine Zu (aJ x5 rfl rfl) ?_
   refine Zu (dX (s:=bX.parents) Tryz.underlying32 rfl) ?_
   refine VL.lit (α:=Int) (xs:=[.tmp 54,.tmp 57]) (vs:=[i64 bX.tree,i64 (bX.parents.l.length:Int)]) [bX.tree,(bX.parents.l.length:Int)] Tryz.underlying32 kI (by decide) rfl rfl rfl rfl (by decide) (fun _ _ _ _=>trivial) (by decide) (fun a3D aXI => ?_) (by decide)
   replace hS:=bV aXI hS
   obtain ⟨Y0,aFZ,hS⟩:=aK hS
   refine VL.bS (kY wN AM a3D aFZ) rfl (by decide) ?_
   rintro aD2 rfl
   try dsimp only
   refine Zl ?_
   refine VC.keep (ρ':=[(1,ptr fE 0),(5,ptr wN 0)]) [1,5] rfl ?_
   refine Zq (Zr ?_)
   refine Zu (aB K9 rfl) ?_
   refine Zu (aJ x5 rfl rfl) ?_
   obtain ⟨aRf,aV2,hS⟩:=aK hS
   refine VL.bS (kY wN aD2 bX.parents aV2) rfl (by decide) ?_
   rintro aT2 rfl
   try dsimp only
   refine Zl ?_
   refine Zq (Zr ?_)
   refine Zu (aB CJ rfl) ?_
   refine Zu (aJ eP rfl rfl) ?_
   refine VL.lit (α:=Int) (xs:=[.tmp 64]) (vs:=[i64 bX.time]) [bX.time] Tryz.underlying32 kI (by decide) rfl rfl rfl rfl (by decide) (fun _ _ _ _=>trivial) (by decide) (fun a3G aXN => ?_) (by decide)
   replace hS:=bV aXN hS
   obtain ⟨aRk,aV6,hS⟩:=aK hS
   refine VL.bS (kY wN aT2 a3G aV6) rfl (by decide) ?_
   rintro aT3 rfl
   try dsimp only
   refine Zl ?_
   refine Zr ?_
   refine Zu (aB CK rfl) ?_
   refine Zu (aJ dD rfl rfl) ?_
   refine VL.lit (α:=bB) (xs:=[.tmp 68]) (vs:=[str bX.text]) [bX.text] Tryz.underlying62 x4 (by decide) rfl rfl rfl rfl (by decide) (fun _ _ _ _=>trivial) (by decide) (fun a3H aXO => ?_) (by decide)
   replace hS:=bV aXO hS
   obtain ⟨aRm,aVc,hS⟩:=aK hS
   refine VL.bS (uC wN aT3 a3H aVc) rfl (by decide) ?_
   rintro aT5 rfl
   try dsimp only
   refine VL.mt aT5.b [5] (fun _ _ h=>h) hS rfl
  refine VC.iC AM.b [5] (fun _ _ h=>h) hS rfl
 clear hS
 rintro JA hS
 refine Zq (Zr ?_)
 obtain ⟨aRp,aVf,hS⟩:=aK hS
 refine VL.bS (EW wN (⟨JA⟩:nZ) aVf) rfl (by decide) ?_
 rintro aT6 rfl
 try dsimp only
 obtain ⟨aRr,aVh,hS⟩:=aK hS
 refine VL.bS (aCM aT6 aVh) rfl (by decide) ?_
 rintro aT7 rfl
 try dsimp only
 refine Zy ?_
 cases hS
 exact VC.ret (s6 (.inr rfl) rfl rfl rfl (aT7,.nil) rfl rfl (by (try dsimp only); exact cA.out) (by (try dsimp only); exact dJ.out))
theorem aHA (bX:cN) {r:List Int×List Int} (hS:Sh.IL bX.pl=some r) :
 Ct Tryz.prog 19 [.agg #[i64 bX.kind,bX.data.val,bX.items.val,i64 bX.tree,bX.parents.val,i64 bX.time,str bX.text]] (bX.data.ok.and (bX.items.ok.and bX.parents.ok)) (Ow.emp) (X:=Sv Int×Sv Int) (fun x => .tuple #[x.1.val,x.2.val]) (fun x=>r=(x.1.l,x.2.l)) (fun x=>Mo.tt) (fun x=>Ow.star (Sv.own x.1 3) (Sv.own x.2 3)):=by
 refine Zo Tryz.func19 Tryz.ntmps19 fun c => ?_
 unfold Sh.IL at hS
 refine Zq (Zr ?_)
 refine VL.box (cs:=[i64 bX.kind,bX.data.val,bX.items.val,i64 bX.tree,bX.parents.val,i64 bX.time,str bX.text]) rfl rfl (by decide) fun fE => ?_
 refine Zy ?_
 refine VC.gK (S:=Sv Int×Sv Int) (fun sg=>(sg.1.l,sg.2.l)) (fun sg=>[(2,sg.1.val),(3,sg.2.val)]) (fun sg=>Mo.tt) (fun sg=>Ow.star (bD fE [i64 bX.kind,bX.data.val,bX.items.val,i64 bX.tree,bX.parents.val,i64 bX.time,str bX.text] 34) (Ow.star (Sv.own sg.1 3) (Ow.star (Sv.own sg.2 3) (Ow.emp)))) hS ?_ ?_
 ·
  clear hS
  intro k4 hS
  refine Zq (Zr ?_)
  refine Zu (aB E7 rfl) ?_
  refine Zu (aJ eP rfl rfl) ?_
  refine Zl ?_
  refine Zb (Zq (Zr ?_))
  refine Zu (gV rfl rfl) ?_
  refine Zy ?_
  refine Zc hS (fun h10 hS => ?_) (fun h10 hS => ?_)
  ·
   refine Zq (Zr ?_)
   refine Zu (aB sQ rfl) ?_
   refine Zu (aJ BH rfl rfl) ?_
   refine Zu (dX (s:=bX.items) Tryz.underlying31 rfl) ?_
   refine Zy ?_
   refine VC.keep (ρ':=[(2,.slice none 0 0),(3,.slice none 0 0),(13,bX.items.val),(14,i64 (bX.items.l.length:Int)),(15,i64 0)]) [2,3,13,14,15] rfl ?_
   refine Zb ?_
   refine VC.kH (⟨none,0,[]⟩:Sv Int) 3 ⟨rfl,rfl⟩ ?_
   refine VC.kH (⟨none,0,[]⟩:Sv Int) 3 ⟨rfl,rfl⟩ ?_
   refine VC.iter (S:=Sv Int×Sv Int×Int) (fun sg=>(sg.1.l,sg.2.1.l,sg.2.2)) (fun sg=>[(2,sg.1.val),(3,sg.2.1.val),(13,bX.items.val),(14,i64 (bX.items.l.length:Int)),(15,i64 sg.2.2)]) (fun sg=>Mo.tt) (fun sg=>Ow.star (bD fE [i64 bX.kind,bX.data.val,bX.items.val,i64 bX.tree,bX.parents.val,i64 bX.time,str bX.text] 34) (Ow.star (Sv.own sg.1 3) (Ow.star (Sv.own sg.2.1 3) (Ow.emp)))) (⟨none,0,[]⟩,⟨none,0,[]⟩,0) [2,3,13,14,15] hS rfl ?_
   clear hS
   rintro ⟨YD,KD,aAb⟩ m1 y1 hS hK1
   refine Zq (Zr ?_)
   refine Zu (c4 rfl rfl) ?_
   refine Zl ?_
   refine Zq ?_
   refine Zc hS (fun h16 hS => ?_) (fun h16 hS => ?_)
   ·
    refine Zk ?_
    refine Zq (Zb (Zq (Zr ?_)))
    obtain ⟨aAl,aPr,aPP,hS⟩:=c6 hS
    refine Zu (e8 (s:=bX.items) Tryz.underlying31 G3 rfl rfl aPr (bN aPr aPP)) ?_
    refine Zu (nR (s:=bX.items) aET rfl rfl aPP) ?_
    refine VL.alloc (cs:=[str [],i64 0,i64 0]) (by kernel_rfl) (by decide) fun aOo => ?_
    refine Zv (cs':=[str aAl.path,i64 aAl.mode,i64 aAl.oJ]) rfl G3 ?_
    refine Zl ?_
    refine Zr ?_
    refine Zm ?_
    refine Zu (aB aBU rfl) ?_
    refine Zu (aJ eP rfl rfl) ?_
    refine VL.lit (α:=Int) (xs:=[.tmp 21]) (vs:=[i64 aAl.oJ]) [aAl.oJ] Tryz.underlying32 kI (by decide) rfl rfl rfl rfl (by decide) (fun _ _ _ _=>trivial) (by decide) (fun a2Y aWZ => ?_) (by decide)
    replace hS:=bV aWZ hS
    obtain ⟨b23,hS⟩:=bU hS
    refine VL.app (s:=YD) (r:=a2Y) Tryz.underlying32 IV (by decide) rfl Fo.out (sU b23) (sV b23 (by decide)) (by decide) (fun aQb aW0 => ?_)
    replace hS:=bV aW0 hS
    refine Zm ?_
    refine VL.lit (α:=Int) (xs:=[.const (i64 1)]) (vs:=[i64 1]) [1] Tryz.underlying32 kI (by decide) rfl rfl rfl rfl (by decide) (fun _ _ _ _=>trivial) (by decide) (fun a2a aW2 => ?_) (by decide)
    replace hS:=bV aW2 hS
    obtain ⟨b26,hS⟩:=bU hS
    refine VL.app (s:=KD) (r:=a2a) Tryz.underlying32 IV (by decide) rfl Fo.out (sU b26) (sV b26 (by decide)) (by decide) (fun aQd aW4 => ?_)
    replace hS:=bV aW4 hS
    refine Zy ?_
    refine VC.keep (ρ':=[(2,aQb.val),(3,aQd.val),(13,bX.items.val),(14,i64 (bX.items.l.length:Int)),(15,i64 aAb)]) [2,3,13,14,15] rfl ?_
    refine Zr ?_
    obtain ⟨b27,hS⟩:=bU hS
    refine Zu (cR rfl rfl b27) ?_
    refine Zm ?_
    refine VL.iP (aQb,aQd,(aAb+1)) [2,3,13,14,15] (fun _ _ h=>h) (go2 hS hK1) rfl
   replace hS:=gA hS hK1
   refine VC.eW (YD,KD) [2,3] (fun _ _ h=>h) hS rfl
  refine Zq (Zr ?_)
  refine Zu (gV rfl rfl) ?_
  refine Zy ?_
  refine Zc hS (fun h28 hS => ?_) (fun h28 hS => ?_)
  ·
   refine Zq (Zr ?_)
   refine Zm ?_
   refine Zu (aB CI rfl) ?_
   refine Zu (aJ eP rfl rfl) ?_
   refine VL.lit (α:=Int) (xs:=[.tmp 32]) (vs:=[i64 bX.tree]) [bX.tree] Tryz.underlying32 kI (by decide) rfl rfl rfl rfl (by decide) (fun _ _ _ _=>trivial) (by decide) (fun a2h aWd => ?_) (by decide)
   replace hS:=bV aWd hS
   refine VL.kH (⟨none,0,[]⟩:Sv Int) 3 ⟨rfl,rfl⟩ ?_
   obtain ⟨b34,hS⟩:=bU hS
   refine VL.app (s:=(⟨none,0,[]⟩:Sv Int)) (r:=a2h) Tryz.underlying32 IV (by decide) rfl Fo.out (sU b34) (sV b34 (by decide)) (by decide) (fun aQh aWf => ?_)
   replace hS:=bV aWf hS
   refine Zm ?_
   refine VL.lit (α:=Int) (xs:=[.const (i64 2)]) (vs:=[i64 2]) [2] Tryz.underlying32 kI (by decide) rfl rfl rfl rfl (by decide) (fun _ _ _ _=>trivial) (by decide) (fun a2l aWj => ?_) (by decide)
   replace hS:=bV aWj hS
   refine VL.kH (⟨none,0,[]⟩:Sv Int) 3 ⟨rfl,rfl⟩ ?_
   obtain ⟨b37,hS⟩:=bU hS
   refine VL.app (s:=(⟨none,0,[]⟩:Sv Int)) (r:=a2l) Tryz.underlying32 IV (by decide) rfl Fo.out (sU b37) (sV b37 (by decide)) (by decide) (fun aQj aWl => ?_)
   replace hS:=bV aWl hS
   refine Zy ?_
   refine VC.keep (ρ':=[(1,ptr fE 0),(2,aQh.val),(3,aQj.val)]) [1,2,3] rfl ?_
   refine Zq (Zr ?_)
   refine Zu (aB K9 rfl) ?_
   refine Zu (aJ x5 rfl rfl) ?_
   refine Zu (dX (s:=bX.parents) Tryz.underlying32 rfl) ?_
   refine Zy ?_
   refine Zb ?_
   refine VC.iter (S:=Sv Int×Sv Int×Int) (fun sg=>(sg.1.l,sg.2.1.l,sg.2.2)) (fun sg=>[(2,sg.1.val),(3,sg.2.1.val),(39,bX.parents.val),(40,i64 (bX.parents.l.length:Int)),(41,i64 sg.2.2)]) (fun sg=>Mo.tt) (fun sg=>Ow.star (bD fE [i64 bX.kind,bX.data.val,bX.items.val,i64 bX.tree,bX.parents.val,i64 bX.time,str bX.text] 34) (Ow.star (Sv.own sg.1 3) (Ow.star (Sv.own sg.2.1 3) (Ow.emp)))) (aQh,aQj,0) [2,3,39,40,41] hS rfl ?_
   clear hS
   rintro ⟨PE,G6,S0⟩ m1 y1 hS hK1
   refine Zq (Zr ?_)
   refine Zu (c4 rfl rfl) ?_
   refine Zl ?_
   refine Zq ?_
   refine Zc hS (fun h42 hS => ?_) (fun h42 hS => ?_)
   ·
    refine Zk ?_
    refine Zq (Zb (Zq (Zr ?_)))
    obtain ⟨aEn,aMS,aLe,hS⟩:=c6 hS
    refine Zu (e8 (s:=bX.parents) Tryz.underlying32 u9 rfl rfl aMS (bN aMS aLe)) ?_
    refine Zu (q9 (s:=bX.parents) eP rfl aLe rfl) ?_
    refine Zy ?_
    refine Zr ?_
    refine Zy ?_
    refine VL.lit (α:=Int) (xs:=[.tmp 46]) (vs:=[i64 aEn]) [aEn] Tryz.underlying32 kI (by decide) rfl rfl rfl rfl (by decide) (fun _ _ _ _=>trivial) (by decide) (fun a2u aWu => ?_) (by decide)
    replace hS:=bV aWu hS
    obtain ⟨b48,hS⟩:=bU hS
    refine VL.app (s:=PE) (r:=a2u) Tryz.underlying32 IV (by decide) rfl Fo.out (sU b48) (sV b48 (by decide)) (by decide) (fun aQk aWx => ?_)
    replace hS:=bV aWx hS
    refine Zm ?_
    refine VL.lit (α:=Int) (xs:=[.const (i64 3)]) (vs:=[i64 3]) [3] Tryz.underlying32 kI (by decide) rfl rfl rfl rfl (by decide) (fun _ _ _ _=>trivial) (by decide) (fun a2z aXC => ?_) (by decide)
    replace hS:=bV aXC hS
    obtain ⟨b51,hS⟩:=bU hS
    refine VL.app (s:=G6) (r:=a2z) Tryz.underlying32 IV (by decide) rfl Fo.out (sU b51) (sV b51 (by decide)) (by decide) (fun aQm aXE => ?_)
    replace hS:=bV aXE hS
    refine Zy ?_
    refine VC.keep (ρ':=[(2,aQk.val),(3,aQm.val),(39,bX.parents.val),(40,i64 (bX.parents.l.length:Int)),(41,i64 S0)]) [2,3,39,40,41] rfl ?_
    refine Zr ?_
    obtain ⟨b52,hS⟩:=bU hS
    refine Zu (cR rfl rfl b52) ?_
    refine Zm ?_
    refine VL.iP (aQk,aQm,(S0+1)) [2,3,39,40,41] (fun _ _ h=>h) (go2 hS hK1) rfl
   replace hS:=gA hS hK1
   refine VC.eW (PE,G6) [2,3] (fun _ _ h=>h) hS rfl
  refine VC.kH (⟨none,0,[]⟩:Sv Int) 3 ⟨rfl,rfl⟩ ?_
  refine VC.kH (⟨none,0,[]⟩:Sv Int) 3 ⟨rfl,rfl⟩ ?_
  refine VC.iC (⟨none,0,[]⟩,⟨none,0,[]⟩) [2,3] (fun _ _ h=>h) hS rfl
 clear hS
 rintro ⟨aJs,aDC⟩ hS
 refine Zq (Zr ?_)
 refine Zy ?_
 cases hS
 exact VC.ret (s6 (.inr rfl) rfl rfl rfl (aJs,aDC) rfl rfl (by (try dsimp only); exact cA.out) (by (try dsimp only); exact dJ.out))
theorem IK (nS:Nat) (aA:mE) (zQ:Int) {r:Int} (hS:Sh.sF aA.pl zQ=some r) :
 Ct Tryz.prog 20 [ptr nS 0,i64 zQ] (xW aA.l.l) (Ow.star (Sv.own aA.l 34) (Ow.star (Mv.own aA.mY Tryz.prog 9 3 wU uJ) (bD nS [aA.l.val,aA.mY.val] 82))) (X:=Unit) (fun _=>i64 r) (fun _=>True) (fun _=>Mo.tt) (fun _=>Ow.star (bD nS [aA.l.val,aA.mY.val] 82) (Ow.star (Sv.own aA.l 34) (Mv.own aA.mY Tryz.prog 9 3 wU uJ))):=by
 refine Zo Tryz.func20 Tryz.ntmps20 fun c => ?_
 unfold Sh.sF at hS
 refine Zq (Zr ?_)
 refine Zy ?_
 refine Zq ?_
 refine VC.gK (S:=Bool) (fun (W9:Bool)=>W9) (fun (W9:Bool)=>[(0,ptr nS 0),(1,i64 zQ),(15,.bool W9)]) (fun (W9:Bool)=>Mo.tt) (fun (W9:Bool)=>Ow.star (bD nS [aA.l.val,aA.mY.val] 82) (Ow.star (Sv.own aA.l 34) (Ow.star (Mv.own aA.mY Tryz.prog 9 3 wU uJ) (Ow.emp)))) hS ?_ ?_
 ·
  clear hS
  intro k2 hS
  refine Zr ?_
  refine Zm ?_
  refine Zu (c4 rfl rfl) ?_
  refine Zm ?_
  refine pL 7 hS (fun h7 hS => ?_) (fun h7 hS => ?_)
  ·
   refine VL.runs 8 [(15,some true)] (by kernel_rfl) ?_
   refine VL.mt true [0,1,15] (fun _ _ h=>h) hS rfl
  refine Zy ?_
  refine Zh (aD rfl) ?_
  refine Zh (aB wR rfl) ?_
  refine Zh (aJ C5 rfl rfl) ?_
  refine Zh (oN cN.pl (s:=aA.l) Tryz.underlying80 rfl) ?_
  refine Zh (iZ rfl rfl) ?_
  refine Zf ?_
  refine VL.mt (decide (((aA.l.l.map cN.pl).length:Int) < zQ)) [0,1,15] (fun _ _ h=>h) hS rfl
 clear hS
 rintro W9 hS
 refine iL hS (fun h15 hS => ?_) (fun h15 hS => ?_)
 ·
  refine Zq (Zr ?_)
  refine Zy ?_
  cases hS
  exact VC.ret (eB (.inr rfl) rfl rfl () rfl trivial (fun _ _=>trivial) (by (try dsimp only); exact dJ.out))
 refine Zk ?_
 refine Zq (Zr ?_)
 refine Zm ?_
 refine Zu (aD rfl) ?_
 refine Zu (aB wR rfl) ?_
 refine Zu (aJ C5 rfl rfl) ?_
 refine Zm ?_
 obtain ⟨b21,hS⟩:=bU hS
 refine Zu (qK rfl rfl b21) ?_
 obtain ⟨D2,aBi,YC,hS⟩:=DD hS
 refine VL.aNe D2.m YC (fun _ q=>q) ?_
 refine Zu (lJ (s:=aA.l) Tryz.underlying80 qJ rfl rfl aBi (bN aBi YC)) ?_
 refine Zu (aB E7 rfl) ?_
 refine Zu (a2P (s:=aA.l) eP rfl YC rfl) ?_
 refine Zy ?_
 refine VC.keep (ρ':=[(4,i64 D2.kind)]) [4] rfl ?_
 cases hS
 exact VC.ret (eB (.inr rfl) rfl rfl () rfl trivial (fun _ _=>trivial) (by (try dsimp only); exact dJ.out))
theorem y5 (aA:Sv b5) {r:List b5} (hS:Sh.iS aA.l=some r) :
 Ct Tryz.prog 49 [aA.val] aA.ok (Ow.emp) (X:=Sv b5) (fun x=>x.val) (fun x=>r=x.l) (fun x=>Mo.tt) (fun x=>Sv.own x 40):=by
 refine Zo Tryz.func49 Tryz.ntmps49 fun c => ?_
 unfold Sh.iS at hS
 refine Zq (Zr ?_)
 refine Zy ?_
 refine Zq (Zq (Zr ?_))
 refine Zm ?_
 refine Zu (ID (s:=aA) Tryz.underlying31 rfl) ?_
 refine Zl ?_
 refine VC.slnil (s:=aA) rfl (fun h4 => ?_) ?_
 ·
  have hS:(some [])=some r:=by
    simp [lt,gd,h4] at hS ⊢
    try exact hS
  refine Zq (Zr ?_)
  refine Zy ?_
  refine VC.kH (⟨none,0,[]⟩:Sv b5) 40 ⟨rfl,rfl⟩ ?_
  cases hS
  exact VC.ret (eB (.inr rfl) rfl rfl ⟨none,0,[]⟩ rfl rfl (by (try dsimp only); exact cA.out) (by (try dsimp only); exact dJ.out))
 refine Zk ?_
 refine Zq (Zr ?_)
 refine VL.aDz (α:=b5) Tryz.underlying31 a1C (by decide) (fun yN rK x7 => ?_)
 refine VL.kH yN 40 ⟨x7,rK⟩ ?_
 replace hS:=bV rK hS
 refine Zm ?_
 obtain ⟨b7,hS⟩:=bU hS
 refine VL.app (s:=yN) (r:=aA) Tryz.underlying31 aJ7 (by decide) rfl Fo.out (sU b7) (sV b7 (by decide)) (by decide) (fun L7 B2 => ?_)
 replace hS:=bV B2 hS
 refine Zy ?_
 cases hS
 exact VC.ret (eB (.inr rfl) rfl rfl L7 rfl rfl (by (try dsimp only); exact cA.out) (by (try dsimp only); exact dJ.out))
theorem rA (aA:Sv b5) {r:List b5} (hS:Sh.gW aA.l=some r) :
 Ct Tryz.prog 48 [aA.val] aA.ok (Ow.emp) (X:=Sv b5) (fun x=>x.val) (fun x=>r=x.l) (fun x=>x.ok) (fun x=>Ow.emp):=by
 refine Zo Tryz.func48 Tryz.ntmps48 fun c => ?_
 unfold Sh.gW at hS
 refine Zq (Zr ?_)
 refine Zy ?_
 refine Zq (Zr ?_)
 refine Zy ?_
 refine Zu (dX (s:=aA) Tryz.underlying31 rfl) ?_
 refine Zm ?_
 refine Zu (dX (s:=aA) Tryz.underlying31 rfl) ?_
 obtain ⟨b8,hS⟩:=bU hS
 refine VL.WX Tryz.underlying31 G3 rfl rfl rfl b8.1 (b8.2) (by decide) fun CX vL => ?_
 replace hS:=bV vL hS
 refine Zy ?_
 cases hS
 exact VC.ret (eB (.inr rfl) rfl rfl CX rfl rfl (by (try dsimp only); exact cA.out) (fun _ _=>trivial))
theorem T7 (bX:cN) {r:aY} (hS:Sh.BS bX.pl=some r) :
 Ct Tryz.prog 21 [.agg #[i64 bX.kind,bX.data.val,bX.items.val,i64 bX.tree,bX.parents.val,i64 bX.time,str bX.text]] (bX.data.ok.and (bX.items.ok.and bX.parents.ok)) (Ow.emp) (X:=cN) (fun x => .agg (bM.enc x).toArray) (fun x=>r=x.pl) (fun x=>x.m) (fun x=>Ow.emp):=by
 refine Zo Tryz.func21 Tryz.ntmps21 fun c => ?_
 unfold Sh.BS at hS
 refine Zq (Zr ?_)
 refine VL.box (cs:=[i64 bX.kind,bX.data.val,bX.items.val,i64 bX.tree,bX.parents.val,i64 bX.time,str bX.text]) rfl rfl (by decide) fun fE => ?_
 refine VL.alloc (cs:=[i64 0,.slice none 0 0,.slice none 0 0,i64 0,.slice none 0 0,i64 0,str []]) (by kernel_rfl) (by decide) fun EF => ?_
 refine Zl ?_
 refine Zq (Zr ?_)
 refine Zu (aB E7 rfl) ?_
 refine Zu (aJ eP rfl rfl) ?_
 refine Zu (eN (vs:=[(0,i64 bX.kind)]) (cs := #[i64 bX.kind,.slice none 0 0,.slice none 0 0,i64 0,.slice none 0 0,i64 0,str []]) rfl (by kernel_rfl)) ?_
 refine VL.alloc (cs:=[i64 0,.slice none 0 0,.slice none 0 0,i64 0,.slice none 0 0,i64 0,str []]) (by kernel_rfl) (by decide) fun KQ => ?_
 refine Zv (cs':=[i64 bX.kind,.slice none 0 0,.slice none 0 0,i64 0,.slice none 0 0,i64 0,str []]) rfl qJ ?_
 refine Zl ?_
 refine Zq (Zq (Zr ?_))
 refine Zu (aB E7 rfl) ?_
 refine Zu (aJ eP rfl rfl) ?_
 refine Zl ?_
 refine Zb (Zq (Zr ?_))
 refine Zu (gV rfl rfl) ?_
 refine Zy ?_
 refine Zc hS (fun h9 hS => ?_) (fun h9 hS => ?_)
 ·
  refine Zr ?_
  refine Zu (aB HZ rfl) ?_
  refine Zu (aJ qM rfl rfl) ?_
  obtain ⟨A4,aBD,hS⟩:=aK hS
  refine VL.bS (kO bX.data aBD) rfl (by decide) ?_
  rintro sR rfl
  try dsimp only
  refine VL.shut sR 5 (fun _ _ _ _=>trivial) ?_
  obtain ⟨aHE,aJJ,hS⟩:=aK hS
  refine VL.cU (qO sR aJJ) rfl (by decide) ?_
  rintro LU rfl
  try dsimp only
  refine Zu (aB HZ rfl) ?_
  refine Zv (cs':=[i64 bX.kind,LU.val,.slice none 0 0,i64 0,.slice none 0 0,i64 0,str []]) rfl LF ?_
  refine Zl ?_
  refine VC.keep (ρ':=[(2,ptr EF 0),(3,ptr KQ 0)]) [2,3] rfl ?_
  refine Zq (Zr ?_)
  refine Zu (cD iY rfl rfl) ?_
  refine Zv (cs':=[i64 bX.kind,LU.val,.slice none 0 0,i64 0,.slice none 0 0,i64 0,str []]) rfl qJ ?_
  refine Zl ?_
  cases hS
  exact VC.ret (hG (vs:=[.agg #[i64 bX.kind,LU.val,.slice none 0 0,i64 0,.slice none 0 0,i64 0,str []]]) (.inr rfl) rfl (dS.cell iY rfl rfl Rd.blk (dS.nil)) ⟨bX.kind,LU,⟨none,0,[]⟩,0,⟨none,0,[]⟩,0,[]⟩ rfl rfl (by (try dsimp only); exact cA.out) (fun _ _=>trivial))
 refine Zq (Zr ?_)
 refine Zu (gV rfl rfl) ?_
 refine Zy ?_
 refine VC.keep (ρ':=[(1,ptr fE 0),(2,ptr EF 0),(3,ptr KQ 0),(8,i64 bX.kind),(16,.bool (decide (bX.kind=2)))]) [1,2,3,8,16] rfl ?_
 refine Zc hS (fun h16 hS => ?_) (fun h16 hS => ?_)
 ·
  refine Zr ?_
  refine Zu (aB sQ rfl) ?_
  refine Zu (aJ BH rfl rfl) ?_
  obtain ⟨MK,aBK,hS⟩:=aK hS
  refine VL.bS (y5 bX.items aBK) rfl (by decide) ?_
  rintro AO rfl
  try dsimp only
  refine VL.shut AO 40 (fun _ _ _ _=>trivial) ?_
  obtain ⟨S8,aJQ,hS⟩:=aK hS
  refine VL.cU (rA AO aJQ) rfl (by decide) ?_
  rintro aBx rfl
  try dsimp only
  refine Zu (aB sQ rfl) ?_
  refine Zv (cs':=[i64 bX.kind,.slice none 0 0,aBx.val,i64 0,.slice none 0 0,i64 0,str []]) rfl aNn ?_
  refine Zl ?_
  refine Zq (Zr ?_)
  refine Zu (cD iY rfl rfl) ?_
  refine Zv (cs':=[i64 bX.kind,.slice none 0 0,aBx.val,i64 0,.slice none 0 0,i64 0,str []]) rfl qJ ?_
  refine Zl ?_
  refine VC.keep (ρ':=[(2,ptr EF 0)]) [2] rfl ?_
  cases hS
  exact VC.ret (hG (vs:=[.agg #[i64 bX.kind,.slice none 0 0,aBx.val,i64 0,.slice none 0 0,i64 0,str []]]) (.inr rfl) rfl (dS.cell iY rfl rfl Rd.blk (dS.nil)) ⟨bX.kind,⟨none,0,[]⟩,aBx,0,⟨none,0,[]⟩,0,[]⟩ rfl rfl (by (try dsimp only); exact cA.out) (fun _ _=>trivial))
 refine Zq (Zr ?_)
 refine Zu (gV rfl rfl) ?_
 refine Zy ?_
 refine Zc hS (fun h23 hS => ?_) (fun h23 hS => ?_)
 ·
  refine VC.draw [(0,true),(1,true),(2,true),(3,true),(6,true),(7,true),(8,true),(9,true),(10,true),(4,false),(5,false),(11,false),(12,true),(13,false),(14,true),(15,false),(16,true),(17,false)] mixed (by kernel_rfl) (by kernel_rfl) (by kernel_rfl) ?_
  refine Zw rfl (aB CI rfl) ?_
  refine Zw rfl (aJ eP rfl rfl) ?_
  refine Zw rfl (aB K9 rfl) ?_
  refine Zw rfl (aJ x5 rfl rfl) ?_
  refine Zw rfl (aB CJ rfl) ?_
  refine Zw rfl (aJ eP rfl rfl) ?_
  refine Zw rfl (aB CK rfl) ?_
  refine Zw rfl (aJ dD rfl rfl) ?_
  refine Zw rfl (aB CI rfl) ?_
  refine VD.one rfl ?_
  obtain ⟨aHM,aJ1,hS⟩:=aK hS
  refine VL.bS (vO bX.parents aJ1) rfl (by decide) ?_
  rintro aCB rfl
  try dsimp only
  refine VL.back (D':=[(10,ptr KQ 3),(9,str bX.text),(8,ptr fE 6),(7,i64 bX.time),(6,ptr fE 5),(1,i64 bX.tree),(0,ptr fE 3)]) (by kernel_rfl) (aF.cons rfl (aB CI rfl) (aF.cons rfl (aJ dD rfl rfl) (aF.cons rfl (aB CK rfl) (aF.cons rfl (aJ eP rfl rfl) (aF.cons rfl (aB CJ rfl) (aF.cons rfl (aJ eP rfl rfl) (aF.cons rfl (aB CI rfl) (aF.nil)))))))) ?_
  refine VD.one rfl ?_
  refine VL.shut aCB 3 (fun _ _ _ _=>trivial) ?_
  obtain ⟨s5,xY,hS⟩:=aK hS
  refine VL.cU (o4 aCB xY) rfl (by decide) ?_
  rintro nO rfl
  try dsimp only
  refine VL.back (D':=[(10,ptr KQ 3),(9,str bX.text),(8,ptr fE 6),(7,i64 bX.time),(6,ptr fE 5),(1,i64 bX.tree),(0,ptr fE 3)]) (by kernel_rfl) (aF.cons rfl (aB CI rfl) (aF.cons rfl (aJ dD rfl rfl) (aF.cons rfl (aB CK rfl) (aF.cons rfl (aJ eP rfl rfl) (aF.cons rfl (aB CJ rfl) (aF.cons rfl (aJ eP rfl rfl) (aF.cons rfl (aB CI rfl) (aF.nil)))))))) ?_
  refine VD.one rfl ?_
  refine Zv (cs':=[i64 bX.kind,.slice none 0 0,.slice none 0 0,i64 bX.tree,.slice none 0 0,i64 0,str []]) rfl u9 ?_
  refine VL.back (D':=[(9,str bX.text),(8,ptr fE 6),(7,i64 bX.time),(6,ptr fE 5)]) (by kernel_rfl) (aF.cons rfl (aJ dD rfl rfl) (aF.cons rfl (aB CK rfl) (aF.cons rfl (aJ eP rfl rfl) (aF.cons rfl (aB CJ rfl) (aF.nil))))) ?_
  refine Zw rfl (aB K9 rfl) ?_
  refine VD.one rfl ?_
  refine Zv (cs':=[i64 bX.kind,.slice none 0 0,.slice none 0 0,i64 bX.tree,nO.val,i64 0,str []]) rfl aCx ?_
  refine VL.back (D':=[(9,str bX.text),(8,ptr fE 6),(7,i64 bX.time),(6,ptr fE 5)]) (by kernel_rfl) (aF.cons rfl (aJ dD rfl rfl) (aF.cons rfl (aB CK rfl) (aF.cons rfl (aJ eP rfl rfl) (aF.cons rfl (aB CJ rfl) (aF.nil))))) ?_
  refine Zw rfl (aB CJ rfl) ?_
  refine VD.one rfl ?_
  refine Zv (cs':=[i64 bX.kind,.slice none 0 0,.slice none 0 0,i64 bX.tree,nO.val,i64 bX.time,str []]) rfl u9 ?_
  refine VL.back (D':=[(9,str bX.text),(8,ptr fE 6)]) (by kernel_rfl) (aF.cons rfl (aJ dD rfl rfl) (aF.cons rfl (aB CK rfl) (aF.nil))) ?_
  refine Zw rfl (aB CK rfl) ?_
  refine VD.one rfl ?_
  refine Zv (cs':=[i64 bX.kind,.slice none 0 0,.slice none 0 0,i64 bX.tree,nO.val,i64 bX.time,str bX.text]) rfl vA ?_
  refine VL.back (D':=[]) (by kernel_rfl) (aF.nil) ?_
  refine VD.to (fun _ _ h=>h) ?_
  refine VC.keep (ρ':=[(2,ptr EF 0),(3,ptr KQ 0)]) [2,3] rfl ?_
  refine Zq (Zr ?_)
  refine Zu (cD iY rfl rfl) ?_
  refine Zv (cs':=[i64 bX.kind,.slice none 0 0,.slice none 0 0,i64 bX.tree,nO.val,i64 bX.time,str bX.text]) rfl qJ ?_
  refine Zl ?_
  cases hS
  exact VC.ret (hG (vs:=[.agg #[i64 bX.kind,.slice none 0 0,.slice none 0 0,i64 bX.tree,nO.val,i64 bX.time,str bX.text]]) (.inr rfl) rfl (dS.cell iY rfl rfl Rd.blk (dS.nil)) ⟨bX.kind,⟨none,0,[]⟩,⟨none,0,[]⟩,bX.tree,nO,bX.time,bX.text⟩ rfl rfl (by (try dsimp only); exact cA.out) (fun _ _=>trivial))
 refine Zk ?_
 refine Zq (Zr ?_)
 refine Zu (cD iY rfl rfl) ?_
 refine Zv (cs':=[i64 bX.kind,.slice none 0 0,.slice none 0 0,i64 0,.slice none 0 0,i64 0,str []]) rfl qJ ?_
 refine Zl ?_
 cases hS
 exact VC.ret (hG (vs:=[.agg #[i64 bX.kind,.slice none 0 0,.slice none 0 0,i64 0,.slice none 0 0,i64 0,str []]]) (.inr rfl) rfl (dS.cell iY rfl rfl Rd.blk (dS.nil)) ⟨bX.kind,⟨none,0,[]⟩,⟨none,0,[]⟩,0,⟨none,0,[]⟩,0,[]⟩ rfl rfl (by (try dsimp only); exact cA.out) (fun _ _=>trivial))
theorem CB (nS:Nat) (aA:mE) (CM:cN) {r:Int×eY×kK} (hS:Sh.mC aA.pl CM.pl=some r) :
 Ct Tryz.prog 7 [ptr nS 0,.agg #[i64 CM.kind,CM.data.val,CM.items.val,i64 CM.tree,CM.parents.val,i64 CM.time,str CM.text]] ((xW aA.l.l).and (CM.data.ok.and (CM.items.ok.and CM.parents.ok))) (Ow.star (Sv.own aA.l 34) (Ow.star (Mv.own aA.mY Tryz.prog 9 3 wU uJ) (bD nS [aA.l.val,aA.mY.val] 82))) (X:=Int×Er×mE) (fun x => .tuple #[i64 x.1,x.2.1.val]) (fun x=>r=(x.1,x.2.1.pl,x.2.2.pl)) (fun x=>(x.2.1.ok.and (xW x.2.2.l.l))) (fun x=>Ow.star (bD nS [x.2.2.l.val,x.2.2.mY.val] 82) (Ow.star (Sv.own x.2.2.l 34) (Mv.own x.2.2.mY Tryz.prog 9 3 wU uJ))):=by
 refine Zo Tryz.func7 Tryz.ntmps7 fun c => ?_
 unfold Sh.mC at hS
 refine Zq (Zr ?_)
 refine VL.box (cs:=[i64 CM.kind,CM.data.val,CM.items.val,i64 CM.tree,CM.parents.val,i64 CM.time,str CM.text]) rfl rfl (by decide) fun fX => ?_
 refine Zy ?_
 refine Zq (Zr ?_)
 refine Zu (cD iY rfl rfl) ?_
 obtain ⟨CE,aJL,hS⟩:=aK hS
 refine VL.bS (FG CM aJL) rfl (by decide) ?_
 rintro ⟨nM,FM⟩ rfl
 try dsimp only
 refine Zm ?_
 refine Zu (aW rfl rfl) ?_
 refine Zu (aW rfl rfl) ?_
 refine Zy ?_
 refine VC.keep (ρ':=[(0,ptr nS 0),(3,ptr fX 0),(6,nM.val),(7,FM.val)]) [0,3,6,7] rfl ?_
 refine Zq (Zq (Zr ?_))
 refine Zm ?_
 refine Zu (jM Tryz.underlying26 rfl) ?_
 refine Zl ?_
 refine rE hS (fun h20 hS => ?_) (fun h20 hS => ?_)
 ·
  refine Zq (Zr ?_)
  refine Zy ?_
  cases hS
  exact VC.ret (s6 (.inr rfl) rfl rfl rfl (0,FM,⟨aA.l,aA.mY⟩) rfl rfl (by (try dsimp only); exact cA.out) (by (try dsimp only); exact dJ.out))
 refine Zk ?_
 refine Zq (Zr ?_)
 refine Zu (cD iY rfl rfl) ?_
 obtain ⟨aK7,a0T,hS⟩:=aK hS
 refine VL.bS (aHA CM a0T) rfl (by decide) ?_
 rintro ⟨FO,CS⟩ rfl
 try dsimp only
 refine Zm ?_
 refine Zu (aW rfl rfl) ?_
 refine Zu (aW rfl rfl) ?_
 refine Zy ?_
 refine VC.keep (ρ':=[(0,ptr nS 0),(3,ptr fX 0),(6,nM.val),(8,FO.val),(9,CS.val)]) [0,3,6,8,9] rfl ?_
 refine Zq (Zq (Zr ?_))
 refine Zm ?_
 refine Zu (dX (s:=FO) Tryz.underlying32 rfl) ?_
 refine Zy ?_
 refine Zb ?_
 refine VC.iter (S:=Int) (fun (DW:Int)=>DW) (fun (DW:Int)=>[(0,ptr nS 0),(3,ptr fX 0),(6,nM.val),(9,CS.val),(27,FO.val),(28,i64 (FO.l.length:Int)),(29,i64 DW)]) (fun (DW:Int)=>Mo.tt) (fun (DW:Int)=>Ow.star (bD fX [i64 CM.kind,CM.data.val,CM.items.val,i64 CM.tree,CM.parents.val,i64 CM.time,str CM.text] 34) (Ow.star (bD nS [aA.l.val,aA.mY.val] 82) (Ow.star (Sv.own CS 3) (Ow.star (Sv.own FO 3) (Ow.star (Sv.own nM 5) (Ow.star (Sv.own aA.l 34) (Ow.star (Mv.own aA.mY Tryz.prog 9 3 wU uJ) (Ow.emp)))))))) 0 [0,3,6,9,27,28,29] hS rfl ?_
 clear hS
 rintro DW m1 y1 hS hK1
 refine Zq (Zr ?_)
 refine Zu (c4 rfl rfl) ?_
 refine Zl ?_
 refine Zq ?_
 refine Zc hS (fun h30 hS => ?_) (fun h30 hS => ?_)
 ·
  refine Zk ?_
  refine Zq (Zb (Zq (Zr ?_)))
  refine Zm ?_
  obtain ⟨OX,aQM,aP6,hS⟩:=c6 hS
  refine Zu (lJ (s:=FO) Tryz.underlying32 u9 rfl rfl aQM (bN aQM aP6)) ?_
  refine Zu (DN (s:=FO) 3 eP rfl aP6 rfl) ?_
  refine Zy ?_
  refine Zq ?_
  refine VC.draw [(0,true),(1,true),(3,true),(4,true),(5,true),(6,true),(2,false),(7,true)] mixed (by kernel_rfl) (by kernel_rfl) (by kernel_rfl) ?_
  refine Zw rfl (bA rfl) ?_
  refine Zw rfl (bA rfl) ?_
  refine Zw rfl (bA rfl) ?_
  refine Zw rfl (bA rfl) ?_
  obtain ⟨aKv,aE2,aEZ,hS⟩:=c6 hS
  refine Zw rfl (lJ (s:=CS) Tryz.underlying32 u9 rfl rfl aE2 (bN aE2 aEZ)) ?_
  refine Zw rfl (DN (s:=CS) 3 eP rfl aEZ rfl) ?_
  refine VD.one rfl ?_
  obtain ⟨aO4,a0f,hS⟩:=aK hS
  refine VL.bS (IK nS aA OX a0f) rfl (by decide) ?_
  rintro _ _
  try dsimp only
  refine VL.back (D':=[(6,i64 aKv),(5,ptr CS.b (CS.o+(DW).toNat*bM.sz Int+0))]) (by kernel_rfl) (aF.cons rfl (DN (s:=CS) 3 eP rfl aEZ rfl) (aF.cons rfl (lJ (s:=CS) Tryz.underlying32 u9 rfl rfl aE2 (bN aE2 aEZ)) (aF.nil))) ?_
  refine Zw rfl (yY rfl rfl) ?_
  refine VD.to (fun _ _ h=>h) ?_
  refine VC.keep (ρ':=[(0,ptr nS 0),(3,ptr fX 0),(6,nM.val),(9,CS.val),(27,FO.val),(28,i64 (FO.l.length:Int)),(29,i64 DW),(11,i64 OX),(41,.bool (!decide (aO4=aKv)))]) [0,3,6,9,27,28,29,11,41] rfl ?_
  refine rE hS (fun h41 hS => ?_) (fun h41 hS => ?_)
  ·
   refine Zq (Zr ?_)
   refine Zm ?_
   refine Zu (kW Tryz.underlying75 (fun _ h=>by cases h) rfl) ?_
   refine Zu (eN (vs:=[(0,str [114,101,102]),(1,i64 OX),(2,(Er.no 5).val)]) (cs := #[str [114,101,102],i64 OX,(Er.no 5).val]) rfl (by kernel_rfl)) ?_
   refine VL.box (cs:=[str [114,101,102],i64 OX,(Er.no 5).val]) rfl rfl (by decide) fun aNZ => ?_
   refine VL.OD aNZ ?_
   refine Zu (kW Tryz.underlying74 (fun _ h=>by cases h) rfl) ?_
   refine Zy ?_
   refine VC.keep (ρ':=[(4,i64 0),(5,(Er.fault aNZ [114,101,102] OX (Er.no 5)).val)]) [4,5] rfl ?_
   replace hS:=gA hS hK1
   cases hS
   exact VC.ret (s6 (.inr rfl) rfl rfl rfl (0,(Er.fault aNZ [114,101,102] OX (Er.no 5)),⟨aA.l,aA.mY⟩) rfl rfl (by (try dsimp only); exact cA.out) (by (try dsimp only); exact dJ.out))
  refine Zk ?_
  refine Zr ?_
  obtain ⟨b47,hS⟩:=bU hS
  refine Zu (cR rfl rfl b47) ?_
  refine Zm ?_
  refine VL.iP (DW+1) [0,3,6,9,27,28,29] (fun _ _ h=>h) (go2 hS hK1) rfl
 replace hS:=gA hS hK1
 refine Zx ?_
 refine Zq (Zq ?_)
 refine VC.draw ((List.range 12).map fun k=>(k,true)) mixed (by kernel_rfl) (by kernel_rfl) (by kernel_rfl) ?_
 refine Zw rfl (bA rfl) ?_
 refine Zw rfl (aD rfl) ?_
 refine Zw rfl (aB aL2 rfl) ?_
 refine Zw rfl (aJ aPH rfl rfl) ?_
 refine Zw rfl (bA rfl) ?_
 refine Zw rfl (R6 (s:=nM) Tryz.underlying30 Tryz.underlying5 Tryz.underlying9 rfl) ?_
 obtain ⟨b55,hS⟩:=bU hS
 refine Zw rfl (aTc (m:=aA.mY) (a0:=nM.l) (Maps.string_keyed Tryz.underlying9) Tryz.underlying79 Tryz.underlying3 a6c rfl rfl (a4c Tryz.underlying9 b55)) ?_
 refine Zw rfl (bA rfl) ?_
 refine Zw rfl (aW rfl rfl) ?_
 refine Zw rfl (aW rfl rfl) ?_
 refine Zw rfl (eO rfl) ?_
 refine Zw rfl (eO rfl) ?_
 refine VD.to (fun _ _ h=>h) ?_
 refine VC.keep (ρ':=[(0,ptr nS 0),(3,ptr fX 0),(6,nM.val),(12,i64 ((tK aA.mY.l nM.l).getD 0)),(13,.bool ((tK aA.mY.l nM.l).isSome))]) [0,3,6,12,13] rfl ?_
 refine Zq (Zr ?_)
 refine Zy ?_
 refine iL hS (fun h58 hS => ?_) (fun h58 hS => ?_)
 ·
  refine Zq (Zr ?_)
  refine Zy ?_
  cases hS
  exact VC.ret (s6 (.inr rfl) rfl rfl rfl (((tK aA.mY.l nM.l).getD 0),.nil,⟨aA.l,aA.mY⟩) rfl rfl (by (try dsimp only); exact cA.out) (by (try dsimp only); exact dJ.out))
 refine Zk ?_
 refine Zq (Zq (Zr ?_))
 refine Zm ?_
 refine Zu (aD rfl) ?_
 refine Zu (aB wR rfl) ?_
 refine Zu (aJ C5 rfl rfl) ?_
 refine Zu (oN cN.pl (s:=aA.l) Tryz.underlying80 rfl) ?_
 refine Zu (sK rfl rfl) ?_
 refine Zl ?_
 refine VC.keep (ρ':=[(0,ptr nS 0),(3,ptr fX 0),(6,nM.val),(65,.bool (decide (4096≤((aA.l.l.map cN.pl).length:Int))))]) [0,3,6,65] rfl ?_
 refine Zc hS (fun h65 hS => ?_) (fun h65 hS => ?_)
 ·
  refine Zq ?_
  refine VC.draw [(0,true),(1,true),(2,true),(3,true),(4,true),(5,true),(6,true),(9,true),(7,false),(8,true),(10,true)] mixed (by kernel_rfl) (by kernel_rfl) (by kernel_rfl) ?_
  refine Zw rfl (bA rfl) ?_
  refine Zw rfl (aD rfl) ?_
  refine Zw rfl (aB wR rfl) ?_
  refine Zw rfl (aJ C5 rfl rfl) ?_
  refine Zw rfl (oN cN.pl (s:=aA.l) Tryz.underlying80 rfl) ?_
  refine Zw rfl (kW Tryz.underlying75 (fun _ h=>by cases h) rfl) ?_
  refine Zw rfl (eN (vs:=[(0,str [115,116,111,114,101]),(1,i64 ((aA.l.l.map cN.pl).length:Int)),(2,(Er.no 4).val)]) (cs := #[str [115,116,111,114,101],i64 ((aA.l.l.map cN.pl).length:Int),(Er.no 4).val]) rfl (by kernel_rfl)) ?_
  refine Zw rfl (eO rfl) ?_
  refine VD.one rfl ?_
  refine VL.box (cs:=[str [115,116,111,114,101],i64 ((aA.l.l.map cN.pl).length:Int),(Er.no 4).val]) rfl rfl (by decide) fun aN0 => ?_
  refine VL.back (D':=[(9,i64 0)]) (by kernel_rfl) (aF.cons rfl (eO rfl) (aF.nil)) ?_
  refine VD.OD aN0 ?_
  refine Zw rfl (kW Tryz.underlying74 (fun _ h=>by cases h) rfl) ?_
  refine Zw rfl (eO rfl) ?_
  refine VD.to (fun _ _ h=>h) ?_
  refine VC.keep (ρ':=[(4,i64 0),(5,(Er.fault aN0 [115,116,111,114,101] ((aA.l.l.map cN.pl).length:Int) (Er.no 4)).val)]) [4,5] rfl ?_
  cases hS
  exact VC.ret (s6 (.inr rfl) rfl rfl rfl (0,(Er.fault aN0 [115,116,111,114,101] ((aA.l.l.map cN.pl).length:Int) (Er.no 4)),⟨aA.l,aA.mY⟩) rfl rfl (by (try dsimp only); exact cA.out) (by (try dsimp only); exact dJ.out))
 refine Zk ?_
 refine Zq ?_
 refine VC.draw [(0,true),(1,true),(2,true),(3,true),(4,true),(5,true),(6,false),(7,false),(8,false),(9,true),(10,true),(11,false)] mixed (by kernel_rfl) (by kernel_rfl) (by kernel_rfl) ?_
 refine Zw rfl (bA rfl) ?_
 refine Zw rfl (bA rfl) ?_
 refine Zw rfl (aD rfl) ?_
 refine Zw rfl (aB wR rfl) ?_
 refine Zw rfl (aJ C5 rfl rfl) ?_
 refine Zw rfl (cD iY rfl rfl) ?_
 refine VD.one rfl ?_
 obtain ⟨N0,aVp,hS⟩:=aK hS
 refine VL.cU (T7 CM aVp) rfl (by decide) ?_
 rintro oY rfl
 try dsimp only
 refine VL.back (D':=[(4,aA.l.val),(3,ptr nS 0),(2,ptr nS 0)]) (by kernel_rfl) (aF.cons rfl (aJ C5 rfl rfl) (aF.cons rfl (aB wR rfl) (aF.cons rfl (aD rfl) (aF.nil)))) ?_
 refine VD.one rfl ?_
 refine VL.lit (α:=cN) (xs:=[.tmp 81]) (vs:=[.agg #[i64 oY.kind,oY.data.val,oY.items.val,i64 oY.tree,oY.parents.val,i64 oY.time,str oY.text]]) [⟨oY.kind,oY.data,oY.items,oY.tree,oY.parents,oY.time,oY.text⟩] Tryz.underlying80 a1G (by decide) rfl rfl rfl rfl (by decide) (fun h m=>List.forall_mem_cons.2 ⟨cA.out (X:=(oY.data.ok.and (oY.items.ok.and oY.parents.ok))) h m,fun _ h=>by cases h⟩) (by decide) (fun a3K aXS => ?_) (by decide)
 replace hS:=bV (congrArg (List.map cN.pl) aXS) hS
 refine VL.back (D':=[(4,aA.l.val),(3,ptr nS 0),(2,ptr nS 0)]) (by kernel_rfl) (aF.cons rfl (aJ C5 rfl rfl) (aF.cons rfl (aB wR rfl) (aF.cons rfl (aD rfl) (aF.nil)))) ?_
 refine VD.one rfl ?_
 obtain ⟨b83,hS⟩:=bU hS
 refine VL.app (s:=aA.l) (r:=a3K) Tryz.underlying80 a0x (by decide) rfl Fo.out (sU (apm b83)) (sV (apm b83) (by decide)) (by decide) (fun YQ aL6 => ?_)
 replace hS:=bV ((congrArg (List.map cN.pl) aL6).trans List.map_append) hS
 refine VL.aDD aL6 ?_
 refine VL.back (D':=[]) (by kernel_rfl) (aF.nil) ?_
 refine Zw rfl (aD rfl) ?_
 refine Zw rfl (aB wR rfl) ?_
 refine VD.one rfl ?_
 refine Zv (cs':=[YQ.val,aA.mY.val]) rfl a5J ?_
 refine VL.back (D':=[]) (by kernel_rfl) (aF.nil) ?_
 refine VD.to (fun _ _ h=>h) ?_
 refine VC.keep (ρ':=[(0,ptr nS 0),(6,nM.val)]) [0,6] rfl ?_
 refine Zq ?_
 refine VC.draw [(0,true),(1,true),(2,true),(3,true),(4,true),(5,true),(6,true),(7,true),(8,true),(9,true),(10,true),(11,false)] mixed (by kernel_rfl) (by kernel_rfl) (by kernel_rfl) ?_
 refine Zw rfl (bA rfl) ?_
 refine Zw rfl (aD rfl) ?_
 refine Zw rfl (aB aL2 rfl) ?_
 refine Zw rfl (aJ aPH rfl rfl) ?_
 refine Zw rfl (bA rfl) ?_
 refine Zw rfl (R6 (s:=nM) Tryz.underlying30 Tryz.underlying5 Tryz.underlying9 rfl) ?_
 refine Zw rfl (bA rfl) ?_
 refine Zw rfl (aD rfl) ?_
 refine Zw rfl (aB wR rfl) ?_
 refine Zw rfl (aJ C5 rfl rfl) ?_
 refine Zw rfl (oN cN.pl (s:=YQ) Tryz.underlying80 rfl) ?_
 refine VD.one rfl ?_
 obtain ⟨bs11,hS⟩:=bU hS
 refine VL.a6D (m:=aA.mY) (a0:=nM.l) (y0:=((YQ.l.map cN.pl).length:Int)) (Maps.string_keyed Tryz.underlying9) Tryz.underlying79 Fo.out rfl rfl rfl (a4c Tryz.underlying9 bs11.2.1) (elI Tryz.underlying3 bs11.2.2) (by exact bs11.1) fun aXc aSc aTp => ?_
 rw [← aTp]
 replace hS:=bV aSc hS
 refine VL.back (D':=[]) (by kernel_rfl) (aF.nil) ?_
 refine VD.to (fun _ _ h=>h) ?_
 refine VC.keep (ρ':=[(0,ptr nS 0)]) [0] rfl ?_
 refine Zq (Zr ?_)
 refine Zm ?_
 refine Zu (aD rfl) ?_
 refine Zu (aB wR rfl) ?_
 refine Zu (aJ C5 rfl rfl) ?_
 refine Zu (oN cN.pl (s:=YQ) Tryz.underlying80 rfl) ?_
 refine Zy ?_
 cases hS
 exact VC.ret (s6 (.inr rfl) rfl rfl rfl (((YQ.l.map cN.pl).length:Int),.nil,⟨YQ,aXc⟩) rfl rfl (by (try dsimp only); exact cA.out) (by (try dsimp only); exact dJ.out))
theorem UC (nS:Nat) (aA:mE) {r:List UInt8} (hS:Sh.tU aA.pl=some r) :
 Ct Tryz.prog 9 [ptr nS 0] (xW aA.l.l) (Ow.star (Sv.own aA.l 34) (Ow.star (Mv.own aA.mY Tryz.prog 9 3 wU uJ) (bD nS [aA.l.val,aA.mY.val] 82))) (X:=Sv UInt8) (fun x=>x.val) (fun x=>r=x.l) (fun x=>x.ok) (fun x=>Ow.star (bD nS [aA.l.val,aA.mY.val] 82) (Ow.star (Sv.own aA.l 34) (Mv.own aA.mY Tryz.prog 9 3 wU uJ))):=by
 refine Zo Tryz.func9 Tryz.ntmps9 fun c => ?_
 unfold Sh.tU at hS
 refine Zq (Zr ?_)
 refine Zy ?_
 refine Zq (Zr ?_)
 refine VL.alloc (cs:=[.slice none 0 0]) (by kernel_rfl) (by decide) fun fX => ?_
 refine Zl ?_
 refine Zq (Zr ?_)
 refine Zm ?_
 refine Zu (aD rfl) ?_
 refine Zu (aB wR rfl) ?_
 refine Zu (aJ C5 rfl rfl) ?_
 refine Zu (oN cN.pl (s:=aA.l) Tryz.underlying80 rfl) ?_
 refine VL.lit (α:=Int) (xs:=[.tmp 12]) (vs:=[i64 ((aA.l.l.map cN.pl).length:Int)]) [((aA.l.l.map cN.pl).length:Int)] Tryz.underlying32 kI (by decide) rfl rfl rfl rfl (by decide) (fun _ _ _ _=>trivial) (by decide) (fun a5f a1M => ?_) (by decide)
 replace hS:=bV a1M hS
 refine VL.kH (⟨none,0,[]⟩:Sv UInt8) 5 ⟨rfl,rfl⟩ ?_
 refine VL.SD fX (cs':=[(⟨none,0,[]⟩:Sv UInt8).val]) rfl ?_
 obtain ⟨aAf,aJI,hS⟩:=aK hS
 refine VL.bS (kY fX (⟨(⟨none,0,[]⟩:Sv UInt8)⟩:nZ) a5f aJI) rfl (by decide) ?_
 rintro aXy rfl
 try dsimp only
 refine Zl ?_
 refine Zq (Zq (Zr ?_))
 refine Zm ?_
 refine Zu (aD rfl) ?_
 refine Zu (aB wR rfl) ?_
 refine Zu (aJ C5 rfl rfl) ?_
 refine Zu (oN cN.pl (s:=aA.l) Tryz.underlying80 rfl) ?_
 refine Zy ?_
 refine VC.keep (ρ':=[(3,ptr fX 0),(18,aA.l.val),(19,i64 ((aA.l.l.map cN.pl).length:Int)),(20,i64 0)]) [3,18,19,20] rfl ?_
 refine Zb ?_
 refine VC.iter (S:=Int×Sv UInt8) (fun sg=>(sg.1,sg.2.l)) (fun sg=>[(3,ptr fX 0),(18,aA.l.val),(19,i64 ((aA.l.l.map cN.pl).length:Int)),(20,i64 sg.1)]) (fun sg=>Mo.tt) (fun sg=>Ow.star (bD fX [sg.2.val] 97) (Ow.star (bD nS [aA.l.val,aA.mY.val] 82) (Ow.star (Sv.own aA.l 34) (Ow.star (Mv.own aA.mY Tryz.prog 9 3 wU uJ) (Ow.star (Sv.own sg.2 5) (Ow.emp)))))) (0,aXy.b) [3,18,19,20] hS rfl ?_
 clear hS
 rintro ⟨CC,aAv⟩ m1 y1 hS hK1
 refine Zq (Zr ?_)
 refine Zu (c4 rfl rfl) ?_
 refine Zl ?_
 refine Zq ?_
 refine Zc hS (fun h21 hS => ?_) (fun h21 hS => ?_)
 ·
  refine Zk ?_
  refine Zq (Zb (Zq (Zr ?_)))
  obtain ⟨MO,aQC,aJn,hS⟩:=DD hS
  refine VL.aNe MO.m aJn (fun _ q=>q) ?_
  refine Zu (lJ (s:=aA.l) Tryz.underlying80 qJ rfl rfl aQC (bN aQC aJn)) ?_
  refine Zu (R9 (s:=aA.l) iY rfl rfl aJn) ?_
  refine VL.alloc (cs:=[i64 0,.slice none 0 0,.slice none 0 0,i64 0,.slice none 0 0,i64 0,str []]) (by kernel_rfl) (by decide) fun a7E => ?_
  refine Zv (cs':=[i64 MO.kind,MO.data.val,MO.items.val,i64 MO.tree,MO.parents.val,i64 MO.time,str MO.text]) rfl qJ ?_
  refine Zl ?_
  refine Zq (Zr ?_)
  refine Zu (cD iY rfl rfl) ?_
  obtain ⟨XV,aJZ,hS⟩:=aK hS
  refine VL.bS (FG MO aJZ) rfl (by decide) ?_
  rintro ⟨CT,aMj⟩ rfl
  try dsimp only
  refine Zm ?_
  refine Zu (aW rfl rfl) ?_
  refine Zu (aW rfl rfl) ?_
  refine Zy ?_
  refine VC.keep (ρ':=[(3,ptr fX 0),(18,aA.l.val),(19,i64 ((aA.l.l.map cN.pl).length:Int)),(20,i64 CC),(6,CT.val)]) [3,18,19,20,6] rfl ?_
  refine Zr ?_
  refine Zm ?_
  refine Zu (R6 (s:=CT) Tryz.underlying30 Tryz.underlying5 Tryz.underlying9 rfl) ?_
  refine VL.lit (α:=bB) (xs:=[.tmp 30]) (vs:=[str CT.l]) [CT.l] Tryz.underlying62 x4 (by decide) rfl rfl rfl rfl (by decide) (fun _ _ _ _=>trivial) (by decide) (fun a2c aW8 => ?_) (by decide)
  replace hS:=bV aW8 hS
  obtain ⟨aC0,aFP,hS⟩:=aK hS
  refine VL.bS (uC fX (⟨aAv⟩:nZ) a2c aFP) rfl (by decide) ?_
  rintro aDQ rfl
  try dsimp only
  refine Zl ?_
  refine Zr ?_
  obtain ⟨b33,hS⟩:=bU hS
  refine Zu (cR rfl rfl b33) ?_
  refine Zm ?_
  refine VL.iP ((CC+1),aDQ.b) [3,18,19,20] (fun _ _ h=>h) (go2 hS hK1) rfl
 replace hS:=gA hS hK1
 refine Zx ?_
 refine Zq (Zr ?_)
 obtain ⟨aC1,aFR,hS⟩:=aK hS
 refine VL.bS (EW fX (⟨aAv⟩:nZ) aFR) rfl (by decide) ?_
 rintro aDS rfl
 try dsimp only
 refine Zy ?_
 cases hS
 exact VC.ret (eB (.inr rfl) rfl rfl aDS rfl rfl (by (try dsimp only); exact cA.out) (by (try dsimp only); exact dJ.out))
theorem TY (cX:Sv UInt8) (b_1:Sv UInt8) {r:Bool} (hS:Sh.A8 cX.l b_1.l=some r) :
 Ct Tryz.prog 57 [cX.val,b_1.val] (cX.ok.and b_1.ok) (Ow.emp) (X:=Unit) (fun _ => .bool r) (fun _=>True) (fun _=>Mo.tt) (fun _=>Ow.emp):=by
 refine Zo Tryz.func57 Tryz.ntmps57 fun c => ?_
 unfold Sh.A8 at hS
 refine Zq (Zr ?_)
 refine Zy ?_
 refine Zq (Zr ?_)
 refine Zm ?_
 refine Zu (R6 (s:=cX) Tryz.underlying30 Tryz.underlying5 Tryz.underlying9 rfl) ?_
 refine Zm ?_
 refine Zu (R6 (s:=b_1) Tryz.underlying30 Tryz.underlying5 Tryz.underlying9 rfl) ?_
 refine Zy ?_
 cases hS
 exact Ze
theorem aHk (iA:Sv UInt8) {r:List UInt8×eY} (hS:Sh.L8 iA.l=some r) :
 Ct Tryz.prog 54 [iA.val] iA.ok (Ow.emp) (X:=Sv UInt8×Er) (fun x => .tuple #[x.1.val,x.2.val]) (fun x=>r=(x.1.l,x.2.pl)) (fun x=>(x.1.ok.and x.2.ok)) (fun x=>Ow.emp):=by
 refine Zo Tryz.func54 Tryz.ntmps54 fun c => ?_
 unfold Sh.L8 at hS
 refine Zq (Zr ?_)
 refine Zy ?_
 refine Zq (Zq (Zr ?_))
 refine Zm ?_
 refine Zu (dX (s:=iA) Tryz.underlying30 rfl) ?_
 refine Zu (c4 rfl rfl) ?_
 refine Zl ?_
 refine Zc hS (fun h7 hS => ?_) (fun h7 hS => ?_)
 ·
  refine Zq (Zr ?_)
  refine Zm ?_
  refine Zu (dX (s:=iA) Tryz.underlying30 rfl) ?_
  refine Zu (kW Tryz.underlying75 (fun _ h=>by cases h) rfl) ?_
  refine Zu (eN (vs:=[(0,str [115,117,109]),(1,i64 (iA.l.length:Int)),(2,(Er.no 3).val)]) (cs := #[str [115,117,109],i64 (iA.l.length:Int),(Er.no 3).val]) rfl (by kernel_rfl)) ?_
  refine VL.box (cs:=[str [115,117,109],i64 (iA.l.length:Int),(Er.no 3).val]) rfl rfl (by decide) fun KO => ?_
  refine VL.OD KO ?_
  refine Zu (kW Tryz.underlying74 (fun _ h=>by cases h) rfl) ?_
  refine Zy ?_
  refine VC.keep (ρ':=[(2,.slice none 0 0),(3,(Er.fault KO [115,117,109] (iA.l.length:Int) (Er.no 3)).val)]) [2,3] rfl ?_
  cases hS
  exact VC.ret (s6 (.inr rfl) rfl rfl rfl (⟨none,0,[]⟩,(Er.fault KO [115,117,109] (iA.l.length:Int) (Er.no 3))) rfl rfl (by (try dsimp only); exact cA.out) (fun _ _=>trivial))
 refine Zk ?_
 refine Zq (Zr ?_)
 refine Zy ?_
 refine Zu (dX (s:=iA) Tryz.underlying30 rfl) ?_
 obtain ⟨b17,hS⟩:=bU hS
 refine Zu (qK rfl rfl b17) ?_
 obtain ⟨b18,hS⟩:=bU hS
 refine VL.sto Tryz.underlying30 AD rfl rfl b18.1 (b18.2) (by decide) fun aOH a1W => ?_
 replace hS:=bV a1W hS
 refine Zy ?_
 refine VC.keep (ρ':=[(0,iA.val),(4,aOH.val)]) [0,4] rfl ?_
 refine Zq (Zq (Zr ?_))
 refine Zm ?_
 obtain ⟨aZI,a0I,hS⟩:=aK hS
 refine VL.bS (aCM aOH a0I) rfl (by decide) ?_
 rintro aYE rfl
 try dsimp only
 refine Zm ?_
 obtain ⟨HH,aJR,hS⟩:=aK hS
 refine Zu (oB (TY aYE iA aJR) rfl (fun _ _=>rfl)) ?_
 refine Zu (lQ rfl) ?_
 refine Zl ?_
 refine iL hS (fun h23 hS => ?_) (fun h23 hS => ?_)
 ·
  refine Zq (Zr ?_)
  refine Zm ?_
  refine Zu (dX (s:=iA) Tryz.underlying30 rfl) ?_
  refine Zu (kW Tryz.underlying75 (fun _ h=>by cases h) rfl) ?_
  refine Zu (eN (vs:=[(0,str [115,117,109]),(1,i64 (iA.l.length:Int)),(2,(Er.no 12).val)]) (cs := #[str [115,117,109],i64 (iA.l.length:Int),(Er.no 12).val]) rfl (by kernel_rfl)) ?_
  refine VL.box (cs:=[str [115,117,109],i64 (iA.l.length:Int),(Er.no 12).val]) rfl rfl (by decide) fun aNY => ?_
  refine VL.OD aNY ?_
  refine Zu (kW Tryz.underlying74 (fun _ h=>by cases h) rfl) ?_
  refine Zy ?_
  refine VC.keep (ρ':=[(2,.slice none 0 0),(3,(Er.fault aNY [115,117,109] (iA.l.length:Int) (Er.no 12)).val)]) [2,3] rfl ?_
  cases hS
  exact VC.ret (s6 (.inr rfl) rfl rfl rfl (⟨none,0,[]⟩,(Er.fault aNY [115,117,109] (iA.l.length:Int) (Er.no 12))) rfl rfl (by (try dsimp only); exact cA.out) (fun _ _=>trivial))
 refine Zk ?_
 refine Zq (Zr ?_)
 refine Zm ?_
 obtain ⟨TB,aBN,hS⟩:=aK hS
 refine VL.bS (kO aOH aBN) rfl (by decide) ?_
 rintro AP rfl
 try dsimp only
 refine VL.shut AP 5 (fun _ _ _ _=>trivial) ?_
 obtain ⟨aDp,aJ3,hS⟩:=aK hS
 refine VL.cU (qO AP aJ3) rfl (by decide) ?_
 rintro CU rfl
 try dsimp only
 refine Zy ?_
 refine VC.keep (ρ':=[(2,CU.val),(3,.nilIface)]) [2,3] rfl ?_
 cases hS
 exact VC.ret (s6 (.inr rfl) rfl rfl rfl (CU,.nil) rfl rfl (by (try dsimp only); exact cA.out) (fun _ _=>trivial))
theorem FK (bG:Nat) (cJ:eZ) (aE:Nat) (aT:cH) {r:Int×bL×eZ} (hS:Sh.qG cJ aT.pl=some r) :
 Ct Tryz.prog 118 [ptr bG 0] (aT.b.ok.and aT.err.ok) (Ow.star (bD aE [aT.b.val,i64 aT.at_,aT.err.val] 127) (bD bG [ptr aE 0,.bool cJ.bad] 134)) (X:=Int×cH×eZ) (fun x=>i64 x.1) (fun x=>r=(x.1,x.2.1.pl,x.2.2)) (fun x=>(x.2.1.b.ok.and x.2.1.err.ok)) (fun x=>Ow.star (bD aE [x.2.1.b.val,i64 x.2.1.at_,x.2.1.err.val] 127) (bD bG [ptr aE 0,.bool x.2.2.bad] 134)):=by
 refine Zo Tryz.func118 Tryz.ntmps118 fun c => ?_
 unfold Sh.qG at hS
 refine Zq (Zr ?_)
 refine Zy ?_
 refine Zq (Zr ?_)
 refine Zm ?_
 refine Zu (aD rfl) ?_
 refine Zu (aB qF rfl) ?_
 refine Zu (aJ c5 rfl rfl) ?_
 obtain ⟨sS,DH,hS⟩:=aK hS
 refine VL.bS (dG aE aT DH) rfl (by decide) ?_
 rintro ⟨JY,FR⟩ rfl
 try dsimp only
 refine Zy ?_
 refine Zq ?_
 refine VC.gK (S:=Bool) (fun (p6:Bool)=>p6) (fun (p6:Bool)=>[(0,ptr bG 0),(3,i64 JY),(14,.bool p6)]) (fun (p6:Bool)=>Mo.tt) (fun (p6:Bool)=>Ow.star (bD aE [FR.b.val,i64 FR.at_,FR.err.val] 127) (Ow.star (bD bG [ptr aE 0,.bool cJ.bad] 134) (Ow.emp))) hS ?_ ?_
 ·
  clear hS
  intro k3 hS
  refine Zr ?_
  refine Zm ?_
  refine Zu (c4 rfl rfl) ?_
  refine Zm ?_
  refine pL 11 hS (fun h11 hS => ?_) (fun h11 hS => ?_)
  ·
   refine VL.runs 3 [(14,some true)] (by kernel_rfl) ?_
   refine VL.mt true [0,3,14] (fun _ _ h=>h) hS rfl
  refine Zg ?_
  refine Zh (iZ rfl rfl) ?_
  refine Zf ?_
  refine VL.mt (decide (64 < JY)) [0,3,14] (fun _ _ h=>h) hS rfl
 clear hS
 rintro p6 hS
 refine iL hS (fun h14 hS => ?_) (fun h14 hS => ?_)
 ·
  refine Zq (Zr ?_)
  refine Zm ?_
  refine Zu (aD rfl) ?_
  refine Zu (aB aID rfl) ?_
  refine Zv (cs':=[ptr aE 0,.bool true]) rfl rJ ?_
  refine Zl ?_
  refine Zq (Zr ?_)
  refine Zy ?_
  cases hS
  exact VC.ret (eB (.inr rfl) rfl rfl (0,⟨FR.b,FR.at_,FR.err⟩,⟨true⟩) rfl rfl (by (try dsimp only); exact cA.out) (by (try dsimp only); exact dJ.out))
 refine Zk ?_
 refine Zq (Zr ?_)
 refine Zy ?_
 cases hS
 exact VC.ret (eB (.inr rfl) rfl rfl (JY,⟨FR.b,FR.at_,FR.err⟩,⟨cJ.bad⟩) rfl rfl (by (try dsimp only); exact cA.out) (by (try dsimp only); exact dJ.out))
theorem PK (bG:Nat) (cJ:eZ) (aE:Nat) (aT:cH) {r:List b5×bL×eZ} (hS:Sh.rM cJ aT.pl=some r) :
 Ct Tryz.prog 82 [ptr bG 0] (aT.b.ok.and aT.err.ok) (Ow.star (bD aE [aT.b.val,i64 aT.at_,aT.err.val] 127) (bD bG [ptr aE 0,.bool cJ.bad] 134)) (X:=Sv b5×cH×eZ) (fun x=>x.1.val) (fun x=>r=(x.1.l,x.2.1.pl,x.2.2)) (fun x=>(x.1.ok.and (x.2.1.b.ok.and x.2.1.err.ok))) (fun x=>Ow.star (bD aE [x.2.1.b.val,i64 x.2.1.at_,x.2.1.err.val] 127) (bD bG [ptr aE 0,.bool x.2.2.bad] 134)):=by
 refine Zo Tryz.func82 Tryz.ntmps82 fun c => ?_
 unfold Sh.rM at hS
 refine Zq (Zr ?_)
 refine Zy ?_
 refine Zq (Zr ?_)
 refine Zy ?_
 refine Zq (Zq (Zr ?_))
 refine Zm ?_
 obtain ⟨GU,aF0,hS⟩:=aK hS
 refine VL.bS (FK bG (⟨cJ.bad⟩:eZ) aE aT aF0) rfl (by decide) ?_
 rintro ⟨FQ,JW,R3⟩ rfl
 try dsimp only
 refine Zy ?_
 refine Zb ?_
 refine VC.kH (⟨none,0,[]⟩:Sv b5) 40 ⟨rfl,rfl⟩ ?_
 refine VC.iter (S:=Sv b5×Int×Sv UInt8×Int×Er) (fun sg=>(sg.1.l,sg.2.1,sg.2.2.1.l,sg.2.2.2.1,sg.2.2.2.2.pl)) (fun sg=>[(0,ptr bG 0),(3,sg.1.val),(5,i64 FQ),(6,i64 sg.2.1)]) (fun sg=>(sg.2.2.1.ok.and sg.2.2.2.2.ok)) (fun sg=>Ow.star (bD bG [ptr aE 0,.bool R3.bad] 134) (Ow.star (bD aE [sg.2.2.1.val,i64 sg.2.2.2.1,sg.2.2.2.2.val] 127) (Ow.star (Sv.own sg.1 40) (Ow.emp)))) (⟨none,0,[]⟩,0,JW.b,JW.at_,JW.err) [0,3,5,6] hS rfl ?_
 clear hS
 rintro ⟨o6,QG,EG,UJ,UK⟩ m1 y1 hS hK1
 refine Zq (Zr ?_)
 refine Zu (c4 rfl rfl) ?_
 refine Zl ?_
 refine Zq ?_
 refine Zc hS (fun h7 hS => ?_) (fun h7 hS => ?_)
 ·
  refine Zk ?_
  refine Zq (Zb ?_)
  refine VC.draw [(0,true),(1,true),(2,true),(3,true),(4,true),(6,true),(7,true),(8,true),(9,true),(11,true),(12,true),(13,true),(14,true),(5,false),(10,false),(15,false),(16,true),(17,false),(18,false),(19,true)] mixed (by kernel_rfl) (by kernel_rfl) (by kernel_rfl) ?_
  refine Zw rfl (bA rfl) ?_
  refine Zw rfl (bA rfl) ?_
  refine Zw rfl (aD rfl) ?_
  refine Zw rfl (aB qF rfl) ?_
  refine Zw rfl (aJ c5 rfl rfl) ?_
  refine Zw rfl (bA rfl) ?_
  refine Zw rfl (aD rfl) ?_
  refine Zw rfl (aB qF rfl) ?_
  refine Zw rfl (aJ c5 rfl rfl) ?_
  refine Zw rfl (bA rfl) ?_
  refine Zw rfl (aD rfl) ?_
  refine Zw rfl (aB qF rfl) ?_
  refine Zw rfl (aJ c5 rfl rfl) ?_
  refine VD.one rfl ?_
  obtain ⟨S4,aJG,hS⟩:=aK hS
  refine VL.bS (fQ aE (⟨EG,UJ,UK⟩:cH) aJG) rfl (by decide) ?_
  rintro ⟨LS,V4⟩ rfl
  try dsimp only
  refine VL.back (D':=[(14,ptr aE 0),(13,ptr bG 0),(12,ptr bG 0),(9,ptr aE 0),(8,ptr bG 0),(7,ptr bG 0)]) (by kernel_rfl) (aF.cons rfl (aJ c5 rfl rfl) (aF.cons rfl (aB qF rfl) (aF.cons rfl (aD rfl) (aF.cons rfl (aJ c5 rfl rfl) (aF.cons rfl (aB qF rfl) (aF.cons rfl (aD rfl) (aF.nil))))))) ?_
  refine VD.one rfl ?_
  obtain ⟨aOR,a0F,hS⟩:=aK hS
  refine VL.bS (dG aE V4 a0F) rfl (by decide) ?_
  rintro ⟨aBv,aYD⟩ rfl
  try dsimp only
  refine VL.back (D':=[(14,ptr aE 0),(13,ptr bG 0),(12,ptr bG 0)]) (by kernel_rfl) (aF.cons rfl (aJ c5 rfl rfl) (aF.cons rfl (aB qF rfl) (aF.cons rfl (aD rfl) (aF.nil)))) ?_
  refine VD.one rfl ?_
  obtain ⟨DZ,JN,hS⟩:=aK hS
  refine VL.bS (dG aE aYD JN) rfl (by decide) ?_
  rintro ⟨nN,aG5⟩ rfl
  try dsimp only
  refine VL.back (D':=[]) (by kernel_rfl) (aF.nil) ?_
  refine Zw rfl (eN (vs:=[(0,str LS),(1,i64 aBv),(2,i64 nN)]) (cs := #[str LS,i64 aBv,i64 nN]) rfl (by kernel_rfl)) ?_
  refine VD.one rfl ?_
  refine VL.lit (α:=b5) (xs:=[.tmp 24]) (vs:=[.agg #[str LS,i64 aBv,i64 nN]]) [⟨LS,aBv,nN⟩] Tryz.underlying31 aPG (by decide) rfl rfl rfl rfl (by decide) (fun _ _ _ _=>trivial) (by decide) (fun a2Z aW1 => ?_) (by decide)
  replace hS:=bV aW1 hS
  refine VL.back (D':=[]) (by kernel_rfl) (aF.nil) ?_
  refine VD.one rfl ?_
  obtain ⟨b26,hS⟩:=bU hS
  refine VL.app (s:=o6) (r:=a2Z) Tryz.underlying31 aJ7 (by decide) rfl Fo.out (sU b26) (sV b26 (by decide)) (by decide) (fun aQc aW3 => ?_)
  replace hS:=bV aW3 hS
  refine VL.back (D':=[]) (by kernel_rfl) (aF.nil) ?_
  refine Zw rfl (eO rfl) ?_
  refine VD.to (fun _ _ h=>h) ?_
  refine VC.keep (ρ':=[(0,ptr bG 0),(3,aQc.val),(5,i64 FQ),(6,i64 QG)]) [0,3,5,6] rfl ?_
  refine Zr ?_
  obtain ⟨b27,hS⟩:=bU hS
  refine Zu (cR rfl rfl b27) ?_
  refine Zm ?_
  refine VL.iP (aQc,(QG+1),aG5.b,aG5.at_,aG5.err) [0,3,5,6] (fun _ _ h=>h) (go2 hS hK1) rfl
 replace hS:=gA hS hK1
 refine Zx ?_
 refine Zq (Zr ?_)
 refine Zm ?_
 refine VL.shut o6 40 (fun _ _ _ _=>trivial) ?_
 obtain ⟨aRC,aU1,hS⟩:=aK hS
 refine VL.cU (rA o6 aU1) rfl (by decide) ?_
 rintro aSz rfl
 try dsimp only
 refine Zy ?_
 cases hS
 exact VC.ret (eB (.inr rfl) rfl rfl (aSz,⟨EG,UJ,UK⟩,⟨R3.bad⟩) rfl rfl (by (try dsimp only); exact cA.out) (by (try dsimp only); exact dJ.out))
theorem MP (bG:Nat) (cJ:eZ) (aE:Nat) (aT:cH) {r:List Int×bL×eZ} (hS:Sh.pQ cJ aT.pl=some r) :
 Ct Tryz.prog 83 [ptr bG 0] (aT.b.ok.and aT.err.ok) (Ow.star (bD aE [aT.b.val,i64 aT.at_,aT.err.val] 127) (bD bG [ptr aE 0,.bool cJ.bad] 134)) (X:=Sv Int×cH×eZ) (fun x=>x.1.val) (fun x=>r=(x.1.l,x.2.1.pl,x.2.2)) (fun x=>(x.1.ok.and (x.2.1.b.ok.and x.2.1.err.ok))) (fun x=>Ow.star (bD aE [x.2.1.b.val,i64 x.2.1.at_,x.2.1.err.val] 127) (bD bG [ptr aE 0,.bool x.2.2.bad] 134)):=by
 refine Zo Tryz.func83 Tryz.ntmps83 fun c => ?_
 unfold Sh.pQ at hS
 refine Zq (Zr ?_)
 refine Zy ?_
 refine Zq (Zr ?_)
 refine Zy ?_
 refine Zq (Zq (Zr ?_))
 refine Zm ?_
 obtain ⟨GU,aF0,hS⟩:=aK hS
 refine VL.bS (FK bG (⟨cJ.bad⟩:eZ) aE aT aF0) rfl (by decide) ?_
 rintro ⟨FQ,JW,R3⟩ rfl
 try dsimp only
 refine Zy ?_
 refine Zb ?_
 refine VC.kH (⟨none,0,[]⟩:Sv Int) 3 ⟨rfl,rfl⟩ ?_
 refine VC.iter (S:=Sv Int×Int×Sv UInt8×Int×Er) (fun sg=>(sg.1.l,sg.2.1,sg.2.2.1.l,sg.2.2.2.1,sg.2.2.2.2.pl)) (fun sg=>[(0,ptr bG 0),(3,sg.1.val),(5,i64 FQ),(6,i64 sg.2.1)]) (fun sg=>(sg.2.2.1.ok.and sg.2.2.2.2.ok)) (fun sg=>Ow.star (bD bG [ptr aE 0,.bool R3.bad] 134) (Ow.star (bD aE [sg.2.2.1.val,i64 sg.2.2.2.1,sg.2.2.2.2.val] 127) (Ow.star (Sv.own sg.1 3) (Ow.emp)))) (⟨none,0,[]⟩,0,JW.b,JW.at_,JW.err) [0,3,5,6] hS rfl ?_
 clear hS
 rintro ⟨o6,QG,EG,UJ,UK⟩ m1 y1 hS hK1
 refine Zq (Zr ?_)
 refine Zu (c4 rfl rfl) ?_
 refine Zl ?_
 refine Zq ?_
 refine Zc hS (fun h7 hS => ?_) (fun h7 hS => ?_)
 ·
  refine Zk ?_
  refine Zq (Zb (Zr ?_))
  refine Zy ?_
  refine Zu (aD rfl) ?_
  refine Zu (aB qF rfl) ?_
  refine Zu (aJ c5 rfl rfl) ?_
  obtain ⟨S4,aJG,hS⟩:=aK hS
  refine VL.bS (dG aE (⟨EG,UJ,UK⟩:cH) aJG) rfl (by decide) ?_
  rintro ⟨LS,V4⟩ rfl
  try dsimp only
  refine VL.lit (α:=Int) (xs:=[.tmp 13]) (vs:=[i64 LS]) [LS] Tryz.underlying32 kI (by decide) rfl rfl rfl rfl (by decide) (fun _ _ _ _=>trivial) (by decide) (fun a5h a1O => ?_) (by decide)
  replace hS:=bV a1O hS
  obtain ⟨b15,hS⟩:=bU hS
  refine VL.app (s:=o6) (r:=a5h) Tryz.underlying32 IV (by decide) rfl Fo.out (sU b15) (sV b15 (by decide)) (by decide) (fun aQ9 aWW => ?_)
  replace hS:=bV aWW hS
  refine Zy ?_
  refine VC.keep (ρ':=[(0,ptr bG 0),(3,aQ9.val),(5,i64 FQ),(6,i64 QG)]) [0,3,5,6] rfl ?_
  refine Zr ?_
  obtain ⟨b16,hS⟩:=bU hS
  refine Zu (cR rfl rfl b16) ?_
  refine Zm ?_
  refine VL.iP (aQ9,(QG+1),V4.b,V4.at_,V4.err) [0,3,5,6] (fun _ _ h=>h) (go2 hS hK1) rfl
 replace hS:=gA hS hK1
 refine Zx ?_
 refine Zq (Zr ?_)
 refine Zm ?_
 refine VL.shut o6 3 (fun _ _ _ _=>trivial) ?_
 obtain ⟨aQw,aUR,hS⟩:=aK hS
 refine VL.cU (o4 o6 aUR) rfl (by decide) ?_
 rintro aSr rfl
 try dsimp only
 refine Zy ?_
 cases hS
 exact VC.ret (eB (.inr rfl) rfl rfl (aSr,⟨EG,UJ,UK⟩,⟨R3.bad⟩) rfl rfl (by (try dsimp only); exact cA.out) (by (try dsimp only); exact dJ.out))
theorem N7 (bG:Nat) (cJ:eZ) (aE:Nat) (aT:cH) {r:aY×bL×eZ} (hS:Sh.qU cJ aT.pl=some r) :
 Ct Tryz.prog 55 [ptr bG 0] (aT.b.ok.and aT.err.ok) (Ow.star (bD aE [aT.b.val,i64 aT.at_,aT.err.val] 127) (bD bG [ptr aE 0,.bool cJ.bad] 134)) (X:=cN×cH×eZ) (fun x => .agg (bM.enc x.1).toArray) (fun x=>r=(x.1.pl,x.2.1.pl,x.2.2)) (fun x=>(x.1.m.and (x.2.1.b.ok.and x.2.1.err.ok))) (fun x=>Ow.star (bD aE [x.2.1.b.val,i64 x.2.1.at_,x.2.1.err.val] 127) (bD bG [ptr aE 0,.bool x.2.2.bad] 134)):=by
 refine Zo Tryz.func55 Tryz.ntmps55 fun c => ?_
 unfold Sh.qU at hS
 refine Zq (Zr ?_)
 refine VL.alloc (cs:=[i64 0,.slice none 0 0,.slice none 0 0,i64 0,.slice none 0 0,i64 0,str []]) (by kernel_rfl) (by decide) fun dQ => ?_
 refine Zl ?_
 refine Zq (Zr ?_)
 refine Zm ?_
 refine Zu (aD rfl) ?_
 refine Zu (aB qF rfl) ?_
 refine Zu (aJ c5 rfl rfl) ?_
 obtain ⟨iT,tG,hS⟩:=aK hS
 refine VL.bS (dG aE aT tG) rfl (by decide) ?_
 rintro ⟨jT,NF⟩ rfl
 try dsimp only
 refine Zu (eN (vs:=[(0,i64 jT)]) (cs := #[i64 jT,.slice none 0 0,.slice none 0 0,i64 0,.slice none 0 0,i64 0,str []]) rfl (by kernel_rfl)) ?_
 refine VL.alloc (cs:=[i64 0,.slice none 0 0,.slice none 0 0,i64 0,.slice none 0 0,i64 0,str []]) (by kernel_rfl) (by decide) fun KQ => ?_
 refine Zv (cs':=[i64 jT,.slice none 0 0,.slice none 0 0,i64 0,.slice none 0 0,i64 0,str []]) rfl qJ ?_
 refine Zl ?_
 refine Zq (Zq (Zr ?_))
 refine Zu (aB E7 rfl) ?_
 refine Zu (aJ eP rfl rfl) ?_
 refine Zl ?_
 refine VC.keep (ρ':=[(0,ptr bG 0),(2,ptr dQ 0),(3,ptr KQ 0),(11,i64 jT)]) [0,2,3,11] rfl ?_
 refine Zb (Zq (Zr ?_))
 refine Zu (gV rfl rfl) ?_
 refine Zy ?_
 refine Zc hS (fun h12 hS => ?_) (fun h12 hS => ?_)
 ·
  refine Zr ?_
  refine Zm ?_
  refine Zu (aD rfl) ?_
  refine Zu (aB qF rfl) ?_
  refine Zu (aJ c5 rfl rfl) ?_
  obtain ⟨yF,aJN,hS⟩:=aK hS
  refine VL.bS (fQ aE NF aJN) rfl (by decide) ?_
  rintro ⟨a6m,aG0⟩ rfl
  try dsimp only
  obtain ⟨b19,hS⟩:=bU hS
  refine VL.s2b Tryz.underlying9 Tryz.underlying30 Tryz.underlying5 rfl b19 (by decide) fun w9 JS => ?_
  replace hS:=bV JS hS
  refine Zu (aB HZ rfl) ?_
  refine Zv (cs':=[i64 jT,w9.val,.slice none 0 0,i64 0,.slice none 0 0,i64 0,str []]) rfl LF ?_
  refine Zl ?_
  refine VC.keep (ρ':=[(2,ptr dQ 0),(3,ptr KQ 0)]) [2,3] rfl ?_
  refine Zq (Zr ?_)
  refine Zu (cD iY rfl rfl) ?_
  refine Zv (cs':=[i64 jT,w9.val,.slice none 0 0,i64 0,.slice none 0 0,i64 0,str []]) rfl qJ ?_
  refine Zl ?_
  cases hS
  exact VC.ret (hG (vs:=[.agg #[i64 jT,w9.val,.slice none 0 0,i64 0,.slice none 0 0,i64 0,str []]]) (.inr rfl) rfl (dS.cell iY rfl rfl Rd.blk (dS.nil)) (⟨jT,w9,⟨none,0,[]⟩,0,⟨none,0,[]⟩,0,[]⟩,⟨aG0.b,aG0.at_,aG0.err⟩,⟨cJ.bad⟩) rfl rfl (by (try dsimp only); exact cA.out) (by (try dsimp only); exact dJ.out))
 refine Zq (Zr ?_)
 refine Zu (gV rfl rfl) ?_
 refine Zy ?_
 refine Zc hS (fun h21 hS => ?_) (fun h21 hS => ?_)
 ·
  refine Zr ?_
  refine Zm ?_
  obtain ⟨ML,aJV,hS⟩:=aK hS
  refine VL.bS (PK bG (⟨cJ.bad⟩:eZ) aE NF aJV) rfl (by decide) ?_
  rintro ⟨FP,aBz,aYH⟩ rfl
  try dsimp only
  refine Zu (aB sQ rfl) ?_
  refine Zv (cs':=[i64 jT,.slice none 0 0,FP.val,i64 0,.slice none 0 0,i64 0,str []]) rfl aNn ?_
  refine Zl ?_
  refine VC.keep (ρ':=[(2,ptr dQ 0),(3,ptr KQ 0)]) [2,3] rfl ?_
  refine Zq (Zr ?_)
  refine Zu (cD iY rfl rfl) ?_
  refine Zv (cs':=[i64 jT,.slice none 0 0,FP.val,i64 0,.slice none 0 0,i64 0,str []]) rfl qJ ?_
  refine Zl ?_
  cases hS
  exact VC.ret (hG (vs:=[.agg #[i64 jT,.slice none 0 0,FP.val,i64 0,.slice none 0 0,i64 0,str []]]) (.inr rfl) rfl (dS.cell iY rfl rfl Rd.blk (dS.nil)) (⟨jT,⟨none,0,[]⟩,FP,0,⟨none,0,[]⟩,0,[]⟩,⟨aBz.b,aBz.at_,aBz.err⟩,⟨aYH.bad⟩) rfl rfl (by (try dsimp only); exact cA.out) (by (try dsimp only); exact dJ.out))
 refine Zq (Zr ?_)
 refine Zu (gV rfl rfl) ?_
 refine Zy ?_
 refine Zc hS (fun h26 hS => ?_) (fun h26 hS => ?_)
 ·
  refine Zq (Zr ?_)
  refine Zm ?_
  refine Zu (aD rfl) ?_
  refine Zu (aB qF rfl) ?_
  refine Zu (aJ c5 rfl rfl) ?_
  obtain ⟨aDp,aJ3,hS⟩:=aK hS
  refine VL.bS (dG aE NF aJ3) rfl (by decide) ?_
  rintro ⟨CU,aYP⟩ rfl
  try dsimp only
  refine Zu (aB CI rfl) ?_
  refine Zv (cs':=[i64 jT,.slice none 0 0,.slice none 0 0,i64 CU,.slice none 0 0,i64 0,str []]) rfl u9 ?_
  refine Zl ?_
  refine VC.keep (ρ':=[(0,ptr bG 0),(2,ptr dQ 0),(3,ptr KQ 0)]) [0,2,3] rfl ?_
  refine Zq (Zr ?_)
  refine Zm ?_
  obtain ⟨aKb,a0d,hS⟩:=aK hS
  refine VL.bS (MP bG (⟨cJ.bad⟩:eZ) aE aYP a0d) rfl (by decide) ?_
  rintro ⟨PZ,aYS,aYT⟩ rfl
  try dsimp only
  refine Zu (aB K9 rfl) ?_
  refine Zv (cs':=[i64 jT,.slice none 0 0,.slice none 0 0,i64 CU,PZ.val,i64 0,str []]) rfl aCx ?_
  refine Zl ?_
  refine VC.draw [(0,true),(1,true),(2,true),(3,true),(5,true),(6,true),(7,true),(8,true),(4,false),(10,true),(9,false),(11,false),(12,true),(13,false)] mixed (by kernel_rfl) (by kernel_rfl) (by kernel_rfl) ?_
  refine Zw rfl (bA rfl) ?_
  refine Zw rfl (aD rfl) ?_
  refine Zw rfl (aB qF rfl) ?_
  refine Zw rfl (aJ c5 rfl rfl) ?_
  refine Zw rfl (bA rfl) ?_
  refine Zw rfl (aD rfl) ?_
  refine Zw rfl (aB qF rfl) ?_
  refine Zw rfl (aJ c5 rfl rfl) ?_
  refine VD.one rfl ?_
  obtain ⟨aKe,aUr,hS⟩:=aK hS
  refine VL.bS (dG aE aYS aUr) rfl (by decide) ?_
  rintro ⟨P3,aTN⟩ rfl
  try dsimp only
  refine VL.back (D':=[(8,ptr aE 0),(7,ptr bG 0),(6,ptr bG 0)]) (by kernel_rfl) (aF.cons rfl (aJ c5 rfl rfl) (aF.cons rfl (aB qF rfl) (aF.cons rfl (aD rfl) (aF.nil)))) ?_
  refine Zw rfl (aB CJ rfl) ?_
  refine VD.one rfl ?_
  obtain ⟨aC4,aVB,hS⟩:=aK hS
  refine VL.bS (fQ aE aTN aVB) rfl (by decide) ?_
  rintro ⟨YG,aDW⟩ rfl
  try dsimp only
  refine VL.back (D':=[(10,ptr KQ 5)]) (by kernel_rfl) (aF.cons rfl (aB CJ rfl) (aF.nil)) ?_
  refine VD.one rfl ?_
  refine Zv (cs':=[i64 jT,.slice none 0 0,.slice none 0 0,i64 CU,PZ.val,i64 P3,str []]) rfl u9 ?_
  refine VL.back (D':=[]) (by kernel_rfl) (aF.nil) ?_
  refine Zw rfl (aB CK rfl) ?_
  refine VD.one rfl ?_
  refine Zv (cs':=[i64 jT,.slice none 0 0,.slice none 0 0,i64 CU,PZ.val,i64 P3,str YG]) rfl vA ?_
  refine VL.back (D':=[]) (by kernel_rfl) (aF.nil) ?_
  refine VD.to (fun _ _ h=>h) ?_
  refine VC.keep (ρ':=[(2,ptr dQ 0),(3,ptr KQ 0)]) [2,3] rfl ?_
  refine Zq (Zr ?_)
  refine Zu (cD iY rfl rfl) ?_
  refine Zv (cs':=[i64 jT,.slice none 0 0,.slice none 0 0,i64 CU,PZ.val,i64 P3,str YG]) rfl qJ ?_
  refine Zl ?_
  cases hS
  exact VC.ret (hG (vs:=[.agg #[i64 jT,.slice none 0 0,.slice none 0 0,i64 CU,PZ.val,i64 P3,str YG]]) (.inr rfl) rfl (dS.cell iY rfl rfl Rd.blk (dS.nil)) (⟨jT,⟨none,0,[]⟩,⟨none,0,[]⟩,CU,PZ,P3,YG⟩,⟨aDW.b,aDW.at_,aDW.err⟩,⟨aYT.bad⟩) rfl rfl (by (try dsimp only); exact cA.out) (by (try dsimp only); exact dJ.out))
 refine Zk ?_
 refine Zq (Zr ?_)
 refine Zu (cD iY rfl rfl) ?_
 refine Zv (cs':=[i64 jT,.slice none 0 0,.slice none 0 0,i64 0,.slice none 0 0,i64 0,str []]) rfl qJ ?_
 refine Zl ?_
 refine VC.keep (ρ':=[(2,ptr dQ 0)]) [2] rfl ?_
 cases hS
 exact VC.ret (hG (vs:=[.agg #[i64 jT,.slice none 0 0,.slice none 0 0,i64 0,.slice none 0 0,i64 0,str []]]) (.inr rfl) rfl (dS.cell iY rfl rfl Rd.blk (dS.nil)) (⟨jT,⟨none,0,[]⟩,⟨none,0,[]⟩,0,⟨none,0,[]⟩,0,[]⟩,⟨NF.b,NF.at_,NF.err⟩,⟨cJ.bad⟩) rfl rfl (by (try dsimp only); exact cA.out) (by (try dsimp only); exact dJ.out))
theorem aBm (iA:Sv UInt8) {r:aY×eY} (hS:Sh.AH iA.l=some r) :
 Ct Tryz.prog 24 [iA.val] iA.ok (Ow.emp) (X:=cN×Er) (fun x => .tuple #[.agg (bM.enc x.1).toArray,x.2.val]) (fun x=>r=(x.1.pl,x.2.pl)) (fun x=>(x.1.m.and x.2.ok)) (fun x=>Ow.emp):=by
 refine Zo Tryz.func24 Tryz.ntmps24 fun c => ?_
 unfold Sh.AH at hS
 refine Zq (Zr ?_)
 refine VL.alloc (cs:=[i64 0,.slice none 0 0,.slice none 0 0,i64 0,.slice none 0 0,i64 0,str []]) (by kernel_rfl) (by decide) fun dQ => ?_
 refine Zy ?_
 refine Zq (Zr ?_)
 refine Zm ?_
 obtain ⟨fP,BD,hS⟩:=aK hS
 refine VL.cU (aHk iA BD) rfl (by decide) ?_
 rintro ⟨pS,CQ⟩ rfl
 try dsimp only
 refine Zm ?_
 refine Zu (aW rfl rfl) ?_
 refine Zu (aW rfl rfl) ?_
 refine Zy ?_
 refine Zq (Zq (Zr ?_))
 refine Zm ?_
 refine Zu (jM Tryz.underlying26 rfl) ?_
 refine Zl ?_
 refine VC.keep (ρ':=[(0,iA.val),(2,ptr dQ 0),(4,pS.val),(5,CQ.val),(16,.bool (!decide (CQ.pl.isNil=true)))]) [0,2,4,5,16] rfl ?_
 refine rE hS (fun h16 hS => ?_) (fun h16 hS => ?_)
 ·
  refine Zq (Zr ?_)
  refine Zu (eN (vs:=[]) (cs := #[i64 0,.slice none 0 0,.slice none 0 0,i64 0,.slice none 0 0,i64 0,str []]) rfl (by kernel_rfl)) ?_
  refine Zm ?_
  refine Zv (cs':=[i64 0,.slice none 0 0,.slice none 0 0,i64 0,.slice none 0 0,i64 0,str []]) rfl qJ ?_
  refine Zy ?_
  cases hS
  exact VC.ret (hG (vs:=[.agg #[i64 0,.slice none 0 0,.slice none 0 0,i64 0,.slice none 0 0,i64 0,str []],CQ.val]) (.inr rfl) rfl (dS.cell iY rfl rfl Rd.blk (dS.tmp rfl (dS.nil))) (⟨0,⟨none,0,[]⟩,⟨none,0,[]⟩,0,⟨none,0,[]⟩,0,[]⟩,CQ) rfl rfl (by (try dsimp only); exact cA.out) (fun _ _=>trivial))
 refine Zk ?_
 refine Zq (Zr ?_)
 refine Zm ?_
 obtain ⟨zJ,aBJ,hS⟩:=aK hS
 refine VL.bS (RC pS aBJ) rfl (by decide) ?_
 rintro ⟨fZ,aG2⟩ rfl
 try dsimp only
 refine Zu (eN (vs:=[(0,ptr fZ 0)]) (cs := #[ptr fZ 0,.bool false]) rfl (by kernel_rfl)) ?_
 refine VL.box (cs:=[ptr fZ 0,.bool false]) rfl rfl (by decide) fun aNX => ?_
 refine Zy ?_
 refine Zq (Zr ?_)
 refine Zm ?_
 obtain ⟨CG,aJU,hS⟩:=aK hS
 refine VL.bS (N7 aNX (⟨false⟩:eZ) fZ aG2 aJU) rfl (by decide) ?_
 rintro ⟨gL,V9,a6n⟩ rfl
 try dsimp only
 refine VL.alloc (cs:=[i64 0,.slice none 0 0,.slice none 0 0,i64 0,.slice none 0 0,i64 0,str []]) (by kernel_rfl) (by decide) fun D5 => ?_
 refine Zv (cs':=[i64 gL.kind,gL.data.val,gL.items.val,i64 gL.tree,gL.parents.val,i64 gL.time,str gL.text]) rfl qJ ?_
 refine Zl ?_
 refine VC.keep (ρ':=[(0,iA.val),(2,ptr dQ 0),(6,ptr aNX 0),(7,ptr D5 0)]) [0,2,6,7] rfl ?_
 refine Zq (Zq (Zr ?_))
 refine Zm ?_
 refine Zu (aD rfl) ?_
 refine Zu (aB aID rfl) ?_
 refine Zu (aJ o9 rfl rfl) ?_
 refine Zl ?_
 refine iL hS (fun h28 hS => ?_) (fun h28 hS => ?_)
 ·
  refine Zq (Zr ?_)
  refine Zu (eN (vs:=[]) (cs := #[i64 0,.slice none 0 0,.slice none 0 0,i64 0,.slice none 0 0,i64 0,str []]) rfl (by kernel_rfl)) ?_
  refine Zu (kW Tryz.underlying75 (fun _ h=>by cases h) rfl) ?_
  obtain ⟨TB,aBN,hS⟩:=aK hS
  refine VL.cU (BM 0 (Er.no 2) aBN) rfl (by decide) ?_
  rintro AP rfl
  try dsimp only
  refine Zv (cs':=[i64 0,.slice none 0 0,.slice none 0 0,i64 0,.slice none 0 0,i64 0,str []]) rfl qJ ?_
  refine Zy ?_
  refine VC.keep (ρ':=[(2,ptr dQ 0),(3,AP.val)]) [2,3] rfl ?_
  cases hS
  exact VC.ret (hG (vs:=[.agg #[i64 0,.slice none 0 0,.slice none 0 0,i64 0,.slice none 0 0,i64 0,str []],AP.val]) (.inr rfl) rfl (dS.cell iY rfl rfl Rd.blk (dS.tmp rfl (dS.nil))) (⟨0,⟨none,0,[]⟩,⟨none,0,[]⟩,0,⟨none,0,[]⟩,0,[]⟩,AP) rfl rfl (by (try dsimp only); exact cA.out) (fun _ _=>trivial))
 refine Zk ?_
 refine Zq (Zq (Zr ?_))
 refine Zm ?_
 refine Zu (aD rfl) ?_
 refine Zu (aB qF rfl) ?_
 refine Zu (aJ c5 rfl rfl) ?_
 obtain ⟨aO5,a0g,hS⟩:=aK hS
 refine VL.bS (jF fZ V9 a0g) rfl (by decide) ?_
 rintro aGa rfl
 try dsimp only
 refine Zy ?_
 refine VC.keep (ρ':=[(0,iA.val),(2,ptr dQ 0),(6,ptr aNX 0),(7,ptr D5 0),(8,aGa.val)]) [0,2,6,7,8] rfl ?_
 refine Zq (Zr ?_)
 refine Zm ?_
 refine Zu (jM Tryz.underlying26 rfl) ?_
 refine Zl ?_
 refine rE hS (fun h38 hS => ?_) (fun h38 hS => ?_)
 ·
  refine Zq (Zr ?_)
  refine Zu (eN (vs:=[]) (cs := #[i64 0,.slice none 0 0,.slice none 0 0,i64 0,.slice none 0 0,i64 0,str []]) rfl (by kernel_rfl)) ?_
  refine Zm ?_
  refine Zv (cs':=[i64 0,.slice none 0 0,.slice none 0 0,i64 0,.slice none 0 0,i64 0,str []]) rfl qJ ?_
  refine Zy ?_
  cases hS
  exact VC.ret (hG (vs:=[.agg #[i64 0,.slice none 0 0,.slice none 0 0,i64 0,.slice none 0 0,i64 0,str []],aGa.val]) (.inr rfl) rfl (dS.cell iY rfl rfl Rd.blk (dS.tmp rfl (dS.nil))) (⟨0,⟨none,0,[]⟩,⟨none,0,[]⟩,0,⟨none,0,[]⟩,0,[]⟩,aGa) rfl rfl (by (try dsimp only); exact cA.out) (fun _ _=>trivial))
 refine Zk ?_
 refine Zq (Zq (Zr ?_))
 refine Zm ?_
 refine Zu (aD rfl) ?_
 refine Zu (aB qF rfl) ?_
 refine Zu (aJ c5 rfl rfl) ?_
 obtain ⟨aDr,aJ5,hS⟩:=aK hS
 refine Zu (oB (DE fZ V9 aJ5) rfl (fun _ _=>rfl)) ?_
 refine Zu (iZ rfl rfl) ?_
 refine Zl ?_
 refine VC.keep (ρ':=[(0,iA.val),(2,ptr dQ 0),(7,ptr D5 0),(46,.bool (decide (0 < aDr)))]) [0,2,7,46] rfl ?_
 refine Zc hS (fun h46 hS => ?_) (fun h46 hS => ?_)
 ·
  refine Zq (Zr ?_)
  refine Zu (eN (vs:=[]) (cs := #[i64 0,.slice none 0 0,.slice none 0 0,i64 0,.slice none 0 0,i64 0,str []]) rfl (by kernel_rfl)) ?_
  refine Zu (kW Tryz.underlying75 (fun _ h=>by cases h) rfl) ?_
  obtain ⟨aR0,aVG,hS⟩:=aK hS
  refine VL.cU (BM 0 (Er.no 2) aVG) rfl (by decide) ?_
  rintro aI3 rfl
  try dsimp only
  refine Zv (cs':=[i64 0,.slice none 0 0,.slice none 0 0,i64 0,.slice none 0 0,i64 0,str []]) rfl qJ ?_
  refine Zy ?_
  cases hS
  exact VC.ret (hG (vs:=[.agg #[i64 0,.slice none 0 0,.slice none 0 0,i64 0,.slice none 0 0,i64 0,str []],aI3.val]) (.inr rfl) rfl (dS.cell iY rfl rfl Rd.blk (dS.tmp rfl (dS.nil))) (⟨0,⟨none,0,[]⟩,⟨none,0,[]⟩,0,⟨none,0,[]⟩,0,[]⟩,aI3) rfl rfl (by (try dsimp only); exact cA.out) (fun _ _=>trivial))
 refine Zk ?_
 refine Zq (Zr ?_)
 refine Zu (cD iY rfl rfl) ?_
 obtain ⟨aEj,aVK,hS⟩:=aK hS
 refine VL.bS (FG gL aVK) rfl (by decide) ?_
 rintro ⟨aI4,YJ⟩ rfl
 try dsimp only
 refine Zm ?_
 refine Zu (aW rfl rfl) ?_
 refine Zu (aW rfl rfl) ?_
 refine Zy ?_
 refine Zq (Zq (Zr ?_))
 refine Zm ?_
 refine Zu (jM Tryz.underlying26 rfl) ?_
 refine Zl ?_
 refine VC.keep (ρ':=[(0,iA.val),(2,ptr dQ 0),(7,ptr D5 0),(9,aI4.val),(5,YJ.val),(56,.bool (!decide (YJ.pl.isNil=true)))]) [0,2,7,9,5,56] rfl ?_
 refine rE hS (fun h56 hS => ?_) (fun h56 hS => ?_)
 ·
  refine Zq (Zr ?_)
  refine Zu (eN (vs:=[]) (cs := #[i64 0,.slice none 0 0,.slice none 0 0,i64 0,.slice none 0 0,i64 0,str []]) rfl (by kernel_rfl)) ?_
  refine Zm ?_
  refine Zv (cs':=[i64 0,.slice none 0 0,.slice none 0 0,i64 0,.slice none 0 0,i64 0,str []]) rfl qJ ?_
  refine Zy ?_
  cases hS
  exact VC.ret (hG (vs:=[.agg #[i64 0,.slice none 0 0,.slice none 0 0,i64 0,.slice none 0 0,i64 0,str []],YJ.val]) (.inr rfl) rfl (dS.cell iY rfl rfl Rd.blk (dS.tmp rfl (dS.nil))) (⟨0,⟨none,0,[]⟩,⟨none,0,[]⟩,0,⟨none,0,[]⟩,0,[]⟩,YJ) rfl rfl (by (try dsimp only); exact cA.out) (fun _ _=>trivial))
 refine Zk ?_
 refine Zq (Zq (Zr ?_))
 refine Zy ?_
 obtain ⟨aRd,aVZ,hS⟩:=aK hS
 refine Zu (oB (TY aI4 iA aVZ) rfl (fun _ _=>rfl)) ?_
 refine Zu (lQ rfl) ?_
 refine Zl ?_
 refine iL hS (fun h62 hS => ?_) (fun h62 hS => ?_)
 ·
  refine Zq (Zr ?_)
  refine Zu (eN (vs:=[]) (cs := #[i64 0,.slice none 0 0,.slice none 0 0,i64 0,.slice none 0 0,i64 0,str []]) rfl (by kernel_rfl)) ?_
  refine Zu (kW Tryz.underlying75 (fun _ h=>by cases h) rfl) ?_
  obtain ⟨aRi,aV4,hS⟩:=aK hS
  refine VL.cU (BM 0 (Er.no 2) aV4) rfl (by decide) ?_
  rintro aD4 rfl
  try dsimp only
  refine Zv (cs':=[i64 0,.slice none 0 0,.slice none 0 0,i64 0,.slice none 0 0,i64 0,str []]) rfl qJ ?_
  refine Zy ?_
  refine VC.keep (ρ':=[(2,ptr dQ 0),(3,aD4.val)]) [2,3] rfl ?_
  cases hS
  exact VC.ret (hG (vs:=[.agg #[i64 0,.slice none 0 0,.slice none 0 0,i64 0,.slice none 0 0,i64 0,str []],aD4.val]) (.inr rfl) rfl (dS.cell iY rfl rfl Rd.blk (dS.tmp rfl (dS.nil))) (⟨0,⟨none,0,[]⟩,⟨none,0,[]⟩,0,⟨none,0,[]⟩,0,[]⟩,aD4) rfl rfl (by (try dsimp only); exact cA.out) (fun _ _=>trivial))
 refine Zk ?_
 refine Zq (Zr ?_)
 refine Zu (cD iY rfl rfl) ?_
 refine Zv (cs':=[i64 gL.kind,gL.data.val,gL.items.val,i64 gL.tree,gL.parents.val,i64 gL.time,str gL.text]) rfl qJ ?_
 refine Zy ?_
 refine VC.keep (ρ':=[(2,ptr dQ 0),(3,.nilIface)]) [2,3] rfl ?_
 cases hS
 exact VC.ret (hG (vs:=[.agg #[i64 gL.kind,gL.data.val,gL.items.val,i64 gL.tree,gL.parents.val,i64 gL.time,str gL.text],.nilIface]) (.inr rfl) rfl (dS.cell iY rfl rfl Rd.blk (dS.tmp rfl (dS.nil))) (⟨gL.kind,gL.data,gL.items,gL.tree,gL.parents,gL.time,gL.text⟩,.nil) rfl rfl (by (try dsimp only); exact cA.out) (fun _ _=>trivial))
theorem aGz (iA:Sv UInt8) {r:(Unit×eY)⊕(kK×Unit)} (hS:Sh.IJ iA.l=some r) :
 Ct Tryz.prog 8 [iA.val] iA.ok (Ow.emp) (X:=(Er)⊕(Nat×mE)) (fun x=>match x with | .inl x => .tuple #[.pointer none,x.val] | .inr x => .tuple #[ptr x.1 0,.nilIface]) (fun x=>match x with | .inl x=>r = .inl ((),x.pl) | .inr x=>r = .inr (x.2.pl,())) (fun x=>match x with | .inl x=>x.ok | .inr x=>(xW x.2.l.l)) (fun x=>match x with | .inl x=>Ow.emp | .inr x=>Ow.star (bD x.1 [x.2.l.val,x.2.mY.val] 82) (Ow.star (Sv.own x.2.l 34) (Mv.own x.2.mY Tryz.prog 9 3 wU uJ))):=by
 refine Zo Tryz.func8 Tryz.ntmps8 fun c => ?_
 unfold Sh.IJ at hS
 refine Zq (Zr ?_)
 refine Zy ?_
 refine Zq (Zr ?_)
 refine Zm ?_
 obtain ⟨S5,aBF,hS⟩:=aK hS
 refine VL.bS (RC iA aBF) rfl (by decide) ?_
 rintro ⟨tO,aXx⟩ rfl
 try dsimp only
 refine Zy ?_
 refine Zq (Zr ?_)
 refine Zm ?_
 obtain ⟨CE,aJL,hS⟩:=aK hS
 refine VL.bS (dG tO aXx aJL) rfl (by decide) ?_
 rintro ⟨nM,FM⟩ rfl
 try dsimp only
 refine Zy ?_
 refine Zq ?_
 refine VC.gK (S:=Bool) (fun (XE:Bool)=>XE) (fun (XE:Bool)=>[(4,ptr tO 0),(5,i64 nM),(22,.bool XE)]) (fun (XE:Bool)=>Mo.tt) (fun (XE:Bool)=>Ow.star (bD tO [FM.b.val,i64 FM.at_,FM.err.val] 127) (Ow.emp)) hS ?_ ?_
 ·
  clear hS
  intro k4 hS
  refine Zr ?_
  refine Zm ?_
  refine Zu (c4 rfl rfl) ?_
  refine Zm ?_
  refine pL 19 hS (fun h19 hS => ?_) (fun h19 hS => ?_)
  ·
   refine VL.runs 3 [(22,some true)] (by kernel_rfl) ?_
   refine VL.mt true [4,5,22] (fun _ _ h=>h) hS rfl
  refine Zg ?_
  refine Zh (iZ rfl rfl) ?_
  refine Zf ?_
  refine VL.mt (decide (4096 < nM)) [4,5,22] (fun _ _ h=>h) hS rfl
 clear hS
 rintro XE hS
 refine iL hS (fun h22 hS => ?_) (fun h22 hS => ?_)
 ·
  refine Zq (Zr ?_)
  refine Zu (kW Tryz.underlying75 (fun _ h=>by cases h) rfl) ?_
  refine Zy ?_
  cases hS
  exact VC.ret (s6 (.inr rfl) rfl rfl rfl (.inl (Er.no 2)) rfl rfl (by (try dsimp only); exact cA.out) (by (try dsimp only); exact dJ.out))
 refine Zk ?_
 refine Zq (Zr ?_)
 obtain ⟨CG,aJU,hS⟩:=aK hS
 refine VL.bS (ZN aJU) rfl (by decide) ?_
 rintro ⟨gL,V9⟩ rfl
 try dsimp only
 refine Zy ?_
 refine VC.gK (S:=Sv cN×Mv bB Int×Sv UInt8×Int×Er) (fun sg=>((sg.1.l.map cN.pl),sg.2.1.l,sg.2.2.1.l,sg.2.2.2.1,sg.2.2.2.2.pl)) (fun sg=>[(4,ptr tO 0),(6,ptr gL 0)]) (fun sg=>((xW sg.1.l).and (sg.2.2.1.ok.and sg.2.2.2.2.ok))) (fun sg=>Ow.star (bD gL [sg.1.val,sg.2.1.val] 82) (Ow.star (bD tO [sg.2.2.1.val,i64 sg.2.2.2.1,sg.2.2.2.2.val] 127) (Ow.star (Sv.own sg.1 34) (Ow.star (Mv.own sg.2.1 Tryz.prog 9 3 wU uJ) (Ow.emp))))) hS ?_ ?_
 ·
  clear hS
  intro k11 hS
  refine Zq (Zr ?_)
  refine Zy ?_
  refine Zb ?_
  refine VC.iter (S:=Int×Sv cN×Mv bB Int×Sv UInt8×Int×Er) (fun sg=>(sg.1,(sg.2.1.l.map cN.pl),sg.2.2.1.l,sg.2.2.2.1.l,sg.2.2.2.2.1,sg.2.2.2.2.2.pl)) (fun sg=>[(4,ptr tO 0),(6,ptr gL 0),(25,i64 nM),(26,i64 sg.1)]) (fun sg=>((xW sg.2.1.l).and (sg.2.2.2.1.ok.and sg.2.2.2.2.2.ok))) (fun sg=>Ow.star (bD gL [sg.2.1.val,sg.2.2.1.val] 82) (Ow.star (bD tO [sg.2.2.2.1.val,i64 sg.2.2.2.2.1,sg.2.2.2.2.2.val] 127) (Ow.star (Sv.own sg.2.1 34) (Ow.star (Mv.own sg.2.2.1 Tryz.prog 9 3 wU uJ) (Ow.emp))))) (0,V9.l,V9.mY,FM.b,FM.at_,FM.err) [4,6,25,26] hS rfl ?_
  clear hS
  rintro ⟨BV,ZT,ZU,aEz,aFA,aFC⟩ m1 y1 hS hK1
  refine Zq (Zr ?_)
  refine Zu (c4 rfl rfl) ?_
  refine Zl ?_
  refine Zq ?_
  refine Zc hS (fun h27 hS => ?_) (fun h27 hS => ?_)
  ·
   refine Zk ?_
   refine Zq (Zb (Zq (Zr ?_)))
   refine Zy ?_
   refine Zq (Zr ?_)
   refine Zm ?_
   obtain ⟨HU,aU6,hS⟩:=aK hS
   refine VL.bS (fQ tO (⟨aEz,aFA,aFC⟩:cH) aU6) rfl (by decide) ?_
   rintro ⟨a6R,yV⟩ rfl
   try dsimp only
   obtain ⟨b32,hS⟩:=bU hS
   refine VL.s2b Tryz.underlying9 Tryz.underlying30 Tryz.underlying5 rfl b32 (by decide) fun a2f aWb => ?_
   replace hS:=bV aWb hS
   obtain ⟨aEe,aUa,hS⟩:=aK hS
   refine VL.cU (aBm a2f aUa) rfl (by decide) ?_
   rintro ⟨q7,aDR⟩ rfl
   try dsimp only
   refine Zm ?_
   refine Zu (aW rfl rfl) ?_
   refine Zu (aW rfl rfl) ?_
   refine VL.alloc (cs:=[i64 0,.slice none 0 0,.slice none 0 0,i64 0,.slice none 0 0,i64 0,str []]) (by kernel_rfl) (by decide) fun aUB => ?_
   refine Zv (cs':=[i64 q7.kind,q7.data.val,q7.items.val,i64 q7.tree,q7.parents.val,i64 q7.time,str q7.text]) rfl qJ ?_
   refine Zy ?_
   refine VC.keep (ρ':=[(4,ptr tO 0),(6,ptr gL 0),(25,i64 nM),(26,i64 BV),(7,i64 BV),(8,ptr aUB 0),(9,aDR.val)]) [4,6,25,26,7,8,9] rfl ?_
   refine Zq (Zq (Zr ?_))
   refine Zm ?_
   obtain ⟨aRO,aUj,hS⟩:=aK hS
   refine VL.bS (jF tO yV aUj) rfl (by decide) ?_
   rintro a6S rfl
   try dsimp only
   refine Zu (jM Tryz.underlying26 rfl) ?_
   refine Zl ?_
   refine rE hS (fun h38 hS => ?_) (fun h38 hS => ?_)
   ·
    replace hS:=gA hS hK1
    refine VC.eW (ZT,ZU,yV.b,yV.at_,yV.err) [4,6] (fun _ _ h=>h) hS rfl
   refine Zk ?_
   refine Zq (Zq (Zr ?_))
   refine Zm ?_
   refine Zu (jM Tryz.underlying26 rfl) ?_
   refine Zl ?_
   refine rE hS (fun h40 hS => ?_) (fun h40 hS => ?_)
   ·
    refine Zq (Zr ?_)
    refine Zy ?_
    refine VC.keep (ρ':=[(2,.pointer none),(3,aDR.val)]) [2,3] rfl ?_
    replace hS:=gA hS hK1
    cases hS
    exact VC.ret (s6 (.inr rfl) rfl rfl rfl (.inl aDR) rfl rfl (by (try dsimp only); exact cA.out) (by (try dsimp only); exact dJ.out))
   refine Zk ?_
   refine Zq (Zr ?_)
   refine Zm ?_
   refine Zu (cD iY rfl rfl) ?_
   obtain ⟨aC3,aUy,hS⟩:=aK hS
   refine VL.bS (CB gL (⟨ZT,ZU⟩:mE) q7 aUy) rfl (by decide) ?_
   rintro ⟨aI1,aTS,KE⟩ rfl
   try dsimp only
   refine Zm ?_
   refine Zu (aW rfl rfl) ?_
   refine Zu (aW rfl rfl) ?_
   refine Zy ?_
   refine VC.keep (ρ':=[(4,ptr tO 0),(6,ptr gL 0),(25,i64 nM),(26,i64 BV),(7,i64 BV),(10,i64 aI1),(11,aTS.val)]) [4,6,25,26,7,10,11] rfl ?_
   refine VC.gK (S:=Bool) (fun (NS:Bool)=>NS) (fun (NS:Bool)=>[(4,ptr tO 0),(6,ptr gL 0),(25,i64 nM),(26,i64 BV),(55,.bool NS)]) (fun (NS:Bool)=>Mo.tt) (fun (NS:Bool)=>Ow.star (bD gL [KE.l.val,KE.mY.val] 82) (Ow.star (bD aUB [i64 q7.kind,q7.data.val,q7.items.val,i64 q7.tree,q7.parents.val,i64 q7.time,str q7.text] 34) (Ow.star (bD tO [yV.b.val,i64 yV.at_,yV.err.val] 127) (Ow.star (Mv.own KE.mY Tryz.prog 9 3 wU uJ) (Ow.star (Sv.own KE.l 34) (Ow.emp)))))) hS ?_ ?_
   ·
    clear hS
    intro k26 hS
    refine Zr ?_
    refine Zm ?_
    refine Zu (jM Tryz.underlying26 rfl) ?_
    refine Zm ?_
    refine OZ 50 hS (fun h50 hS => ?_) (fun h50 hS => ?_)
    ·
     refine VL.runs 5 [(55,some true)] (by kernel_rfl) ?_
     refine VL.mt true [4,6,25,26,55] (fun _ _ h=>h) hS rfl
    refine Zy ?_
    obtain ⟨b53,hS⟩:=bU hS
    refine Zh (cR rfl rfl b53) ?_
    refine Zh (yY rfl rfl) ?_
    refine Zf ?_
    refine VL.mt (!decide (aI1=(BV+1))) [4,6,25,26,55] (fun _ _ h=>h) hS rfl
   clear hS
   rintro NS hS
   refine iL hS (fun h55 hS => ?_) (fun h55 hS => ?_)
   ·
    refine Zq (Zr ?_)
    refine Zu (kW Tryz.underlying75 (fun _ h=>by cases h) rfl) ?_
    refine Zy ?_
    replace hS:=gA hS hK1
    cases hS
    exact VC.ret (s6 (.inr rfl) rfl rfl rfl (.inl (Er.no 2)) rfl rfl (by (try dsimp only); exact cA.out) (by (try dsimp only); exact dJ.out))
   refine Zk ?_
   refine Zr ?_
   obtain ⟨b57,hS⟩:=bU hS
   refine Zu (cR rfl rfl b57) ?_
   refine Zm ?_
   refine VL.iP ((BV+1),KE.l,KE.mY,yV.b,yV.at_,yV.err) [4,6,25,26] (fun _ _ h=>h) (go2 hS hK1) rfl
  replace hS:=gA hS hK1
  refine VC.eW (ZT,ZU,aEz,aFA,aFC) [4,6] (fun _ _ h=>h) hS rfl
 clear hS
 rintro ⟨aAv,aUH,dM,ES,GX⟩ hS
 refine Zq (Zq (Zr ?_))
 refine Zm ?_
 obtain ⟨Y0,aFZ,hS⟩:=aK hS
 refine VL.bS (jF tO (⟨dM,ES,GX⟩:cH) aFZ) rfl (by decide) ?_
 rintro aD2 rfl
 try dsimp only
 refine Zy ?_
 refine Zq (Zr ?_)
 refine Zm ?_
 refine Zu (jM Tryz.underlying26 rfl) ?_
 refine Zl ?_
 refine rE hS (fun h61 hS => ?_) (fun h61 hS => ?_)
 ·
  refine Zq (Zr ?_)
  refine Zy ?_
  cases hS
  exact VC.ret (s6 (.inr rfl) rfl rfl rfl (.inl aD2) rfl rfl (by (try dsimp only); exact cA.out) (by (try dsimp only); exact dJ.out))
 refine Zk ?_
 refine Zq (Zq (Zr ?_))
 refine Zm ?_
 obtain ⟨aRh,aV3,hS⟩:=aK hS
 refine Zu (oB (DE tO (⟨dM,ES,GX⟩:cH) aV3) rfl (fun _ _=>rfl)) ?_
 refine Zu (iZ rfl rfl) ?_
 refine Zl ?_
 refine Zc hS (fun h65 hS => ?_) (fun h65 hS => ?_)
 ·
  refine Zq (Zr ?_)
  refine Zu (kW Tryz.underlying75 (fun _ h=>by cases h) rfl) ?_
  refine Zy ?_
  refine VC.keep (ρ':=[(2,.pointer none),(3,(Er.no 2).val)]) [2,3] rfl ?_
  cases hS
  exact VC.ret (s6 (.inr rfl) rfl rfl rfl (.inl (Er.no 2)) rfl rfl (by (try dsimp only); exact cA.out) (by (try dsimp only); exact dJ.out))
 refine Zk ?_
 refine Zq (Zr ?_)
 refine Zy ?_
 refine VC.keep (ρ':=[(2,ptr gL 0),(3,.nilIface)]) [2,3] rfl ?_
 cases hS
 exact VC.ret (s6 (.inr rfl) rfl rfl rfl (.inr (gL,⟨aAv,aUH⟩)) rfl rfl (by (try dsimp only); exact cA.out) (by (try dsimp only); exact dJ.out))
theorem JE (nS:Nat) (aA:mE) (zQ:Int) {r:aY×Bool} (hS:Sh.tF aA.pl zQ=some r) :
 Ct Tryz.prog 10 [ptr nS 0,i64 zQ] (xW aA.l.l) (Ow.star (Sv.own aA.l 34) (Ow.star (Mv.own aA.mY Tryz.prog 9 3 wU uJ) (bD nS [aA.l.val,aA.mY.val] 82))) (X:=cN×Bool) (fun x => .tuple #[.agg (bM.enc x.1).toArray,.bool x.2]) (fun x=>r=(x.1.pl,x.2)) (fun x=>x.1.m) (fun x=>Ow.star (bD nS [aA.l.val,aA.mY.val] 82) (Ow.star (Sv.own aA.l 34) (Mv.own aA.mY Tryz.prog 9 3 wU uJ))):=by
 refine Zo Tryz.func10 Tryz.ntmps10 fun c => ?_
 unfold Sh.tF at hS
 refine Zq (Zr ?_)
 refine VL.alloc (cs:=[i64 0,.slice none 0 0,.slice none 0 0,i64 0,.slice none 0 0,i64 0,str []]) (by kernel_rfl) (by decide) fun wM => ?_
 refine Zy ?_
 refine Zq (Zq (Zr ?_))
 refine Zy ?_
 obtain ⟨iT,tG,hS⟩:=aK hS
 refine VL.bS (IK nS aA zQ tG) rfl (by decide) ?_
 rintro _ _
 try dsimp only
 refine Zu (gV rfl rfl) ?_
 refine Zl ?_
 refine Zc hS (fun h9 hS => ?_) (fun h9 hS => ?_)
 ·
  refine Zq (Zr ?_)
  refine Zu (eN (vs:=[]) (cs := #[i64 0,.slice none 0 0,.slice none 0 0,i64 0,.slice none 0 0,i64 0,str []]) rfl (by kernel_rfl)) ?_
  refine Zv (cs':=[i64 0,.slice none 0 0,.slice none 0 0,i64 0,.slice none 0 0,i64 0,str []]) rfl qJ ?_
  refine Zy ?_
  cases hS
  exact VC.ret (hG (vs:=[.agg #[i64 0,.slice none 0 0,.slice none 0 0,i64 0,.slice none 0 0,i64 0,str []],.bool false]) (.inr rfl) rfl (dS.cell iY rfl rfl Rd.blk (dS.tmp rfl (dS.nil))) (⟨0,⟨none,0,[]⟩,⟨none,0,[]⟩,0,⟨none,0,[]⟩,0,[]⟩,false) rfl rfl (by (try dsimp only); exact cA.out) (by (try dsimp only); exact dJ.out))
 refine Zk ?_
 refine Zq (Zr ?_)
 refine Zm ?_
 refine Zu (aD rfl) ?_
 refine Zu (aB wR rfl) ?_
 refine Zu (aJ C5 rfl rfl) ?_
 refine Zm ?_
 obtain ⟨b16,hS⟩:=bU hS
 refine Zu (qK rfl rfl b16) ?_
 obtain ⟨aKp,aPp,aJm,hS⟩:=DD hS
 refine VL.aNe aKp.m aJm (fun _ q=>q) ?_
 refine Zu (lJ (s:=aA.l) Tryz.underlying80 qJ rfl rfl aPp (bN aPp aJm)) ?_
 refine Zu (R9 (s:=aA.l) iY rfl rfl aJm) ?_
 obtain ⟨MJ,aJO,hS⟩:=aK hS
 refine VL.cU (T7 aKp aJO) rfl (by decide) ?_
 rintro oA rfl
 try dsimp only
 refine Zv (cs':=[i64 oA.kind,oA.data.val,oA.items.val,i64 oA.tree,oA.parents.val,i64 oA.time,str oA.text]) rfl qJ ?_
 refine Zy ?_
 refine VC.keep (ρ':=[(4,ptr wM 0),(5,.bool true)]) [4,5] rfl ?_
 cases hS
 exact VC.ret (hG (vs:=[.agg #[i64 oA.kind,oA.data.val,oA.items.val,i64 oA.tree,oA.parents.val,i64 oA.time,str oA.text],.bool true]) (.inr rfl) rfl (dS.cell iY rfl rfl Rd.blk (dS.tmp rfl (dS.nil))) (⟨oA.kind,oA.data,oA.items,oA.tree,oA.parents,oA.time,oA.text⟩,true) rfl rfl (by (try dsimp only); exact cA.out) (by (try dsimp only); exact dJ.out))
theorem aHl  {r:Ar 8} (hS:Sh.L9=some r) :
 Ct Tryz.prog 32 [] Mo.tt (Ow.emp) (X:=Unit) (fun _ => .agg (iU .u32 r).toArray) (fun _=>True) (fun _=>Mo.tt) (fun _=>Ow.emp):=by
 refine Zo Tryz.func32 Tryz.ntmps32 fun c => ?_
 unfold Sh.L9 at hS
 refine Zq (Zr ?_)
 refine VL.alloc (cs:=(iU .u32 (Ar.rep 8 0))) (by kernel_rfl) (by decide) fun a48 => ?_
 refine Zl ?_
 refine Zq (Zr ?_)
 obtain ⟨QH,aNj,hS⟩:=qT hS
 refine Zu (YM (vs:=[(0,.int .u32 1779033703),(1,.int .u32 3144134277),(2,.int .u32 1013904242),(3,.int .u32 2773480762),(4,.int .u32 1359893119),(5,.int .u32 2600822924),(6,.int .u32 528734635),(7,.int .u32 1541459225)]) (k := .u32) (a:=(⟨[1779033703,3144134277,1013904242,2773480762,1359893119,2600822924,528734635,1541459225],rfl⟩:Ar 8)) aNj rfl (by kernel_rfl)) ?_
 refine VL.tT (Ar.rep 8 0) QH .u32 rfl rfl rfl JR ?_
 refine Zl ?_
 cases hS
 exact VC.ret (hG (.inr rfl) rfl (dS.cell u0 rfl (uY _ _) Rd.blk (dS.nil)) () rfl trivial (by (try dsimp only); exact cA.out) (fun _ _=>trivial))
theorem aHm  {r:Ar 64} (hS:Sh.SP=some r) :
 Ct Tryz.prog 33 [] Mo.tt (Ow.emp) (X:=Unit) (fun _ => .agg (iU .u32 r).toArray) (fun _=>True) (fun _=>Mo.tt) (fun _=>Ow.emp):=by
 refine Zo Tryz.func33 Tryz.ntmps33 fun c => ?_
 unfold Sh.SP at hS
 refine Zq (Zr ?_)
 refine VL.alloc (cs:=(iU .u32 (Ar.rep 64 0))) (by kernel_rfl) (by decide) fun a48 => ?_
 refine Zl ?_
 refine Zq (Zr ?_)
 obtain ⟨QH,aNj,hS⟩:=qT hS
 refine Zu (YM (vs:=[(0,.int .u32 1116352408),(1,.int .u32 1899447441),(2,.int .u32 3049323471),(3,.int .u32 3921009573),(4,.int .u32 961987163),(5,.int .u32 1508970993),(6,.int .u32 2453635748),(7,.int .u32 2870763221),(8,.int .u32 3624381080),(9,.int .u32 310598401),(10,.int .u32 607225278),(11,.int .u32 1426881987),(12,.int .u32 1925078388),(13,.int .u32 2162078206),(14,.int .u32 2614888103),(15,.int .u32 3248222580),(16,.int .u32 3835390401),(17,.int .u32 4022224774),(18,.int .u32 264347078),(19,.int .u32 604807628),(20,.int .u32 770255983),(21,.int .u32 1249150122),(22,.int .u32 1555081692),(23,.int .u32 1996064986),(24,.int .u32 2554220882),(25,.int .u32 2821834349),(26,.int .u32 2952996808),(27,.int .u32 3210313671),(28,.int .u32 3336571891),(29,.int .u32 3584528711),(30,.int .u32 113926993),(31,.int .u32 338241895),(32,.int .u32 666307205),(33,.int .u32 773529912),(34,.int .u32 1294757372),(35,.int .u32 1396182291),(36,.int .u32 1695183700),(37,.int .u32 1986661051),(38,.int .u32 2177026350),(39,.int .u32 2456956037),(40,.int .u32 2730485921),(41,.int .u32 2820302411),(42,.int .u32 3259730800),(43,.int .u32 3345764771),(44,.int .u32 3516065817),(45,.int .u32 3600352804),(46,.int .u32 4094571909),(47,.int .u32 275423344),(48,.int .u32 430227734),(49,.int .u32 506948616),(50,.int .u32 659060556),(51,.int .u32 883997877),(52,.int .u32 958139571),(53,.int .u32 1322822218),(54,.int .u32 1537002063),(55,.int .u32 1747873779),(56,.int .u32 1955562222),(57,.int .u32 2024104815),(58,.int .u32 2227730452),(59,.int .u32 2361852424),(60,.int .u32 2428436474),(61,.int .u32 2756734187),(62,.int .u32 3204031479),(63,.int .u32 3329325298)]) (k := .u32) (a:=(⟨[1116352408,1899447441,3049323471,3921009573,961987163,1508970993,2453635748,2870763221,3624381080,310598401,607225278,1426881987,1925078388,2162078206,2614888103,3248222580,3835390401,4022224774,264347078,604807628,770255983,1249150122,1555081692,1996064986,2554220882,2821834349,2952996808,3210313671,3336571891,3584528711,113926993,338241895,666307205,773529912,1294757372,1396182291,1695183700,1986661051,2177026350,2456956037,2730485921,2820302411,3259730800,3345764771,3516065817,3600352804,4094571909,275423344,430227734,506948616,659060556,883997877,958139571,1322822218,1537002063,1747873779,1955562222,2024104815,2227730452,2361852424,2428436474,2756734187,3204031479,3329325298],rfl⟩:Ar 64)) aNj rfl (by kernel_rfl)) ?_
 refine VL.tT (Ar.rep 64 0) QH .u32 rfl rfl rfl aBY ?_
 refine Zl ?_
 cases hS
 exact VC.ret (hG (.inr rfl) rfl (dS.cell aBQ rfl (uY _ _) Rd.blk (dS.nil)) () rfl trivial (by (try dsimp only); exact cA.out) (fun _ _=>trivial))
theorem LK (fL:Int) (k_1:Int) {r:Int} (hS:Sh.rZ fL k_1=some r) :
 Ct Tryz.prog 84 [.int .u32 fL,i64 k_1] Mo.tt (Ow.emp) (X:=Unit) (fun _ => .int .u32 r) (fun _=>True) (fun _=>Mo.tt) (fun _=>Ow.emp):=by
 refine Zo Tryz.func84 Tryz.ntmps84 fun c => ?_
 unfold Sh.rZ at hS
 refine Zq (Zr ?_)
 refine Zy ?_
 refine Zq (Zr ?_)
 refine Zm ?_
 refine Zu (jK Tryz.underlying3 Tryz.underlying108 rfl) ?_
 refine Zu (B4 rfl rfl) ?_
 refine Zy ?_
 refine Zq (Zr ?_)
 refine Zy ?_
 obtain ⟨b11,hS⟩:=bU hS
 refine Zu (aAX rfl rfl b11) ?_
 refine Zy ?_
 refine Zu (a2V rfl rfl rfl) ?_
 obtain ⟨b15,hS⟩:=bU hS
 refine Zu (yZ rfl rfl b15) ?_
 refine Zu (aGd rfl rfl) ?_
 refine Zy ?_
 refine VC.keep (ρ':=[(4,.int .u32 (GH .u32 (I0 .u32 fL (gE .u64 (IntKind.wrap .u64 k_1) 31)) (nD .u32 fL (IntKind.wrap .u64 (32 - (gE .u64 (IntKind.wrap .u64 k_1) 31))))))]) [4] rfl ?_
 cases hS
 exact Ze
theorem jP (w_0:Int) (n_1:Int) {r:Int} (hS:Sh.pW w_0 n_1=some r) :
 Ct Tryz.prog 59 [.int .u32 w_0,i64 n_1] Mo.tt (Ow.emp) (X:=Unit) (fun _ => .int .u32 r) (fun _=>True) (fun _=>Mo.tt) (fun _=>Ow.emp):=by
 refine Zo Tryz.func59 Tryz.ntmps59 fun c => ?_
 unfold Sh.pW at hS
 refine Zq (Zr ?_)
 refine Zy ?_
 refine Zq (Zr ?_)
 refine Zy ?_
 refine Zu (aY0 rfl) ?_
 obtain ⟨sS,DH,hS⟩:=aK hS
 refine Zu (bZ (LK w_0 (IntKind.wrap .i64 (0 - n_1)) DH) rfl (fun _ _=>rfl)) ?_
 refine Zy ?_
 cases hS
 exact Ze
theorem CZ (iA:Sv UInt8) {r:Ar 64} (hS:Sh.MA iA.l=some r) :
 Ct Tryz.prog 58 [iA.val] iA.ok (Ow.emp) (X:=Unit) (fun _ => .agg (iU .u32 r).toArray) (fun _=>True) (fun _=>Mo.tt) (fun _=>Ow.emp):=by
 refine Zo Tryz.func58 Tryz.ntmps58 fun c => ?_
 unfold Sh.MA at hS
 refine Zq (Zr ?_)
 refine VL.alloc (cs:=(iU .u32 (Ar.rep 64 0))) (by kernel_rfl) (by decide) fun dQ => ?_
 refine Zl ?_
 refine Zq (Zr ?_)
 refine VL.alloc (cs:=(iU .u32 (Ar.rep 64 0))) (by kernel_rfl) (by decide) fun jQ => ?_
 refine Zl ?_
 refine Zq (Zq (Zr ?_))
 refine Zy ?_
 refine Zb ?_
 refine VC.iter (S:=Int×Ar 64) (fun sg=>(sg.1,sg.2)) (fun sg=>[(0,iA.val),(2,ptr dQ 0),(3,ptr jQ 0),(8,i64 sg.1)]) (fun sg=>Mo.tt) (fun sg=>Ow.star (bD jQ (iU .u32 sg.2) 105) (Ow.star (bD dQ (iU .u32 (Ar.rep 64 0)) 105) (Ow.emp))) (0,(Ar.rep 64 0)) [0,2,3,8] hS rfl ?_
 clear hS
 rintro ⟨rP,EG⟩ m1 y1 hS hK1
 refine Zq (Zr ?_)
 refine Zu (c4 rfl rfl) ?_
 refine Zl ?_
 refine Zq ?_
 refine Zc hS (fun h9 hS => ?_) (fun h9 hS => ?_)
 ·
  refine Zk ?_
  refine Zq (Zb (Zq (Zr ?_)))
  refine Zy ?_
  refine VC.draw [(0,true),(1,true),(2,true),(3,true),(4,true),(5,true),(6,true),(7,true),(8,true),(9,true),(10,true),(11,true),(12,true),(13,true),(14,true),(15,true),(16,true),(17,true),(18,true),(19,true),(20,true),(21,true),(22,true),(23,true),(24,true),(25,true),(26,true),(27,true),(28,true),(29,true),(30,true),(31,true),(32,true),(33,true),(34,true),(35,false)] mixed (by kernel_rfl) (by kernel_rfl) (by kernel_rfl) ?_
  refine Zw rfl (bA rfl) ?_
  refine Zw rfl (bA rfl) ?_
  refine Zw rfl (bA rfl) ?_
  obtain ⟨b14,hS⟩:=bU hS
  refine Zw rfl (N9 rfl rfl b14) ?_
  obtain ⟨aZa,aPm,aPL,hS⟩:=c6 hS
  refine Zw rfl (e8 (s:=iA) Tryz.underlying30 AD rfl rfl aPm (bN aPm aPL)) ?_
  refine Zw rfl (q9 (s:=iA) RS rfl aPL rfl) ?_
  refine Zw rfl (jK Tryz.underlying5 Tryz.underlying102 rfl) ?_
  refine Zw rfl (aAX rfl rfl (by decide)) ?_
  refine Zw rfl (bA rfl) ?_
  refine Zw rfl (bA rfl) ?_
  obtain ⟨b21,hS⟩:=bU hS
  refine Zw rfl (N9 rfl rfl b21) ?_
  obtain ⟨b22,hS⟩:=bU hS
  refine Zw rfl (cR rfl rfl b22) ?_
  obtain ⟨aZe,aQE,aP1,hS⟩:=c6 hS
  refine Zw rfl (e8 (s:=iA) Tryz.underlying30 AD rfl rfl aQE (bN aQE aP1)) ?_
  refine Zw rfl (q9 (s:=iA) RS rfl aP1 rfl) ?_
  refine Zw rfl (jK Tryz.underlying5 Tryz.underlying102 rfl) ?_
  refine Zw rfl (aAX rfl rfl (by decide)) ?_
  refine Zw rfl (aGd rfl rfl) ?_
  refine Zw rfl (bA rfl) ?_
  refine Zw rfl (bA rfl) ?_
  obtain ⟨b30,hS⟩:=bU hS
  refine Zw rfl (N9 rfl rfl b30) ?_
  obtain ⟨b31,hS⟩:=bU hS
  refine Zw rfl (cR rfl rfl b31) ?_
  obtain ⟨aZf,aQN,aP7,hS⟩:=c6 hS
  refine Zw rfl (e8 (s:=iA) Tryz.underlying30 AD rfl rfl aQN (bN aQN aP7)) ?_
  refine Zw rfl (q9 (s:=iA) RS rfl aP7 rfl) ?_
  refine Zw rfl (jK Tryz.underlying5 Tryz.underlying102 rfl) ?_
  refine Zw rfl (aAX rfl rfl (by decide)) ?_
  refine Zw rfl (aGd rfl rfl) ?_
  refine Zw rfl (bA rfl) ?_
  refine Zw rfl (bA rfl) ?_
  obtain ⟨b39,hS⟩:=bU hS
  refine Zw rfl (N9 rfl rfl b39) ?_
  obtain ⟨b40,hS⟩:=bU hS
  refine Zw rfl (cR rfl rfl b40) ?_
  obtain ⟨aZg,aQT,aPd,hS⟩:=c6 hS
  refine Zw rfl (e8 (s:=iA) Tryz.underlying30 AD rfl rfl aQT (bN aQT aPd)) ?_
  refine Zw rfl (q9 (s:=iA) RS rfl aPd rfl) ?_
  refine Zw rfl (jK Tryz.underlying5 Tryz.underlying102 rfl) ?_
  refine Zw rfl (aGd rfl rfl) ?_
  obtain ⟨a6Q,a2D,aPg,hS⟩:=c6 hS
  refine Zw rfl (iM (a:=EG) Tryz.underlying105 gC rfl rfl a2D aPg) ?_
  refine VD.one rfl ?_
  refine VL.NK EG .u32 rfl rfl rfl gC aPg ?_
  obtain ⟨aHR,aS4,hS⟩:=qT hS
  rw [aS4]
  refine VL.back (D':=[]) (by kernel_rfl) (aF.nil) ?_
  refine VD.to (fun _ _ h=>h) ?_
  refine VC.keep (ρ':=[(0,iA.val),(2,ptr dQ 0),(3,ptr jQ 0),(8,i64 rP)]) [0,2,3,8] rfl ?_
  refine Zr ?_
  obtain ⟨b46,hS⟩:=bU hS
  refine Zu (cR rfl rfl b46) ?_
  refine Zm ?_
  refine VL.iP ((rP+1),aHR) [0,2,3,8] (fun _ _ h=>h) (go2 hS hK1) rfl
 replace hS:=gA hS hK1
 refine Zx ?_
 refine Zq (Zq (Zr ?_))
 refine Zy ?_
 refine Zb ?_
 refine VC.iter (S:=Int×Ar 64) (fun sg=>(sg.1,sg.2)) (fun sg=>[(2,ptr dQ 0),(3,ptr jQ 0),(5,i64 sg.1)]) (fun sg=>Mo.tt) (fun sg=>Ow.star (bD jQ (iU .u32 sg.2) 105) (Ow.star (bD dQ (iU .u32 (Ar.rep 64 0)) 105) (Ow.emp))) (16,EG) [2,3,5] hS rfl ?_
 clear hS
 rintro ⟨AF,nP⟩ m1 y1 hS hK1
 refine Zq (Zq (Zr ?_))
 refine Zm ?_
 refine Zu (c4 rfl rfl) ?_
 refine Zl ?_
 refine Zc hS (fun h48 hS => ?_) (fun h48 hS => ?_)
 ·
  refine Zk ?_
  refine Zq (Zb (Zq ?_))
  refine VC.draw ((List.range 10).map fun k=>(k,true)) mixed (by kernel_rfl) (by kernel_rfl) (by kernel_rfl) ?_
  refine Zw rfl (bA rfl) ?_
  obtain ⟨b52,hS⟩:=bU hS
  refine Zw rfl (qK rfl rfl b52) ?_
  obtain ⟨TP,aXd,aLk,hS⟩:=c6 hS
  refine Zw rfl (iM (a:=nP) Tryz.underlying105 gC rfl rfl aXd aLk) ?_
  refine Zw rfl (j3 nP .u32 fY rfl rfl aLk) ?_
  refine Zw rfl (bA rfl) ?_
  obtain ⟨b56,hS⟩:=bU hS
  refine Zw rfl (qK rfl rfl b56) ?_
  obtain ⟨TQ,aXf,aLl,hS⟩:=c6 hS
  refine Zw rfl (iM (a:=nP) Tryz.underlying105 gC rfl rfl aXf aLl) ?_
  refine Zw rfl (j3 nP .u32 fY rfl rfl aLl) ?_
  refine Zw rfl (eO rfl) ?_
  refine Zw rfl (eO rfl) ?_
  refine VD.to (fun _ _ h=>h) ?_
  refine VC.keep (ρ':=[(2,ptr dQ 0),(3,ptr jQ 0),(5,i64 AF),(6,.int .u32 TP),(7,.int .u32 TQ)]) [2,3,5,6,7] rfl ?_
  refine VC.draw [(0,true),(1,true),(2,true),(3,true),(4,true),(5,true),(6,true),(7,true),(8,true),(9,true),(10,true),(11,true),(12,true),(13,true),(14,true),(15,true),(16,true),(17,true),(18,true),(19,true),(20,true),(21,true),(22,true),(23,true),(24,true),(25,true),(26,true),(27,true),(28,true),(29,false)] mixed (by kernel_rfl) (by kernel_rfl) (by kernel_rfl) ?_
  refine Zw rfl (bA rfl) ?_
  refine Zw rfl (bA rfl) ?_
  obtain ⟨b61,hS⟩:=bU hS
  refine Zw rfl (qK rfl rfl b61) ?_
  obtain ⟨J6,aBl,U7,hS⟩:=c6 hS
  refine Zw rfl (iM (a:=nP) Tryz.underlying105 gC rfl rfl aBl U7) ?_
  refine Zw rfl (j3 nP .u32 fY rfl rfl U7) ?_
  refine Zw rfl (bA rfl) ?_
  obtain ⟨aRj,aV5,hS⟩:=aK hS
  refine Zw rfl (bZ (jP TP 7 aV5) rfl (fun _ _=>rfl)) ?_
  refine Zw rfl (bA rfl) ?_
  obtain ⟨aC8,aF1,hS⟩:=aK hS
  refine Zw rfl (bZ (jP TP 18 aF1) rfl (fun _ _=>rfl)) ?_
  refine Zw rfl (tP rfl rfl) ?_
  refine Zw rfl (bA rfl) ?_
  refine Zw rfl (yZ rfl rfl (by decide)) ?_
  refine Zw rfl (tP rfl rfl) ?_
  refine Zw rfl (sY rfl rfl rfl) ?_
  refine Zw rfl (bA rfl) ?_
  obtain ⟨b74,hS⟩:=bU hS
  refine Zw rfl (qK rfl rfl b74) ?_
  obtain ⟨aSK,aXg,aLt,hS⟩:=c6 hS
  refine Zw rfl (iM (a:=nP) Tryz.underlying105 gC rfl rfl aXg aLt) ?_
  refine Zw rfl (j3 nP .u32 fY rfl rfl aLt) ?_
  refine Zw rfl (sY rfl rfl rfl) ?_
  refine Zw rfl (bA rfl) ?_
  obtain ⟨aRv,aVn,hS⟩:=aK hS
  refine Zw rfl (bZ (jP TQ 17 aVn) rfl (fun _ _=>rfl)) ?_
  refine Zw rfl (bA rfl) ?_
  obtain ⟨aRx,aVq,hS⟩:=aK hS
  refine Zw rfl (bZ (jP TQ 19 aVq) rfl (fun _ _=>rfl)) ?_
  refine Zw rfl (tP rfl rfl) ?_
  refine Zw rfl (bA rfl) ?_
  refine Zw rfl (yZ rfl rfl (by decide)) ?_
  refine Zw rfl (tP rfl rfl) ?_
  refine Zw rfl (sY rfl rfl rfl) ?_
  obtain ⟨a42,aXl,aLy,hS⟩:=c6 hS
  refine Zw rfl (iM (a:=nP) Tryz.underlying105 gC rfl rfl aXl aLy) ?_
  refine VD.one rfl ?_
  refine VL.NK nP .u32 rfl rfl rfl gC aLy ?_
  obtain ⟨aHP,aS2,hS⟩:=qT hS
  rw [aS2]
  refine VL.back (D':=[]) (by kernel_rfl) (aF.nil) ?_
  refine VD.to (fun _ _ h=>h) ?_
  refine VC.keep (ρ':=[(2,ptr dQ 0),(3,ptr jQ 0),(5,i64 AF)]) [2,3,5] rfl ?_
  refine Zr ?_
  refine Zm ?_
  obtain ⟨b50,hS⟩:=bU hS
  refine Zu (cR rfl rfl b50) ?_
  refine Za ?_
  refine VL.iP ((AF+1),aHP) [2,3,5] (fun _ _ h=>h) (go2 hS hK1) rfl
 replace hS:=gA hS hK1
 refine Zx ?_
 refine Zq (Zr ?_)
 refine Zu (zU nP .u32 aBQ rfl rfl) ?_
 refine VL.tT (Ar.rep 64 0) nP .u32 rfl rfl rfl aBY ?_
 refine Zl ?_
 cases hS
 exact VC.ret (hG (.inr rfl) rfl (dS.cell aBQ rfl (uY _ _) Rd.blk (dS.nil)) () rfl trivial (by (try dsimp only); exact cA.out) (fun _ _=>trivial))
theorem aKQ (G4:Ar 8) (b_1:Sv UInt8) (k_2:Ar 64) {r:Ar 8} (hS:Sh.QF G4 b_1.l k_2=some r) :
 Ct Tryz.prog 34 [.agg (iU .u32 G4).toArray,b_1.val,.agg (iU .u32 k_2).toArray] b_1.ok (Ow.emp) (X:=Unit) (fun _ => .agg (iU .u32 r).toArray) (fun _=>True) (fun _=>Mo.tt) (fun _=>Ow.emp):=by
 refine Zo Tryz.func34 Tryz.ntmps34 fun c => ?_
 unfold Sh.QF at hS
 refine Zq (Zr ?_)
 refine VL.box (cs:=(iU .u32 G4)) rfl rfl (by decide) fun fX => ?_
 refine VL.box (cs:=(iU .u32 k_2)) rfl rfl (by decide) fun xR => ?_
 refine VL.alloc (cs:=(iU .u32 (Ar.rep 8 0))) (by kernel_rfl) (by decide) fun I9 => ?_
 refine Zl ?_
 refine Zq ?_
 refine VC.aFJ (n:=4) (listed := #[true,true,true,false,false,false,false]) [(0,true),(1,true),(2,true)] mixed (by kernel_rfl) (by kernel_rfl) (by kernel_rfl) (by kernel_rfl) ?_
 refine VD.q rfl (bA rfl) (by decide) ?_
 obtain ⟨kS,BE,hS⟩:=aK hS
 refine VD.q rfl (bZ (CZ b_1 BE) rfl (fun _ _=>rfl)) (by decide) ?_
 refine VD.q rfl (zU G4 .u32 u0 rfl rfl) (by decide) ?_
 refine VD.toG fun hcl => ?_
 refine VG.fork (l:=[3,4]) (n:=3) (by kernel_rfl) rfl fun i hi => ?_
 obtain rfl | rfl:i=3∨i=4:=by simpa using hi
 ·
  refine QL.of rfl ?_
  refine VL.alloc (cs:=(iU .u32 (Ar.rep 64 0))) (by kernel_rfl) (by decide) fun aHw => ?_
  refine VL.B0 (D':=[(2,.agg (iU .u32 G4).toArray),(1,.agg (iU .u32 kS).toArray)]) (listed' := #[true,true,true,true,false,false,false]) (aF.cons rfl (zU G4 .u32 u0 rfl rfl) (aF.cons rfl (bZ (CZ b_1 BE) rfl (fun _ _=>rfl)) (aF.nil))) (by kernel_rfl) (by kernel_rfl) ?_
  refine VG.ord [(4,false),(5,false),(6,false)] (by kernel_rfl) (qZ (by kernel_rfl)) (by kernel_rfl) ?_
  refine VD.one rfl ?_
  refine VL.alloc (cs:=(iU .u32 (Ar.rep 8 0))) (by kernel_rfl) (by decide) fun aDu => ?_
  refine VL.back (D':=[(2,.agg (iU .u32 G4).toArray),(1,.agg (iU .u32 kS).toArray)]) (by kernel_rfl) (aF.cons rfl (zU G4 .u32 u0 rfl rfl) (aF.cons rfl (bZ (CZ b_1 BE) rfl (fun _ _=>rfl)) (aF.nil))) ?_
  refine VD.one rfl ?_
  refine VL.tT (Ar.rep 64 0) kS .u32 rfl rfl rfl aBY ?_
  refine VL.back (D':=[(2,.agg (iU .u32 G4).toArray)]) (by kernel_rfl) (aF.cons rfl (zU G4 .u32 u0 rfl rfl) (aF.nil)) ?_
  refine VD.one rfl ?_
  refine VL.tT (Ar.rep 8 0) G4 .u32 rfl rfl rfl JR ?_
  refine VL.back (D':=[]) (by kernel_rfl) (aF.nil) ?_
  refine VD.to (fun _ _ h=>h) ?_
  refine Zq (Zq (Zr ?_))
  refine Zy ?_
  refine Zb ?_
  refine VC.iter (S:=Int×Ar 8) (fun sg=>(sg.1,sg.2)) (fun sg=>[(3,ptr fX 0),(5,ptr xR 0),(6,ptr I9 0),(7,ptr aHw 0),(8,ptr aDu 0),(18,i64 sg.1)]) (fun sg=>Mo.tt) (fun sg=>Ow.star (bD aDu (iU .u32 sg.2) 103) (Ow.star (bD aHw (iU .u32 kS) 105) (Ow.star (bD I9 (iU .u32 (Ar.rep 8 0)) 103) (Ow.star (bD xR (iU .u32 k_2) 105) (Ow.star (bD fX (iU .u32 G4) 103) (Ow.emp)))))) (0,G4) [3,5,6,7,8,18] hS rfl ?_
  clear hS
  rintro ⟨DV,dM⟩ m1 y1 hS hK1
  refine Zq (Zr ?_)
  refine Zu (c4 rfl rfl) ?_
  refine Zl ?_
  refine Zq ?_
  refine Zc hS (fun h19 hS => ?_) (fun h19 hS => ?_)
  ·
   refine Zk ?_
   refine Zq (Zb (Zq (Zr ?_)))
   refine Zy ?_
   refine Zq ?_
   refine VC.draw ((List.range 6).map fun k=>(k,true)) mixed (by kernel_rfl) (by kernel_rfl) (by kernel_rfl) ?_
   obtain ⟨lP,aKA,aB4,hS⟩:=c6 hS
   refine Zw rfl (iM (a:=dM) Tryz.underlying103 gC rfl rfl aKA aB4) ?_
   refine Zw rfl (j3 dM .u32 fY rfl rfl aB4) ?_
   obtain ⟨nK,aGA,U1,hS⟩:=c6 hS
   refine Zw rfl (iM (a:=dM) Tryz.underlying103 gC rfl rfl aGA U1) ?_
   refine Zw rfl (j3 dM .u32 fY rfl rfl U1) ?_
   refine Zw rfl (eO rfl) ?_
   refine Zw rfl (eO rfl) ?_
   refine VD.to (fun _ _ h=>h) ?_
   refine Zq ?_
   refine VC.draw ((List.range 31).map fun k=>(k,true)) mixed (by kernel_rfl) (by kernel_rfl) (by kernel_rfl) ?_
   obtain ⟨wH,aGB,U2,hS⟩:=c6 hS
   refine Zw rfl (iM (a:=dM) Tryz.underlying103 gC rfl rfl aGB U2) ?_
   refine Zw rfl (j3 dM .u32 fY rfl rfl U2) ?_
   refine Zw rfl (bA rfl) ?_
   obtain ⟨uH,aFN,hS⟩:=aK hS
   refine Zw rfl (bZ (jP lP 6 aFN) rfl (fun _ _=>rfl)) ?_
   refine Zw rfl (bA rfl) ?_
   obtain ⟨wF,aFO,hS⟩:=aK hS
   refine Zw rfl (bZ (jP lP 11 aFO) rfl (fun _ _=>rfl)) ?_
   refine Zw rfl (tP rfl rfl) ?_
   refine Zw rfl (bA rfl) ?_
   obtain ⟨wG,aFQ,hS⟩:=aK hS
   refine Zw rfl (bZ (jP lP 25 aFQ) rfl (fun _ _=>rfl)) ?_
   refine Zw rfl (tP rfl rfl) ?_
   refine Zw rfl (sY rfl rfl rfl) ?_
   refine Zw rfl (bA rfl) ?_
   obtain ⟨wI,aGC,U3,hS⟩:=c6 hS
   refine Zw rfl (iM (a:=dM) Tryz.underlying103 gC rfl rfl aGC U3) ?_
   refine Zw rfl (j3 dM .u32 fY rfl rfl U3) ?_
   refine Zw rfl (B4 rfl rfl) ?_
   refine Zw rfl (bA rfl) ?_
   refine Zw rfl (aKI rfl) ?_
   obtain ⟨wJ,aGD,U5,hS⟩:=c6 hS
   refine Zw rfl (iM (a:=dM) Tryz.underlying103 gC rfl rfl aGD U5) ?_
   refine Zw rfl (j3 dM .u32 fY rfl rfl U5) ?_
   refine Zw rfl (B4 rfl rfl) ?_
   refine Zw rfl (tP rfl rfl) ?_
   refine Zw rfl (sY rfl rfl rfl) ?_
   refine Zw rfl (bA rfl) ?_
   obtain ⟨uI,PJ,H8,hS⟩:=c6 hS
   refine Zw rfl (iM (a:=k_2) Tryz.underlying105 gC rfl rfl PJ H8) ?_
   refine Zw rfl (j3 k_2 .u32 fY rfl rfl H8) ?_
   refine Zw rfl (sY rfl rfl rfl) ?_
   refine Zw rfl (bA rfl) ?_
   obtain ⟨wK,aGE,U6,hS⟩:=c6 hS
   refine Zw rfl (iM (a:=kS) Tryz.underlying105 gC rfl rfl aGE U6) ?_
   refine Zw rfl (j3 kS .u32 fY rfl rfl U6) ?_
   refine Zw rfl (sY rfl rfl rfl) ?_
   refine Zw rfl (eO rfl) ?_
   refine VD.to (fun _ _ h=>h) ?_
   refine VC.keep (ρ':=[(3,ptr fX 0),(5,ptr xR 0),(6,ptr I9 0),(7,ptr aHw 0),(8,ptr aDu 0),(18,i64 DV),(11,.int .u32 nK),(12,.int .u32 (IntKind.wrap .u32 ((IntKind.wrap .u32 ((IntKind.wrap .u32 ((IntKind.wrap .u32 (wH+(fF .u32 (fF .u32 uH wF) wG)))+(fF .u32 (gE .u32 lP wI) (gE .u32 (GN .u32 lP) wJ))))+uI))+wK)))]) [3,5,6,7,8,18,11,12] rfl ?_
   refine Zq ?_
   refine VC.draw ((List.range 25).map fun k=>(k,true)) mixed (by kernel_rfl) (by kernel_rfl) (by kernel_rfl) ?_
   refine Zw rfl (bA rfl) ?_
   obtain ⟨J4,aFX,hS⟩:=aK hS
   refine Zw rfl (bZ (jP nK 2 aFX) rfl (fun _ _=>rfl)) ?_
   refine Zw rfl (bA rfl) ?_
   obtain ⟨J5,aFY,hS⟩:=aK hS
   refine Zw rfl (bZ (jP nK 13 aFY) rfl (fun _ _=>rfl)) ?_
   refine Zw rfl (tP rfl rfl) ?_
   refine Zw rfl (bA rfl) ?_
   obtain ⟨DB,US,hS⟩:=aK hS
   refine Zw rfl (bZ (jP nK 22 US) rfl (fun _ _=>rfl)) ?_
   refine Zw rfl (tP rfl rfl) ?_
   refine Zw rfl (bA rfl) ?_
   obtain ⟨J7,aGF,U8,hS⟩:=c6 hS
   refine Zw rfl (iM (a:=dM) Tryz.underlying103 gC rfl rfl aGF U8) ?_
   refine Zw rfl (j3 dM .u32 fY rfl rfl U8) ?_
   refine Zw rfl (B4 rfl rfl) ?_
   refine Zw rfl (bA rfl) ?_
   obtain ⟨J8,aGG,U9,hS⟩:=c6 hS
   refine Zw rfl (iM (a:=dM) Tryz.underlying103 gC rfl rfl aGG U9) ?_
   refine Zw rfl (j3 dM .u32 fY rfl rfl U9) ?_
   refine Zw rfl (B4 rfl rfl) ?_
   refine Zw rfl (tP rfl rfl) ?_
   obtain ⟨J9,aGH,VA,hS⟩:=c6 hS
   refine Zw rfl (iM (a:=dM) Tryz.underlying103 gC rfl rfl aGH VA) ?_
   refine Zw rfl (j3 dM .u32 fY rfl rfl VA) ?_
   obtain ⟨KA,aGI,VB,hS⟩:=c6 hS
   refine Zw rfl (iM (a:=dM) Tryz.underlying103 gC rfl rfl aGI VB) ?_
   refine Zw rfl (j3 dM .u32 fY rfl rfl VB) ?_
   refine Zw rfl (B4 rfl rfl) ?_
   refine Zw rfl (tP rfl rfl) ?_
   refine Zw rfl (sY rfl rfl rfl) ?_
   refine Zw rfl (eO rfl) ?_
   refine VD.to (fun _ _ h=>h) ?_
   refine VC.keep (ρ':=[(3,ptr fX 0),(5,ptr xR 0),(6,ptr I9 0),(7,ptr aHw 0),(8,ptr aDu 0),(18,i64 DV),(12,.int .u32 (IntKind.wrap .u32 ((IntKind.wrap .u32 ((IntKind.wrap .u32 ((IntKind.wrap .u32 (wH+(fF .u32 (fF .u32 uH wF) wG)))+(fF .u32 (gE .u32 lP wI) (gE .u32 (GN .u32 lP) wJ))))+uI))+wK))),(13,.int .u32 (IntKind.wrap .u32 ((fF .u32 (fF .u32 J4 J5) DB)+(fF .u32 (fF .u32 (gE .u32 nK J7) (gE .u32 nK J8)) (gE .u32 J9 KA)))))]) [3,5,6,7,8,18,12,13] rfl ?_
   refine Zr ?_
   refine Zy ?_
   refine Zu (sY rfl rfl rfl) ?_
   obtain ⟨TR,aGJ,VE,hS⟩:=c6 hS
   refine Zu (iM (a:=dM) Tryz.underlying103 gC rfl rfl aGJ VE) ?_
   refine Zu (j3 dM .u32 fY rfl rfl VE) ?_
   obtain ⟨TS,aGK,VF,hS⟩:=c6 hS
   refine Zu (iM (a:=dM) Tryz.underlying103 gC rfl rfl aGK VF) ?_
   refine Zu (j3 dM .u32 fY rfl rfl VF) ?_
   obtain ⟨TT,aGL,VH,hS⟩:=c6 hS
   refine Zu (iM (a:=dM) Tryz.underlying103 gC rfl rfl aGL VH) ?_
   refine Zu (j3 dM .u32 fY rfl rfl VH) ?_
   obtain ⟨TU,aGM,VI,hS⟩:=c6 hS
   refine Zu (iM (a:=dM) Tryz.underlying103 gC rfl rfl aGM VI) ?_
   refine Zu (j3 dM .u32 fY rfl rfl VI) ?_
   refine Zm ?_
   refine Zu (sY rfl rfl rfl) ?_
   obtain ⟨TV,aGN,VJ,hS⟩:=c6 hS
   refine Zu (iM (a:=dM) Tryz.underlying103 gC rfl rfl aGN VJ) ?_
   refine Zu (j3 dM .u32 fY rfl rfl VJ) ?_
   obtain ⟨TW,aGO,VK,hS⟩:=c6 hS
   refine Zu (iM (a:=dM) Tryz.underlying103 gC rfl rfl aGO VK) ?_
   refine Zu (j3 dM .u32 fY rfl rfl VK) ?_
   obtain ⟨TX,aGP,VM,hS⟩:=c6 hS
   refine Zu (iM (a:=dM) Tryz.underlying103 gC rfl rfl aGP VM) ?_
   refine Zu (j3 dM .u32 fY rfl rfl VM) ?_
   obtain ⟨TG,aF3,hS⟩:=qT hS
   refine Zu (YM (vs:=[(0,.int .u32 (IntKind.wrap .u32 ((IntKind.wrap .u32 ((IntKind.wrap .u32 ((IntKind.wrap .u32 ((IntKind.wrap .u32 (wH+(fF .u32 (fF .u32 uH wF) wG)))+(fF .u32 (gE .u32 lP wI) (gE .u32 (GN .u32 lP) wJ))))+uI))+wK))+(IntKind.wrap .u32 ((fF .u32 (fF .u32 J4 J5) DB)+(fF .u32 (fF .u32 (gE .u32 nK J7) (gE .u32 nK J8)) (gE .u32 J9 KA))))))),(1,.int .u32 TR),(2,.int .u32 TS),(3,.int .u32 TT),(4,.int .u32 (IntKind.wrap .u32 (TU+(IntKind.wrap .u32 ((IntKind.wrap .u32 ((IntKind.wrap .u32 ((IntKind.wrap .u32 (wH+(fF .u32 (fF .u32 uH wF) wG)))+(fF .u32 (gE .u32 lP wI) (gE .u32 (GN .u32 lP) wJ))))+uI))+wK))))),(5,.int .u32 TV),(6,.int .u32 TW),(7,.int .u32 TX)]) (k := .u32) (a:=(⟨[(IntKind.wrap .u32 ((IntKind.wrap .u32 ((IntKind.wrap .u32 ((IntKind.wrap .u32 ((IntKind.wrap .u32 (wH+(fF .u32 (fF .u32 uH wF) wG)))+(fF .u32 (gE .u32 lP wI) (gE .u32 (GN .u32 lP) wJ))))+uI))+wK))+(IntKind.wrap .u32 ((fF .u32 (fF .u32 J4 J5) DB)+(fF .u32 (fF .u32 (gE .u32 nK J7) (gE .u32 nK J8)) (gE .u32 J9 KA)))))),TR,TS,TT,(IntKind.wrap .u32 (TU+(IntKind.wrap .u32 ((IntKind.wrap .u32 ((IntKind.wrap .u32 ((IntKind.wrap .u32 (wH+(fF .u32 (fF .u32 uH wF) wG)))+(fF .u32 (gE .u32 lP wI) (gE .u32 (GN .u32 lP) wJ))))+uI))+wK)))),TV,TW,TX],rfl⟩:Ar 8)) aF3 rfl (by kernel_rfl)) ?_
   refine VL.tT dM TG .u32 rfl rfl rfl JR ?_
   refine Zl ?_
   refine VC.keep (ρ':=[(3,ptr fX 0),(5,ptr xR 0),(6,ptr I9 0),(7,ptr aHw 0),(8,ptr aDu 0),(18,i64 DV)]) [3,5,6,7,8,18] rfl ?_
   refine Zr ?_
   obtain ⟨b99,hS⟩:=bU hS
   refine Zu (cR rfl rfl b99) ?_
   refine Zm ?_
   refine VL.iP ((DV+1),TG) [3,5,6,7,8,18] (fun _ _ h=>h) (go2 hS hK1) rfl
  replace hS:=gA hS hK1
  refine Zx ?_
  refine Zq (Zq (Zr ?_))
  refine Zy ?_
  refine Zb ?_
  refine VC.iter (S:=Int×Ar 8) (fun sg=>(sg.1,sg.2)) (fun sg=>[(3,ptr fX 0),(6,ptr I9 0),(8,ptr aDu 0),(100,i64 sg.1)]) (fun sg=>Mo.tt) (fun sg=>Ow.star (bD aDu (iU .u32 dM) 103) (Ow.star (bD aHw (iU .u32 kS) 105) (Ow.star (bD I9 (iU .u32 (Ar.rep 8 0)) 103) (Ow.star (bD xR (iU .u32 k_2) 105) (Ow.star (bD fX (iU .u32 sg.2) 103) (Ow.emp)))))) (0,G4) [3,6,8,100] hS rfl ?_
  clear hS
  rintro ⟨xK,wO⟩ m1 y1 hS hK1
  refine Zq (Zr ?_)
  refine Zu (c4 rfl rfl) ?_
  refine Zl ?_
  refine Zq ?_
  refine Zc hS (fun h101 hS => ?_) (fun h101 hS => ?_)
  ·
   refine Zk ?_
   refine Zq (Zb (Zq (Zr ?_)))
   refine Zy ?_
   refine VC.draw [(0,true),(1,true),(2,true),(3,true),(4,true),(5,true),(6,true),(7,true),(8,false)] mixed (by kernel_rfl) (by kernel_rfl) (by kernel_rfl) ?_
   refine Zw rfl (bA rfl) ?_
   obtain ⟨aHS,aDE,PB,hS⟩:=c6 hS
   refine Zw rfl (iM (a:=wO) Tryz.underlying103 gC rfl rfl aDE PB) ?_
   refine Zw rfl (j3 wO .u32 fY rfl rfl PB) ?_
   refine Zw rfl (bA rfl) ?_
   obtain ⟨aHT,aDF,PC,hS⟩:=c6 hS
   refine Zw rfl (iM (a:=dM) Tryz.underlying103 gC rfl rfl aDF PC) ?_
   refine Zw rfl (j3 dM .u32 fY rfl rfl PC) ?_
   refine Zw rfl (sY rfl rfl rfl) ?_
   obtain ⟨aNO,aDG,PD,hS⟩:=c6 hS
   refine Zw rfl (iM (a:=wO) Tryz.underlying103 gC rfl rfl aDG PD) ?_
   refine VD.one rfl ?_
   refine VL.NK wO .u32 rfl rfl rfl gC PD ?_
   obtain ⟨aCc,aF4,hS⟩:=qT hS
   rw [aF4]
   refine VL.back (D':=[]) (by kernel_rfl) (aF.nil) ?_
   refine VD.to (fun _ _ h=>h) ?_
   refine VC.keep (ρ':=[(3,ptr fX 0),(6,ptr I9 0),(8,ptr aDu 0),(100,i64 xK)]) [3,6,8,100] rfl ?_
   refine Zr ?_
   obtain ⟨b111,hS⟩:=bU hS
   refine Zu (cR rfl rfl b111) ?_
   refine Zm ?_
   refine VL.iP ((xK+1),aCc) [3,6,8,100] (fun _ _ h=>h) (go2 hS hK1) rfl
  replace hS:=gA hS hK1
  refine Zx ?_
  refine Zq (Zr ?_)
  refine Zu (zU wO .u32 u0 rfl rfl) ?_
  refine VL.tT (Ar.rep 8 0) wO .u32 rfl rfl rfl JR ?_
  refine Zl ?_
  cases hS
  exact VC.ret (hG (.inr rfl) rfl (dS.cell u0 rfl (uY _ _) Rd.blk (dS.nil)) () rfl trivial (by (try dsimp only); exact cA.out) (fun _ _=>trivial))
 refine QL.of rfl ?_
 refine VL.alloc (cs:=(iU .u32 (Ar.rep 8 0))) (by kernel_rfl) (by decide) fun aDt => ?_
 refine VL.B0 (D':=[(2,.agg (iU .u32 G4).toArray),(1,.agg (iU .u32 kS).toArray)]) (listed' := #[true,true,true,false,true,false,false]) (aF.cons rfl (zU G4 .u32 u0 rfl rfl) (aF.cons rfl (bZ (CZ b_1 BE) rfl (fun _ _=>rfl)) (aF.nil))) (by kernel_rfl) (by kernel_rfl) ?_
 refine VG.ord [(3,false),(5,false),(6,false)] (by kernel_rfl) (qZ (by kernel_rfl)) (by kernel_rfl) ?_
 refine VD.one rfl ?_
 refine VL.alloc (cs:=(iU .u32 (Ar.rep 64 0))) (by kernel_rfl) (by decide) fun D5 => ?_
 refine VL.back (D':=[(2,.agg (iU .u32 G4).toArray),(1,.agg (iU .u32 kS).toArray)]) (by kernel_rfl) (aF.cons rfl (zU G4 .u32 u0 rfl rfl) (aF.cons rfl (bZ (CZ b_1 BE) rfl (fun _ _=>rfl)) (aF.nil))) ?_
 refine VD.one rfl ?_
 refine VL.tT (Ar.rep 64 0) kS .u32 rfl rfl rfl aBY ?_
 refine VL.back (D':=[(2,.agg (iU .u32 G4).toArray)]) (by kernel_rfl) (aF.cons rfl (zU G4 .u32 u0 rfl rfl) (aF.nil)) ?_
 refine VD.one rfl ?_
 refine VL.tT (Ar.rep 8 0) G4 .u32 rfl rfl rfl JR ?_
 refine VL.back (D':=[]) (by kernel_rfl) (aF.nil) ?_
 refine VD.to (fun _ _ h=>h) ?_
 refine Zq (Zq (Zr ?_))
 refine Zy ?_
 refine Zb ?_
 refine VC.iter (S:=Int×Ar 8) (fun sg=>(sg.1,sg.2)) (fun sg=>[(3,ptr fX 0),(5,ptr xR 0),(6,ptr I9 0),(7,ptr D5 0),(8,ptr aDt 0),(18,i64 sg.1)]) (fun sg=>Mo.tt) (fun sg=>Ow.star (bD aDt (iU .u32 sg.2) 103) (Ow.star (bD D5 (iU .u32 kS) 105) (Ow.star (bD I9 (iU .u32 (Ar.rep 8 0)) 103) (Ow.star (bD xR (iU .u32 k_2) 105) (Ow.star (bD fX (iU .u32 G4) 103) (Ow.emp)))))) (0,G4) [3,5,6,7,8,18] hS rfl ?_
 clear hS
 rintro ⟨DV,dM⟩ m1 y1 hS hK1
 refine Zq (Zr ?_)
 refine Zu (c4 rfl rfl) ?_
 refine Zl ?_
 refine Zq ?_
 refine Zc hS (fun h19 hS => ?_) (fun h19 hS => ?_)
 ·
  refine Zk ?_
  refine Zq (Zb (Zq (Zr ?_)))
  refine Zy ?_
  refine Zq ?_
  refine VC.draw ((List.range 6).map fun k=>(k,true)) mixed (by kernel_rfl) (by kernel_rfl) (by kernel_rfl) ?_
  obtain ⟨lP,aKA,aB4,hS⟩:=c6 hS
  refine Zw rfl (iM (a:=dM) Tryz.underlying103 gC rfl rfl aKA aB4) ?_
  refine Zw rfl (j3 dM .u32 fY rfl rfl aB4) ?_
  obtain ⟨nK,aGA,U1,hS⟩:=c6 hS
  refine Zw rfl (iM (a:=dM) Tryz.underlying103 gC rfl rfl aGA U1) ?_
  refine Zw rfl (j3 dM .u32 fY rfl rfl U1) ?_
  refine Zw rfl (eO rfl) ?_
  refine Zw rfl (eO rfl) ?_
  refine VD.to (fun _ _ h=>h) ?_
  refine Zq ?_
  refine VC.draw ((List.range 31).map fun k=>(k,true)) mixed (by kernel_rfl) (by kernel_rfl) (by kernel_rfl) ?_
  obtain ⟨wH,aGB,U2,hS⟩:=c6 hS
  refine Zw rfl (iM (a:=dM) Tryz.underlying103 gC rfl rfl aGB U2) ?_
  refine Zw rfl (j3 dM .u32 fY rfl rfl U2) ?_
  refine Zw rfl (bA rfl) ?_
  obtain ⟨uH,aFN,hS⟩:=aK hS
  refine Zw rfl (bZ (jP lP 6 aFN) rfl (fun _ _=>rfl)) ?_
  refine Zw rfl (bA rfl) ?_
  obtain ⟨wF,aFO,hS⟩:=aK hS
  refine Zw rfl (bZ (jP lP 11 aFO) rfl (fun _ _=>rfl)) ?_
  refine Zw rfl (tP rfl rfl) ?_
  refine Zw rfl (bA rfl) ?_
  obtain ⟨wG,aFQ,hS⟩:=aK hS
  refine Zw rfl (bZ (jP lP 25 aFQ) rfl (fun _ _=>rfl)) ?_
  refine Zw rfl (tP rfl rfl) ?_
  refine Zw rfl (sY rfl rfl rfl) ?_
  refine Zw rfl (bA rfl) ?_
  obtain ⟨wI,aGC,U3,hS⟩:=c6 hS
  refine Zw rfl (iM (a:=dM) Tryz.underlying103 gC rfl rfl aGC U3) ?_
  refine Zw rfl (j3 dM .u32 fY rfl rfl U3) ?_
  refine Zw rfl (B4 rfl rfl) ?_
  refine Zw rfl (bA rfl) ?_
  refine Zw rfl (aKI rfl) ?_
  obtain ⟨wJ,aGD,U5,hS⟩:=c6 hS
  refine Zw rfl (iM (a:=dM) Tryz.underlying103 gC rfl rfl aGD U5) ?_
  refine Zw rfl (j3 dM .u32 fY rfl rfl U5) ?_
  refine Zw rfl (B4 rfl rfl) ?_
  refine Zw rfl (tP rfl rfl) ?_
  refine Zw rfl (sY rfl rfl rfl) ?_
  refine Zw rfl (bA rfl) ?_
  obtain ⟨uI,PJ,H8,hS⟩:=c6 hS
  refine Zw rfl (iM (a:=k_2) Tryz.underlying105 gC rfl rfl PJ H8) ?_
  refine Zw rfl (j3 k_2 .u32 fY rfl rfl H8) ?_
  refine Zw rfl (sY rfl rfl rfl) ?_
  refine Zw rfl (bA rfl) ?_
  obtain ⟨wK,aGE,U6,hS⟩:=c6 hS
  refine Zw rfl (iM (a:=kS) Tryz.underlying105 gC rfl rfl aGE U6) ?_
  refine Zw rfl (j3 kS .u32 fY rfl rfl U6) ?_
  refine Zw rfl (sY rfl rfl rfl) ?_
  refine Zw rfl (eO rfl) ?_
  refine VD.to (fun _ _ h=>h) ?_
  refine VC.keep (ρ':=[(3,ptr fX 0),(5,ptr xR 0),(6,ptr I9 0),(7,ptr D5 0),(8,ptr aDt 0),(18,i64 DV),(11,.int .u32 nK),(12,.int .u32 (IntKind.wrap .u32 ((IntKind.wrap .u32 ((IntKind.wrap .u32 ((IntKind.wrap .u32 (wH+(fF .u32 (fF .u32 uH wF) wG)))+(fF .u32 (gE .u32 lP wI) (gE .u32 (GN .u32 lP) wJ))))+uI))+wK)))]) [3,5,6,7,8,18,11,12] rfl ?_
  refine Zq ?_
  refine VC.draw ((List.range 25).map fun k=>(k,true)) mixed (by kernel_rfl) (by kernel_rfl) (by kernel_rfl) ?_
  refine Zw rfl (bA rfl) ?_
  obtain ⟨J4,aFX,hS⟩:=aK hS
  refine Zw rfl (bZ (jP nK 2 aFX) rfl (fun _ _=>rfl)) ?_
  refine Zw rfl (bA rfl) ?_
  obtain ⟨J5,aFY,hS⟩:=aK hS
  refine Zw rfl (bZ (jP nK 13 aFY) rfl (fun _ _=>rfl)) ?_
  refine Zw rfl (tP rfl rfl) ?_
  refine Zw rfl (bA rfl) ?_
  obtain ⟨DB,US,hS⟩:=aK hS
  refine Zw rfl (bZ (jP nK 22 US) rfl (fun _ _=>rfl)) ?_
  refine Zw rfl (tP rfl rfl) ?_
  refine Zw rfl (bA rfl) ?_
  obtain ⟨J7,aGF,U8,hS⟩:=c6 hS
  refine Zw rfl (iM (a:=dM) Tryz.underlying103 gC rfl rfl aGF U8) ?_
  refine Zw rfl (j3 dM .u32 fY rfl rfl U8) ?_
  refine Zw rfl (B4 rfl rfl) ?_
  refine Zw rfl (bA rfl) ?_
  obtain ⟨J8,aGG,U9,hS⟩:=c6 hS
  refine Zw rfl (iM (a:=dM) Tryz.underlying103 gC rfl rfl aGG U9) ?_
  refine Zw rfl (j3 dM .u32 fY rfl rfl U9) ?_
  refine Zw rfl (B4 rfl rfl) ?_
  refine Zw rfl (tP rfl rfl) ?_
  obtain ⟨J9,aGH,VA,hS⟩:=c6 hS
  refine Zw rfl (iM (a:=dM) Tryz.underlying103 gC rfl rfl aGH VA) ?_
  refine Zw rfl (j3 dM .u32 fY rfl rfl VA) ?_
  obtain ⟨KA,aGI,VB,hS⟩:=c6 hS
  refine Zw rfl (iM (a:=dM) Tryz.underlying103 gC rfl rfl aGI VB) ?_
  refine Zw rfl (j3 dM .u32 fY rfl rfl VB) ?_
  refine Zw rfl (B4 rfl rfl) ?_
  refine Zw rfl (tP rfl rfl) ?_
  refine Zw rfl (sY rfl rfl rfl) ?_
  refine Zw rfl (eO rfl) ?_
  refine VD.to (fun _ _ h=>h) ?_
  refine VC.keep (ρ':=[(3,ptr fX 0),(5,ptr xR 0),(6,ptr I9 0),(7,ptr D5 0),(8,ptr aDt 0),(18,i64 DV),(12,.int .u32 (IntKind.wrap .u32 ((IntKind.wrap .u32 ((IntKind.wrap .u32 ((IntKind.wrap .u32 (wH+(fF .u32 (fF .u32 uH wF) wG)))+(fF .u32 (gE .u32 lP wI) (gE .u32 (GN .u32 lP) wJ))))+uI))+wK))),(13,.int .u32 (IntKind.wrap .u32 ((fF .u32 (fF .u32 J4 J5) DB)+(fF .u32 (fF .u32 (gE .u32 nK J7) (gE .u32 nK J8)) (gE .u32 J9 KA)))))]) [3,5,6,7,8,18,12,13] rfl ?_
  refine Zr ?_
  refine Zy ?_
  refine Zu (sY rfl rfl rfl) ?_
  obtain ⟨TR,aGJ,VE,hS⟩:=c6 hS
  refine Zu (iM (a:=dM) Tryz.underlying103 gC rfl rfl aGJ VE) ?_
  refine Zu (j3 dM .u32 fY rfl rfl VE) ?_
  obtain ⟨TS,aGK,VF,hS⟩:=c6 hS
  refine Zu (iM (a:=dM) Tryz.underlying103 gC rfl rfl aGK VF) ?_
  refine Zu (j3 dM .u32 fY rfl rfl VF) ?_
  obtain ⟨TT,aGL,VH,hS⟩:=c6 hS
  refine Zu (iM (a:=dM) Tryz.underlying103 gC rfl rfl aGL VH) ?_
  refine Zu (j3 dM .u32 fY rfl rfl VH) ?_
  obtain ⟨TU,aGM,VI,hS⟩:=c6 hS
  refine Zu (iM (a:=dM) Tryz.underlying103 gC rfl rfl aGM VI) ?_
  refine Zu (j3 dM .u32 fY rfl rfl VI) ?_
  refine Zm ?_
  refine Zu (sY rfl rfl rfl) ?_
  obtain ⟨TV,aGN,VJ,hS⟩:=c6 hS
  refine Zu (iM (a:=dM) Tryz.underlying103 gC rfl rfl aGN VJ) ?_
  refine Zu (j3 dM .u32 fY rfl rfl VJ) ?_
  obtain ⟨TW,aGO,VK,hS⟩:=c6 hS
  refine Zu (iM (a:=dM) Tryz.underlying103 gC rfl rfl aGO VK) ?_
  refine Zu (j3 dM .u32 fY rfl rfl VK) ?_
  obtain ⟨TX,aGP,VM,hS⟩:=c6 hS
  refine Zu (iM (a:=dM) Tryz.underlying103 gC rfl rfl aGP VM) ?_
  refine Zu (j3 dM .u32 fY rfl rfl VM) ?_
  obtain ⟨TG,aF3,hS⟩:=qT hS
  refine Zu (YM (vs:=[(0,.int .u32 (IntKind.wrap .u32 ((IntKind.wrap .u32 ((IntKind.wrap .u32 ((IntKind.wrap .u32 ((IntKind.wrap .u32 (wH+(fF .u32 (fF .u32 uH wF) wG)))+(fF .u32 (gE .u32 lP wI) (gE .u32 (GN .u32 lP) wJ))))+uI))+wK))+(IntKind.wrap .u32 ((fF .u32 (fF .u32 J4 J5) DB)+(fF .u32 (fF .u32 (gE .u32 nK J7) (gE .u32 nK J8)) (gE .u32 J9 KA))))))),(1,.int .u32 TR),(2,.int .u32 TS),(3,.int .u32 TT),(4,.int .u32 (IntKind.wrap .u32 (TU+(IntKind.wrap .u32 ((IntKind.wrap .u32 ((IntKind.wrap .u32 ((IntKind.wrap .u32 (wH+(fF .u32 (fF .u32 uH wF) wG)))+(fF .u32 (gE .u32 lP wI) (gE .u32 (GN .u32 lP) wJ))))+uI))+wK))))),(5,.int .u32 TV),(6,.int .u32 TW),(7,.int .u32 TX)]) (k := .u32) (a:=(⟨[(IntKind.wrap .u32 ((IntKind.wrap .u32 ((IntKind.wrap .u32 ((IntKind.wrap .u32 ((IntKind.wrap .u32 (wH+(fF .u32 (fF .u32 uH wF) wG)))+(fF .u32 (gE .u32 lP wI) (gE .u32 (GN .u32 lP) wJ))))+uI))+wK))+(IntKind.wrap .u32 ((fF .u32 (fF .u32 J4 J5) DB)+(fF .u32 (fF .u32 (gE .u32 nK J7) (gE .u32 nK J8)) (gE .u32 J9 KA)))))),TR,TS,TT,(IntKind.wrap .u32 (TU+(IntKind.wrap .u32 ((IntKind.wrap .u32 ((IntKind.wrap .u32 ((IntKind.wrap .u32 (wH+(fF .u32 (fF .u32 uH wF) wG)))+(fF .u32 (gE .u32 lP wI) (gE .u32 (GN .u32 lP) wJ))))+uI))+wK)))),TV,TW,TX],rfl⟩:Ar 8)) aF3 rfl (by kernel_rfl)) ?_
  refine VL.tT dM TG .u32 rfl rfl rfl JR ?_
  refine Zl ?_
  refine VC.keep (ρ':=[(3,ptr fX 0),(5,ptr xR 0),(6,ptr I9 0),(7,ptr D5 0),(8,ptr aDt 0),(18,i64 DV)]) [3,5,6,7,8,18] rfl ?_
  refine Zr ?_
  obtain ⟨b99,hS⟩:=bU hS
  refine Zu (cR rfl rfl b99) ?_
  refine Zm ?_
  refine VL.iP ((DV+1),TG) [3,5,6,7,8,18] (fun _ _ h=>h) (go2 hS hK1) rfl
 replace hS:=gA hS hK1
 refine Zx ?_
 refine Zq (Zq (Zr ?_))
 refine Zy ?_
 refine Zb ?_
 refine VC.iter (S:=Int×Ar 8) (fun sg=>(sg.1,sg.2)) (fun sg=>[(3,ptr fX 0),(6,ptr I9 0),(8,ptr aDt 0),(100,i64 sg.1)]) (fun sg=>Mo.tt) (fun sg=>Ow.star (bD aDt (iU .u32 dM) 103) (Ow.star (bD D5 (iU .u32 kS) 105) (Ow.star (bD I9 (iU .u32 (Ar.rep 8 0)) 103) (Ow.star (bD xR (iU .u32 k_2) 105) (Ow.star (bD fX (iU .u32 sg.2) 103) (Ow.emp)))))) (0,G4) [3,6,8,100] hS rfl ?_
 clear hS
 rintro ⟨xK,wO⟩ m1 y1 hS hK1
 refine Zq (Zr ?_)
 refine Zu (c4 rfl rfl) ?_
 refine Zl ?_
 refine Zq ?_
 refine Zc hS (fun h101 hS => ?_) (fun h101 hS => ?_)
 ·
  refine Zk ?_
  refine Zq (Zb (Zq (Zr ?_)))
  refine Zy ?_
  refine VC.draw [(0,true),(1,true),(2,true),(3,true),(4,true),(5,true),(6,true),(7,true),(8,false)] mixed (by kernel_rfl) (by kernel_rfl) (by kernel_rfl) ?_
  refine Zw rfl (bA rfl) ?_
  obtain ⟨aHS,aDE,PB,hS⟩:=c6 hS
  refine Zw rfl (iM (a:=wO) Tryz.underlying103 gC rfl rfl aDE PB) ?_
  refine Zw rfl (j3 wO .u32 fY rfl rfl PB) ?_
  refine Zw rfl (bA rfl) ?_
  obtain ⟨aHT,aDF,PC,hS⟩:=c6 hS
  refine Zw rfl (iM (a:=dM) Tryz.underlying103 gC rfl rfl aDF PC) ?_
  refine Zw rfl (j3 dM .u32 fY rfl rfl PC) ?_
  refine Zw rfl (sY rfl rfl rfl) ?_
  obtain ⟨aNO,aDG,PD,hS⟩:=c6 hS
  refine Zw rfl (iM (a:=wO) Tryz.underlying103 gC rfl rfl aDG PD) ?_
  refine VD.one rfl ?_
  refine VL.NK wO .u32 rfl rfl rfl gC PD ?_
  obtain ⟨aCc,aF4,hS⟩:=qT hS
  rw [aF4]
  refine VL.back (D':=[]) (by kernel_rfl) (aF.nil) ?_
  refine VD.to (fun _ _ h=>h) ?_
  refine VC.keep (ρ':=[(3,ptr fX 0),(6,ptr I9 0),(8,ptr aDt 0),(100,i64 xK)]) [3,6,8,100] rfl ?_
  refine Zr ?_
  obtain ⟨b111,hS⟩:=bU hS
  refine Zu (cR rfl rfl b111) ?_
  refine Zm ?_
  refine VL.iP ((xK+1),aCc) [3,6,8,100] (fun _ _ h=>h) (go2 hS hK1) rfl
 replace hS:=gA hS hK1
 refine Zx ?_
 refine Zq (Zr ?_)
 refine Zu (zU wO .u32 u0 rfl rfl) ?_
 refine VL.tT (Ar.rep 8 0) wO .u32 rfl rfl rfl JR ?_
 refine Zl ?_
 cases hS
 exact VC.ret (hG (.inr rfl) rfl (dS.cell u0 rfl (uY _ _) Rd.blk (dS.nil)) () rfl trivial (by (try dsimp only); exact cA.out) (fun _ _=>trivial))
end Go.Proofs.YtcenmlklkpgmnabGreatDoor
end

section
set_option linter.unusedVariables false
namespace Go.Proofs.YtcenmlklkpgmnabGreatDoor
set_option maxHeartbeats 4000000
set_option maxRecDepth 100000
set_option synthInstance.maxSize 2000
set_option synthInstance.maxHeartbeats 1000000
open Go.RowKit Go.V
open Go.S hiding bB
theorem WQ (iA:Sv UInt8) {r:Ar 32} (hS:Sh.QE iA.l=some r) :
 Ct Tryz.prog 11 [iA.val] iA.ok (Ow.emp) (X:=Unit) (fun _ => .agg (iU .u8 r).toArray) (fun _=>True) (fun _=>Mo.tt) (fun _=>Ow.emp):=by
 refine Zo Tryz.func11 Tryz.ntmps11 fun c => ?_
 unfold Sh.QE at hS
 refine Zq (Zr ?_)
 refine VL.alloc (cs:=(iU .u8 (Ar.rep 32 0))) (by kernel_rfl) (by decide) fun dQ => ?_
 refine Zl ?_
 refine Zq (Zr ?_)
 refine Zm ?_
 obtain ⟨fP,BD,hS⟩:=aK hS
 refine VL.bS (kO iA BD) rfl (by decide) ?_
 rintro pS rfl
 try dsimp only
 refine VL.lit (α:=UInt8) (xs:=[.const (.int .u8 128)]) (vs:=[.int .u8 128]) [(128:UInt8)] Tryz.underlying30 U0 (by decide) rfl rfl rfl rfl (by decide) (fun _ _ _ _=>trivial) (by decide) (fun L6 aJd => ?_) (by decide)
 replace hS:=bV aJd hS
 obtain ⟨b14,hS⟩:=bU hS
 refine VL.app (s:=pS) (r:=L6) Tryz.underlying30 RP (by decide) rfl Fo.out (sU b14) (sV b14 (by decide)) (by decide) (fun a5g a1N => ?_)
 replace hS:=bV a1N hS
 refine Zy ?_
 refine Zq (Zb ?_)
 refine VC.iter (S:=Sv UInt8) (fun (IP:Sv UInt8)=>IP.l) (fun (IP:Sv UInt8)=>[(0,iA.val),(2,ptr dQ 0),(3,IP.val)]) (fun (IP:Sv UInt8)=>Mo.tt) (fun (IP:Sv UInt8)=>Ow.star (bD dQ (iU .u8 (Ar.rep 32 0)) 47) (Ow.star (Sv.own IP 5) (Ow.emp))) a5g [0,2,3] hS rfl ?_
 clear hS
 rintro IP m1 y1 hS hK1
 refine Zq (Zq (Zr ?_))
 refine Zm ?_
 refine Zu (dX (s:=IP) Tryz.underlying30 rfl) ?_
 obtain ⟨b17,hS⟩:=bU hS
 refine Zu (a5b rfl rfl b17) ?_
 refine Zu (yY rfl rfl) ?_
 refine Zl ?_
 refine rE hS (fun h18 hS => ?_) (fun h18 hS => ?_)
 ·
  refine Zk ?_
  refine Zb (Zr ?_)
  refine Zm ?_
  refine VL.lit (α:=UInt8) (xs:=[.const (.int .u8 0)]) (vs:=[.int .u8 0]) [(0:UInt8)] Tryz.underlying30 U0 (by decide) rfl rfl rfl rfl (by decide) (fun _ _ _ _=>trivial) (by decide) (fun a5q a10 => ?_) (by decide)
  replace hS:=bV a10 hS
  obtain ⟨b21,hS⟩:=bU hS
  refine VL.app (s:=IP) (r:=a5q) Tryz.underlying30 RP (by decide) rfl Fo.out (sU b21) (sV b21 (by decide)) (by decide) (fun a2X aWY => ?_)
  replace hS:=bV aWY hS
  refine Za ?_
  refine VL.iP a2X [0,2,3] (fun _ _ h=>h) (go2 hS hK1) rfl
 replace hS:=gA hS hK1
 refine Zx ?_
 refine Zq (Zr ?_)
 refine Zm ?_
 refine Zu (dX (s:=iA) Tryz.underlying30 rfl) ?_
 refine Zu (jK Tryz.underlying3 Tryz.underlying101 rfl) ?_
 refine Zu (a2R rfl rfl rfl) ?_
 refine Zy ?_
 refine VC.keep (ρ':=[(2,ptr dQ 0),(3,IP.val),(4,.int .u64 (IntKind.wrap .u64 ((IntKind.wrap .u64 (iA.l.length:Int))*8)))]) [2,3,4] rfl ?_
 refine Zq (Zq (Zr ?_))
 refine Zy ?_
 refine Zb ?_
 refine VC.iter (S:=Sv UInt8×Int) (fun sg=>(sg.1.l,sg.2)) (fun sg=>[(2,ptr dQ 0),(3,sg.1.val),(4,.int .u64 (IntKind.wrap .u64 ((IntKind.wrap .u64 (iA.l.length:Int))*8))),(26,i64 sg.2)]) (fun sg=>Mo.tt) (fun sg=>Ow.star (bD dQ (iU .u8 (Ar.rep 32 0)) 47) (Ow.star (Sv.own sg.1 5) (Ow.emp))) (IP,0) [2,3,4,26] hS rfl ?_
 clear hS
 rintro ⟨aAd,C9⟩ m1 y1 hS hK1
 refine Zq (Zr ?_)
 refine Zu (c4 rfl rfl) ?_
 refine Zl ?_
 refine Zq ?_
 refine Zc hS (fun h27 hS => ?_) (fun h27 hS => ?_)
 ·
  refine Zk ?_
  refine Zq (Zb (Zq (Zr ?_)))
  refine Zy ?_
  refine Zr ?_
  refine Zy ?_
  obtain ⟨b32,hS⟩:=bU hS
  refine Zu (qK rfl rfl b32) ?_
  obtain ⟨b33,hS⟩:=bU hS
  refine Zu (N9 rfl rfl b33) ?_
  obtain ⟨b34,hS⟩:=bU hS
  refine Zu (yZ rfl rfl b34) ?_
  refine Zu (jK Tryz.underlying101 Tryz.underlying5 rfl) ?_
  obtain ⟨aZo,hS⟩:=bU hS
  obtain ⟨aE8,aUP,hS⟩:=qT hS
  refine VL.D9 35 rfl (congrArg (Value.int .u8) (ZO aZo aUP)) ?_
  refine VL.lit (α:=UInt8) (xs:=[.tmp 35]) (vs:=[.int .u8 (aE8.toNat:Int)]) [aE8] Tryz.underlying30 U0 (by decide) rfl rfl rfl rfl (by decide) (fun _ _ _ _=>trivial) (by decide) (fun a2k aWi => ?_) (by decide)
  replace hS:=bV aWi hS
  obtain ⟨b37,hS⟩:=bU hS
  refine VL.app (s:=aAd) (r:=a2k) Tryz.underlying30 RP (by decide) rfl Fo.out (sU b37) (sV b37 (by decide)) (by decide) (fun aQi aWk => ?_)
  replace hS:=bV aWk hS
  refine Zy ?_
  refine VC.keep (ρ':=[(2,ptr dQ 0),(3,aQi.val),(4,.int .u64 (IntKind.wrap .u64 ((IntKind.wrap .u64 (iA.l.length:Int))*8))),(26,i64 C9)]) [2,3,4,26] rfl ?_
  refine Zr ?_
  obtain ⟨b38,hS⟩:=bU hS
  refine Zu (cR rfl rfl b38) ?_
  refine Zm ?_
  refine VL.iP (aQi,(C9+1)) [2,3,4,26] (fun _ _ h=>h) (go2 hS hK1) rfl
 replace hS:=gA hS hK1
 refine Zx ?_
 refine Zq (Zr ?_)
 obtain ⟨aEg,aUp,hS⟩:=aK hS
 refine Zu (bZ (aHl aUp) rfl (fun _ _=>rfl)) ?_
 obtain ⟨TC,aUq,hS⟩:=aK hS
 refine Zu (bZ (aHm aUq) rfl (fun _ _=>rfl)) ?_
 refine VL.alloc (cs:=(iU .u32 (Ar.rep 8 0))) (by kernel_rfl) (by decide) fun aIq => ?_
 refine VL.alloc (cs:=(iU .u32 (Ar.rep 64 0))) (by kernel_rfl) (by decide) fun aIr => ?_
 refine VL.tT (Ar.rep 8 0) aEg .u32 rfl rfl rfl JR ?_
 refine VL.tT (Ar.rep 64 0) TC .u32 rfl rfl rfl aBY ?_
 refine Zl ?_
 refine Zq (Zb ?_)
 refine VC.shut aAd 5 (fun _ _ _ _=>trivial) ?_
 refine VC.iter (S:=Sv UInt8×Ar 8) (fun sg=>(sg.1.l,sg.2)) (fun sg=>[(2,ptr dQ 0),(3,sg.1.val),(6,ptr aIq 0),(7,ptr aIr 0)]) (fun sg=>sg.1.ok) (fun sg=>Ow.star (bD aIr (iU .u32 TC) 105) (Ow.star (bD aIq (iU .u32 sg.2) 103) (Ow.star (bD dQ (iU .u8 (Ar.rep 32 0)) 47) (Ow.emp)))) (aAd,aEg) [2,3,6,7] hS rfl ?_
 clear hS
 rintro ⟨XP,KR⟩ m1 y1 hS hK1
 refine Zq (Zq (Zr ?_))
 refine Zm ?_
 refine Zu (dX (s:=XP) Tryz.underlying30 rfl) ?_
 refine Zu (iZ rfl rfl) ?_
 refine Zl ?_
 refine Zc hS (fun h43 hS => ?_) (fun h43 hS => ?_)
 ·
  refine Zk ?_
  refine Zq (Zb (Zr ?_))
  refine Zu (zU KR .u32 u0 rfl rfl) ?_
  refine Zm ?_
  refine Zu (zU TC .u32 aBQ rfl rfl) ?_
  obtain ⟨aEi,aVI,hS⟩:=aK hS
  refine Zu (bZ (aKQ KR XP TC aVI) rfl (fun _ _=>rfl)) ?_
  refine VL.tT KR aEi .u32 rfl rfl rfl JR ?_
  refine Zl ?_
  refine VC.keep (ρ':=[(2,ptr dQ 0),(3,XP.val),(6,ptr aIq 0),(7,ptr aIr 0)]) [2,3,6,7] rfl ?_
  refine Zr ?_
  refine Zm ?_
  obtain ⟨b45,hS⟩:=bU hS
  refine VL.aYi Tryz.underlying30 AD rfl rfl b45.1 (b45.2) (by decide) fun a2t aWt => ?_
  replace hS:=bV aWt hS
  refine Za ?_
  refine VL.iP (a2t,aEi) [2,3,6,7] (fun _ _ h=>h) (go2 hS hK1) rfl
 replace hS:=gA hS hK1
 refine Zx ?_
 refine Zq (Zr ?_)
 refine VL.alloc (cs:=(iU .u8 (Ar.rep 32 0))) (by kernel_rfl) (by decide) fun aN1 => ?_
 refine Zl ?_
 refine Zq (Zq (Zr ?_))
 refine Zu (zU KR .u32 u0 rfl rfl) ?_
 refine Zy ?_
 refine Zb ?_
 refine VC.iter (S:=Int×Ar 32) (fun sg=>(sg.1,sg.2)) (fun sg=>[(2,ptr dQ 0),(8,ptr aN1 0),(50,.agg (iU .u32 KR).toArray),(51,i64 sg.1)]) (fun sg=>Mo.tt) (fun sg=>Ow.star (bD aN1 (iU .u8 sg.2) 47) (Ow.star (bD aIr (iU .u32 TC) 105) (Ow.star (bD aIq (iU .u32 KR) 103) (Ow.star (bD dQ (iU .u8 (Ar.rep 32 0)) 47) (Ow.emp))))) (0,(Ar.rep 32 0)) [2,8,50,51] hS rfl ?_
 clear hS
 rintro ⟨qP,QN⟩ m1 y1 hS hK1
 refine Zq (Zr ?_)
 refine Zu (c4 rfl rfl) ?_
 refine Zl ?_
 refine Zq ?_
 refine Zc hS (fun h52 hS => ?_) (fun h52 hS => ?_)
 ·
  refine Zk ?_
  refine Zq (Zb (Zq (Zr ?_)))
  refine Zm ?_
  obtain ⟨aCg,aXe,aXY,hS⟩:=c6 hS
  refine Zu (a5a (a:=KR) Tryz.underlying103 fY gC rfl rfl aXe aXY) ?_
  refine Zy ?_
  refine Zr ?_
  refine Zm ?_
  obtain ⟨b56,hS⟩:=bU hS
  refine Zu (N9 rfl rfl b56) ?_
  refine Zm ?_
  obtain ⟨b58,hS⟩:=bU hS
  refine Zu (N9 rfl rfl b58) ?_
  obtain ⟨b59,hS⟩:=bU hS
  refine Zu (cR rfl rfl b59) ?_
  refine Zm ?_
  obtain ⟨b61,hS⟩:=bU hS
  refine Zu (N9 rfl rfl b61) ?_
  obtain ⟨b62,hS⟩:=bU hS
  refine Zu (cR rfl rfl b62) ?_
  refine Zm ?_
  obtain ⟨b64,hS⟩:=bU hS
  refine Zu (N9 rfl rfl b64) ?_
  obtain ⟨b65,hS⟩:=bU hS
  refine Zu (cR rfl rfl b65) ?_
  refine Zm ?_
  refine Zu (yZ rfl rfl (by decide)) ?_
  refine Zu (jK Tryz.underlying102 Tryz.underlying5 rfl) ?_
  refine Zm ?_
  refine Zu (yZ rfl rfl (by decide)) ?_
  refine Zu (jK Tryz.underlying102 Tryz.underlying5 rfl) ?_
  refine Zm ?_
  refine Zu (yZ rfl rfl (by decide)) ?_
  refine Zu (jK Tryz.underlying102 Tryz.underlying5 rfl) ?_
  refine Zm ?_
  refine Zu (jK Tryz.underlying102 Tryz.underlying5 rfl) ?_
  obtain ⟨a4W,aXh,aLu,hS⟩:=c6 hS
  refine Zu (iM (a:=QN) Tryz.underlying47 AD rfl rfl aXh aLu) ?_
  refine VL.NK QN .u8 rfl rfl rfl AD aLu ?_
  obtain ⟨X1,aSZ,hS⟩:=qT hS
  rw [aSZ]
  obtain ⟨a4X,aXi,aLv,hS⟩:=c6 hS
  refine Zu (iM (a:=X1) Tryz.underlying47 AD rfl rfl aXi aLv) ?_
  refine VL.NK X1 .u8 rfl rfl rfl AD aLv ?_
  obtain ⟨X2,aS0,hS⟩:=qT hS
  rw [aS0]
  obtain ⟨a4Y,aXj,aLw,hS⟩:=c6 hS
  refine Zu (iM (a:=X2) Tryz.underlying47 AD rfl rfl aXj aLw) ?_
  refine VL.NK X2 .u8 rfl rfl rfl AD aLw ?_
  obtain ⟨X3,aS1,hS⟩:=qT hS
  rw [aS1]
  obtain ⟨a4Z,aXk,aLx,hS⟩:=c6 hS
  refine Zu (iM (a:=X3) Tryz.underlying47 AD rfl rfl aXk aLx) ?_
  refine VL.NK X3 .u8 rfl rfl rfl AD aLx ?_
  obtain ⟨aHQ,aS3,hS⟩:=qT hS
  rw [aS3]
  refine Zl ?_
  refine VC.keep (ρ':=[(2,ptr dQ 0),(8,ptr aN1 0),(50,.agg (iU .u32 KR).toArray),(51,i64 qP)]) [2,8,50,51] rfl ?_
  refine Zr ?_
  obtain ⟨b81,hS⟩:=bU hS
  refine Zu (cR rfl rfl b81) ?_
  refine Zm ?_
  refine VL.iP ((qP+1),aHQ) [2,8,50,51] (fun _ _ h=>h) (go2 hS hK1) rfl
 replace hS:=gA hS hK1
 refine Zx ?_
 refine Zq (Zr ?_)
 refine Zu (zU QN .u8 aPA rfl rfl) ?_
 refine VL.tT (Ar.rep 32 0) QN .u8 rfl rfl rfl a5F ?_
 refine Zl ?_
 cases hS
 exact VC.ret (hG (.inr rfl) rfl (dS.cell aPA rfl (uY _ _) Rd.blk (dS.nil)) () rfl trivial (by (try dsimp only); exact cA.out) (fun _ _=>trivial))
theorem SE (cJ:Sv aC) {r:Bool} (hS:Sh.v7 cJ.l=some r) :
 Ct Tryz.prog 3 [cJ.val] cJ.ok (Ow.emp) (X:=Unit) (fun _ => .bool r) (fun _=>True) (fun _=>Mo.tt) (fun _=>Ow.emp):=by
 refine Zo Tryz.func3 Tryz.ntmps3 fun c => ?_
 unfold Sh.v7 at hS
 refine Zq (Zr ?_)
 refine Zy ?_
 refine Zq (Zq (Zr ?_))
 obtain ⟨S7,aBI,hS⟩:=aK hS
 refine Zu (bZ (aAY aBI) rfl (fun _ _=>rfl)) ?_
 refine Zu (lQ rfl) ?_
 refine Zl ?_
 refine iL hS (fun h19 hS => ?_) (fun h19 hS => ?_)
 ·
  refine Zq (Zr ?_)
  refine Zy ?_
  cases hS
  exact Ze
 refine Zk ?_
 refine Zq ?_
 refine VC.gK (S:=Bool) (fun (XI:Bool)=>XI) (fun (XI:Bool)=>[(0,cJ.val),(27,.bool XI)]) (fun (XI:Bool)=>Mo.tt) (fun (XI:Bool)=>Ow.emp) hS ?_ ?_
 ·
  clear hS
  intro k3 hS
  refine Zr ?_
  refine Zm ?_
  refine Zu (dX (s:=cJ) Tryz.underlying23 rfl) ?_
  refine Zu (iZ rfl rfl) ?_
  refine Zm ?_
  refine pL 23 hS (fun h23 hS => ?_) (fun h23 hS => ?_)
  ·
   refine VL.runs 4 [(27,some true)] (by kernel_rfl) ?_
   refine VL.mt true [0,27] (fun _ _ h=>h) hS rfl
  refine Zg ?_
  refine VL.guard rfl rfl ?_
  obtain ⟨XU,aJW,hS⟩:=aK hS
  refine VL.cU (vY cJ aJW) rfl (by decide) ?_
  rintro aYI rfl
  try dsimp only
  refine Zh (jM Tryz.underlying26 rfl) ?_
  refine Zf ?_
  refine VL.mt (!decide (aYI.pl.isNil=true)) [0,27] (fun _ _ h=>h) hS rfl
 clear hS
 rintro XI hS
 refine iL hS (fun h27 hS => ?_) (fun h27 hS => ?_)
 ·
  refine Zq (Zr ?_)
  refine Zy ?_
  cases hS
  exact Ze
 refine Zk ?_
 refine Zq (Zr ?_)
 obtain ⟨aAj,aJ0,hS⟩:=aK hS
 refine VL.bS (ZN aJ0) rfl (by decide) ?_
 rintro ⟨wX,aMl⟩ rfl
 try dsimp only
 refine Zy ?_
 refine Zq (Zr ?_)
 refine Zu (eN (vs:=[(0,i64 2)]) (cs := #[i64 2,.slice none 0 0,.slice none 0 0,i64 0,.slice none 0 0,i64 0,str []]) rfl (by kernel_rfl)) ?_
 refine VL.alloc (cs:=[i64 0,.slice none 0 0,.slice none 0 0,i64 0,.slice none 0 0,i64 0,str []]) (by kernel_rfl) (by decide) fun UH => ?_
 refine Zv (cs':=[i64 2,.slice none 0 0,.slice none 0 0,i64 0,.slice none 0 0,i64 0,str []]) rfl qJ ?_
 refine Zl ?_
 refine Zq (Zq (Zr ?_))
 refine Zy ?_
 refine Zb ?_
 refine VC.kH (⟨none,0,[]⟩:Sv b5) 40 ⟨rfl,rfl⟩ ?_
 refine VC.SD UH (cs':=[i64 2,.slice none 0 0,(⟨none,0,[]⟩:Sv b5).val,i64 0,.slice none 0 0,i64 0,str []]) rfl ?_
 refine VC.iter (S:=Int×Sv b5×Sv cN×Mv bB Int) (fun sg=>(sg.1,sg.2.1.l,(sg.2.2.1.l.map cN.pl),sg.2.2.2.l)) (fun sg=>[(0,cJ.val),(3,ptr wX 0),(4,ptr UH 0),(5,i64 sg.1)]) (fun sg=>(xW sg.2.2.1.l)) (fun sg=>Ow.star (bD UH [i64 2,.slice none 0 0,sg.2.1.val,i64 0,.slice none 0 0,i64 0,str []] 34) (Ow.star (bD wX [sg.2.2.1.val,sg.2.2.2.val] 82) (Ow.star (Sv.own sg.2.1 40) (Ow.star (Sv.own sg.2.2.1 34) (Ow.star (Mv.own sg.2.2.2 Tryz.prog 9 3 wU uJ) (Ow.emp)))))) (0,(⟨none,0,[]⟩:Sv b5),aMl.l,aMl.mY) [0,3,4,5] hS rfl ?_
 clear hS
 rintro ⟨T1,TZ,O2,GW⟩ m1 y1 hS hK1
 refine Zq (Zq (Zr ?_))
 refine Zy ?_
 refine Zu (dX (s:=cJ) Tryz.underlying23 rfl) ?_
 refine Zu (c4 rfl rfl) ?_
 refine Zl ?_
 refine Zc hS (fun h33 hS => ?_) (fun h33 hS => ?_)
 ·
  refine Zk ?_
  refine Zq (Zb (Zq (Zq (Zr ?_))))
  refine Zy ?_
  obtain ⟨aKu,aMO,aLa,hS⟩:=c6 hS
  refine Zu (e8 (s:=cJ) Tryz.underlying23 fS rfl rfl aMO (bN aMO aLa)) ?_
  refine Zu (aB E8 rfl) ?_
  refine Zu (FT (s:=cJ) dD rfl aLa rfl) ?_
  refine Zu (pU Tryz.underlying9 rfl) ?_
  refine Zu (iZ rfl rfl) ?_
  refine Zl ?_
  refine VC.keep (ρ':=[(0,cJ.val),(3,ptr wX 0),(4,ptr UH 0),(5,i64 T1),(42,.bool (decide (300 < (aKu.data.length:Int))))]) [0,3,4,5,42] rfl ?_
  refine Zc hS (fun h42 hS => ?_) (fun h42 hS => ?_)
  ·
   refine Zq (Zr ?_)
   refine Zy ?_
   replace hS:=gA hS hK1
   cases hS
   exact Ze
  refine Zk ?_
  refine Zq (Zr ?_)
  refine Zy ?_
  obtain ⟨aKw,aMV,aLh,hS⟩:=c6 hS
  refine Zu (e8 (s:=cJ) Tryz.underlying23 fS rfl rfl aMV (bN aMV aLh)) ?_
  refine Zu (aB E8 rfl) ?_
  refine Zu (FT (s:=cJ) dD rfl aLh rfl) ?_
  obtain ⟨b50,hS⟩:=bU hS
  refine VL.s2b Tryz.underlying9 Tryz.underlying30 Tryz.underlying5 rfl b50 (by decide) fun aKM aXB => ?_
  replace hS:=bV aXB hS
  refine Zu (eN (vs:=[(0,i64 1),(1,aKM.val)]) (cs := #[i64 1,aKM.val,.slice none 0 0,i64 0,.slice none 0 0,i64 0,str []]) rfl (by kernel_rfl)) ?_
  obtain ⟨aC7,aVN,hS⟩:=aK hS
  refine VL.bS (CB wX (⟨O2,GW⟩:mE) (⟨1,aKM,⟨none,0,[]⟩,0,⟨none,0,[]⟩,0,[]⟩:cN) aVN) rfl (by decide) ?_
  rintro ⟨P4,aTW,aI5⟩ rfl
  try dsimp only
  refine Zm ?_
  refine Zu (aW rfl rfl) ?_
  refine Zu (aW rfl rfl) ?_
  refine Zy ?_
  refine VC.keep (ρ':=[(0,cJ.val),(3,ptr wX 0),(4,ptr UH 0),(5,i64 T1),(6,i64 P4),(7,aTW.val)]) [0,3,4,5,6,7] rfl ?_
  refine Zq (Zq (Zr ?_))
  refine Zm ?_
  refine Zu (jM Tryz.underlying26 rfl) ?_
  refine Zl ?_
  refine rE hS (fun h56 hS => ?_) (fun h56 hS => ?_)
  ·
   refine Zq (Zr ?_)
   refine Zy ?_
   replace hS:=gA hS hK1
   cases hS
   exact Ze
  refine Zk ?_
  refine VC.draw [(0,true),(1,true),(2,true),(3,true),(4,true),(5,true),(6,true),(7,true),(8,true),(9,true),(10,true),(11,true),(12,true),(13,true),(14,false),(15,false),(16,true),(17,false)] mixed (by kernel_rfl) (by kernel_rfl) (by kernel_rfl) ?_
  refine Zw rfl (aB sQ rfl) ?_
  refine Zw rfl (aJ BH rfl rfl) ?_
  refine Zw rfl (bA rfl) ?_
  refine Zw rfl (bA rfl) ?_
  obtain ⟨Y4,aM1,aLm,hS⟩:=c6 hS
  refine Zw rfl (e8 (s:=cJ) Tryz.underlying23 fS rfl rfl aM1 (bN aM1 aLm)) ?_
  refine Zw rfl (aB qS rfl) ?_
  refine Zw rfl (FT (s:=cJ) dD rfl aLm rfl) ?_
  refine Zw rfl (bA rfl) ?_
  refine Zw rfl (bA rfl) ?_
  obtain ⟨Y5,aM4,aLp,hS⟩:=c6 hS
  refine Zw rfl (e8 (s:=cJ) Tryz.underlying23 fS rfl rfl aM4 (bN aM4 aLp)) ?_
  refine Zw rfl (aB LA rfl) ?_
  refine Zw rfl (FT (s:=cJ) eP rfl aLp rfl) ?_
  refine Zw rfl (bA rfl) ?_
  refine Zw rfl (eN (vs:=[(0,str Y4.path),(1,i64 Y5.mode),(2,i64 P4)]) (cs := #[str Y4.path,i64 Y5.mode,i64 P4]) rfl (by kernel_rfl)) ?_
  refine VD.one rfl ?_
  refine VL.lit (α:=b5) (xs:=[.tmp 70]) (vs:=[.agg #[str Y4.path,i64 Y5.mode,i64 P4]]) [⟨Y4.path,Y5.mode,P4⟩] Tryz.underlying31 aPG (by decide) rfl rfl rfl rfl (by decide) (fun _ _ _ _=>trivial) (by decide) (fun a3I aXP => ?_) (by decide)
  replace hS:=bV aXP hS
  refine VL.back (D':=[(1,TZ.val),(0,ptr UH 2)]) (by kernel_rfl) (aF.cons rfl (aJ BH rfl rfl) (aF.cons rfl (aB sQ rfl) (aF.nil))) ?_
  refine VD.one rfl ?_
  obtain ⟨b72,hS⟩:=bU hS
  refine VL.app (s:=TZ) (r:=a3I) Tryz.underlying31 aJ7 (by decide) rfl Fo.out (sU b72) (sV b72 (by decide)) (by decide) (fun aQp aXQ => ?_)
  replace hS:=bV aXQ hS
  refine VL.back (D':=[]) (by kernel_rfl) (aF.nil) ?_
  refine Zw rfl (aB sQ rfl) ?_
  refine VD.one rfl ?_
  refine Zv (cs':=[i64 2,.slice none 0 0,aQp.val,i64 0,.slice none 0 0,i64 0,str []]) rfl aNn ?_
  refine VL.back (D':=[]) (by kernel_rfl) (aF.nil) ?_
  refine VD.to (fun _ _ h=>h) ?_
  refine VC.keep (ρ':=[(0,cJ.val),(3,ptr wX 0),(4,ptr UH 0),(5,i64 T1)]) [0,3,4,5] rfl ?_
  refine Zr ?_
  refine Zm ?_
  obtain ⟨b35,hS⟩:=bU hS
  refine Zu (cR rfl rfl b35) ?_
  refine Za ?_
  refine VL.iP ((T1+1),aQp,aI5.l,aI5.mY) [0,3,4,5] (fun _ _ h=>h) (go2 hS hK1) rfl
 replace hS:=gA hS hK1
 refine Zx ?_
 refine Zq (Zr ?_)
 refine Zm ?_
 refine Zu (cD iY rfl rfl) ?_
 refine VL.shut TZ 40 (fun _ _ _ _=>trivial) ?_
 obtain ⟨aC9,aVm,hS⟩:=aK hS
 refine VL.bS (CB wX (⟨O2,GW⟩:mE) (⟨2,⟨none,0,[]⟩,TZ,0,⟨none,0,[]⟩,0,[]⟩:cN) aVm) rfl (by decide) ?_
 rintro ⟨KF,aD8,oX⟩ rfl
 try dsimp only
 refine Zm ?_
 refine Zu (aW rfl rfl) ?_
 refine Zu (aW rfl rfl) ?_
 refine Zy ?_
 refine VC.keep (ρ':=[(0,cJ.val),(3,ptr wX 0),(8,i64 KF),(9,aD8.val)]) [0,3,8,9] rfl ?_
 refine Zq (Zr ?_)
 refine Zm ?_
 obtain ⟨aSA,aVs,hS⟩:=aK hS
 refine VL.bS (UC wX oX aVs) rfl (by decide) ?_
 rintro aTa rfl
 try dsimp only
 obtain ⟨TF,aVu,hS⟩:=aK hS
 refine VL.bS (aGz aTa aVu) rfl (by decide) ?_
 rintro (sC | ⟨sC,sD⟩) rfl
 ·
  try dsimp only at hS
  try dsimp only
  refine Zm ?_
  refine Zu (aW rfl rfl) ?_
  refine Zu (aW rfl rfl) ?_
  refine Zy ?_
  refine VC.keep (ρ':=[(0,cJ.val),(8,i64 KF),(9,aD8.val),(10,.pointer none),(11,sC.val)]) [0,8,9,10,11] rfl ?_
  refine Zq ?_
  refine VC.gK (S:=Bool) (fun (NU:Bool)=>NU) (fun (NU:Bool)=>[(0,cJ.val),(8,i64 KF),(10,.pointer none),(95,.bool NU)]) (fun (NU:Bool)=>Mo.tt) (fun (NU:Bool)=>Ow.star (bD wX [oX.l.val,oX.mY.val] 82) (Ow.star (bD UH [i64 2,.slice none 0 0,TZ.val,i64 0,.slice none 0 0,i64 0,str []] 34) (Ow.star (Mv.own oX.mY Tryz.prog 9 3 wU uJ) (Ow.star (Sv.own oX.l 34) (Ow.emp))))) hS ?_ ?_
  ·
   clear hS
   intro k26 hS
   refine Zr ?_
   refine Zm ?_
   refine Zu (jM Tryz.underlying26 rfl) ?_
   refine Zm ?_
   refine OZ 88 hS (fun h88 hS => ?_) (fun h88 hS => ?_)
   ·
    refine VL.runs 7 [(95,some true)] (by kernel_rfl) ?_
    refine VL.mt true [0,8,10,95] (fun _ _ h=>h) hS rfl
   refine Zg ?_
   refine Zh (jM Tryz.underlying26 rfl) ?_
   refine Zy ?_
   refine OZ 92 hS (fun h92 hS => ?_) (fun h92 hS => ?_)
   ·
    refine VL.runs 3 [(95,some true)] (by kernel_rfl) ?_
    refine VL.mt true [0,8,10,95] (fun _ _ h=>h) hS rfl
   refine Zg ?_
   refine Zh (aQ6 Tryz.underlying28 rfl) ?_
   refine Zf ?_
   refine VL.mt true [0,8,10,95] (fun _ _ h=>h) hS rfl
  clear hS
  rintro NU hS
  refine iL hS (fun h95 hS => ?_) (fun h95 hS => ?_)
  ·
   refine Zq (Zr ?_)
   refine Zy ?_
   cases hS
   exact Ze
  refine Zk ?_
  refine Zq (Zr ?_)
  refine Zy ?_
  cases hS
 try dsimp only at hS
 try dsimp only
 refine Zm ?_
 refine Zu (aW rfl rfl) ?_
 refine Zu (aW rfl rfl) ?_
 refine Zy ?_
 refine VC.keep (ρ':=[(0,cJ.val),(8,i64 KF),(9,aD8.val),(10,ptr sC 0),(11,.nilIface)]) [0,8,9,10,11] rfl ?_
 refine Zq ?_
 refine VC.gK (S:=Bool) (fun (NV:Bool)=>NV) (fun (NV:Bool)=>[(0,cJ.val),(8,i64 KF),(10,ptr sC 0),(95,.bool NV)]) (fun (NV:Bool)=>Mo.tt) (fun (NV:Bool)=>Ow.star (bD sC [sD.l.val,sD.mY.val] 82) (Ow.star (bD wX [oX.l.val,oX.mY.val] 82) (Ow.star (bD UH [i64 2,.slice none 0 0,TZ.val,i64 0,.slice none 0 0,i64 0,str []] 34) (Ow.star (Mv.own sD.mY Tryz.prog 9 3 wU uJ) (Ow.star (Sv.own sD.l 34) (Ow.star (Mv.own oX.mY Tryz.prog 9 3 wU uJ) (Ow.star (Sv.own oX.l 34) (Ow.emp)))))))) hS ?_ ?_
 ·
  clear hS
  intro k28 hS
  refine Zr ?_
  refine Zm ?_
  refine Zu (jM Tryz.underlying26 rfl) ?_
  refine Zm ?_
  refine OZ 88 hS (fun h88 hS => ?_) (fun h88 hS => ?_)
  ·
   refine VL.runs 7 [(95,some true)] (by kernel_rfl) ?_
   refine VL.mt true [0,8,10,95] (fun _ _ h=>h) hS rfl
  refine Zg ?_
  refine Zh (aMs Tryz.underlying26 rfl) ?_
  refine Zy ?_
  refine Zh (aQ6 Tryz.underlying28 rfl) ?_
  refine Zf ?_
  refine VL.mt false [0,8,10,95] (fun _ _ h=>h) hS rfl
 clear hS
 rintro NV hS
 refine iL hS (fun h95 hS => ?_) (fun h95 hS => ?_)
 ·
  refine Zq (Zr ?_)
  refine Zy ?_
  cases hS
  exact Ze
 refine Zk ?_
 refine Zq (Zr ?_)
 refine Zy ?_
 obtain ⟨Y3,aVz,hS⟩:=aK hS
 refine VL.bS (JE sC sD KF aVz) rfl (by decide) ?_
 rintro ⟨iW,KG⟩ rfl
 try dsimp only
 refine Zm ?_
 refine Zu (aW rfl rfl) ?_
 refine Zu (aW rfl rfl) ?_
 refine VL.alloc (cs:=[i64 0,.slice none 0 0,.slice none 0 0,i64 0,.slice none 0 0,i64 0,str []]) (by kernel_rfl) (by decide) fun QM => ?_
 refine Zv (cs':=[i64 iW.kind,iW.data.val,iW.items.val,i64 iW.tree,iW.parents.val,i64 iW.time,str iW.text]) rfl qJ ?_
 refine Zy ?_
 refine VC.keep (ρ':=[(0,cJ.val),(10,ptr sC 0),(12,ptr QM 0),(13,.bool KG)]) [0,10,12,13] rfl ?_
 refine Zq (Zr ?_)
 refine Zy ?_
 refine Zq (Zq (Zr ?_))
 refine Zy ?_
 refine Zb ?_
 refine VC.kH (⟨none,0,[]⟩:Sv aC) 36 ⟨rfl,rfl⟩ ?_
 refine VC.iter (S:=Sv aC×Int) (fun sg=>(sg.1.l,sg.2)) (fun sg=>[(0,cJ.val),(10,ptr sC 0),(12,ptr QM 0),(13,.bool KG),(14,sg.1.val),(15,i64 sg.2)]) (fun sg=>Mo.tt) (fun sg=>Ow.star (bD QM [i64 iW.kind,iW.data.val,iW.items.val,i64 iW.tree,iW.parents.val,i64 iW.time,str iW.text] 34) (Ow.star (bD sC [sD.l.val,sD.mY.val] 82) (Ow.star (bD wX [oX.l.val,oX.mY.val] 82) (Ow.star (bD UH [i64 2,.slice none 0 0,TZ.val,i64 0,.slice none 0 0,i64 0,str []] 34) (Ow.star (Mv.own sD.mY Tryz.prog 9 3 wU uJ) (Ow.star (Sv.own sD.l 34) (Ow.star (Mv.own oX.mY Tryz.prog 9 3 wU uJ) (Ow.star (Sv.own oX.l 34) (Ow.star (Sv.own sg.1 36) (Ow.emp)))))))))) (⟨none,0,[]⟩,0) [0,10,12,13,14,15] hS rfl ?_
 clear hS
 rintro ⟨vK,BI⟩ m1 y1 hS hK1
 refine Zq (Zq (Zr ?_))
 refine Zm ?_
 refine Zu (aB sQ rfl) ?_
 refine Zu (aJ BH rfl rfl) ?_
 refine Zu (dX (s:=iW.items) Tryz.underlying31 rfl) ?_
 refine Zu (c4 rfl rfl) ?_
 refine Zl ?_
 refine Zc hS (fun h106 hS => ?_) (fun h106 hS => ?_)
 ·
  refine Zk ?_
  refine Zq (Zb (Zq (Zr ?_)))
  refine Zm ?_
  refine Zu (aB sQ rfl) ?_
  refine Zu (aJ BH rfl rfl) ?_
  refine Zm ?_
  obtain ⟨aHU,aIQ,aIK,hS⟩:=c6 hS
  refine Zu (e8 (s:=iW.items) Tryz.underlying31 G3 rfl rfl aIQ (bN aIQ aIK)) ?_
  refine Zu (aB aBU rfl) ?_
  refine Zu (FT (s:=iW.items) eP rfl aIK rfl) ?_
  obtain ⟨aCU,aSW,hS⟩:=aK hS
  refine VL.bS (JE sC sD aHU.oJ aSW) rfl (by decide) ?_
  rintro ⟨jU,aOD⟩ rfl
  try dsimp only
  refine Zm ?_
  refine Zu (aW rfl rfl) ?_
  refine Zu (aW rfl rfl) ?_
  refine VL.alloc (cs:=[i64 0,.slice none 0 0,.slice none 0 0,i64 0,.slice none 0 0,i64 0,str []]) (by kernel_rfl) (by decide) fun aEQ => ?_
  refine Zv (cs':=[i64 jU.kind,jU.data.val,jU.items.val,i64 jU.tree,jU.parents.val,i64 jU.time,str jU.text]) rfl qJ ?_
  refine Zy ?_
  refine VC.keep (ρ':=[(0,cJ.val),(10,ptr sC 0),(12,ptr QM 0),(13,.bool KG),(14,vK.val),(15,i64 BI),(16,ptr aEQ 0),(17,.bool aOD)]) [0,10,12,13,14,15,16,17] rfl ?_
  refine Zq ?_
  refine VC.gK (S:=Bool) (fun (IM:Bool)=>IM) (fun (IM:Bool)=>[(0,cJ.val),(10,ptr sC 0),(12,ptr QM 0),(13,.bool KG),(14,vK.val),(15,i64 BI),(16,ptr aEQ 0),(140,.bool IM)]) (fun (IM:Bool)=>Mo.tt) (fun (IM:Bool)=>Ow.star (bD aEQ [i64 jU.kind,jU.data.val,jU.items.val,i64 jU.tree,jU.parents.val,i64 jU.time,str jU.text] 34) (Ow.star (bD QM [i64 iW.kind,iW.data.val,iW.items.val,i64 iW.tree,iW.parents.val,i64 iW.time,str iW.text] 34) (Ow.star (bD sC [sD.l.val,sD.mY.val] 82) (Ow.star (bD wX [oX.l.val,oX.mY.val] 82) (Ow.star (bD UH [i64 2,.slice none 0 0,TZ.val,i64 0,.slice none 0 0,i64 0,str []] 34) (Ow.star (Mv.own sD.mY Tryz.prog 9 3 wU uJ) (Ow.star (Sv.own sD.l 34) (Ow.star (Mv.own oX.mY Tryz.prog 9 3 wU uJ) (Ow.star (Sv.own oX.l 34) (Ow.star (Sv.own vK 36) (Ow.emp))))))))))) hS ?_ ?_
  ·
   clear hS
   intro k37 hS
   refine VC.draw [(0,true),(1,true),(2,true),(3,true),(4,true),(5,true),(6,true),(7,true),(8,true),(9,true),(10,true),(11,true),(12,true),(13,true),(14,true),(15,true),(16,false),(17,true),(18,true),(19,true),(20,true)] mixed (by kernel_rfl) (by kernel_rfl) (by kernel_rfl) ?_
   refine Zw rfl (bA rfl) ?_
   refine Zw rfl (lQ rfl) ?_
   refine Zw rfl (bA rfl) ?_
   refine VD.split 122 rfl (fun h122 => ?_) (fun h122 => ?_)
   ·
    replace hS:=M5 h122 hS
    refine Zd ?_
    refine Zd ?_
    refine Zd ?_
    refine Zd ?_
    refine Zd ?_
    refine VD.gu rfl rfl rfl (by decide) ?_
    refine VD.gu rfl rfl rfl (by decide) ?_
    refine VD.gu rfl rfl rfl (by decide) ?_
    refine VD.gu rfl rfl rfl (by decide) ?_
    refine VD.gu rfl rfl rfl (by decide) ?_
    refine VD.gu rfl rfl rfl (by decide) ?_
    refine VD.gu rfl rfl rfl (by decide) ?_
    refine VD.gu rfl rfl rfl (by decide) ?_
    refine VD.a6g (D':=[(10,undef),(9,undef),(8,undef)]) rfl rfl rfl (by decide) (by kernel_rfl) (aF.aNb rfl rfl rfl (aF.aNb rfl rfl rfl (aF.aNb rfl rfl rfl (aF.nil)))) ?_
    refine VD.gu rfl rfl rfl (by decide) ?_
    refine VD.gu rfl rfl rfl (by decide) ?_
    refine Zd ?_
    refine Zw rfl (kE rfl rfl) ?_
    refine VD.mt true [0,10,12,13,14,15,16,140] (fun _ _ h=>h) hS rfl
   replace hS:=a6e h122 hS
   refine Zi rfl (bA rfl) ?_
   refine Zi rfl (bA rfl) ?_
   refine Zi rfl (dX (s:=cJ) Tryz.underlying23 rfl) ?_
   refine Zi rfl (c4 rfl rfl) ?_
   refine Zi rfl (bA rfl) ?_
   refine VD.vP 127 rfl (fun h127 => ?_) (fun h127 => ?_)
   ·
    replace hS:=M5 h127 hS
    refine Zi rfl (aB HZ rfl) ?_
    refine Zi rfl (aJ qM rfl rfl) ?_
    obtain ⟨XR,aIB,hS⟩:=aK hS
    refine Zi rfl (bZ (WQ jU.data aIB) rfl (fun _ _=>rfl)) ?_
    refine Zi rfl (bA rfl) ?_
    refine Zi rfl (bA rfl) ?_
    obtain ⟨aHV,aIR,aIL,hS⟩:=c6 hS
    refine Zi rfl (e8 (s:=cJ) Tryz.underlying23 fS rfl rfl aIR (bN aIR aIL)) ?_
    refine Zi rfl (aB E8 rfl) ?_
    refine Zi rfl (FT (s:=cJ) dD rfl aIL rfl) ?_
    refine VD.a4d rfl rfl rfl ?_
    refine VL.guard rfl rfl ?_
    obtain ⟨b136,hS⟩:=bU hS
    refine VL.s2b Tryz.underlying9 Tryz.underlying30 Tryz.underlying5 rfl b136 (by decide) fun aY6 aSd => ?_
    replace hS:=bV aSd hS
    refine VL.back (D':=[(10,.agg (iU .u8 XR).toArray),(9,jU.data.val),(8,ptr aEQ 1)]) (by kernel_rfl) (aF.aJB rfl rfl rfl (bZ (WQ jU.data aIB) rfl (fun _ _=>rfl)) (aF.aJB rfl rfl rfl (aJ qM rfl rfl) (aF.aJB rfl rfl rfl (aB HZ rfl) (aF.nil)))) ?_
    obtain ⟨aCW,aSX,hS⟩:=aK hS
    refine Zi rfl (bZ (WQ aY6 aSX) rfl (fun _ _=>rfl)) ?_
    refine Zi rfl (aGe a0z (aZj (a:=XR) (a':=aCW) Tryz.underlying47 Tryz.underlying5 RS AD) rfl rfl) ?_
    refine Zi rfl (kE rfl rfl) ?_
    refine Zw rfl (iX rfl rfl) ?_
    refine VD.mt (!decide (XR=aCW)) [0,10,12,13,14,15,16,140] (fun _ _ h=>h) hS rfl
   replace hS:=VR h127 hS
   refine Zd ?_
   refine Zd ?_
   refine Zd ?_
   refine Zd ?_
   refine Zd ?_
   refine Zd ?_
   refine Zd ?_
   refine Zd ?_
   refine VD.aXp (D':=[(10,undef),(9,undef),(8,undef)]) rfl rfl rfl (by decide) (by decide) (by kernel_rfl) (aF.aFG rfl rfl rfl rfl (aF.aFG rfl rfl rfl rfl (aF.aFG rfl rfl rfl rfl (aF.nil)))) ?_
   refine Zd ?_
   refine Zd ?_
   refine Zi rfl (iX rfl rfl) ?_
   refine Zw rfl (iX rfl rfl) ?_
   refine VD.mt false [0,10,12,13,14,15,16,140] (fun _ _ h=>h) hS rfl
  clear hS
  rintro IM hS
  refine iL hS (fun h140 hS => ?_) (fun h140 hS => ?_)
  ·
   refine Zq (Zr ?_)
   refine Zy ?_
   replace hS:=gA hS hK1
   cases hS
   exact Ze
  refine Zk ?_
  refine VC.draw [(0,true),(1,true),(2,true),(3,true),(4,true),(5,true),(6,true),(7,true),(8,true),(9,true),(10,true),(11,true),(12,true),(13,true),(14,true),(15,true),(16,true),(17,false),(18,false),(19,true)] mixed (by kernel_rfl) (by kernel_rfl) (by kernel_rfl) ?_
  refine Zw rfl (bA rfl) ?_
  refine Zw rfl (aB sQ rfl) ?_
  refine Zw rfl (aJ BH rfl rfl) ?_
  refine Zw rfl (bA rfl) ?_
  obtain ⟨QI,aIS,aIM,hS⟩:=c6 hS
  refine Zw rfl (e8 (s:=iW.items) Tryz.underlying31 G3 rfl rfl aIS (bN aIS aIM)) ?_
  refine Zw rfl (aB LB rfl) ?_
  refine Zw rfl (FT (s:=iW.items) dD rfl aIM rfl) ?_
  refine Zw rfl (aB sQ rfl) ?_
  refine Zw rfl (aJ BH rfl rfl) ?_
  refine Zw rfl (bA rfl) ?_
  obtain ⟨QJ,aIT,aIN,hS⟩:=c6 hS
  refine Zw rfl (e8 (s:=iW.items) Tryz.underlying31 G3 rfl rfl aIT (bN aIT aIN)) ?_
  refine Zw rfl (aB aFd rfl) ?_
  refine Zw rfl (FT (s:=iW.items) eP rfl aIN rfl) ?_
  refine Zw rfl (aB HZ rfl) ?_
  refine Zw rfl (aJ qM rfl rfl) ?_
  refine Zw rfl (R6 (s:=jU.data) Tryz.underlying30 Tryz.underlying5 Tryz.underlying9 rfl) ?_
  refine Zw rfl (eN (vs:=[(0,str QI.path),(1,i64 QJ.mode),(2,str jU.data.l)]) (cs := #[str QI.path,i64 QJ.mode,str jU.data.l]) rfl (by kernel_rfl)) ?_
  refine VD.one rfl ?_
  refine VL.lit (α:=aC) (xs:=[.tmp 157]) (vs:=[.agg #[str QI.path,i64 QJ.mode,str jU.data.l]]) [⟨QI.path,QJ.mode,jU.data.l⟩] Tryz.underlying23 X9 (by decide) rfl rfl rfl rfl (by decide) (fun _ _ _ _=>trivial) (by decide) (fun aY7 aSe => ?_) (by decide)
  replace hS:=bV aSe hS
  refine VL.back (D':=[]) (by kernel_rfl) (aF.nil) ?_
  refine VD.one rfl ?_
  obtain ⟨b159,hS⟩:=bU hS
  refine VL.app (s:=vK) (r:=aY7) Tryz.underlying23 RO (by decide) rfl Fo.out (sU b159) (sV b159 (by decide)) (by decide) (fun aMx aSf => ?_)
  replace hS:=bV aSf hS
  refine VL.back (D':=[]) (by kernel_rfl) (aF.nil) ?_
  refine Zw rfl (eO rfl) ?_
  refine VD.to (fun _ _ h=>h) ?_
  refine VC.keep (ρ':=[(0,cJ.val),(10,ptr sC 0),(12,ptr QM 0),(13,.bool KG),(14,aMx.val),(15,i64 BI)]) [0,10,12,13,14,15] rfl ?_
  refine Zr ?_
  refine Zm ?_
  obtain ⟨b108,hS⟩:=bU hS
  refine Zu (cR rfl rfl b108) ?_
  refine Za ?_
  refine VL.iP (aMx,(BI+1)) [0,10,12,13,14,15] (fun _ _ h=>h) (go2 hS hK1) rfl
 replace hS:=gA hS hK1
 refine Zx ?_
 refine VC.keep (ρ':=[(0,cJ.val),(13,.bool KG),(14,vK.val)]) [0,13,14] rfl ?_
 refine Zq (Zr ?_)
 refine Zy ?_
 refine vV 161 hS (fun h161 hS => ?_) (fun h161 hS => ?_)
 ·
  refine Zy ?_
  obtain ⟨aNN,aSY,hS⟩:=aK hS
  refine Zh (oB (K6 vK cJ aSY) rfl (fun _ _=>rfl)) ?_
  refine Zy ?_
  cases hS
  exact Ze
 refine VL.runs 5 [(2,some false)] (by kernel_rfl) ?_
 refine Zl ?_
 cases hS
 exact Ze
end Go.Proofs.YtcenmlklkpgmnabGreatDoor
end

section
namespace Go.S
structure wL where
  word:bB
  at_:Int
  deriving DecidableEq
structure qY where
  parts:List wL
  err:Int
  deriving DecidableEq
end Go.S
end

section
namespace Go.S
theorem rU {α:Type} {l:List α} {i:Int} (h0:0≤i) (h:i < l.length) : ∃ z,l[i.toNat]? = some z:=⟨_,List.getElem?_eq_getElem (by omega)⟩
theorem aZp {α:Type} [DecidableEq α] (P:α→α→Prop) [∀ z w,Decidable (P z w)] (hP : ∀ z w,P z w↔z=w) (l r:List α) (hl:(l.length:Int)=r.length) (hb:(l.length:Int)≤1000000000) (B:Int→Option (Int⊕Bool))
 (hB : ∀ i,B i=if i < (l.length:Int) then (at_ l i).bind (fun z=>(at_ r i).bind (fun w=>if P z w then gd (dP (i+1)) (go (i+1)) else up (some false))) else up (some true)):iter B 0=some (decide (l=r)):=by
 apply Ok.eq
 refine iH (I:=fun i=>0≤i∧i≤l.length∧l.take i.toNat=r.take i.toNat) (μ:=fun i=>(l.length - i).toNat) ?_ ⟨by omega,by omega,rfl⟩
 rintro i ⟨h0,h1,h2⟩
 rw [hB]
 simp only [fT,lH,gD,eL,nI,cY,nH]
 refine ⟨fun h => ?_,fun h => ?_⟩
 ·
  obtain ⟨z,hz⟩:=rU h0 h
  obtain ⟨w,hw⟩:=rU (l:=r) h0 (by omega)
  refine ⟨h0,z,hz,h0,w,hw,fun hp => ?_,fun hp => ?_⟩
  ·
   have e:=(hP z w).1 hp
   refine ⟨⟨by omega,by omega⟩,⟨by omega,by omega,?_⟩,by omega⟩
   rw [show (i+1).toNat=i.toNat+1 by omega,List.take_add_one,List.take_add_one,h2,hz,hw,e]
  have e:z≠w:=fun e=>hp ((hP z w).2 e)
  refine (decide_eq_false fun q=>e ?_).symm
  subst q
  rw [hz] at hw
  exact Option.some.inj hw
 have e:i.toNat=l.length:=by omega
 rw [e,List.take_length] at h2
 rw [show l.length=r.length by omega,List.take_length] at h2
 exact (decide_eq_true h2).symm
end Go.S
end

section
namespace Go.S
open Go
def a43 (o:aY):Prop:=(o.data.length:Int)≤5000∧(o.items.length:Int)≤80∧(o.parents.length:Int)≤80∧(o.text.length:Int)≤400
end Go.S
end

section
namespace Go.S
theorem aBT {α:Type} {l:List α} {i:Nat} {x:α} (h:l[i]? = some x):i < l.length:=(List.getElem?_eq_some_iff.1 h).1
theorem vS {α:Type} {l:List α} {i:Int} {z:α} (h0:0≤i) (h:l[i.toNat]? = some z):l.take (i+1).toNat=l.take i.toNat++[z]:=by
 rw [show (i+1).toNat=i.toNat+1 by omega,List.take_add_one,h]; rfl
theorem r8 {S R:Type} {K:S→Option R} {F:(S→Option R)→Option R} {Q:R→Prop} (P:S→Prop) (hK : ∀ s,P s→Ok (K s) Q) (hF : ∀ K':S→Option R,(∀ s,P s→Ok (K' s) Q)→Ok (F K') Q):Ok (jn K F) Q:=hF K hK
end Go.S
end

section
namespace Go.S
open Go
def J1 (c:UInt8):List UInt8→List (List UInt8)
  | []=>[[]]
  | x::r=>if x=c then []::J1 c r else match J1 c r with
    | []=>[[x]]
    | y::l=>(x::y)::l
theorem a3N (c:UInt8) : ∀ s,J1 c s≠[]
  | []=>by simp [J1]
  | x::r=>by
    unfold J1
    split
    . simp
    . split <;> simp
theorem aND (c:UInt8) : ∀ s,(J1 c s).length=s.count c+1
  | []=>by simp [J1]
  | x::r=>by
    have ih:=aND c r
    unfold J1
    by_cases h:x=c
    . simp [h,ih]
    . rw [if_neg h,List.count_cons_of_ne (by simpa using h)]
      cases hq:J1 c r with
      | nil=>exact absurd hq (a3N c r)
      | cons y l=>rw [hq] at ih; simpa using ih
theorem aQs {c:UInt8} : ∀ {s:List UInt8},c∉s→J1 c s=[s]
  | [],_=>rfl
  | x::r,h=>by
    have hx:x≠c:=fun e=>h (by simp [e])
    rw [J1,if_neg hx,aQs fun e=>h (List.mem_cons_of_mem _ e)]
theorem aQr {c:UInt8} : ∀ {a:List UInt8} (b:List UInt8),c∉a→J1 c (a++c::b)=a::J1 c b
  | [],b,_=>by simp [J1]
  | x::a,b,h=>by
    have hx:x≠c:=fun e=>h (by simp [e])
    rw [List.cons_append,J1,if_neg hx,aQr b fun e=>h (List.mem_cons_of_mem _ e)]
theorem aX4 {c:UInt8} : ∀ {a:List UInt8} (b:List UInt8),c∉a→Lib.indexByte (a++c::b) c=a.length
  | [],b,_=>by simp [Lib.indexByte]
  | x::a,b,h=>by
    have hx:(x==c)=false:=by simpa using fun e:x=c=>h (by simp [e])
    rw [List.cons_append,Lib.indexByte,hx,aX4 b fun e=>h (List.mem_cons_of_mem _ e)]
    simp
theorem aON {c:UInt8} {s:List UInt8} (h:c∈s) : ∃ a b,s=a++c::b∧c∉a:=by
 induction s with
 | nil=>cases h
 | cons x r ih =>
   by_cases hx:x=c
   . exact ⟨[],r,by simp [hx],by simp⟩
   . rcases List.mem_cons.1 h with q | q
     . exact absurd q.symm hx
     . obtain ⟨a,b,e,hn⟩:=ih q
       exact ⟨x::a,b,by simp [e],by simp [hn,Ne.symm hx]⟩
theorem aLF (c:UInt8):(c.toNat:Int).toNat.toUInt8=c:=by simp
theorem a1t (s:List UInt8) (c:UInt8):ixB s (c.toNat:Int)=Lib.indexByte s c:=by unfold ixB; rw [aLF]
theorem aSg (s:List UInt8) (c:UInt8):Sh.kD s [c]=some (Lib.indexByte s c):=by
 apply Ok.eq
 unfold Sh.kD
 simp only [aNz,fT,gD,cY,nH]
 refine ⟨fun h=>by simp at h,fun _=>⟨fun h => ?_,fun _=>⟨fun _=>⟨by omega,c,rfl,?_⟩,fun h=>by simp at h⟩⟩⟩
 ·
  have:s=[c]:=by simpa using (of_decide_eq_true h).symm
  rw [this]; simp [Lib.indexByte]
 unfold Sh.mV
 rw [a1t]; exact Ok.of rfl rfl
theorem aOL (s:List UInt8) (c:UInt8):Sh.tV s [c]=some (Lib.indexByte s c):=by
 unfold Sh.tV
 rw [aSg]; rfl
theorem aSU (s:List UInt8) (c:UInt8):Sh.AW s [c]=some (s.count c:Int):=by
 apply Ok.eq
 unfold Sh.AW
 rw [if_neg (by simp),if_pos (by simp)]
 simp only [gD,nH,cY]
 refine ⟨by omega,c,rfl,?_⟩
 unfold aOv Lib.countByte
 rw [aLF]
theorem aTl {s:List UInt8} (c:UInt8) (hs:s.length≤1000000000):Sh.xJ s [c]=some (J1 c s):=by
 apply Ok.eq
 unfold Sh.xJ Sh.zW
 rw [gD]
 have hc:s.count c≤s.length:=List.count_le_length
 simp only [aSU,aNz,fT,gD,eL,gX,cY,nH]
 refine ⟨fun h=>by omega,fun _=>⟨fun h=>by simp at h,fun _=>⟨fun _ => ?_,fun h=>by omega⟩⟩⟩
 have hm:(min ((s.count c:Int)+1) ((s.length:Int)+1))=(s.count c:Int)+1:=by omega
 rw [hm]
 refine ⟨⟨by omega,by omega⟩,⟨by omega,by omega⟩,⟨by omega,by omega⟩,⟨by omega,by omega⟩,?_⟩
 refine iH (I:=fun t=>0≤t.2.2∧t.2.2+t.1.count c=s.count c∧t.2.1.length=s.count c+1∧t.2.1.take t.2.2.toNat++J1 c t.1=J1 c s∧t.1.length≤s.length) (μ:=fun t=>t.1.length) ?_ ⟨by simp,by simp,by simp,by simp,by simp⟩
 rintro ⟨x,l,i⟩ ⟨i0,i1,i2,i3,i4⟩
 dsimp only at i0 i1 i2 i3 i4 ⊢
 have fin:c∉x→Ok (((at_ l i).bind fun aSI=>lt (l.set i.toNat x) fun aCb=>gd (dP (i+1)) (gd ((0:Int)≤(i+1)∧(i+1)≤(aCb.length:Int)) (lt (aCb.take (i+1).toNat) fun aKl=>some aKl)))) (fun a=>a=J1 c s):=fun hx=>by
   rw [aQs hx] at i3
   rw [List.count_eq_zero_of_not_mem hx] at i1
   simp only [gD,eL,gX,cY,nH]
   obtain ⟨z,hz⟩:=rU (l:=l) i0 (by omega)
   refine ⟨i0,z,hz,⟨by omega,by omega⟩,⟨by omega,by rw [List.length_set]; omega⟩,?_⟩
   rw [← i3,show (i+1).toNat=i.toNat+1 by omega,List.take_add_one,List.getElem?_set,if_pos rfl,if_pos (aBT hz),List.take_set_of_le (Nat.le_refl _)]
   simp
 simp only [aNz,fT,lH,gD,eL,gX,nI,cY,nH,aOL] at fin ⊢
 refine ⟨fun hi => ?_,fun hi => ?_⟩
 ·
  have hmem:c∈x:=List.count_pos_iff.1 (by omega)
  obtain ⟨a,b,e,ha⟩:=aON hmem
  subst e
  rw [aX4 b ha]
  have hl:(a++c::b).length=a.length+b.length+1:=by simp; omega
  have hcb:(a++c::b).count c=b.count c+1:=by simp [List.count_eq_zero_of_not_mem ha]
  obtain ⟨z,hz⟩:=rU (l:=l) i0 (by omega)
  refine ⟨fun h=>by omega,fun _=>⟨⟨by omega,by omega⟩,⟨by omega,by omega⟩,i0,z,hz,⟨by simp; omega,by simp; omega⟩,⟨by simp; omega,by simp; omega⟩,⟨by omega,by omega⟩,⟨by omega,?_,by simpa using i2,?_,?_⟩,?_⟩⟩
  ·
   simp only [List.length_cons,List.length_nil]
   rw [show ((a.length:Int)+((0+1:Nat):Int)).toNat=a.length+1 by omega]
   have:(a++c::b).drop (a.length+1)=b:=by simp
   rw [this]; omega
  ·
   simp only [List.length_cons,List.length_nil]
   rw [show ((a.length:Int)+((0+1:Nat):Int)).toNat=a.length+1 by omega,show ((a.length:Int)+0).toNat=a.length by omega]
   have e1:(a++c::b).drop (a.length+1)=b:=by simp
   have e2:(a++c::b).take a.length=a:=by simp
   rw [e1,e2,← i3,aQr b ha,show (i+1).toNat=i.toNat+1 by omega,List.take_add_one,List.getElem?_set,if_pos rfl,if_pos (aBT hz),List.take_set_of_le (Nat.le_refl _)]
   simp
  ·
   simp; omega
  simp; omega
 exact fin fun hm=>by have:=List.count_pos_iff.2 hm; omega
theorem aIg (c:UInt8) : ∀ (s:List UInt8),∀ y∈J1 c s,y.length≤s.length
  | [],y,h=>by simp [J1] at h; simp [h]
  | x::r,y,h=>by
    have ih:=aIg c r
    unfold J1 at h
    split at h
    . rcases List.mem_cons.1 h with q | q
      . simp [q]
      . have:=ih y q; simp; omega
    . split at h
      . have:=List.mem_singleton.1 h; simp [this]
      . next a l hq =>
        rcases List.mem_cons.1 h with q | q
        . have:=ih a (by rw [hq]; simp); simp [q]; omega
        . have:=ih y (by rw [hq]; simp [q]); simp; omega
end Go.S
end

section
namespace Go.S
open Go
def aFg (n:Nat):Bool:=decide (97≤n∧n≤122)||decide (48≤n∧n≤57)||decide (n=46)||decide (n=45)||decide (n=95)
theorem aSa : ∀ i:Fin 256,Sh.LN ((i.val:Nat):Int)=some (aFg i.val):=by decide +kernel
theorem aWU (z:UInt8):Sh.LN (z.toNat:Int)=some (aFg z.toNat):=aSa ⟨z.toNat,z.toNat_lt⟩
def aKE (s:List UInt8):Bool := !(decide (s=[])||decide (s=[46])||decide (s=[46,46]))&&s.all fun z=>aFg z.toNat
theorem aHq {α:Type} (p:α→Bool) (l:List α) (z:α):(l++[z]).all p=(l.all p&&p z):=by simp
theorem all_false {α:Type} {p:α→Bool} {l:List α} {z:α} (hz:z∈l) (h:p z=false):l.all p=false:=by
 cases hq:l.all p with
 | false=>rfl
 | true=>rw [List.all_eq_true.1 hq z hz] at h; cases h
theorem aXr {s:List UInt8} (hs:s.length≤1000000000):Sh.LO s=some (aKE s):=by
 apply Ok.eq
 unfold Sh.LO aKE
 refine r8 (fun q=>q=(decide (s=[])||decide (s=[46])||decide (s=[46,46]))) ?_ ?_
 ·
  rintro q rfl
  generalize (decide (s=[])||decide (s=[46])||decide (s=[46,46]))=q
  simp only [fT,cY,eL,gX]
  refine ⟨fun h=>by rw [h]; rfl,fun h=>⟨by omega,?_⟩⟩
  have hq:q=false:=by simpa using h
  subst hq
  rw [Bool.not_false,Bool.true_and]
  refine iH (I:=fun i=>0≤i∧i≤s.length∧(s.take i.toNat).all (fun z=>aFg z.toNat)=true) (μ:=fun i=>(s.length - i).toNat) ?_ ⟨by omega,by omega,by simp⟩
  rintro i ⟨i0,i1,i2⟩
  simp only [fT,lH,gD,eL,nI,cY,nH,aWU]
  refine ⟨fun hi => ?_,fun hi => ?_⟩
  ·
   obtain ⟨z,hz⟩:=rU (l:=s) i0 hi
   refine ⟨i0,z,hz,fun hb => ?_,fun hg=>⟨⟨by omega,by omega⟩,⟨by omega,by omega,?_⟩,by omega⟩⟩
   ·
    exact (all_false (p:=fun z:UInt8=>aFg z.toNat) (List.mem_of_getElem? hz) (by simpa using hb)).symm
   rw [vS i0 hz,aHq,i2]; simpa using hg
  rw [← i2,show i.toNat=s.length by omega,List.take_length]
 intro K hK
 simp only [fT]
 refine ⟨fun h=>hK _ (by simp [h]),fun h1=>⟨fun h=>hK _ (by simp [h]),fun h2=>hK _ (by simp [h1,h2])⟩⟩
def A9 (p:List UInt8):Int:=if 64 < p.length then 4 else if (J1 47 p).all aKE then 0 else 5
theorem aGS (p:List UInt8):Sh.AK p=some (A9 p):=by
 apply Ok.eq
 unfold Sh.AK A9
 simp only [fT,cY]
 refine ⟨fun h=>by rw [if_pos (by omega)],fun h => ?_⟩
 rw [if_neg (by omega),aTl 47 (by omega),Option.bind_some]
 have hpart:=aIg 47 p
 have hlen:=aND 47 p
 have hcnt:p.count 47≤p.length:=List.count_le_length
 generalize J1 47 p=L at *
 refine iH (I:=fun i=>0≤i∧i≤L.length∧(L.take i.toNat).all aKE=true) (μ:=fun i=>(L.length - i).toNat) ?_ ⟨by omega,by omega,by simp⟩
 rintro i ⟨i0,i1,i2⟩
 simp only [fT,lH,gD,eL,nI,cY,nH]
 refine ⟨fun hi => ?_,fun hi => ?_⟩
 ·
  obtain ⟨z,hz⟩:=rU (l:=L) i0 hi
  have:=hpart z (List.mem_of_getElem? hz)
  refine ⟨i0,z,hz,Ok.of (aXr (by omega)) ⟨fun hb => ?_,fun hg=>⟨⟨by omega,by omega⟩,⟨by omega,by omega,?_⟩,by omega⟩⟩⟩
  ·
   rw [all_false (List.mem_of_getElem? hz) (by simpa using hb)]; rfl
  rw [vS i0 hz,aHq,i2]; simpa using hg
 rw [show i.toNat=L.length by omega,List.take_length] at i2
 rw [i2]; rfl
def aE9 (p d:List UInt8):Bool:=if d=[] then !decide (p=[]) else decide (d.length+1 < p.length∧p.take (d.length+1)=d++[47])
theorem aIi {p d:List UInt8} (hd:d.length≤1000000000):Sh.D8 p d=some (aE9 p d):=by
 apply Ok.eq
 unfold Sh.D8 aE9 Sh.yD Sh.mU
 simp only [fT,cY,eL,gX,gD]
 refine ⟨fun h=>by rw [if_pos h],fun h=>⟨⟨by omega,by omega⟩,fun hl=>⟨by simp; omega,?_⟩,fun hl => ?_⟩⟩
 ·
  rw [if_neg h]
  refine ⟨fun hp=>⟨⟨by omega,by simpa using hp⟩,?_⟩,fun hp => ?_⟩
  ·
   simp only [List.length_append,List.length_singleton]
   rw [show (((d.length+1:Nat)):Int).toNat=d.length+1 by omega]
   exact decide_eq_decide.2 ⟨fun q=>⟨by omega,q⟩,fun q=>q.2⟩
  simp at hp; omega
 rw [if_neg h]
 symm; exact decide_eq_false (by omega)
def EU (a b:List UInt8):Bool:=decide (a≠[])&&decide (b≠[])&&(aE9 a b||aE9 b a)
theorem aHy {a b:List UInt8} (ha:a.length≤1000000000) (hb:b.length≤1000000000):Sh.s9 a b=some (EU a b):=by
 apply Ok.eq
 unfold Sh.s9 EU
 simp only [fT,cY,gD,aIi ha,aIi hb]
 refine ⟨fun h=>by simp [h],fun h=>⟨fun h2=>by simp [h2],fun h2=>⟨fun h3=>by simp [h,h2,h3],fun h3=>by simp [h,h2,h3]⟩⟩⟩
theorem aDw (a b:List UInt8) : ∃ n,Sh.pH a b=some n∧(0≤n↔Op.bytesLess a b=false):=by
 unfold Sh.pH Sh.qB Sh.cmp_isNaN_string
 simp only [Option.bind_some]
 cases h:Op.bytesLess a b with
 | true=>exact ⟨-1,by simp [h],by simp⟩
 | false =>
   by_cases he:a=b
   . exact ⟨0,by simp [h,he],by simp⟩
   . exact ⟨1,by simp [h,he],by simp⟩
end Go.S
end

section
namespace Go.S
open Go
def ofP:List wL→Int→eY
  | [],e => .no e
  | p::r,e => .fault p.word p.at_ (ofP r e)
def ofW (w:qY):eY:=if w.err=0 then .nil else ofP w.parts w.err
def Pok (l:List wL):Prop := ∀ p∈l,p.word.length≤1000∧0≤p.at_∧p.at_≤9223372036854775807
theorem aIU (l:List wL) (e:Int):(ofP l e).isNil=false∧aUO (ofP l e)=some e:=by
 induction l with
 | nil=>exact ⟨rfl,rfl⟩
 | cons p r ih=>exact ⟨rfl,ih.2⟩
end Go.S
end

section
namespace Go.S
open Go
def G5 (l:List b5) (i:Nat):Int:=match l[i]? with
  | none=>0
  | some x =>
    if A9 x.path≠0 then A9 x.path
    else if ¬ (x.mode=1∨x.mode=2)∨x.oJ < 1 then 1
    else if 0 < i ∧ ∃ y,l[i - 1]? = some y∧Op.bytesLess y.path x.path=false then 6
    else if (l.take i).any (fun y=>EU y.path x.path)=true then 11
    else 0
def Sh7 (l:List b5):Prop:=l.length≤1000000 ∧ ∀ x∈l,x.path.length≤1000000
theorem aXb (m:Int):Sh.FJ m=some (decide (m=1∨m=2)):=by
 unfold Sh.FJ
 simp only [jn]
 by_cases h1:m=1
 ·
  simp [h1]
 by_cases h2:m=2 <;> simp [h1,h2]
theorem aHr {α:Type} (p:α→Bool) (l:List α) (z:α):(l++[z]).any p=(l.any p||p z):=by simp
theorem any_true {α:Type} {p:α→Bool} {l:List α} {z:α} (hz:z∈l) (h:p z=true):l.any p=true:=List.any_eq_true.2 ⟨z,hz,h⟩
theorem aH5 {l:List b5} {x:b5} (hl:l.length≤1000000) (hp : ∀ y∈l,y.path.length≤1000000) (hx:x.path.length≤1000000):Sh.gM l x=some (l.any fun y=>EU y.path x.path):=by
 apply Ok.eq
 unfold Sh.gM Sh.jH Sh.FI
 rw [gD]
 refine iH (I:=fun i=>0≤i∧i≤l.length∧(l.take i.toNat).any (fun y=>EU y.path x.path)=false) (μ:=fun i=>(l.length - i).toNat) ?_ ⟨by omega,by omega,by simp⟩
 rintro i ⟨i0,i1,i2⟩
 simp only [fT,lH,gD,eL,nI,cY,nH]
 refine ⟨fun hi => ?_,fun hi => ?_⟩
 ·
  obtain ⟨z,hz⟩:=rU (l:=l) i0 hi
  have hzl:=hp z (List.mem_of_getElem? hz)
  refine ⟨i0,z,hz,Ok.of (aHy (by omega) (by omega)) ⟨fun h => ?_,fun h=>⟨⟨by omega,by omega⟩,⟨by omega,by omega,?_⟩,by omega⟩⟩⟩
  ·
   rw [any_true (List.mem_of_getElem? hz) h]; exact decide_eq_true i0
  rw [vS i0 hz,aHr,i2]; simpa using h
 rw [show i.toNat=l.length by omega,List.take_length] at i2
 rw [i2]; rfl
theorem aX0 {l:List b5} {i:Int} (hs:Sh7 l) (i0:0≤i) (hi:i < l.length):Sh.FH l i=some (G5 l i.toNat):=by
 apply Ok.eq
 obtain ⟨hl,hp⟩:=hs
 unfold Sh.FH G5
 obtain ⟨x,hx⟩:=rU (l:=l) i0 hi
 have hxl:=hp x (List.mem_of_getElem? hx)
 rw [hx]
 simp only [gD,nH]
 refine ⟨i0,x,hx,Ok.of (aGS _) ?_⟩
 simp only [fT,cY]
 refine ⟨fun h0 => ?_,fun h0=>by rw [if_pos h0]⟩
 rw [if_neg (by simpa using h0)]
 refine r8 (fun q=>q=decide (¬ (x.mode=1∨x.mode=2)∨x.oJ < 1)) ?_ ?_
 ·
  rintro q rfl
  simp only [fT,cY,decide_eq_true_eq]
  refine ⟨fun h=>by rw [if_pos h],fun h => ?_⟩
  rw [if_neg h]
  refine r8 (fun q=>q=true↔(0 < i.toNat ∧ ∃ y,l[i.toNat - 1]? = some y∧Op.bytesLess y.path x.path=false)) ?_ ?_
  ·
   intro q hq
   simp only [fT,cY,eL,gX,gD]
   refine ⟨fun h=>by rw [if_pos (hq.1 h)],fun h=>⟨⟨i0,by omega⟩,?_⟩⟩
   rw [if_neg fun e=>h (hq.2 e)]
   refine Ok.of (aH5 (by rw [List.length_take]; omega) (fun y hy=>hp y (List.mem_of_mem_take hy)) hxl) ⟨fun h=>by rw [if_pos h],fun h=>by rw [if_neg h]⟩
  intro K hK
  simp only [fT,eL,gD,nH]
  refine ⟨fun h=>⟨⟨by omega,by omega⟩,by omega,?_⟩,fun h=>hK _ ⟨fun e=>(by cases e),fun e=>by omega⟩⟩
  obtain ⟨y,hy⟩:=rU (l:=l) (i:=i - 1) (by omega) (by omega)
  obtain ⟨n,hn,hn2⟩:=aDw y.path x.path
  refine ⟨y,hy,Ok.of hn (hK _ ?_)⟩
  rw [decide_eq_true_eq,hn2]
  rw [show (i - 1).toNat=i.toNat - 1 by omega] at hy
  exact ⟨fun q=>⟨by omega,y,hy,q⟩,fun q=>by obtain ⟨_,z,hz,hb⟩:=q; rw [hy] at hz; cases hz; exact hb⟩
 intro K hK
 rw [aXb,Option.bind_some]
 simp only [fT]
 refine ⟨fun h=>hK _ ?_,fun h=>hK _ ?_⟩
 ·
  have : ¬ (x.mode=1∨x.mode=2):=by simpa using h
  simp [this]
 have:x.mode=1∨x.mode=2:=Classical.byContradiction fun q=>h (by simp [q])
 simp [this]
theorem aLI (p:List UInt8):A9 p=0∨A9 p=4∨A9 p=5:=by
 unfold A9
 split
 ·
  exact .inr (.inl rfl)
 split
 ·
  exact .inl rfl
 exact .inr (.inr rfl)
theorem aNu (l:List b5) (i:Nat):G5 l i=0∨(1≤G5 l i∧G5 l i≤11):=by
 unfold G5
 split
 ·
  exact .inl rfl
 next x _ =>
 have:=aLI x.path
 repeat' split
 all_goals omega
end Go.S
end

section
namespace Go.S
open Go
def aXm:List UInt8:=[111,98,106,101,99,116]
def aJv:List UInt8:=[105,116,101,109]
def cT (l:List b5):Nat→Nat→Option (Nat×Int)
  | 0,_=>none
  | k+1,i=>if G5 l i≠0 then some (i,G5 l i) else cT l k (i+1)
theorem aOu (l:List b5) : ∀ (k i:Nat) (a:Nat) (e:Int),cT l k i=some (a,e)→a < i+k∧1≤e∧e≤11
  | 0,i,a,e,h=>by cases h
  | k+1,i,a,e,h=>by
    unfold cT at h
    split at h
    . next h0 =>
      have:=aNu l i
      simp at h
      rcases this with q | q
      . exact absurd q h0
      . omega
    . have:=aOu l k (i+1) a e h
      omega
def FF (o:aY):Option (List wL×Int) :=
  if o.kind=1 then (if 4096 < o.data.length then some ([],4) else none)
  else if o.kind=2 then (if 64 < o.items.length then some ([],4) else (cT o.items o.items.length 0).map fun q=>([⟨aJv,q.1⟩],q.2))
  else if o.kind=3 then
    (if o.tree < 1∨2 < o.parents.length∨(o.parents.any fun n=>decide (n < 1))=true∨o.time < 0 then some ([],1)
     else if o.parents.length=2∧o.parents[0]? = o.parents[1]? then some ([],6)
     else if 256 < o.text.length then some ([],4) else none)
  else some ([],1)
theorem aDH {o:aY} {ps:List wL} {e:Int} (h:FF o=some (ps,e)) (hl:o.items.length≤1000000):1≤e∧e≤11∧ps.length≤1∧Pok ps:=by
 have none_:Pok []:=fun p hp=>by cases hp
 unfold FF at h
 repeat' split at h
 all_goals try (simp only [Option.some.injEq,Prod.mk.injEq] at h; obtain ⟨rfl,rfl⟩:=h; exact ⟨by decide,by decide,by decide,none_⟩)
 all_goals try (cases h; done)
 obtain ⟨⟨a,e'⟩,h1,h2⟩:=Option.map_eq_some_iff.1 h
 simp only [Prod.mk.injEq] at h2
 obtain ⟨rfl,rfl⟩:=h2
 have:=aOu _ _ _ _ _ h1
 refine ⟨by omega,by omega,by simp,fun p hp => ?_⟩
 cases List.mem_singleton.1 hp
 exact ⟨by show aJv.length≤1000; decide,by dsimp only; omega,by dsimp only; omega⟩
def kd (k:Int):Int:=min (max k 0) 255
def ZJ (o:aY):qY:=match FF o with
  | none=>⟨[],0⟩
  | some (ps,e)=>⟨⟨aXm,kd o.kind⟩::ps,e⟩
theorem aYr {o:aY} (hs:Sh7 o.items):Sh.FL o=some (if 64 < o.items.length then .no 4 else match cT o.items o.items.length 0 with | none => .nil | some (i,e) => .fault aJv i (.no e)):=by
 apply Ok.eq
 unfold Sh.FL
 simp only [fT,cY]
 refine ⟨fun h=>by rw [if_pos (by omega)],fun h => ?_⟩
 rw [if_neg (by omega)]
 generalize hL:o.items=l at *
 refine iH (I:=fun i=>0≤i∧i≤l.length∧cT l (l.length - i.toNat) i.toNat=cT l l.length 0) (μ:=fun i=>(l.length - i).toNat) ?_ ⟨by omega,by omega,by simp⟩
 rintro i ⟨i0,i1,i2⟩
 simp only [fT,lH,gD,eL,nI,cY]
 refine ⟨fun hi=>Ok.of (aX0 hs i0 hi) ?_,fun hi => ?_⟩
 ·
  rw [show l.length - i.toNat=(l.length - (i+1).toNat)+1 by omega,cT] at i2
  refine ⟨fun h0=>⟨⟨by omega,by omega⟩,⟨by omega,by omega,?_⟩,by omega⟩,fun h0 => ?_⟩
  ·
   rw [if_neg (by simpa using h0)] at i2
   rw [show (i+1).toNat=i.toNat+1 by omega] at i2 ⊢; exact i2
  rw [if_pos h0] at i2
  rw [← i2]
  dsimp only
  rw [show ((i.toNat:Nat):Int)=i by omega]; rfl
 rw [show l.length - i.toNat=0 by omega,cT] at i2
 rw [← i2]
theorem aNT {l:List Int} (hl:l.length≤1000000):Sh.lR l=some (l.any fun n=>decide (n < 1)):=by
 apply Ok.eq
 unfold Sh.lR Sh.oH Sh.BL
 rw [gD]
 refine iH (I:=fun i=>0≤i∧i≤l.length∧(l.take i.toNat).any (fun n=>decide (n < 1))=false) (μ:=fun i=>(l.length - i).toNat) ?_ ⟨by omega,by omega,by simp⟩
 rintro i ⟨i0,i1,i2⟩
 simp only [fT,lH,gD,eL,nI,cY,nH]
 refine ⟨fun hi => ?_,fun hi => ?_⟩
 ·
  obtain ⟨z,hz⟩:=rU (l:=l) i0 hi
  refine ⟨i0,z,hz,fun h => ?_,fun h=>⟨⟨by omega,by omega⟩,⟨by omega,by omega,?_⟩,by omega⟩⟩
  ·
   rw [any_true (p:=fun n:Int=>decide (n < 1)) (List.mem_of_getElem? hz) h]; exact decide_eq_true i0
  rw [vS i0 hz,aHr,i2]; simpa using h
 rw [show i.toNat=l.length by omega,List.take_length] at i2
 rw [i2]; rfl
theorem aN8 {o:aY} (hl:o.parents.length≤1000000):Sh.AJ o=some (if o.tree < 1∨2 < o.parents.length∨(o.parents.any fun n=>decide (n < 1))=true∨o.time < 0 then .no 1
 else if o.parents.length=2∧o.parents[0]? = o.parents[1]? then .no 6
 else if 256 < o.text.length then .no 4 else .nil):=by
 apply Ok.eq
 unfold Sh.AJ
 refine r8 (fun q=>q=true↔(o.tree < 1∨2 < o.parents.length∨(o.parents.any fun n=>decide (n < 1))=true∨o.time < 0)) ?_ ?_
 ·
  intro q hq
  simp only [fT,cY]
  refine ⟨fun h=>by rw [if_pos (hq.1 h)],fun h => ?_⟩
  rw [if_neg fun e=>h (hq.2 e)]
  refine r8 (fun q=>q=true↔(o.parents.length=2∧o.parents[0]? = o.parents[1]?)) ?_ ?_
  ·
   intro q hq
   simp only [fT,cY]
   refine ⟨fun h=>by rw [if_pos (hq.1 h)],fun h => ?_⟩
   rw [if_neg fun e=>h (hq.2 e)]
   exact ⟨fun h=>by rw [if_pos (by omega)],fun h=>by rw [if_neg (by omega)]⟩
  intro K hK
  simp only [fT,gD,nH]
  refine ⟨fun h => ?_,fun h=>hK _ ⟨fun e=>(by cases e),fun e=>by omega⟩⟩
  obtain ⟨a,ha⟩:=rU (l:=o.parents) (i:=0) (by omega) (by omega)
  obtain ⟨b,hb⟩:=rU (l:=o.parents) (i:=1) (by omega) (by omega)
  refine ⟨by omega,a,ha,by omega,b,hb,hK _ ?_⟩
  have ha':o.parents[0]? = some a:=ha
  have hb':o.parents[1]? = some b:=hb
  rw [ha',hb',decide_eq_true_eq]
  exact ⟨fun q=>⟨by omega,by rw [q]⟩,fun q=>Option.some.inj q.2⟩
 intro K hK
 simp only [fT,gD]
 refine ⟨fun h=>hK _ ⟨fun _ => .inl h,fun _=>rfl⟩,fun h1=>⟨fun h=>hK _ ⟨fun _ => .inr (.inl (by omega)),fun _=>rfl⟩,fun h2=>Ok.of (aNT hl) ⟨fun h=>hK _ ⟨fun _ => .inr (.inr (.inl h)),fun _=>rfl⟩,fun h3=>hK _ ?_⟩⟩⟩
 rw [decide_eq_true_eq]
 exact ⟨fun q => .inr (.inr (.inr q)),fun q=>by
   rcases q with q | q | q | q
   . exact absurd q h1
   . omega
   . exact absurd q h3
   . exact q⟩
theorem aN6 {o:aY} (hs:Sh7 o.items) (hl:o.parents.length≤1000000):Sh.CN o=some (ofW (ZJ o)):=by
 apply Ok.eq
 unfold Sh.CN Sh.s7
 have hw:Sh.CO o=some (match FF o with | none => .nil | some (ps,e)=>ofP ps e):=by
   apply Ok.eq
   unfold Sh.CO FF
   simp only [fT,gD,cY]
   refine ⟨fun h1 => ?_,fun h1=>⟨fun h2 => ?_,fun h2=>⟨fun h3 => ?_,fun h3 => ?_⟩⟩⟩
   . rw [if_pos h1]
     exact ⟨fun h=>by rw [if_pos (by omega)]; rfl,fun h=>by rw [if_neg (by omega)]⟩
   . rw [if_neg h1,if_pos h2]
     refine Ok.of (aYr hs) ?_
     by_cases h64:64 < o.items.length
     . rw [if_pos h64,if_pos h64]; rfl
     . rw [if_neg h64,if_neg h64]
       cases cT o.items o.items.length 0 with
       | none=>rfl
       | some q=>rfl
   . rw [if_neg h1,if_neg h2,if_pos h3]
     refine Ok.of (aN8 hl) ?_
     repeat' split
     all_goals first | rfl | simp_all [ofP]
   . rw [if_neg h1,if_neg h2,if_neg h3]; rfl
 rw [hw,Option.bind_some]
 unfold ZJ
 cases h:FF o with
 | none=>exact Ok.of (a:=eY.nil) rfl rfl
 | some q =>
   obtain ⟨ps,e⟩:=q
   obtain ⟨h1,h2,h3,h4⟩:=aDH h hs.1
   dsimp only
   rw [(aIU ps e).1,if_neg (by simp),gD,cY,cY,ofW,if_neg (by dsimp only; omega)]
   rfl
end Go.S
end

section
namespace Go.S
open Go
end Go.S
end

section
namespace Go.S
open Go
theorem aIk {n:Nat} (h:n < 18446744073709551616):IntKind.wrap .u64 (n:Int)=n:=IntWalk.u64_in _ (by omega)
theorem wU8 {n:Nat} (h:n < 256):IntKind.wrap .u8 (n:Int)=n:=IntWalk.u8_in _ (by omega)
theorem aNI (x:Int):0≤IntKind.wrap .u8 x∧IntKind.wrap .u8 x≤255:=by
 simp only [IntKind.wrap,IntKind.bits,IntKind.signed]
 have h1:=Int.emod_nonneg x (b:=2 ^ 8) (by decide)
 have h2:=Int.emod_lt_of_pos x (b:=2 ^ 8) (by decide)
 simp at h1 h2 ⊢
 omega
theorem aOq {x y:Nat} (hx:x < 18446744073709551616) (hy:y < 18446744073709551616):gE .u64 x y=((x &&& y:Nat):Int):=by
 unfold gE
 have h:(BitVec.ofInt IntKind.u64.bits (x:Int) &&& BitVec.ofInt IntKind.u64.bits (y:Int)).toNat=x &&& y:=by
   show (BitVec.ofInt 64 (x:Int) &&& BitVec.ofInt 64 (y:Int)).toNat=x &&& y
   rw [BitVec.toNat_and,BitVec.ofInt_natCast,BitVec.ofInt_natCast,BitVec.toNat_ofNat,BitVec.toNat_ofNat,Nat.mod_eq_of_lt (by omega),Nat.mod_eq_of_lt (by omega)]
 rw [h]
 exact aIk (Nat.lt_of_le_of_lt Nat.and_le_left hx)
theorem a4q {x y:Nat} (hx:x < 18446744073709551616) (hy:y < 18446744073709551616):GH .u64 x y=((x ||| y:Nat):Int):=by
 unfold GH
 have h:(BitVec.ofInt IntKind.u64.bits (x:Int) ||| BitVec.ofInt IntKind.u64.bits (y:Int)).toNat=x ||| y:=by
   show (BitVec.ofInt 64 (x:Int) ||| BitVec.ofInt 64 (y:Int)).toNat=x ||| y
   rw [BitVec.toNat_or,BitVec.ofInt_natCast,BitVec.ofInt_natCast,BitVec.toNat_ofNat,BitVec.toNat_ofNat,Nat.mod_eq_of_lt (by omega),Nat.mod_eq_of_lt (by omega)]
 rw [h]
 exact aIk (Nat.or_lt_two_pow (n:=64) hx hy)
theorem a66 {x y:Nat} (hx:x < 256) (hy:y < 256):GH .u8 x y=((x ||| y:Nat):Int):=by
 unfold GH
 have h:(BitVec.ofInt IntKind.u8.bits (x:Int) ||| BitVec.ofInt IntKind.u8.bits (y:Int)).toNat=x ||| y:=by
   show (BitVec.ofInt 8 (x:Int) ||| BitVec.ofInt 8 (y:Int)).toNat=x ||| y
   rw [BitVec.toNat_or,BitVec.ofInt_natCast,BitVec.ofInt_natCast,BitVec.toNat_ofNat,BitVec.toNat_ofNat,Nat.mod_eq_of_lt (by omega),Nat.mod_eq_of_lt (by omega)]
 rw [h]
 exact wU8 (Nat.or_lt_two_pow (n:=8) hx hy)
theorem a4p {x y:Nat} (hx:x < 256) (hy:y < 256):gE .u8 x y=((x &&& y:Nat):Int):=by
 unfold gE
 have h:(BitVec.ofInt IntKind.u8.bits (x:Int) &&& BitVec.ofInt IntKind.u8.bits (y:Int)).toNat=x &&& y:=by
   show (BitVec.ofInt 8 (x:Int) &&& BitVec.ofInt 8 (y:Int)).toNat=x &&& y
   rw [BitVec.toNat_and,BitVec.ofInt_natCast,BitVec.ofInt_natCast,BitVec.toNat_ofNat,BitVec.toNat_ofNat,Nat.mod_eq_of_lt (by omega),Nat.mod_eq_of_lt (by omega)]
 rw [h]
 exact wU8 (Nat.lt_of_le_of_lt Nat.and_le_left hx)
theorem aOr {x y:Nat} (hx:x < 18446744073709551616) (hy:y < 18446744073709551616):fF .u64 x y=((x ^^^ y:Nat):Int):=by
 unfold fF
 have h:(BitVec.ofInt IntKind.u64.bits (x:Int) ^^^ BitVec.ofInt IntKind.u64.bits (y:Int)).toNat=x ^^^ y:=by
   show (BitVec.ofInt 64 (x:Int) ^^^ BitVec.ofInt 64 (y:Int)).toNat=x ^^^ y
   rw [BitVec.toNat_xor,BitVec.ofInt_natCast,BitVec.ofInt_natCast,BitVec.toNat_ofNat,BitVec.toNat_ofNat,Nat.mod_eq_of_lt (by omega),Nat.mod_eq_of_lt (by omega)]
 rw [h]
 exact aIk (Nat.xor_lt_two_pow (n:=64) hx hy)
theorem aYh (x k:Nat) (hk:k≤64):nD .u64 x (k:Int)=((x / 2 ^ k:Nat):Int):=by
 unfold nD
 show Int.fdiv (x:Int) (2 ^ min (k:Int).toNat 64)=_
 rw [Int.toNat_natCast,Nat.min_eq_left hk]
 rw [show ((2:Int) ^ k)=((2 ^ k:Nat):Int) by simp]
 rw [Int.fdiv_eq_ediv_of_nonneg _ (Int.natCast_nonneg _)]
 simp
theorem aYg (x k:Nat) (hk:k≤64) (h:x*2 ^ k < 18446744073709551616):I0 .u64 x (k:Int)=((x*2 ^ k:Nat):Int):=by
 unfold I0
 show IntKind.wrap .u64 ((x:Int)*2 ^ min (k:Int).toNat 64)=_
 rw [Int.toNat_natCast,Nat.min_eq_left hk,show ((x:Int)*2 ^ k)=((x*2 ^ k:Nat):Int) by simp]
 exact aIk h
theorem aOl (x:Nat):x &&& 127=x % 128:=Nat.and_two_pow_sub_one_eq_mod x 7
theorem a6W (x:Nat):x &&& 1=x % 2:=Nat.and_two_pow_sub_one_eq_mod x 1
theorem a5Y {x:Nat} (h:x < 128):x ||| 128=x+128:=by
 have:=Nat.two_pow_add_eq_or_of_lt (i:=7) h 1
 rw [Nat.or_comm,show (128:Nat)=2 ^ 7*1 by rfl,← this]
 omega
theorem aSq {v x k:Nat} (h:v < 2 ^ k):v ||| x*2 ^ k=v+x*2 ^ k:=by
 have:=Nat.two_pow_add_eq_or_of_lt h x
 rw [Nat.or_comm,Nat.mul_comm x,← this,Nat.add_comm]
end Go.S
end

section
namespace Go.S
open Go
def aUJ (c:Int):Int:=if gE .u32 c 1=1 then fF .u32 (nD .u32 c 1) 3988292384 else nD .u32 c 1
def aFH:Nat→Int→Int
  | 0,c=>c
  | n+1,c=>aFH n (aUJ c)
def aUK (c:Int) (z:UInt8):Int:=aFH 8 (fF .u32 c (IntKind.wrap .u32 (z.toNat:Int)))
def aNG (b:List UInt8):Int:=GN .u32 (b.foldl aUK 4294967295)
def b8 (x:Int):UInt8:=UInt8.ofNat (IntKind.wrap .u8 x).toNat
def LP (b:List UInt8):List UInt8:=b++[b8 (aNG b),b8 (nD .u32 (aNG b) 8),b8 (nD .u32 (aNG b) 16),b8 (nD .u32 (aNG b) 24)]
theorem aIW (b:List UInt8):(LP b).length=b.length+4:=by simp [LP]
theorem a5Q {R:Type} {c:Int} {K:Int→Option R} {Q:R→Prop} (hK:Ok (K (aFH 8 c)) Q) {B:Int×Int→Option ((Int×Int)⊕R)}
 (hB : ∀ t,B t=if t.2 < 8 then (if gE .u32 t.1 1=1 then (gd (dP (t.2+1)) (go ((fF .u32 (nD .u32 t.1 1) 3988292384),(t.2+1)))) else (gd (dP (t.2+1)) (go ((nD .u32 t.1 1),(t.2+1))))) else up (K t.1)):Ok (iter B (c,0)) Q:=by
 refine iH (I:=fun t=>0≤t.2∧t.2≤8∧aFH (8 - t.2.toNat) t.1=aFH 8 c) (μ:=fun t=>(8 - t.2).toNat) ?_ ⟨by simp,by simp,rfl⟩
 rintro ⟨x,i⟩ ⟨i0,i1,i2⟩
 rw [hB]
 dsimp only at i0 i1 i2 ⊢
 simp only [fT,lH,eL,nI]
 refine ⟨fun hi => ?_,fun hi => ?_⟩
 ·
  rw [show 8 - i.toNat=(8 - (i+1).toNat)+1 by omega,aFH] at i2
  refine ⟨fun h=>⟨⟨by omega,by omega⟩,⟨by omega,by omega,?_⟩,by omega⟩,fun h=>⟨⟨by omega,by omega⟩,⟨by omega,by omega,?_⟩,by omega⟩⟩
  ·
   rw [aUJ,if_pos h] at i2; exact i2
  rw [aUJ,if_neg h] at i2; exact i2
 rw [show 8 - i.toNat=0 by omega,aFH] at i2
 rw [i2]; exact hK
theorem aLV {α β:Type} (f:β→α→β) (a:β) (l:List α) (z:α):(l++[z]).foldl f a=f (l.foldl f a) z:=by simp
theorem a3O {b:List UInt8} (h:b.length≤1000000000):Sh.QD [b]=some (aNG b):=by
 apply Ok.eq
 unfold Sh.QD
 refine iH (I:=fun t=>(t.2=0∧t.1=4294967295)∨(t.2=1∧t.1=b.foldl aUK 4294967295)) (μ:=fun t=>(1 - t.2).toNat) ?_ (.inl ⟨rfl,rfl⟩)
 rintro ⟨c,i⟩ hh
 dsimp only at hh ⊢
 rcases hh with ⟨rfl,rfl⟩ | ⟨rfl,rfl⟩
 ·
  rw [if_pos (by simp)]
  simp only [gD,nH]
  refine ⟨by omega,b,rfl,?_⟩
  refine iH (I:=fun t=>0≤t.2∧t.2≤b.length∧t.1=(b.take t.2.toNat).foldl aUK 4294967295) (μ:=fun t=>(b.length - t.2).toNat) ?_ ⟨by simp,by simp,by simp⟩
  rintro ⟨c,i⟩ ⟨i0,i1,i2⟩
  dsimp only at i0 i1 i2 ⊢
  simp only [fT,lH,gD,eL,nI,nH]
  refine ⟨fun hi => ?_,fun hi => ?_⟩
  ·
   obtain ⟨z,hz⟩:=rU (l:=b) i0 hi
   refine ⟨i0,z,hz,a5Q (K:=fun s=>gd (dP (i+1)) (go (s,(i+1)))) ?_ (fun t=>rfl)⟩
   simp only [eL,nI]
   refine ⟨⟨by omega,by omega⟩,⟨by omega,by omega,?_⟩,by omega⟩
   rw [vS i0 hz,aLV,← i2]; rfl
  refine ⟨⟨by decide,by decide⟩,.inr ⟨by decide,?_⟩,by decide⟩
  rw [i2,show i.toNat=b.length by omega,List.take_length]
 rw [if_neg (by simp),lH,cY]; rfl
theorem aN9 {a b:List UInt8} (h:a.length+b.length≤1000000000):Sh.oE [a,b]=some (a++b):=by
 apply Ok.eq
 unfold Sh.oE
 refine iH (I:=fun t=>(t.2=0∧t.1=0)∨(t.2=1∧t.1=a.length)∨(t.2=2∧t.1=a.length+b.length)) (μ:=fun t=>(2 - t.2).toNat) ?_ (.inl ⟨rfl,rfl⟩)
 rintro ⟨c,i⟩ hh
 dsimp only at hh ⊢
 simp only [fT,lH,gD,eL,nI,nH]
 rcases hh with ⟨rfl,rfl⟩ | ⟨rfl,rfl⟩ | ⟨rfl,rfl⟩
 ·
  refine ⟨fun _=>⟨by omega,a,rfl,⟨by omega,by omega⟩,fun h=>by omega,fun _=>⟨⟨by decide,by decide⟩,.inr (.inl ⟨by decide,by omega⟩),by decide⟩⟩,fun h=>absurd (by simp) h⟩
 ·
  refine ⟨fun _=>⟨by omega,b,rfl,⟨by omega,by omega⟩,fun h=>by omega,fun _=>⟨⟨by decide,by decide⟩,.inr (.inr ⟨by decide,by omega⟩),by decide⟩⟩,fun h=>absurd (by simp) h⟩
 refine ⟨fun h=>absurd h (by simp),fun _ => ?_⟩
 have hg:Sh.p4 ((a.length:Int)+b.length)=some []:=by
   apply Ok.eq
   unfold Sh.p4
   simp only [fT,eL,gX,cY]
   exact ⟨fun h=>by omega,fun _=>⟨⟨by decide,by decide⟩,⟨by omega,by omega⟩,fun h=>⟨⟨by omega,by omega⟩,trivial⟩,fun _=>trivial⟩⟩
 refine Ok.of hg ?_
 refine iH (I:=fun t=>(t.2=0∧t.1=[])∨(t.2=1∧t.1=a)∨(t.2=2∧t.1=a++b)) (μ:=fun t=>(2 - t.2).toNat) ?_ (.inl ⟨rfl,rfl⟩)
 rintro ⟨c,i⟩ hh
 dsimp only at hh ⊢
 simp only [fT,lH,gD,eL,gX,nI,cY,nH]
 rcases hh with ⟨rfl,rfl⟩ | ⟨rfl,rfl⟩ | ⟨rfl,rfl⟩
 ·
  exact ⟨fun _=>⟨by omega,a,rfl,by simp; omega,⟨by decide,by decide⟩,.inr (.inl ⟨by decide,by simp⟩),by decide⟩,fun h=>absurd (by simp) h⟩
 ·
  exact ⟨fun _=>⟨by omega,b,rfl,by omega,⟨by decide,by decide⟩,.inr (.inr ⟨by decide,rfl⟩),by decide⟩,fun h=>absurd (by simp) h⟩
 exact ⟨fun h=>absurd h (by simp),fun _=>rfl⟩
theorem aQ1 {b:List UInt8} (h:b.length≤100000000):Sh.KH b=some (LP b):=by
 apply Ok.eq
 unfold Sh.KH
 simp only [gX,a3O (b:=b) (by omega),gD,eL,cY,aNI]
 refine ⟨by simp,by simp,by simp,by simp,Ok.of (aN9 (by simp; omega)) rfl⟩
theorem O3 {b:List UInt8} (h:b.length≤4294967296):Sh.gB b=some b:=by
 apply Ok.eq
 unfold Sh.gB
 simp only [gX,eL,cY]
 exact ⟨by simpa using h,rfl⟩
theorem aER (b:List UInt8):Sh.j4 b=some b:=by
 apply Ok.eq
 unfold Sh.j4
 simp only [gX,eL,cY]
 exact ⟨⟨by omega,by omega⟩,by simp⟩
def a4f:List UInt8:=[115,117,109]
def uN (b:List UInt8):List UInt8×qY :=
  if b.length < 4 then ([],⟨[⟨a4f,b.length⟩],3⟩)
  else if LP (b.take (b.length - 4))=b then (b.take (b.length - 4),⟨[],0⟩)
  else ([],⟨[⟨a4f,b.length⟩],12⟩)
theorem aXq {b:List UInt8} (h:b.length≤100000000):Sh.L8 b=some ((uN b).1,ofW (uN b).2):=by
 apply Ok.eq
 unfold Sh.L8 uN Sh.A8
 simp only [fT,cY,eL,gX,gD]
 refine ⟨fun h4=>by rw [if_pos (by omega)]; rfl,fun h4=>⟨⟨by omega,by omega⟩,⟨by omega,by omega⟩,?_⟩⟩
 rw [if_neg (by omega),show ((b.length:Int) - 4).toNat=b.length - 4 by omega]
 refine Ok.of (aQ1 (by rw [List.length_take]; omega)) ⟨fun hne => ?_,fun he => ?_⟩
 ·
  have : ¬ LP (b.take (b.length - 4))=b:=by simpa using hne
  rw [if_neg this]; rfl
 have:LP (b.take (b.length - 4))=b:=by simpa using he
 rw [if_pos this]
 exact Ok.of (O3 (by rw [List.length_take]; omega)) (Ok.of (aER _) rfl)
theorem aOC (b:List UInt8):uN (LP b)=(b,⟨[],0⟩):=by
 have hl:=aIW b
 have ht:(LP b).take ((LP b).length - 4)=b:=by rw [hl]; simp [LP]
 unfold uN
 rw [ht,if_neg (by omega),if_pos rfl]
end Go.S
end

section
namespace Go.S
open Go
def vu (u:Nat):List UInt8:=if u < 128 then [UInt8.ofNat u] else UInt8.ofNat (u % 128+128)::vu (u / 128)
termination_by u
decreasing_by omega
theorem aK1 {u:Nat} (h:u < 128):vu u=[UInt8.ofNat u]:=by rw [vu,if_pos h]
theorem aHC {u:Nat} (h : ¬ u < 128):vu u=UInt8.ofNat (u % 128+128)::vu (u / 128):=by rw [vu,if_neg h]
theorem aK0 : ∀ (k u:Nat),1≤k→u < 128 ^ k→(vu u).length≤k
  | k,u,hk,h=>by
    by_cases h1:u < 128
    . rw [aK1 h1]; simpa using hk
    . rw [aHC h1]
      match k,hk with
      | k+1,_ =>
        have hk1:1≤k:=by
          rcases Nat.eq_zero_or_pos k with q | q
          . subst q; simp at h; omega
          . exact q
        have:=aK0 k (u / 128) hk1 (by rw [Nat.pow_succ] at h; omega)
        simp; omega
  termination_by k=>k
def aEC (n:Int):Nat:=if 0≤n then (2*n).toNat else (-2*n - 1).toNat
def encI (n:Int):List UInt8:=vu (aEC n)
theorem aH0 {n:Int} (h:dP n):aEC n < 18446744073709551616:=by
 obtain ⟨h1,h2⟩:=h
 unfold aEC
 split <;> omega
theorem nE {n:Int} (h:dP n):(encI n).length≤10:=aK0 10 _ (by decide) (by have:=aH0 h; omega)
def oT (s:List UInt8):List UInt8:=encI s.length++s
theorem aTq {n:Int} (h:dP n):fF .u64 (I0 .u64 (IntKind.wrap .u64 n) 1) (IntKind.wrap .u64 (nD .i64 n 63))=(aEC n:Int):=by
 obtain ⟨h1,h2⟩:=h
 have hs:nD .i64 n 63=if 0≤n then 0 else -1:=by
   unfold nD
   show Int.fdiv n (2 ^ 63)=_
   rw [Int.fdiv_eq_ediv_of_nonneg _ (by decide)]
   split <;> omega
 unfold aEC
 rw [hs]
 by_cases h0:0≤n
 ·
  rw [if_pos h0,if_pos h0]
  obtain ⟨m,rfl⟩ : ∃ m:Nat,n=m:=⟨n.toNat,by omega⟩
  have e1:=aYg m 1 (by decide) (by omega)
  rw [aIk (by omega)]
  rw [show ((1:Nat):Int)=1 from rfl] at e1
  rw [e1,show IntKind.wrap .u64 (0:Int)=((0:Nat):Int) from rfl,aOr (by omega) (by omega),Nat.xor_zero]
  omega
 rw [if_neg h0,if_neg h0]
 have e0:IntKind.wrap .u64 n=n+18446744073709551616:=by
   simp only [IntKind.wrap,IntKind.bits,IntKind.signed]
   simp
   omega
 have e1:I0 .u64 (n+18446744073709551616) 1=2*n+18446744073709551616:=by
   unfold I0
   show IntKind.wrap .u64 ((n+18446744073709551616)*2 ^ 1)=_
   simp only [IntKind.wrap,IntKind.bits,IntKind.signed]
   simp
   omega
 have e2:IntKind.wrap .u64 (-1)=((18446744073709551615:Nat):Int):=by decide
 rw [e0,e1,e2]
 obtain ⟨m,hm⟩ : ∃ m:Nat,2*n+18446744073709551616=m:=⟨(2*n+18446744073709551616).toNat,by omega⟩
 rw [hm,aOr (by omega) (by omega)]
 have hx:m ^^^ 18446744073709551615=18446744073709551615 - m:=by
   have hb:(BitVec.ofNat 64 m ^^^ BitVec.allOnes 64) = ~~~ (BitVec.ofNat 64 m):=BitVec.xor_allOnes
   have:=congrArg BitVec.toNat hb
   rw [BitVec.toNat_xor,BitVec.toNat_not,BitVec.toNat_ofNat,Nat.mod_eq_of_lt (by omega),BitVec.toNat_allOnes] at this
   exact this
 rw [hx]
 omega
theorem aSm {v:Nat} {c:List UInt8} {R:Type} (hv:v < 18446744073709551616) (hc:c.length+10≤4294967296) {K:List UInt8→Option R} {Q:R→Prop} (hK:Ok (K (c++vu v)) Q)
 (B:Int×List UInt8→Option ((Int×List UInt8)⊕R)) (hB : ∀ t,B t=if 128≤t.1 then (gd ((0:Int)≤(GH .u8 (IntKind.wrap .u8 (gE .u64 t.1 127)) 128)∧(GH .u8 (IntKind.wrap .u8 (gE .u64 t.1 127)) 128)≤255) (
 lt (UInt8.ofNat (GH .u8 (IntKind.wrap .u8 (gE .u64 t.1 127)) 128).toNat) (fun ME=>lt [ME] (fun I7=>gd (t.2.length+I7.length≤4294967296) (lt (t.2++I7) (fun aCZ=>go ((nD .u64 t.1 7),aCZ)))))))
 else up (gd ((0:Int)≤(IntKind.wrap .u8 t.1)∧(IntKind.wrap .u8 t.1)≤255) (lt (UInt8.ofNat (IntKind.wrap .u8 t.1).toNat) (fun F9=>lt [F9] (fun NY=>gd (t.2.length+NY.length≤4294967296) (lt (t.2++NY) K)))))) :
 Ok (iter B ((v:Int),c)) Q:=by
 have hlen:=aK0 10 v (by decide) (by omega)
 refine iH (I:=fun t => ∃ u:Nat,t.1=u∧u < 18446744073709551616∧t.2++vu u=c++vu v) (μ:=fun t=>t.1.toNat) ?_ ⟨v,rfl,hv,rfl⟩
 rintro ⟨v',c'⟩ ⟨u,hu,hu2,hcc⟩
 dsimp only at hu hcc
 subst hu
 have hl2:=congrArg List.length hcc
 simp only [List.length_append] at hl2
 rw [hB]
 dsimp only
 simp only [fT,lH,eL,gX,nI]
 refine ⟨fun h => ?_,fun h => ?_⟩
 ·
  have h' : ¬ u < 128:=by omega
  have e1:gE .u64 (u:Int) 127=((u % 128:Nat):Int):=by
    have:=aOq (x:=u) (y:=127) hu2 (by decide)
    rw [aOl] at this; exact this
  have e2:GH .u8 (IntKind.wrap .u8 (gE .u64 (u:Int) 127)) 128=((u % 128+128:Nat):Int):=by
    rw [e1,wU8 (by omega)]
    have:=a66 (x:=u % 128) (y:=128) (by omega) (by decide)
    rw [a5Y (by omega)] at this; exact this
  have e3:nD .u64 (u:Int) 7=((u / 128:Nat):Int):=aYh u 7 (by decide)
  rw [e2,e3]
  rw [aHC h'] at hcc hl2
  simp only [List.length_cons] at hl2
  refine ⟨⟨by omega,by omega⟩,by simp; omega,⟨u / 128,rfl,by omega,?_⟩,by omega⟩
  rw [← hcc,Int.toNat_natCast]; simp
 have h':u < 128:=by omega
 have e1:IntKind.wrap .u8 (u:Int)=u:=wU8 (by omega)
 rw [e1,Int.toNat_natCast]
 rw [aK1 h'] at hcc hl2
 rw [hcc]
 exact ⟨⟨by omega,by omega⟩,by simp at hl2 ⊢; omega,hK⟩
theorem z8 {e:mX} {l:List Int} (h : ∀ n∈l,dP n) (hl:e.b.length+10*l.length≤4294967296) (hn:l.length≤1000000):Sh.jG e l=some ⟨e.b++l.flatMap encI⟩:=by
 apply Ok.eq
 unfold Sh.jG
 have hb : ∀ k:Nat,k≤l.length→((l.take k).flatMap encI).length≤10*k:=fun k hk=>by
   induction k with
   | zero=>simp
   | succ k ih =>
     have hx:l[k]? = some l[k]:=List.getElem?_eq_getElem (by omega)
     have e:l.take (k+1)=l.take k++[l[k]]:=by rw [List.take_add_one,hx]; rfl
     have:=ih (by omega)
     have:=nE (h l[k] (List.getElem_mem _))
     rw [e,List.flatMap_append,List.length_append,List.flatMap_singleton]
     omega
 refine iH (I:=fun t=>0≤t.1∧t.1≤l.length∧t.2=e.b++(l.take t.1.toNat).flatMap encI) (μ:=fun t=>(l.length - t.1).toNat) ?_ ⟨by simp,by simp,by simp⟩
 rintro ⟨i,c⟩ ⟨i0,i1,i2⟩
 dsimp only at i0 i1 i2 ⊢
 have hbi:=hb i.toNat (by omega)
 simp only [fT,lH,gD,cY,nH]
 refine ⟨fun hi => ?_,fun hi => ?_⟩
 ·
  obtain ⟨z,hz⟩:=rU (l:=l) i0 hi
  have hzI:=h z (List.mem_of_getElem? hz)
  refine ⟨i0,z,hz,?_⟩
  rw [aTq hzI]
  refine aSm (aH0 hzI) (by rw [i2,List.length_append]; omega) (K:=fun aC2=>gd (dP (i+1)) (go ((i+1),aC2))) ?_ _ (fun t=>rfl)
  simp only [eL,nI]
  refine ⟨⟨by omega,by omega⟩,⟨by omega,by omega,?_⟩,by omega⟩
  rw [vS i0 hz,List.flatMap_append,i2]; simp [encI]
 rw [i2,show i.toNat=l.length by omega,List.take_length]
theorem MV {e:mX} {s:List UInt8} (hl:e.b.length+s.length+20≤4294967296):Sh.mZ e [s]=some ⟨e.b++oT s⟩:=by
 apply Ok.eq
 unfold Sh.mZ
 have hI:dP (s.length:Int):=⟨by omega,by omega⟩
 have hle:=nE hI
 refine iH (I:=fun t=>(t.1=0∧t.2=e.b)∨(t.1=1∧t.2=e.b++oT s)) (μ:=fun t=>(1 - t.1).toNat) ?_ (.inl ⟨rfl,rfl⟩)
 rintro ⟨i,c⟩ h
 dsimp only at h ⊢
 rcases h with ⟨rfl,rfl⟩ | ⟨rfl,rfl⟩
 ·
  rw [if_pos (by simp)]
  simp only [gD,eL,gX,nI,nH]
  refine ⟨by omega,s,rfl,?_⟩
  have he:=z8 (e:=⟨e.b⟩) (l:=[(s.length:Int)]) (fun n hn=>by rw [List.mem_singleton.1 hn]; exact hI) (by simp; omega) (by simp)
  rw [List.flatMap_singleton] at he
  refine Ok.of he ⟨by simp; omega,⟨by decide,by decide⟩,.inr ⟨rfl,?_⟩,by decide⟩
  simp [oT]
 rw [if_neg (by simp),lH,cY]
end Go.S
end

section
namespace Go.S
open Go
def dU (b:List UInt8) (p:Nat):Nat→Nat→Nat→Int×Nat×Nat
  | 0,_,_=>(2,0,0)
  | f+1,i,v=>match b[p+i]? with
    | none=>(3,0,0)
    | some c =>
      if (i=9∧1 < c.toNat)∨(0 < i∧c.toNat=0) then (2,0,0)
      else if c.toNat < 128 then (0,v+c.toNat % 128*2 ^ (7*i),p+i+1)
      else dU b p f (i+1) (v+c.toNat % 128*2 ^ (7*i))
theorem a52 {i:Nat} (h:i≤8):2 ^ (7*i)≤72057594037927936:=by
 have:=Nat.pow_le_pow_right (n:=2) (by decide) (show 7*i≤56 by omega)
 simpa using this
theorem aIn {c:UInt8} {i v:Nat} (hi:i≤9) (hv:v < 2 ^ (7*i)) (hc:i=9→c.toNat≤1):v+c.toNat % 128*2 ^ (7*i) < 18446744073709551616∧v+c.toNat % 128*2 ^ (7*i) < 2 ^ (7*(i+1)) ∧
 c.toNat % 128*2 ^ (7*i) < 18446744073709551616∧v < 18446744073709551616:=by
 have hm:c.toNat % 128≤127:=by omega
 have hp:2 ^ (7*(i+1))=128*2 ^ (7*i):=by rw [show 7*(i+1)=7+7*i by omega,Nat.pow_add]
 have hmul:c.toNat % 128*2 ^ (7*i)≤127*2 ^ (7*i):=Nat.mul_le_mul hm (Nat.le_refl _)
 rw [hp]
 by_cases h9:i=9
 ·
  subst h9
  have h1:=hc rfl
  have h2:c.toNat % 128≤1:=by omega
  have h3:c.toNat % 128*2 ^ (7*9)≤1*2 ^ (7*9):=Nat.mul_le_mul h2 (Nat.le_refl _)
  have e:2 ^ (7*9)=9223372036854775808:=by decide
  rw [e] at *
  omega
 have:=a52 (i:=i) (by omega)
 generalize 2 ^ (7*i)=P at *
 omega
theorem aSM {c:UInt8} {i v:Nat} (hi:i≤9) (hv:v < 2 ^ (7*i)) (hc:i=9→c.toNat≤1) :
 GH .u64 (v:Int) (I0 .u64 (IntKind.wrap .u64 (gE .u8 (c.toNat:Int) 127)) (7*(i:Int)))=((v+c.toNat % 128*2 ^ (7*i):Nat):Int):=by
 obtain ⟨h1,_,h3,h4⟩:=aIn hi hv hc
 have hb:=c.toNat_lt
 have e1:=a4p (x:=c.toNat) (y:=127) (by omega) (by decide)
 rw [aOl] at e1
 rw [show (127:Int)=((127:Nat):Int) from rfl,e1,aIk (by omega)]
 rw [show (7*(i:Int))=((7*i:Nat):Int) by omega,aYg _ _ (by omega) h3,a4q h4 h3,aSq hv]
theorem UP {b:List UInt8} {p f i v:Nat} {c:UInt8} (h:b[p+i]? = some c):dU b p (f+1) i v=if (i=9∧1 < c.toNat)∨(0 < i∧c.toNat=0) then (2,0,0) else if c.toNat < 128 then (0,v+c.toNat % 128*2 ^ (7*i),p+i+1) else dU b p f (i+1) (v+c.toNat % 128*2 ^ (7*i)):=by
 rw [dU,h]
theorem aCr (b:List UInt8) (p:Nat) : ∀ (f i v:Nat),i+f=10→v < 2 ^ (7*i)→(dU b p f i v).1=0→(dU b p f i v).2.1 < 18446744073709551616∧p < (dU b p f i v).2.2∧(dU b p f i v).2.2≤b.length
  | 0,i,v,_,_,h=>by simp [dU] at h
  | f+1,i,v,hf,hv,h=>by
    cases hc:b[p+i]? with
    | none=>rw [dU,hc] at h; cases h
    | some c =>
      rw [UP hc] at h ⊢
      split at h
      . cases h
      . next hn =>
        have hc9:i=9→c.toNat≤1:=fun e=>by
          rcases Nat.lt_or_ge 1 c.toNat with q | q
          . exact absurd (.inl ⟨e,q⟩) hn
          . exact q
        obtain ⟨a1,a2,_,_⟩:=aIn (i:=i) (v:=v) (c:=c) (by omega) hv hc9
        rw [if_neg hn]
        split
        . have:=aBT hc
          exact ⟨a1,by dsimp only; omega,by dsimp only; omega⟩
        . next h128 =>
          rw [if_neg h128] at h
          exact aCr b p f (i+1) _ (by omega) a2 h
theorem aOw (b:List UInt8) (p:Nat) : ∀ (f i v:Nat),(dU b p f i v).1=0∨(dU b p f i v).1=2∨(dU b p f i v).1=3
  | 0,_,_ => .inr (.inl rfl)
  | f+1,i,v=>by
    cases hc:b[p+i]? with
    | none=>rw [dU,hc]; exact .inr (.inr rfl)
    | some c =>
      rw [UP hc]
      split
      . exact .inr (.inl rfl)
      . split
        . exact .inl rfl
        . exact aOw b p f (i+1) _
structure DS where
  at_:Nat
  bad:Option (Nat×Int)
def aN2:List UInt8:=[98,121,116,101]
def K0:Option (Nat×Int)→eY
  | none => .nil
  | some (p,e) => .fault aN2 p (.no e)
def YV:Option (Nat×Int)→qY
  | none=>⟨[],0⟩
  | some (p,e)=>⟨[⟨aN2,p⟩],e⟩
def cP (b:List UInt8) (s:DS):bL:=⟨b,s.at_,K0 s.bad⟩
def JF (b:List UInt8) (s:DS):Prop:=s.at_≤b.length∧match s.bad with
  | none=>True
  | some (p,e)=>p≤b.length∧(e=2∨e=3)
def aIj (u:Nat):Int:=if u % 2=0 then ((u / 2:Nat):Int) else -((u / 2:Nat):Int) - 1
def gH (b:List UInt8) (s:DS):Int×DS:=match s.bad with
  | some _=>(0,s)
  | none=>if (dU b s.at_ 10 0 0).1=0 then (aIj (dU b s.at_ 10 0 0).2.1,⟨(dU b s.at_ 10 0 0).2.2,none⟩) else (0,⟨s.at_,some (s.at_,(dU b s.at_ 10 0 0).1)⟩)
theorem pV {b:List UInt8} {s:DS} (h:JF b s):JF b (gH b s).2∧dP (gH b s).1:=by
 unfold gH
 cases hs:s.bad with
 | some q=>exact ⟨h,by dsimp only; exact ⟨by omega,by omega⟩⟩
 | none =>
   dsimp only
   split
   . next h0 =>
     have hb:=aCr b s.at_ 10 0 0 rfl (by decide) h0
     refine ⟨⟨hb.2.2,trivial⟩,?_⟩
     unfold aIj dP
     split <;> omega
   . next h0 =>
     have he:=aOw b s.at_ 10 0 0
     refine ⟨⟨h.1,h.1,?_⟩,by dsimp only; exact ⟨by omega,by omega⟩⟩
     rcases he with q | q
     . exact absurd q h0
     . exact q
theorem aYu {d:bL} {p:Nat} (hp:d.at_=p) (h1:p≤d.b.length) (hl:d.b.length≤1000000000) :
 Sh.yH d=some (if (dU d.b p 10 0 0).1=0 then (((dU d.b p 10 0 0).2.1:Int),0,⟨d.b,((dU d.b p 10 0 0).2.2:Int),d.err⟩) else (0,(dU d.b p 10 0 0).1,⟨d.b,d.at_,d.err⟩)):=by
 apply Ok.eq
 unfold Sh.yH
 refine iH (I:=fun t=>0≤t.2∧t.2≤9 ∧ ∃ v:Nat,t.1=v∧v < 2 ^ (7*t.2.toNat)∧dU d.b p (10 - t.2.toNat) t.2.toNat v=dU d.b p 10 0 0) (μ:=fun t=>(10 - t.2).toNat) ?_ ⟨by simp,by simp,0,rfl,by decide,rfl⟩
 rintro ⟨x,i⟩ ⟨i0,i9,v,hx,hv,hd⟩
 dsimp only at i0 i9 hx hv hd ⊢
 subst hx
 rw [hp]
 simp only [fT,lH,gD,eL,gX,nI,cY,nH]
 rw [show 10 - i.toNat=(9 - i.toNat)+1 by omega] at hd
 refine ⟨fun _=>⟨⟨by omega,by omega⟩,fun hs => ?_,fun hs=>⟨⟨by omega,by omega⟩,by omega,?_⟩⟩,fun h=>by omega⟩
 ·
  have hn:d.b[p+i.toNat]? = none:=List.getElem?_eq_none (by omega)
  rw [dU,hn] at hd
  rw [← hd]; rfl
 obtain ⟨c,hc⟩:=rU (l:=d.b) (i:=(p:Int)+i) (by omega) (by omega)
 have hc':d.b[p+i.toNat]? = some c:=by rw [show p+i.toNat=((p:Int)+i).toNat by omega]; exact hc
 rw [UP hc'] at hd
 refine ⟨c,hc,?_⟩
 have bad:((i.toNat=9∧1 < c.toNat)∨(0 < i.toNat∧c.toNat=0))→((0:Int),(2:Int),(⟨d.b,(p:Int),d.err⟩:bL))=if (dU d.b p 10 0 0).1=0 then (((dU d.b p 10 0 0).2.1:Int),0,⟨d.b,((dU d.b p 10 0 0).2.2:Int),d.err⟩) else (0,(dU d.b p 10 0 0).1,⟨d.b,(p:Int),d.err⟩):=fun q=>by
   rw [if_pos q] at hd
   rw [← hd]; rfl
 refine r8 (fun _ => ¬ ((i.toNat=9∧1 < c.toNat)∨(0 < i.toNat∧c.toNat=0))) ?_ ?_
 ·
  intro _ hn
  rw [if_neg hn] at hd
  have hc9:i.toNat=9→c.toNat≤1:=fun e=>by
    rcases Nat.lt_or_ge 1 c.toNat with q | q
    . exact absurd (.inl ⟨e,q⟩) hn
    . exact q
  have ea:=aSM (c:=c) (i:=i.toNat) (by omega) hv hc9
  have hea:=aIn (c:=c) (i:=i.toNat) (by omega) hv hc9
  rw [show ((i.toNat:Nat):Int)=i by omega] at ea
  simp only [fT,lH,eL,nI,cY]
  rw [ea]
  refine ⟨⟨by omega,by omega⟩,by omega,fun h128=>⟨⟨by omega,by omega⟩,⟨by omega,by omega⟩,?_⟩,fun h128 => ?_⟩
  ·
   rw [if_pos (by omega)] at hd
   rw [← hd]
   simp
   omega
  rw [if_neg (by omega)] at hd
  have h9:i.toNat≠9:=fun e=>by have:=hc9 e; omega
  refine ⟨⟨by omega,by omega⟩,⟨by omega,by omega,_,rfl,?_,?_⟩,by omega⟩
  ·
   rw [show (i+1).toNat=i.toNat+1 by omega]; exact hea.2.1
  rw [show (i+1).toNat=i.toNat+1 by omega,show 10 - (i.toNat+1)=9 - i.toNat by omega]; exact hd
 intro K hK
 simp only [fT,lH,cY]
 refine ⟨fun h9=>⟨fun h1=>bad (.inl ⟨by omega,by omega⟩),fun h1=>⟨fun h0=>⟨fun hz=>bad (.inr ⟨by omega,by omega⟩),fun hz=>hK () ?_⟩,fun h0=>by omega⟩⟩,fun h9=>⟨fun h0=>⟨fun hz=>bad (.inr ⟨by omega,by omega⟩),fun hz=>hK () ?_⟩,fun h0=>hK () ?_⟩⟩ <;> omega
theorem a4r {x:Nat} (hx:x < 9223372036854775808):fF .i64 (x:Int) 0=x∧fF .i64 (x:Int) (-1) = -(x:Int) - 1:=by
 have w : ∀ n:Int,-9223372036854775808≤n∧n≤9223372036854775807→IntKind.wrap .i64 n=n:=fun n h=>IntWalk.i64_in _ h
 constructor
 ·
  unfold fF
  have h:(BitVec.ofInt IntKind.i64.bits (x:Int) ^^^ BitVec.ofInt IntKind.i64.bits 0).toNat=x:=by
    show (BitVec.ofInt 64 (x:Int) ^^^ BitVec.ofInt 64 0).toNat=x
    rw [show BitVec.ofInt 64 0=0#64 from rfl,BitVec.xor_zero,BitVec.ofInt_natCast,BitVec.toNat_ofNat,Nat.mod_eq_of_lt (by omega)]
  rw [h]
  exact w _ ⟨by omega,by omega⟩
 unfold fF
 have h:(BitVec.ofInt IntKind.i64.bits (x:Int) ^^^ BitVec.ofInt IntKind.i64.bits (-1)).toNat=18446744073709551615 - x:=by
   show (BitVec.ofInt 64 (x:Int) ^^^ BitVec.ofInt 64 (-1)).toNat=_
   rw [show BitVec.ofInt 64 (-1)=BitVec.allOnes 64 by decide,BitVec.xor_allOnes,BitVec.toNat_not,BitVec.ofInt_natCast,BitVec.toNat_ofNat,Nat.mod_eq_of_lt (by omega)]
 rw [h]
 simp only [IntKind.wrap,IntKind.bits,IntKind.signed]
 simp
 omega
theorem aTo {u:Nat} (hu:u < 18446744073709551616):fF .i64 (IntKind.wrap .i64 (nD .u64 (u:Int) 1)) (IntKind.wrap .i64 (0 - (IntKind.wrap .i64 (gE .u64 (u:Int) 1))))=aIj u:=by
 have e1:nD .u64 (u:Int) 1=((u / 2:Nat):Int):=aYh u 1 (by decide)
 have e2:gE .u64 (u:Int) 1=((u % 2:Nat):Int):=by
   have:=aOq (x:=u) (y:=1) hu (by decide)
   rw [a6W] at this; exact this
 have w : ∀ n:Int,-9223372036854775808≤n∧n≤9223372036854775807→IntKind.wrap .i64 n=n:=fun n h=>IntWalk.i64_in _ h
 have hb:=a4r (x:=u / 2) (by omega)
 rw [e1,e2,w _ ⟨by omega,by omega⟩,w ((u % 2:Nat):Int) ⟨by omega,by omega⟩,w _ ⟨by omega,by omega⟩]
 unfold aIj
 by_cases h:u % 2=0
 ·
  rw [if_pos h,h]; exact hb.1
 rw [if_neg h,show u % 2=1 by omega]; exact hb.2
theorem xX {b:List UInt8} {s:DS} (h:JF b s) (hl:b.length≤1000000000):Sh.dY (cP b s)=some ((gH b s).1,cP b (gH b s).2):=by
 apply Ok.eq
 unfold Sh.dY gH
 cases hs:s.bad with
 | some q =>
   obtain ⟨p,e⟩:=q
   have e1:(cP b s).err.isNil=false:=by simp [cP,hs,K0,eY.isNil]
   rw [e1,if_neg (by simp),cY]
 | none =>
   have e1:(cP b s).err.isNil=true:=by simp [cP,hs,K0,eY.isNil]
   rw [e1,if_pos rfl,aYu (d:=cP b s) (p:=s.at_) rfl h.1 hl,Option.bind_some]
   have hbd:(cP b s).b=b:=rfl
   rw [hbd]
   by_cases h0:(dU b s.at_ 10 0 0).1=0
   . have hb:=aCr b s.at_ 10 0 0 rfl (by decide) h0
     rw [if_pos h0,if_pos h0,if_pos rfl,cY]
     dsimp only
     rw [aTo hb.1]
     simp [cP,hs]
   . rw [if_neg h0,if_neg h0,if_neg h0]
     unfold Sh.sJ
     simp only [gD,cY]
     simp [cP,K0,aN2]
end Go.S
end

section
namespace Go.S
open Go
def x9 (b:List UInt8) (s:DS):List UInt8×DS:=match (gH b s).2.bad with
  | some _=>([],(gH b s).2)
  | none =>
    if (gH b s).1 < 0 then ([],⟨(gH b s).2.at_,some (s.at_,2)⟩)
    else if (b.length:Int) - (gH b s).2.at_ < (gH b s).1 then ([],⟨(gH b s).2.at_,some (s.at_,3)⟩)
    else ((b.drop (gH b s).2.at_).take (gH b s).1.toNat,⟨(gH b s).2.at_+(gH b s).1.toNat,none⟩)
theorem QC {b:List UInt8} {s:DS} (h:JF b s):JF b (x9 b s).2∧(x9 b s).1.length≤b.length:=by
 have h1:=pV h
 unfold x9
 cases hs:(gH b s).2.bad with
 | some q=>exact ⟨h1.1,Nat.zero_le _⟩
 | none =>
   dsimp only
   split
   . exact ⟨⟨h1.1.1,h.1,.inl rfl⟩,Nat.zero_le _⟩
   . split
     . exact ⟨⟨h1.1.1,h.1,.inr rfl⟩,Nat.zero_le _⟩
     . refine ⟨⟨by dsimp only; omega,trivial⟩,by rw [List.length_take,List.length_drop]; omega⟩
theorem MU {b:List UInt8} {s:DS} (h:JF b s) (hl:b.length≤1000000000):Sh.fN (cP b s)=some ((x9 b s).1,cP b (x9 b s).2):=by
 apply Ok.eq
 unfold Sh.fN
 have h1:=pV h
 rw [xX h hl,Option.bind_some]
 unfold x9
 generalize hr:gH b s=r at *
 obtain ⟨n,s'⟩:=r
 dsimp only at h1 ⊢
 have hp:=h1.1.1
 cases hs:s'.bad with
 | some q =>
   obtain ⟨p,e⟩:=q
   have e1:(cP b s').err.isNil=false:=by simp [cP,hs,K0,eY.isNil]
   rw [e1,if_neg (by simp),cY]
 | none =>
   have e1:(cP b s').err.isNil=true:=by simp [cP,hs,K0,eY.isNil]
   rw [e1,if_pos rfl]
   have hb:(cP b s').b=b:=rfl
   have ha:(cP b s').at_=s'.at_:=rfl
   have ha0:(cP b s).at_=s.at_:=rfl
   have he:(cP b s').err = .nil:=by simp [cP,hs,K0]
   unfold Sh.sJ
   simp only [fT,cY,eL,gX,gD,hb,ha,ha0,he]
   refine ⟨fun h0 => ?_,fun h0=>⟨⟨by omega,by omega⟩,fun h2 => ?_,fun h2=>⟨⟨by omega,by omega⟩,⟨by omega,by omega,by omega⟩,⟨by omega,by omega⟩,?_⟩⟩⟩
   . rw [if_pos h0]; rfl
   . rw [if_neg h0,if_pos h2]; rfl
   . rw [if_neg h0,if_neg h2]
     rw [show ((s'.at_:Int)+n).toNat - (s'.at_:Int).toNat=n.toNat by omega,Int.toNat_natCast]
     simp [cP,K0]
     omega
def aGw (b:List UInt8) (s:DS):Int:=match s.bad with
  | some _=>0
  | none=>(b.length:Int) - s.at_
theorem aMF {b:List UInt8} {s:DS} (h:JF b s) (hl:b.length≤1000000000):Sh.qH (cP b s)=some (aGw b s):=by
 apply Ok.eq
 unfold Sh.qH aGw
 have hp:=h.1
 cases hs:s.bad with
 | some q =>
   have e1:(cP b s).err.isNil=false:=by obtain ⟨p,e⟩:=q; simp [cP,hs,K0,eY.isNil]
   rw [e1,if_neg (by simp),cY]
 | none =>
   have e1:(cP b s).err.isNil=true:=by simp [cP,hs,K0,eY.isNil]
   rw [e1,if_pos rfl]
   simp only [eL,cY]
   exact ⟨⟨by simp [cP]; omega,by simp [cP]; omega⟩,rfl⟩
theorem aUL : ∀ (f i v u:Nat) (pre suf b:List UInt8) (p:Nat),i+f=10→b=pre++vu u++suf→pre.length=p+i→v < 2 ^ (7*i)→(0 < i→0 < u)→v+u*2 ^ (7*i) < 18446744073709551616 →
    dU b p f i v=(0,v+u*2 ^ (7*i),p+i+(vu u).length)
  | 0,i,v,u,pre,suf,b,p,hf,hb,hp,hv,hu,hlt=>by
    have hi:i=10:=by omega
    subst hi
    have hu':=hu (by omega)
    have e:(2:Nat) ^ (7*10)=1180591620717411303424:=by decide
    rw [e] at hlt
    omega
  | f+1,i,v,u,pre,suf,b,p,hf,hb,hp,hv,hu,hlt=>by
    have e9:(2:Nat) ^ (7*9)=9223372036854775808:=by decide
    by_cases h128:u < 128
    . have hc:b[p+i]? = some (UInt8.ofNat u):=by
        rw [hb,aK1 h128,← hp]; simp
      have hn:(UInt8.ofNat u).toNat=u:=by simp [UInt8.toNat_ofNat']; omega
      rw [UP hc,hn]
      have hno : ¬ ((i=9∧1 < u)∨(0 < i∧u=0)):=by
        rintro (⟨q1,q2⟩ | ⟨q1,q2⟩)
        . subst q1
          rw [e9] at hlt; omega
        . have:=hu q1; omega
      rw [if_neg hno,if_pos h128,Nat.mod_eq_of_lt h128,aK1 h128]
      rfl
    . have hc:b[p+i]? = some (UInt8.ofNat (u % 128+128)):=by
        rw [hb,aHC h128,← hp]; simp
      have hn:(UInt8.ofNat (u % 128+128)).toNat=u % 128+128:=by simp [UInt8.toNat_ofNat']; omega
      rw [UP hc,hn]
      have hi9:i≠9:=fun q=>by
        subst q
        rw [e9] at hlt; omega
      rw [if_neg (by omega),if_neg (by omega)]
      have hp2:2 ^ (7*(i+1))=2 ^ (7*i)*128:=by rw [show 7*(i+1)=7*i+7 by omega,Nat.pow_add]
      have hmod:(u % 128+128) % 128=u % 128:=by omega
      rw [hmod]
      have hdiv:u*2 ^ (7*i)=u % 128*2 ^ (7*i)+u / 128*2 ^ (7*(i+1)):=by
        rw [hp2,← Nat.mul_assoc,Nat.mul_right_comm,← Nat.add_mul]
        congr 1; omega
      have hml:u % 128*2 ^ (7*i)≤127*2 ^ (7*i):=Nat.mul_le_mul (by omega) (Nat.le_refl _)
      have ih:=aUL f (i+1) (v+u % 128*2 ^ (7*i)) (u / 128) (pre++[UInt8.ofNat (u % 128+128)]) suf b p (by omega) (by rw [hb,aHC h128]; simp) (by simp; omega) (by rw [hp2]; generalize 2 ^ (7*i)=P at *; omega) (fun _=>by omega) (by rw [hdiv] at hlt; omega)
      rw [ih,aHC h128,hdiv]
      simp only [List.length_cons]
      refine Prod.ext rfl (Prod.ext ?_ ?_)
      . dsimp only; omega
      . dsimp only; omega
theorem aTn {n:Int} (h:dP n):aIj (aEC n)=n:=by
 obtain ⟨h1,h2⟩:=h
 unfold aIj aEC
 split <;> split <;> omega
theorem aDe {n:Int} (h:dP n) (pre suf:List UInt8):gH (pre++encI n++suf) ⟨pre.length,none⟩=(n,⟨pre.length+(encI n).length,none⟩):=by
 have hz:=aH0 h
 have:=aUL 10 0 0 (aEC n) pre suf (pre++encI n++suf) pre.length rfl rfl rfl (by decide) (fun q=>by omega) (by omega)
 unfold gH
 dsimp only
 rw [this,if_pos rfl]
 simp only [Nat.mul_zero,Nat.pow_zero,Nat.mul_one,Nat.zero_add,Nat.add_zero,aTn h]
 rfl
theorem aGx {s:List UInt8} (hl:s.length≤1000000000) (pre suf:List UInt8):x9 (pre++oT s++suf) ⟨pre.length,none⟩=(s,⟨pre.length+(oT s).length,none⟩):=by
 have h:dP (s.length:Int):=⟨by omega,by omega⟩
 have:=aDe h pre (s++suf)
 have e:pre++oT s++suf=pre++encI s.length++(s++suf):=by simp [oT]
 unfold x9
 rw [e,this]
 dsimp only
 rw [if_neg (by omega),if_neg (by simp; omega)]
 have hd:(pre++encI s.length++(s++suf)).drop (pre.length+(encI s.length).length)=s++suf:=by
   rw [← List.length_append,List.drop_left]
 rw [hd]
 simp [oT]
 omega
end Go.S
end

section
namespace Go.S
open Go
def rF (x:b5):List UInt8:=oT x.path++encI x.mode++encI x.oJ
def uB (o:aY):List UInt8:=encI o.kind ++
  (if o.kind=1 then oT o.data
   else if o.kind=2 then encI o.items.length++o.items.flatMap rF
   else encI o.tree++encI o.parents.length++o.parents.flatMap encI++encI o.time++oT o.text)
def R7 (o:aY):Prop:=dP o.kind∧dP o.tree∧dP o.time∧(∀ n∈o.parents,dP n) ∧ ∀ x∈o.items,dP x.mode∧dP x.oJ
theorem O4 {s:List UInt8} (h:s.length≤1000000000):(oT s).length≤s.length+10:=by
 have:=nE (n:=s.length) ⟨by omega,by omega⟩
 unfold oT
 rw [List.length_append]; omega
theorem aAy {x:b5} (h1:dP x.mode) (h2:dP x.oJ) (h3:x.path.length≤1000000):(rF x).length≤x.path.length+30:=by
 have:=nE h1
 have:=nE h2
 have:=O4 (s:=x.path) (by omega)
 unfold rF
 rw [List.length_append,List.length_append]; omega
theorem KB {α:Type} {f:α→List UInt8} {k:Nat} : ∀ {l:List α},(∀ x∈l,(f x).length≤k)→(l.flatMap f).length≤k*l.length
  | [],_=>by simp
  | x::r,h=>by
    have h1:=h x (List.mem_cons_self ..)
    have h2:=KB (l:=r) fun y hy=>h y (List.mem_cons_of_mem _ hy)
    rw [List.flatMap_cons,List.length_append,List.length_cons,Nat.mul_succ]
    omega
theorem MS {p:List UInt8} (h:A9 p=0):p.length≤64:=by
 unfold A9 at h
 split at h
 ·
  cases h
 omega
theorem aLG {l:List b5} : ∀ {k i:Nat},cT l k i=none → ∀ j,i≤j→j < i+k→G5 l j=0
  | 0,i,_,j,h1,h2=>by omega
  | k+1,i,h,j,h1,h2=>by
    unfold cT at h
    split at h
    . cases h
    . next h0 =>
      by_cases e:j=i
      . subst e; simpa using h0
      . exact aLG h j (by omega) (by omega)
theorem aJw {l:List b5} (h:cT l l.length 0=none) : ∀ x∈l,x.path.length≤64:=fun x hx=>by
  obtain ⟨j,hj⟩:=List.mem_iff_getElem?.1 hx
  have:=aLG h j (by omega) (by have:=aBT hj; omega)
  unfold G5 at this
  rw [hj] at this
  dsimp only at this
  by_cases h0:A9 x.path=0
  . exact MS h0
  . rw [if_pos h0] at this; exact absurd this h0
structure aTr (o:aY):Prop where
  kind:o.kind=1∨o.kind=2∨o.kind=3
  data:o.kind=1→o.data.length≤4096
  items:o.kind=2→o.items.length≤64 ∧ ∀ x∈o.items,x.path.length≤64
  rest:o.kind=3→o.parents.length≤2∧o.text.length≤256
theorem aFf {o:aY} (h:FF o=none):aTr o:=by
 unfold FF at h
 refine ⟨?_,fun k => ?_,fun k => ?_,fun k => ?_⟩
 ·
  by_cases h1:o.kind=1
  ·
   exact .inl h1
  by_cases h2:o.kind=2
  ·
   exact .inr (.inl h2)
  by_cases h3:o.kind=3
  ·
   exact .inr (.inr h3)
  rw [if_neg h1,if_neg h2,if_neg h3] at h; cases h
 ·
  rw [if_pos k] at h
  split at h
  ·
   cases h
  omega
 ·
  rw [if_neg (by omega),if_pos k] at h
  split at h
  ·
   cases h
  exact ⟨by omega,aJw (Option.map_eq_none_iff.1 h)⟩
 rw [if_neg (by omega),if_neg (by omega),if_pos k] at h
 split at h
 ·
  cases h
 split at h
 ·
  cases h
 split at h
 ·
  cases h
 omega
theorem aDv {o:aY} (h:aTr o) (hr:R7 o):(uB o).length≤20000:=by
 obtain ⟨r1,r2,r3,r4,r5⟩:=hr
 have k1:=nE r1
 unfold uB
 rw [List.length_append]
 rcases h.kind with k | k | k
 ·
  have:=h.data k
  have:=O4 (s:=o.data) (by omega)
  rw [if_pos k]; omega
 ·
  obtain ⟨i1,i2⟩:=h.items k
  have hf:=KB (f:=rF) (k:=94) (l:=o.items) fun x hx=>by
    have:=aAy (r5 x hx).1 (r5 x hx).2 (by have:=i2 x hx; omega)
    have:=i2 x hx
    omega
  have:=nE (n:=o.items.length) ⟨by omega,by omega⟩
  rw [if_neg (by omega),if_pos k,List.length_append]
  omega
 obtain ⟨p1,p2⟩:=h.rest k
 have hf:=KB (f:=encI) (k:=10) (l:=o.parents) fun x hx=>nE (r4 x hx)
 have:=nE (n:=o.parents.length) ⟨by omega,by omega⟩
 have:=nE r2
 have:=nE r3
 have:=O4 (s:=o.text) (by omega)
 rw [if_neg (by omega),if_neg (by omega)]
 simp only [List.length_append]
 omega
theorem aFK {o:aY} (hs:Sh7 o.items) (hl:o.parents.length≤1000000) (hr:R7 o):Sh.rL o=some (if FF o=none then (LP (uB o),eY.nil) else ([],ofW (ZJ o))):=by
 apply Ok.eq
 unfold Sh.rL
 rw [aN6 hs hl,Option.bind_some]
 cases hE:FF o with
 | some q =>
   have hW:(ofW (ZJ o)).isNil=false:=by
     obtain ⟨ps,e⟩:=q
     obtain ⟨h1,_⟩:=aDH hE hs.1
     unfold ZJ ofW
     rw [hE]
     dsimp only
     rw [if_neg (by omega)]; rfl
   rw [hW,if_neg (by simp),if_neg (by simp),cY]
 | none =>
   have hW:(ofW (ZJ o)) = .nil:=by unfold ZJ ofW; rw [hE]; rfl
   rw [hW,if_pos (show eY.nil.isNil=true from rfl),if_pos rfl]
   have hg:=aFf hE
   have hbl:=aDv hg hr
   obtain ⟨r1,r2,r3,r4,r5⟩:=hr
   have k1:=nE r1
   have e1:=z8 (e:=⟨[]⟩) (l:=[o.kind]) (fun n hn=>by rw [List.mem_singleton.1 hn]; exact r1) (by simp) (by simp)
   rw [List.flatMap_singleton,List.nil_append] at e1
   rw [gX,gD]
   refine Ok.of e1 ?_
   refine r8 (fun c=>c=uB o) ?_ ?_
   . rintro c rfl
     unfold Sh.qC
     rw [O3 (by dsimp only; omega),Option.bind_some,aER]
     simp only [gD,cY]
     exact Ok.of (aQ1 (by omega)) rfl
   . intro K hK
     simp only [fT,gX,gD]
     refine ⟨fun k => ?_,fun k=>⟨fun k2 => ?_,fun k2=>⟨fun k3 => ?_,fun k3 => ?_⟩⟩⟩
     . have:=hg.data k
       refine Ok.of (MV (by dsimp only; omega)) (hK _ ?_)
       simp [uB,k]
     . obtain ⟨i1,i2⟩:=hg.items k2
       have n1:dP (o.items.length:Int):=⟨by omega,by omega⟩
       have k3:=nE n1
       have e2:=z8 (e:=⟨encI o.kind⟩) (l:=[(o.items.length:Int)]) (fun n hn=>by rw [List.mem_singleton.1 hn]; exact n1) (by simp; omega) (by simp)
       rw [List.flatMap_singleton] at e2
       refine Ok.of e2 ?_
       refine iH (I:=fun t=>0≤t.1∧t.1≤o.items.length∧t.2=encI o.kind++encI o.items.length++(o.items.take t.1.toNat).flatMap rF) (μ:=fun t=>(o.items.length - t.1).toNat) ?_ ⟨by simp,by simp,by simp⟩
       rintro ⟨i,c⟩ ⟨i0,i1',ic⟩
       dsimp only at i0 i1' ic ⊢
       have hf:=KB (f:=rF) (k:=94) (l:=o.items.take i.toNat) fun x hx=>by
         have hx':=List.mem_of_mem_take hx
         have:=aAy (r5 x hx').1 (r5 x hx').2 (by have:=i2 x hx'; omega)
         have:=i2 x hx'
         omega
       rw [List.length_take] at hf
       have hcl:c.length≤20+94*64:=by rw [ic,List.length_append,List.length_append]; omega
       simp only [fT,lH,gD,eL,gX,nI,nH]
       refine ⟨fun hi => ?_,fun hi=>hK _ ?_⟩
       . obtain ⟨x,hx⟩:=rU (l:=o.items) i0 hi
         have hxm:=List.mem_of_getElem? hx
         have hxp:=i2 x hxm
         have ht:=O4 (s:=x.path) (by omega)
         refine ⟨i0,x,hx,Ok.of (MV (by dsimp only; omega)) ?_⟩
         refine Ok.of (z8 (e:=⟨c++oT x.path⟩) (l:=[x.mode,x.oJ]) (fun n hn => ?_) (by simp; omega) (by simp)) ⟨⟨by omega,by omega⟩,⟨by omega,by omega,?_⟩,by omega⟩
         . simp at hn
           rcases hn with e | e
           . rw [e]; exact (r5 x hxm).1
           . rw [e]; exact (r5 x hxm).2
         . rw [vS i0 hx,List.flatMap_append,ic]; simp [rF]
       . rw [ic,show i.toNat=o.items.length by omega,List.take_length]
         simp [uB,k2]
     . obtain ⟨p1,p2⟩:=hg.rest k3
       have n1:dP (o.parents.length:Int):=⟨by omega,by omega⟩
       have k4:=nE n1
       have k5:=nE r2
       have k6:=nE r3
       have hf:=KB (f:=encI) (k:=10) (l:=o.parents) fun x hx=>nE (r4 x hx)
       refine Ok.of (z8 (e:=⟨encI o.kind⟩) (l:=[o.tree,(o.parents.length:Int)]) (fun n hn => ?_) (by simp; omega) (by simp)) ?_
       . simp at hn
         rcases hn with e | e
         . rw [e]; exact r2
         . rw [e]; exact n1
       refine Ok.of (z8 r4 (by simp; omega) (by omega)) ?_
       refine Ok.of (z8 (l:=[o.time]) (fun n hn=>by rw [List.mem_singleton.1 hn]; exact r3) (by dsimp only; simp only [List.length_append,List.flatMap_cons,List.flatMap_nil,List.length_nil,List.length_cons]; omega) (by simp)) ?_
       refine Ok.of (MV (by dsimp only; simp only [List.length_append,List.flatMap_cons,List.flatMap_nil,List.length_nil]; omega)) (hK _ ?_)
       simp [uB,k3]
     . rcases hg.kind with e | e | e
       . exact absurd e k
       . exact absurd e k2
       . exact absurd e k3
end Go.S
end

section
namespace Go.S
open Go
end Go.S
end

section
namespace Go.S
open Go
def x8 (b:List UInt8):Nat→DS→List b5→List b5×DS
  | 0,s,l=>(l,s)
  | k+1,s,l=>x8 b k (gH b (gH b (x9 b s).2).2).2 (l++[⟨(x9 b s).1,(gH b (x9 b s).2).1,(gH b (gH b (x9 b s).2).2).1⟩])
def DQ (b:List UInt8):Nat→DS→List Int→List Int×DS
  | 0,s,l=>(l,s)
  | k+1,s,l=>DQ b k (gH b s).2 (l++[(gH b s).1])
theorem aGv {b:List UInt8} : ∀ {k:Nat} {s:DS} {l:List b5},JF b s→(∀ x∈l,dP x.mode∧dP x.oJ∧x.path.length≤b.length) →
    JF b (x8 b k s l).2∧(x8 b k s l).1.length=l.length+k ∧ ∀ x∈(x8 b k s l).1,dP x.mode∧dP x.oJ∧x.path.length≤b.length
  | 0,s,l,h,hl=>⟨h,rfl,hl⟩
  | k+1,s,l,h,hl=>by
    have h1:=QC h
    have h2:=pV h1.1
    have h3:=pV h2.1
    have:=aGv (k:=k) h3.1 (l:=l++[⟨(x9 b s).1,(gH b (x9 b s).2).1,(gH b (gH b (x9 b s).2).2).1⟩]) fun x hx=>by
      rcases List.mem_append.1 hx with q | q
      . exact hl x q
      . rw [List.mem_singleton.1 q]; exact ⟨h2.2,h3.2,h1.2⟩
    refine ⟨this.1,?_,this.2.2⟩
    rw [x8,this.2.1]; simp; omega
theorem aDf {b:List UInt8} : ∀ {k:Nat} {s:DS} {l:List Int},JF b s→(∀ x∈l,dP x) →
    JF b (DQ b k s l).2∧(DQ b k s l).1.length=l.length+k ∧ ∀ x∈(DQ b k s l).1,dP x
  | 0,s,l,h,hl=>⟨h,rfl,hl⟩
  | k+1,s,l,h,hl=>by
    have h1:=pV h
    have:=aDf (k:=k) h1.1 (l:=l++[(gH b s).1]) fun x hx=>by
      rcases List.mem_append.1 hx with q | q
      . exact hl x q
      . rw [List.mem_singleton.1 q]; exact h1.2
    refine ⟨this.1,?_,this.2.2⟩
    rw [DQ,this.2.1]; simp; omega
theorem yI {α:Type} {P:α→Prop} : ∀ x∈([]:List α),P x:=fun x hx=>(by cases hx)
def JC (n:Int):Bool:=decide (n < 0∨64 < n)
def GO (n:Int):Nat:=if JC n=true then 0 else n.toNat
theorem aAw (n:Int):GO n≤64:=by
 unfold GO JC
 split
 ·
  omega
 next h=>simp at h; omega
theorem aLM {n:Int} (h:JC n=false):((GO n:Nat):Int)=n:=by
 unfold GO
 rw [h]
 simp [JC] at h
 simp; omega
theorem aMH {b:List UInt8} {s:DS} (h:JF b s) (hl:b.length≤1000000):Sh.qG ⟨false⟩ (cP b s)=some (((GO (gH b s).1:Nat):Int),cP b (gH b s).2,⟨JC (gH b s).1⟩):=by
 apply Ok.eq
 unfold Sh.qG
 rw [xX h (by omega),Option.bind_some]
 generalize gH b s=r
 refine r8 (fun q=>q=JC r.1) ?_ ?_
 ·
  rintro q rfl
  simp only [fT,cY]
  refine ⟨fun h => ?_,fun h => ?_⟩
  ·
   simp [GO,h]
  rw [aLM (by simpa using h),show JC r.1=false by simpa using h]
 intro K hK
 simp only [fT]
 refine ⟨fun h=>hK _ (by simp [JC,h]),fun h=>hK _ ?_⟩
 simp [JC,h]
theorem aLJ (l:List b5):Sh.gW l=some l:=by
 apply Ok.eq
 unfold Sh.gW
 simp only [eL,gX,cY]
 refine ⟨⟨by omega,by omega⟩,?_⟩
 simp
theorem aHz (l:List Int):Sh.j5 l=some l:=by
 apply Ok.eq
 unfold Sh.j5
 simp only [eL,gX,cY]
 refine ⟨⟨by omega,by omega⟩,?_⟩
 simp
theorem aSh {b:List UInt8} {s:DS} (h:JF b s) (hl:b.length≤1000000):Sh.rM ⟨false⟩ (cP b s) =
 some ((x8 b (GO (gH b s).1) (gH b s).2 []).1,cP b (x8 b (GO (gH b s).1) (gH b s).2 []).2,⟨JC (gH b s).1⟩):=by
 apply Ok.eq
 unfold Sh.rM
 rw [aMH h hl,Option.bind_some]
 have hk:=aAw (gH b s).1
 have h1:=(pV h).1
 generalize GO (gH b s).1=k at *
 generalize (gH b s).2=s1 at *
 dsimp only
 refine iH (I:=fun t => ∃ s,JF b s∧t.2.2=(b,(s.at_:Int),K0 s.bad)∧0≤t.2.1∧t.2.1≤k∧t.1.length=t.2.1.toNat∧x8 b (k - t.2.1.toNat) s t.1=x8 b k s1 []) (μ:=fun t=>(k - t.2.1).toNat) ?_ ⟨s1,h1,rfl,by simp,by simp,by simp,by simp⟩
 rintro ⟨l,x,c0,c1,c2⟩ ⟨s,hs,hc,x0,x1,xl,xe⟩
 dsimp only at hc x0 x1 xl xe ⊢
 simp only [Prod.mk.injEq] at hc
 obtain ⟨rfl,rfl,rfl⟩:=hc
 have t1:=MU hs (by omega)
 have a1:=QC hs
 have t2:=xX a1.1 (by omega)
 have a2:=pV a1.1
 have t3:=xX a2.1 (by omega)
 have a3:=pV a2.1
 simp only [fT,lH,gD]
 refine ⟨fun hx => ?_,fun hx => ?_⟩
 ·
  refine Ok.of t1 (Ok.of t2 (Ok.of t3 ?_))
  simp only [gX,eL,nI]
  refine ⟨by simp; omega,⟨by omega,by omega⟩,⟨_,a3.1,rfl,by omega,by omega,by simp; omega,?_⟩,by omega⟩
  rw [show k - x.toNat=(k - (x+1).toNat)+1 by omega,x8] at xe
  exact xe
 rw [show k - x.toNat=0 by omega,x8] at xe
 rw [← xe]
 refine Ok.of (aLJ l) ?_
 rw [cY]; rfl
theorem aMK {b:List UInt8} {s:DS} (h:JF b s) (hl:b.length≤1000000):Sh.pQ ⟨false⟩ (cP b s) =
 some ((DQ b (GO (gH b s).1) (gH b s).2 []).1,cP b (DQ b (GO (gH b s).1) (gH b s).2 []).2,⟨JC (gH b s).1⟩):=by
 apply Ok.eq
 unfold Sh.pQ
 rw [aMH h hl,Option.bind_some]
 have hk:=aAw (gH b s).1
 have h1:=(pV h).1
 generalize GO (gH b s).1=k at *
 generalize (gH b s).2=s1 at *
 dsimp only
 refine iH (I:=fun t => ∃ s,JF b s∧t.2.2=(b,(s.at_:Int),K0 s.bad)∧0≤t.2.1∧t.2.1≤k∧t.1.length=t.2.1.toNat∧DQ b (k - t.2.1.toNat) s t.1=DQ b k s1 []) (μ:=fun t=>(k - t.2.1).toNat) ?_ ⟨s1,h1,rfl,by simp,by simp,by simp,by simp⟩
 rintro ⟨l,x,c0,c1,c2⟩ ⟨s,hs,hc,x0,x1,xl,xe⟩
 dsimp only at hc x0 x1 xl xe ⊢
 simp only [Prod.mk.injEq] at hc
 obtain ⟨rfl,rfl,rfl⟩:=hc
 have t1:=xX hs (by omega)
 have a1:=pV hs
 simp only [fT,lH,gD]
 refine ⟨fun hx => ?_,fun hx => ?_⟩
 ·
  refine Ok.of t1 ?_
  simp only [gX,eL,nI]
  refine ⟨by simp; omega,⟨by omega,by omega⟩,⟨_,a1.1,rfl,by omega,by omega,by simp; omega,?_⟩,by omega⟩
  rw [show k - x.toNat=(k - (x+1).toNat)+1 by omega,DQ] at xe
  exact xe
 rw [show k - x.toNat=0 by omega,DQ] at xe
 rw [← xe]
 refine Ok.of (aHz l) ?_
 rw [cY]; rfl
def uO (b:List UInt8) (s:DS):aY×DS×Bool :=
  if (gH b s).1=1 then (⟨(gH b s).1,(x9 b (gH b s).2).1,[],0,[],0,[]⟩,(x9 b (gH b s).2).2,false)
  else if (gH b s).1=2 then
    let n:=gH b (gH b s).2
    let r:=x8 b (GO n.1) n.2 []
    (⟨(gH b s).1,[],r.1,0,[],0,[]⟩,r.2,JC n.1)
  else if (gH b s).1=3 then
    let t:=gH b (gH b s).2
    let n:=gH b t.2
    let r:=DQ b (GO n.1) n.2 []
    let a:=gH b r.2
    let x:=x9 b a.2
    (⟨(gH b s).1,[],[],t.1,r.1,a.1,x.1⟩,x.2,JC n.1)
  else (⟨(gH b s).1,[],[],0,[],0,[]⟩,(gH b s).2,false)
theorem aTd {b:List UInt8} {s:DS} (h:JF b s) (hl:b.length≤1000000):JF b (uO b s).2.1∧Sh7 (uO b s).1.items∧(uO b s).1.parents.length≤1000000∧R7 (uO b s).1:=by
 have z:dP 0:=⟨by omega,by omega⟩
 have h1:=pV h
 unfold uO
 by_cases k1:(gH b s).1=1
 ·
  rw [if_pos k1]
  exact ⟨(QC h1.1).1,⟨by simp,yI⟩,by simp,h1.2,z,z,yI,yI⟩
 by_cases k2:(gH b s).1=2
 ·
  rw [if_neg k1,if_pos k2]
  have h2:=pV h1.1
  have h3:=aGv (k:=GO (gH b (gH b s).2).1) h2.1 (l:=[]) yI
  have:=aAw (gH b (gH b s).2).1
  exact ⟨h3.1,⟨by dsimp only; rw [h3.2.1]; simp; omega,fun x hx=>by have:=(h3.2.2 x hx).2.2; omega⟩,by simp,h1.2,z,z,yI,fun x hx=>⟨(h3.2.2 x hx).1,(h3.2.2 x hx).2.1⟩⟩
 by_cases k3:(gH b s).1=3
 ·
  rw [if_neg k1,if_neg k2,if_pos k3]
  have h2:=pV h1.1
  have h4:=pV h2.1
  have h3:=aDf (k:=GO (gH b (gH b (gH b s).2).2).1) h4.1 (l:=[]) yI
  have:=aAw (gH b (gH b (gH b s).2).2).1
  have h5:=pV h3.1
  have h6:=QC h5.1
  exact ⟨h6.1,⟨by simp,yI⟩,by dsimp only; rw [h3.2.1]; simp; omega,h1.2,h2.2,h5.2,h3.2.2,yI⟩
 rw [if_neg k1,if_neg k2,if_neg k3]
 exact ⟨h1.1,⟨by simp,yI⟩,by simp,h1.2,z,z,yI,yI⟩
theorem aNy {b:List UInt8} {s:DS} (h:JF b s) (hl:b.length≤1000000):Sh.qU ⟨false⟩ (cP b s)=some ((uO b s).1,cP b (uO b s).2.1,⟨(uO b s).2.2⟩):=by
 apply Ok.eq
 unfold Sh.qU
 have h1:=pV h
 rw [xX h (by omega),Option.bind_some]
 unfold uO
 simp only [fT,gD]
 refine ⟨fun k1 => ?_,fun k1=>⟨fun k2 => ?_,fun k2=>⟨fun k3 => ?_,fun k3 => ?_⟩⟩⟩
 ·
  rw [if_pos k1]
  have h2:=QC h1.1
  refine Ok.of (MU h1.1 (by omega)) ?_
  simp only [eL,gX,cY]
  exact ⟨by omega,trivial⟩
 ·
  rw [if_neg k1,if_pos k2]
  refine Ok.of (aSh h1.1 (by omega)) ?_
  rw [cY]
 ·
  rw [if_neg k1,if_neg k2,if_pos k3]
  have h2:=pV h1.1
  have h4:=pV h2.1
  have h3:=aDf (k:=GO (gH b (gH b (gH b s).2).2).1) h4.1 (l:=[]) yI
  have h5:=pV h3.1
  refine Ok.of (xX h1.1 (by omega)) (Ok.of (aMK h2.1 (by omega)) (Ok.of (xX h3.1 (by omega)) (Ok.of (MU h5.1 (by omega)) ?_)))
  rw [cY]
 rw [if_neg k1,if_neg k2,if_neg k3,cY]
end Go.S
end
