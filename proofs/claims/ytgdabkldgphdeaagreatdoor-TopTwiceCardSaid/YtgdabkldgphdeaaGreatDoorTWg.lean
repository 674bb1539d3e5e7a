/- Part of the proofs of: the law TopTwice: the same play leads to the same, each time (any acts) -/
import Derived.Test.YtgdabkldgphdeaaGreatDoorTWf
set_option linter.unusedVariables false
set_option linter.unusedSimpArgs false
set_option linter.unusedSectionVars false
section
set_option linter.unusedVariables false
namespace Go.Proofs.YtgdabkldgphdeaaGreatDoor
set_option maxHeartbeats 4000000
set_option maxRecDepth 100000
set_option synthInstance.maxSize 2000
set_option synthInstance.maxHeartbeats 1000000
open Go.RowKit Go.V
open Go.S
attribute [local irreducible] Go.V.Qt Go.V.VL Go.V.VC Go.V.I0 Go.S.gd Go.S.at_ Go.S.lt Go.S.jn Go.S.go Go.S.up Go.S.iter Sh.fN Sh.pG Sh.xL Sh.uV Sh.zD Sh.yC Sh.rX Sh.dA Sh.fC Sh.pP Sh.iT Sh.BQ Sh.HI Sh.AV Sh.mC Sh.mZ Sh.vD Sh.yF Sh.xS Sh.xU
instance aBu (bP:iY) (b_1:iY) :
 gF Tryz.prog 15 [.agg (mQ bP).toArray,.agg (mQ b_1).toArray] (Sh.xS bP.pl b_1.pl) (bP.m.and b_1.m) (fun r => .bool r):=by
 refine gM Tryz.func15 Tryz.ntmps15 fun r hS c => ?_
 unfold Sh.xS at hS
 refine cI ?_
 refine qA (mQ bP) fun iV => ?_
 refine qA (mQ b_1) fun gL => ?_
 refine ZX ?_
 refine jK hS rfl fun E5 hS=>Zm ?_
 refine xZ 10 hS (fun h10 hS => ?_) (fun h10 hS => ?_)
 ·
  refine ZX ?_
  obtain ⟨tF,aAt,hS⟩:=cS hS
  refine Zh (dU ((NM bP.index b_1.index).out aAt) rfl (fun _ _=>rfl)) ?_
  refine Zt ?_
  refine Zm ?_
  refine xZ 17 hS (fun h17 hS => ?_) (fun h17 hS => ?_)
  ·
   refine ZX ?_
   obtain ⟨p7,aEV,hS⟩:=cS hS
   refine Zh (dU ((FC bP.refs b_1.refs).out aEV) rfl (fun _ _=>rfl)) ?_
   refine Zt ?_
   refine Zm ?_
   refine xZ 24 hS (fun h24 hS => ?_) (fun h24 hS => ?_)
   ·
    refine ZX ?_
    refine Zh (mG (j:=3) (n:=2) EK rfl rfl rfl) ?_
    refine ZX ?_
    refine Zh (mG (j:=3) (n:=2) EK rfl rfl rfl) ?_
    refine Zh (LH aPR (aPT bP.cB bP.cA b_1.cB b_1.cA) rfl rfl) ?_
    refine Zt ?_
    refine Zm ?_
    refine nT 31 hS (fun h31 hS => ?_) (fun h31 hS => ?_)
    ·
     refine ZX ?_
     refine Zh (mG (j:=5) (n:=11) HZ rfl rfl rfl) ?_
     refine ZX ?_
     refine Zh (mG (j:=5) (n:=11) HZ rfl rfl rfl) ?_
     obtain ⟨aJj,a1M,hS⟩:=cS hS
     refine Zh (dU ((aBv (⟨bP.fE,bP.eM,bP.fF,bP.cZ,bP.eA,bP.eX,bP.dM,bP.bW,bP.bX,bP.dB,bP.eC⟩:pN) (⟨b_1.fE,b_1.eM,b_1.fF,b_1.cZ,b_1.eA,b_1.eX,b_1.dM,b_1.bW,b_1.bX,b_1.dB,b_1.eC⟩:pN)).out a1M) rfl (fun _ _=>rfl)) ?_
     refine Zt ?_
     refine Zm ?_
     refine xZ 38 hS (fun h38 hS => ?_) (fun h38 hS => ?_)
     ·
      refine ZX ?_
      obtain ⟨aZ8,a1P,hS⟩:=cS hS
      refine Zh (dU ((WD bP.gB b_1.gB).out a1P) rfl (fun _ _=>rfl)) ?_
      exact ZE hS
     exact ZE hS
    exact ZE hS
   exact ZE hS
  exact ZE hS
 exact ZE hS
instance P3 (iQ:Sv Int) (jV:Sv Int) :
 gF Tryz.prog 40 [iQ.val,jV.val] (Sh.pP iQ.l jV.l) (iQ.ok.and jV.ok) (fun r => .bool r):=by
 refine gM Tryz.func40 Tryz.ntmps40 fun r hS c => ?_
 unfold Sh.pP at hS
 refine ZX ?_
 refine Zq (ZX ?_)
 refine oD hS (fun _ hS=>ZE hS) fun h10 hS=>Zk ?_
 refine Zq (ZX ?_)
 refine VC.aV [0,1,12,13] (Zb ?_)
 refine VC.iJ [0,1,12] (fun (jP:Int)=>jP) (fun jP ρ=>(13,i64 jP)::ρ) 0 [13,0,1,12] hS ?_
 rintro jP m1 y1 hS hK1
 refine ZX ?_
 refine Zq (Zc hS (fun h14 hS => ?_) (fun h14 hS => ?_))
 ·
  refine Zk ?_
  refine Zq (Zb (ZX ?_))
  refine Zq ?_
  refine iB ((List.range 9).map fun k=>(k,true)) ?_
  exact ZE hS
 exact ZE hS
instance WJ (bP:bY) (b_1:bY) :
 gF Tryz.prog 17 [.agg #[bP.tree.val,bP.parents.val,i64 bP.time,str bP.text],.agg #[b_1.tree.val,b_1.parents.val,i64 b_1.time,str b_1.text]] (Sh.vD bP.pl b_1.pl) (bP.tree.ok.and (bP.parents.ok.and (b_1.tree.ok.and b_1.parents.ok))) (fun r => .bool r):=by
 refine gM Tryz.func17 Tryz.ntmps17 fun r hS c => ?_
 unfold Sh.vD at hS
 refine cI (kU fun iV=>kU fun gL=>ZX ?_)
 refine jK hS rfl fun E5 hS=>Zm ?_
 refine xZ 10 hS (fun h10 hS => ?_) (fun h10 hS => ?_)
 ·
  refine ZX ?_
  obtain ⟨tF,aAt,hS⟩:=cS hS
  refine Zh (dU ((P3 bP.parents b_1.parents).out aAt) rfl (fun _ _=>rfl)) ?_
  exact ZE hS
 exact ZE hS
instance oU (iQ:Sv bY) (jV:Sv bY) :
 gF Tryz.prog 16 [iQ.val,jV.val,.func (.func 17) #[] #[]] (Sh.dA (iQ.l.map bY.pl) (jV.l.map bY.pl)) (iQ.ok.and jV.ok) (fun r => .bool r):=by
 refine gM Tryz.func16 Tryz.ntmps16 fun r hS c => ?_
 unfold Sh.dA at hS
 refine ZX ?_
 refine Zq (ZX ?_)
 refine oD hS (fun _ hS=>ZE hS) fun h14 hS=>Zk ?_
 refine Zq (ZX ?_)
 refine VC.aV [1,2,15,16,17] (Zb ?_)
 refine VC.iJ [1,2,15,16] (fun (lM:Int)=>lM) (fun lM ρ=>(17,i64 lM)::ρ) 0 [17,1,2,15,16] hS ?_
 rintro lM m1 y1 hS hK1
 refine ZX ?_
 refine Zq (Zc hS (fun h18 hS => ?_) (fun h18 hS => ?_))
 ·
  refine Zk ?_
  refine Zq (Zb (ZX ?_))
  obtain ⟨EF,O3,H7,hS⟩:=zW hS
  refine VL.deep EF.m H7 (fun _ q=>q) ?_
  refine Zu (jA (s:=iQ) Tryz.underlying38 PU rfl rfl O3 (bR O3 H7)) (Zu (nF  (s:=iQ) SI rfl rfl H7) ?_)
  refine dJ fun a6V=>ZX ?_
  obtain ⟨eY,KH,EL,hS⟩:=zW hS
  refine VL.deep eY.m EL (fun _ q=>q) ?_
  refine Zu (jA (s:=jV) Tryz.underlying38 PU rfl rfl KH (bR KH EL)) (Zu (nF  (s:=jV) SI rfl rfl EL) ?_)
  refine dJ fun a6Y=>ZO ?_
  refine Zl ?_
  refine VC.aV [1,2,15,16,17,8,9] (ZX ?_)
  obtain ⟨J9,aAv,hS⟩:=cS hS
  refine Zu (oL ((WJ EF eY).out aAv) rfl rfl (fun _ _=>rfl)) ?_
  exact ZE hS
 exact ZE hS
instance aAQ (bP:bH) (b_1:bH) :
 gF Tryz.prog 19 [str bP,str b_1] (Sh.yF bP b_1) Mo.tt (fun r => .bool r):=by
 refine gM Tryz.func19 Tryz.ntmps19 fun r hS c => ?_
 unfold Sh.yF at hS
 refine ZX ?_
 refine fR hS rfl fun ⟨aGM,NV⟩ hS => ?_
 try dsimp only
 refine ZX ?_
 refine dJ fun a6Q=>ZX ?_
 refine fR hS rfl fun ⟨aB2,aX9⟩ hS => ?_
 try dsimp only
 refine ZX ?_
 refine dJ fun aKb=>ZO ?_
 refine Zl ?_
 refine VC.aV [0,1,5,6,7,8] (Zq ?_)
 refine VC.cJ [0,1,5,7] (fun (aD2:Bool)=>aD2) (fun aD2 ρ=>(24,.bool aD2)::ρ) hS ?_ ?_
 ·
  intro k6 hS
  refine Zr (Zm (Zu (aJT Tryz.underlying46 rfl) (Zm ?_)))
  refine UR 21 hS (fun _ hS=>ZE hS) fun h21 hS => ?_
  refine ZX ?_
  refine VL.mt (!decide (aX9.pl.isNil=true)) [24,0,1,5,7] (fun _ _ h=>h) hS rfl
 rintro aD2 hS
 exact ZE hS
instance oZ (iQ:Sv bH) (jV:Sv bH) :
 gF Tryz.prog 18 [iQ.val,jV.val,.func (.func 19) #[] #[]] (Sh.fC iQ.l jV.l) (iQ.ok.and jV.ok) (fun r => .bool r):=by
 refine gM Tryz.func18 Tryz.ntmps18 fun r hS c => ?_
 unfold Sh.fC at hS
 refine ZX ?_
 refine Zq (ZX ?_)
 refine oD hS (fun _ hS=>ZE hS) fun h14 hS=>Zk ?_
 refine Zq (ZX ?_)
 refine VC.aV [1,2,15,16,17] (Zb ?_)
 refine VC.iJ [1,2,15,16] (fun (lM:Int)=>lM) (fun lM ρ=>(17,i64 lM)::ρ) 0 [17,1,2,15,16] hS ?_
 rintro lM m1 y1 hS hK1
 refine ZX ?_
 refine Zq (Zc hS (fun h18 hS => ?_) (fun h18 hS => ?_))
 ·
  refine Zk ?_
  refine Zq (Zb (ZX ?_))
  obtain ⟨EF,O3,H7,hS⟩:=gP hS
  refine Zu (jA (s:=iQ) Tryz.underlying39 xE rfl rfl O3 (bR O3 H7)) (Zu (I4  (s:=iQ) mF rfl H7 rfl) ?_)
  refine ZX ?_
  refine yH hS rfl fun aOh bBo hS=>ZO ?_
  refine Zl ?_
  refine VC.aV [1,2,15,16,17,8,9] (ZX ?_)
  obtain ⟨aDn,aIg,hS⟩:=cS hS
  refine Zu (oL ((aAQ EF aOh).out aIg) rfl rfl (fun _ _=>rfl)) ?_
  exact ZE hS
 exact ZE hS
instance aGf (bP:aM) (b_1:aM) :
 gF Tryz.prog 8 [.agg (aJ bP).toArray,.agg (aJ b_1).toArray] (Sh.HI bP.pl b_1.pl) (bP.m.and b_1.m) (fun r => .bool r):=by
 refine gM Tryz.func8 Tryz.ntmps8 fun r hS c => ?_
 unfold Sh.HI at hS
 refine cI ?_
 refine qA (aJ bP) fun iV => ?_
 refine qA (aJ b_1) fun gL => ?_
 refine ZX ?_
 refine Zu (mG (j:=0) (n:=17) MJ rfl rfl rfl) ?_
 refine ZX ?_
 refine Zu (mG (j:=0) (n:=17) MJ rfl rfl rfl) ?_
 refine Zcq hS (aBu (⟨bP.aY,bP.aU,bP.bA,bP.aI,bP.aG,bP.aS,bP.aO,bP.aT,bP.aN,bP.aP,bP.aQ,bP.aK,bP.aD,bP.aE,bP.aL,bP.aR,bP.aX⟩:iY) (⟨b_1.aY,b_1.aU,b_1.bA,b_1.aI,b_1.aG,b_1.aS,b_1.aO,b_1.aT,b_1.aN,b_1.aP,b_1.aQ,b_1.aK,b_1.aD,b_1.aE,b_1.aL,b_1.aR,b_1.aX⟩:iY)).out fun E5 hS=>Zm ?_
 refine xZ 10 hS (fun h10 hS => ?_) (fun h10 hS => ?_)
 ·
  refine ZX ?_
  obtain ⟨tF,aAt,hS⟩:=cS hS
  refine Zh (dU ((oU bP.bC b_1.bC).out aAt) rfl (fun _ _=>rfl)) ?_
  refine Zt ?_
  refine Zm ?_
  refine xZ 17 hS (fun h17 hS => ?_) (fun h17 hS => ?_)
  ·
   refine Zh (bU VA rfl) ?_
   refine Zh (lB o5 rfl rfl) ?_
   refine Zh (bU VA rfl) ?_
   refine Zh (lB o5 rfl rfl) ?_
   refine Zh (FA rfl rfl) ?_
   refine Zt ?_
   refine Zm ?_
   refine nT 24 hS (fun h24 hS => ?_) (fun h24 hS => ?_)
   ·
    refine ZX ?_
    obtain ⟨aZW,a1H,hS⟩:=cS hS
    refine Zh (dU ((oZ bP.bE b_1.bE).out a1H) rfl (fun _ _=>rfl)) ?_
    refine Zt ?_
    refine Zm ?_
    refine xZ 33 hS (fun h33 hS => ?_) (fun h33 hS => ?_)
    ·
     refine ZX ?_
     obtain ⟨aZ6,a1O,hS⟩:=cS hS
     refine Zh (dU ((oZ bP.aZ b_1.aZ).out a1O) rfl (fun _ _=>rfl)) ?_
     exact ZE hS
    exact ZE hS
   exact ZE hS
  exact ZE hS
 exact ZE hS
theorem aYf {A B:Ow} (hB : ∀ {x y:Hp},x.le y→B x→B y) {x z:Hp} (l:x.le z) (h:Ow.star A B x):Ow.star A B z:=by
 obtain ⟨x1,y1,d,rfl,h1,h2⟩:=h
 refine ⟨x1,fun i=>if x1 i=none then z i else none,fun i => ?_,?_,h1,hB ?_ h2⟩
 ·
  by_cases q:x1 i=none
  ·
   exact .inl q
  exact .inr (if_neg q)
 ·
  funext i
  cases q:x1 i with
  | none=>simp [Hp.join,q]
  | some o =>
    have:=l i o (by simp [Hp.join,q])
    simp [Hp.join,q,this]
 intro i o e
 have q:x1 i=none:=by
   rcases d i with q | q
   . exact q
   . rw [q] at e; cases e
 show (if x1 i=none then z i else none)=some o
 rw [if_pos q]
 exact l i o (by simp [Hp.join,q,e])
theorem Bd.up {T e:TypeId} {b:Nat} {l:bH} {x z:Hp} (k:x.le z) (h:Bd T e b l x):Bd T e b l z:=by
 obtain ⟨p,s,h1,h2,h3,h4⟩:=h
 exact ⟨p,s,h1,h2,h3,aYf (fun k=>Sv.aJR k) k h4⟩
instance (priority:=800) fK.bdS (E:Ow) {F:Ow} (T e:TypeId) (b:Nat) (l:bH) [i:Fo E (Bd T e b l) F]:fK E (Bd T e b l):=⟨fun e' he=>by
  obtain ⟨x,y,dxy,j,hx,hy⟩:=i.out e' he
  exact Bd.up (T:=T) (e:=e) (b:=b) (l:=l) (by rw [j]; exact Hp.cV x y) hx⟩
instance oV (dR:Sv bH) (iC:Nat) (a_1:bH) :
 vL Tryz.prog 20 [dR.val,ptr iC 0] (Sh.mC dR.l a_1) dR.ok (Bd 69 5 iC a_1) (X:=bH) (fun x => .tuple #[]) (fun x=>x) (fun x=>Mo.tt) (fun x=>Bd 69 5 iC x):=by
 refine v8 Tryz.func20 Tryz.ntmps20 fun r hS c => ?_
 unfold Sh.mC at hS
 obtain ⟨b4,hS⟩:=bM hS
 refine Zr (Zm ?_)
 obtain ⟨ZL,aN9,hS⟩:=mB hS
 refine Zu (dU (aFy dR [32] b4) rfl (fun _ _=>congrArg str aN9)) ?_
 obtain ⟨b5,hS⟩:=bM hS
 obtain ⟨wU,a7E,hS⟩:=mB hS
 refine Zu (nO rfl rfl b5 a7E) ?_
 obtain ⟨b6,hS⟩:=bM hS
 refine VL.oE (L6 iC a_1 wU b6) rfl (by decide) ?_
 rintro _ _
 obtain ⟨aOq,aUw,hS⟩:=mB hS
 rw [aUw]
 cases hS
 exact VL.nil (rP (.inl rfl) rfl _ rfl rfl (by (try dsimp only); exact dV.out) (by (try dsimp only); exact fK.out))
instance WH (aA:aM) :
 gF Tryz.prog 9 [.agg (aJ aA).toArray] (Sh.AV aA.pl) (aA.m.and Gl) (fun r=>str r):=by
 refine gM Tryz.func9 Tryz.ntmps9 fun r hS c => ?_
 unfold Sh.AV at hS
 refine cI ?_
 refine qA (aJ aA) fun hG => ?_
 refine ZX ?_
 refine dJ fun gL => ?_
 refine VL.a6j 5 gL ?_
 refine Zl ?_
 refine cI (ZO ?_)
 refine Zl ?_
 refine cI (Za ?_)
 refine Zl ?_
 refine VC.u5 (S:=bH) (fun (E7:bH)=>E7) (fun (E7:bH)=>[(1,ptr hG 0),(3,ptr gL 0),(4,.func (.func 20) #[] #[ptr gL 0]),(5,.func (.func 23) #[] #[])]) (fun (E7:bH)=>Mo.tt) (fun (E7:bH)=>Ow.star (bN hG (aJ aA) 43) (Ow.star (Bd 69 5 gL E7) (Ow.emp))) hS ?_ ?_
 ·
  intro k4 hS
  refine ZX ?_
  refine VC.aV [1,3,4,5,23] (oD hS (fun h23 hS => ?_) (fun h23 hS => ?_))
  ·
   refine Zr (ZX ?_)
   refine mS hS fun aY3 hS => ?_
   obtain ⟨EB,aIi,hS⟩:=cS hS
   refine VL.yJ (vs:=[aY3.val]) (caps:=[ptr gL 0]) ((oV aY3 gL []).out aIi) rfl rfl (by decide) ?_
   rintro _ rfl
   exact ZE hS
  obtain ⟨b37,hS⟩:=bM hS
  refine Zr (ZX ?_)
  refine Zu (oL (lP aA.aG b37) rfl rfl (fun _ _=>rfl)) ?_
  obtain ⟨b38,hS⟩:=bM hS
  obtain ⟨aHI,aIj,hS⟩:=mB hS
  refine Zu (nO rfl rfl b38 aIj) ?_
  refine mS hS fun aY7 hS => ?_
  obtain ⟨aQ6,aVM,hS⟩:=cS hS
  refine VL.yJ (vs:=[aY7.val]) (caps:=[ptr gL 0]) ((oV aY7 gL []).out aVM) rfl rfl (by decide) ?_
  rintro _ rfl
  exact ZE hS
 rintro E7 hS
 refine Zq (ZX ?_)
 refine Zb ?_
 refine VC.iter (S:=Int×bH) (fun sg=>(sg.1,sg.2)) (fun sg=>[(1,ptr hG 0),(3,ptr gL 0),(4,.func (.func 20) #[] #[ptr gL 0]),(5,.func (.func 23) #[] #[]),(43,aA.bA.val),(44,i64 (aA.bA.l.length:Int)),(45,i64 sg.1)]) (fun sg=>Mo.tt) (fun sg=>Ow.star (bN hG (aJ aA) 43) (Ow.star (Bd 69 5 gL sg.2) (Ow.emp))) (0,E7) [1,3,4,5,43,44,45] hS rfl ?_
 rintro ⟨X5,W9⟩ m1 y1 hS hK1
 refine ZX ?_
 refine Zq (Zc hS (fun h46 hS => ?_) (fun h46 hS => ?_))
 ·
  refine Zk ?_
  refine Zq (Zb (cI (yH hS rfl fun aCV bA3 hS=>ZX ?_)))
  refine dJ fun bCb=>ZX ?_
  refine iB [(0,true),(1,true),(2,true),(3,true),(4,true),(5,true),(6,false),(7,false),(8,false)] ?_
  refine ZX ?_
  refine VD.one rfl ?_
  obtain ⟨b55,hS⟩:=bM hS
  refine Zu (oL (lP aCV.cC b55) rfl rfl (fun _ _=>rfl)) ?_
  refine eO (Pk 2 (Pk 1 Pz)) ?_
  refine VD.one rfl (mS hS fun aQJ hS=>eV ?_)
  refine VD.one rfl ?_
  obtain ⟨aJv,aV6,hS⟩:=cS hS
  refine VL.yJ (vs:=[aQJ.val]) (caps:=[ptr gL 0]) ((oV aQJ gL W9).out aV6) rfl rfl (by decide) ?_
  rintro _ rfl
  try dsimp only
  refine eV ?_
  refine uD ?_
  refine VC.aV [1,3,4,5,43,44,45] ?_
  obtain ⟨b58,hS⟩:=bM hS
  refine Zr (ZX ?_)
  refine VL.kL ((X5+1),aJv) [1,3,4,5,43,44,45] (fun _ _ h=>h) (go2 hS hK1) rfl
 replace hS:=kS hS hK1
 refine Zx ?_
 refine VC.u5 (S:=bH) (fun (MG:bH)=>MG) (fun (MG:bH)=>[(1,ptr hG 0),(3,ptr gL 0),(4,.func (.func 20) #[] #[ptr gL 0]),(5,.func (.func 23) #[] #[])]) (fun (MG:bH)=>Mo.tt) (fun (MG:bH)=>Ow.star (bN hG (aJ aA) 43) (Ow.star (Bd 69 5 gL MG) (Ow.emp))) hS ?_ ?_
 ·
  intro k20 hS
  refine ZX ?_
  refine VC.aV [1,3,4,5,63] (oD hS (fun h63 hS => ?_) (fun h63 hS => ?_))
  ·
   refine Zr (ZX ?_)
   refine mS hS fun aQK hS => ?_
   obtain ⟨aRI,aVd,hS⟩:=cS hS
   refine VL.yJ (vs:=[aQK.val]) (caps:=[ptr gL 0]) ((oV aQK gL W9).out aVd) rfl rfl (by decide) ?_
   rintro _ rfl
   exact ZE hS
  exact ZE hS
 rintro MG hS
 refine Zq (ZX ?_)
 refine Zb ?_
 refine VC.iter (S:=Int×bH) (fun sg=>(sg.1,sg.2)) (fun sg=>[(1,ptr hG 0),(3,ptr gL 0),(4,.func (.func 20) #[] #[ptr gL 0]),(5,.func (.func 23) #[] #[]),(73,aA.aY.val),(74,i64 (aA.aY.l.length:Int)),(75,i64 sg.1)]) (fun sg=>Mo.tt) (fun sg=>Ow.star (bN hG (aJ aA) 43) (Ow.star (Bd 69 5 gL sg.2) (Ow.emp))) (0,MG) [1,3,4,5,73,74,75] hS rfl ?_
 rintro ⟨YD,aAf⟩ m1 y1 hS hK1
 refine ZX ?_
 refine Zq (Zc hS (fun h76 hS => ?_) (fun h76 hS => ?_))
 ·
  refine Zk ?_
  refine Zq (Zb (cI (yH hS rfl fun PM bAa hS=>ZX ?_)))
  refine dJ fun bCd=>ZX ?_
  refine iB [(0,true),(1,true),(2,true),(3,true),(4,true),(5,true),(7,true),(8,true),(9,true),(10,true),(6,false),(11,false),(12,false),(13,false)] ?_
  refine ZX ?_
  refine VD.one rfl ?_
  obtain ⟨b85,hS⟩:=bM hS
  refine Zu (oL (lP PM.mode b85) rfl rfl (fun _ _=>rfl)) ?_
  refine eO (Pk 10 (Pk 9 (Pk 8 (Pk 2 (Pk 1 Pz))))) ?_
  refine VD.one rfl ?_
  obtain ⟨b90,hS⟩:=bM hS
  refine Zu (oL (lP (PM.data.length:Int) b90) rfl rfl (fun _ _=>rfl)) ?_
  refine eO (Pk 2 (Pk 1 Pz)) ?_
  refine VD.one rfl (mS hS fun aQL hS=>eV ?_)
  refine VD.one rfl ?_
  obtain ⟨aKL,aVg,hS⟩:=cS hS
  refine VL.yJ (vs:=[aQL.val]) (caps:=[ptr gL 0]) ((oV aQL gL aAf).out aVg) rfl rfl (by decide) ?_
  rintro _ rfl
  try dsimp only
  refine eV ?_
  refine uD ?_
  refine VC.aV [1,3,4,5,73,74,75] ?_
  obtain ⟨b93,hS⟩:=bM hS
  refine Zr (ZX ?_)
  refine VL.kL ((YD+1),aKL) [1,3,4,5,73,74,75] (fun _ _ h=>h) (go2 hS hK1) rfl
 replace hS:=kS hS hK1
 refine Zx ?_
 refine Zq (ZX ?_)
 refine Zb ?_
 refine VC.iter (S:=Int×bH) (fun sg=>(sg.1,sg.2)) (fun sg=>[(1,ptr hG 0),(3,ptr gL 0),(4,.func (.func 20) #[] #[ptr gL 0]),(5,.func (.func 23) #[] #[]),(96,aA.aU.val),(97,i64 (aA.aU.l.length:Int)),(98,i64 sg.1)]) (fun sg=>Mo.tt) (fun sg=>Ow.star (bN hG (aJ aA) 43) (Ow.star (Bd 69 5 gL sg.2) (Ow.emp))) (0,aAf) [1,3,4,5,96,97,98] hS rfl ?_
 rintro ⟨YF,aAg⟩ m1 y1 hS hK1
 refine ZX ?_
 refine Zq (Zc hS (fun h99 hS => ?_) (fun h99 hS => ?_))
 ·
  refine Zk ?_
  refine Zq (Zb (cI (yH hS rfl fun ED a9H hS=>ZX ?_)))
  refine dJ fun bBc=>ZX ?_
  refine iB [(0,true),(1,true),(2,true),(3,true),(4,true),(5,true),(7,true),(8,true),(9,true),(11,true),(12,true),(13,true),(14,true),(6,false),(10,false),(15,false),(16,false),(17,false)] ?_
  refine ZX ?_
  refine VD.one rfl ?_
  obtain ⟨b108,hS⟩:=bM hS
  refine Zu (oL (lP ED.iK b108) rfl rfl (fun _ _=>rfl)) ?_
  refine eO (Pk 14 (Pk 13 (Pk 12 (Pk 9 (Pk 8 (Pk 2 (Pk 1 Pz))))))) ?_
  refine VD.one rfl ?_
  obtain ⟨b112,hS⟩:=bM hS
  refine Zu (oL (lP ED.mode b112) rfl rfl (fun _ _=>rfl)) ?_
  refine eO (Pk 14 (Pk 13 (Pk 12 (Pk 2 (Pk 1 Pz))))) ?_
  refine VD.one rfl ?_
  obtain ⟨b117,hS⟩:=bM hS
  refine Zu (oL (lP (ED.data.length:Int) b117) rfl rfl (fun _ _=>rfl)) ?_
  refine eO (Pk 2 (Pk 1 Pz)) ?_
  refine VD.one rfl (mS hS fun aMh hS=>eV ?_)
  refine VD.one rfl ?_
  obtain ⟨aGn,aRo,hS⟩:=cS hS
  refine VL.yJ (vs:=[aMh.val]) (caps:=[ptr gL 0]) ((oV aMh gL aAg).out aRo) rfl rfl (by decide) ?_
  rintro _ rfl
  try dsimp only
  refine eV ?_
  refine uD ?_
  refine VC.aV [1,3,4,5,96,97,98] ?_
  obtain ⟨b120,hS⟩:=bM hS
  refine Zr (ZX ?_)
  refine VL.kL ((YF+1),aGn) [1,3,4,5,96,97,98] (fun _ _ h=>h) (go2 hS hK1) rfl
 replace hS:=kS hS hK1
 refine Zx ?_
 refine Zq (ZX ?_)
 refine Zb ?_
 refine VC.iter (S:=Int×bH) (fun sg=>(sg.1,sg.2)) (fun sg=>[(1,ptr hG 0),(3,ptr gL 0),(4,.func (.func 20) #[] #[ptr gL 0]),(5,.func (.func 23) #[] #[]),(122,aA.bC.val),(123,i64 ((aA.bC.l.map bY.pl).length:Int)),(124,i64 sg.1)]) (fun sg=>Mo.tt) (fun sg=>Ow.star (bN hG (aJ aA) 43) (Ow.star (Bd 69 5 gL sg.2) (Ow.emp))) (0,aAg) [1,3,4,5,122,123,124] hS rfl ?_
 rintro ⟨AI,XA⟩ m1 y1 hS hK1
 refine ZX ?_
 refine Zq (Zc hS (fun h125 hS => ?_) (fun h125 hS => ?_))
 ·
  refine Zk ?_
  refine Zq (Zb (ZX ?_))
  obtain ⟨v7,aHr,aCg,hS⟩:=zW hS
  refine VL.deep v7.m aCg (fun _ q=>q) ?_
  refine Zu (jA (s:=aA.bC) Tryz.underlying38 PU rfl rfl aHr (bR aHr aCg)) (Zu (nF  (s:=aA.bC) SI rfl rfl aCg) ?_)
  refine dJ fun aIV=>ZX ?_
  refine Zq (ZX ?_)
  refine Zb ?_
  refine VC.mR (⟨none,0,[]⟩:Sv bH) 9 ⟨rfl,rfl⟩ ?_
  refine VC.iter (S:=Sv bH×Int) (fun sg=>(sg.1.l,sg.2)) (fun sg=>[(1,ptr hG 0),(3,ptr gL 0),(4,.func (.func 20) #[] #[ptr gL 0]),(5,.func (.func 23) #[] #[]),(12,i64 AI),(13,ptr aIV 0),(14,sg.1.val),(122,aA.bC.val),(123,i64 ((aA.bC.l.map bY.pl).length:Int)),(124,i64 AI),(130,v7.parents.val),(131,i64 (v7.parents.l.length:Int)),(132,i64 sg.2)]) (fun sg=>Mo.tt) (fun sg=>Ow.star (bN aIV [v7.tree.val,v7.parents.val,i64 v7.time,str v7.text] 59) (Ow.star (bN hG (aJ aA) 43) (Ow.star (Bd 69 5 gL XA) (Ow.star (Sv.own sg.1 9) (Ow.emp))))) (⟨none,0,[]⟩,0) [1,3,4,5,12,13,14,122,123,124,130,131,132] hS rfl ?_
  rintro ⟨zB,RU⟩ m2 y2 hS hK2
  refine ZX ?_
  refine Zq (Zc hS (fun h133 hS => ?_) (fun h133 hS => ?_))
  ·
   refine Zk ?_
   refine Zq (Zb (cI (yH hS rfl fun aCS a9J hS => ?_)))
   obtain ⟨b139,hS⟩:=bM hS
   refine ZX ?_
   refine Zr (ZX ?_)
   refine Zu (oL (lP aCS b139) rfl rfl (fun _ _=>rfl)) ?_
   refine mS hS fun bBM hS=>HM hS fun aY1 hS => ?_
   refine Za ?_
   refine Zl ?_
   refine VC.aV [1,3,4,5,12,13,14,122,123,124,130,131,132] ?_
   obtain ⟨b142,hS⟩:=bM hS
   refine Zr (ZX ?_)
   refine VL.kL (aY1,(RU+1)) [1,3,4,5,12,13,14,122,123,124,130,131,132] (fun _ _ h=>h) (go2 hS hK2) rfl
  replace hS:=kS hS hK2
  refine Zx ?_
  refine iB [(0,true),(1,true),(2,true),(3,true),(6,true),(9,true),(10,true),(11,true),(12,true),(15,true),(16,true),(4,false),(5,true),(7,true),(8,true),(13,false),(14,true),(17,false),(18,false)] ?_
  obtain ⟨b146,hS⟩:=bM hS
  refine ZX ?_
  refine VD.one rfl ?_
  obtain ⟨b147,hS⟩:=bM hS
  refine Zu (oL (lP (AI+1) b147) rfl rfl (fun _ _=>rfl)) ?_
  refine eO (Pk 16 (Pk 15 (Pk 12 (Pk 11 (Pk 10 Pz))))) ?_
  obtain ⟨b148,hS⟩:=bM hS
  obtain ⟨aGo,aHj,hS⟩:=mB hS
  refine Zw rfl (nO rfl rfl b148 aHj) ?_
  obtain ⟨b150,hS⟩:=bM hS
  obtain ⟨aGp,aRp,hS⟩:=mB hS
  refine Zw rfl (l6 (aFy zB [32] b150) rfl (fun _ _=>congrArg str aRp)) ?_
  obtain ⟨b151,hS⟩:=bM hS
  obtain ⟨aGq,aHk,hS⟩:=mB hS
  refine Zw rfl (nO rfl rfl b151 aHk) ?_
  refine VD.one rfl ?_
  obtain ⟨b156,hS⟩:=bM hS
  refine Zu (oL (lP (v7.tree.l.length:Int) b156) rfl rfl (fun _ _=>rfl)) ?_
  refine QT [(8,str aGq),(5,str aGo),(16,str v7.text),(15,ptr aIV 3)] (bT.cons rfl (nO rfl rfl b151 aHk) (bT.cons rfl (nO rfl rfl b148 aHj) (bT.cons rfl (lB mF rfl rfl) (bT.cons rfl (bU aLJ rfl) bT.nil)))) ?_
  obtain ⟨b157,hS⟩:=bM hS
  obtain ⟨aNA,aRq,hS⟩:=mB hS
  refine Zw rfl (nO rfl rfl b157 aRq) ?_
  refine VD.one rfl (mS hS fun aMi hS=>eV ?_)
  refine VD.one rfl ?_
  obtain ⟨aGr,aRr,hS⟩:=cS hS
  refine VL.yJ (vs:=[aMi.val]) (caps:=[ptr gL 0]) ((oV aMi gL XA).out aRr) rfl rfl (by decide) ?_
  rintro _ rfl
  try dsimp only
  refine eV ?_
  refine uD ?_
  refine VC.aV [1,3,4,5,122,123,124] ?_
  obtain ⟨b162,hS⟩:=bM hS
  refine Zr (ZX ?_)
  refine VL.kL ((AI+1),aGr) [1,3,4,5,122,123,124] (fun _ _ h=>h) (go2 hS hK1) rfl
 replace hS:=kS hS hK1
 refine Zx ?_
 refine Zq (ZX ?_)
 refine Zu (vV bL.pl (s:=aA.aX) Tryz.underlying35 rfl) ?_
 refine ZX ?_
 refine VC.aV [1,3,4,5,166,167] (Zb ?_)
 refine VC.iter (S:=Int×bH) (fun sg=>(sg.1,sg.2)) (fun sg=>[(1,ptr hG 0),(3,ptr gL 0),(4,.func (.func 20) #[] #[ptr gL 0]),(5,.func (.func 23) #[] #[]),(166,i64 ((aA.aX.l.map bL.pl).length:Int)),(167,i64 sg.1)]) (fun sg=>Mo.tt) (fun sg=>Ow.star (bN hG (aJ aA) 43) (Ow.star (Bd 69 5 gL sg.2) (Ow.emp))) (0,XA) [1,3,4,5,166,167] hS rfl ?_
 rintro ⟨LM,aAh⟩ m1 y1 hS hK1
 refine ZX ?_
 refine Zq (Zc hS (fun h168 hS => ?_) (fun h168 hS => ?_))
 ·
  obtain ⟨b173,hS⟩:=bM hS
  refine Zk ?_
  refine Zq (Zb (ZX ?_))
  refine Zr (ZX ?_)
  refine Zu (oL (lP LM b173) rfl rfl (fun _ _=>rfl)) ?_
  refine mS hS fun aMj hS => ?_
  obtain ⟨aGs,aRs,hS⟩:=cS hS
  refine VL.yJ (vs:=[aMj.val]) (caps:=[ptr gL 0]) ((oV aMj gL aAh).out aRs) rfl rfl (by decide) ?_
  rintro _ rfl
  try dsimp only
  refine Zl ?_
  refine VC.aV [1,3,4,5,166,167] ?_
  obtain ⟨b176,hS⟩:=bM hS
  refine Zr (ZX ?_)
  refine VL.kL ((LM+1),aGs) [1,3,4,5,166,167] (fun _ _ h=>h) (go2 hS hK1) rfl
 replace hS:=kS hS hK1
 refine Zx ?_
 refine Zq ?_
 refine iB [(0,true),(1,true),(2,true),(3,true),(4,true),(5,true),(7,true),(8,true),(9,true),(10,true),(11,true),(6,false),(12,false),(13,false),(14,false)] ?_
 refine ZX ?_
 refine VD.one rfl ?_
 obtain ⟨b183,hS⟩:=bM hS
 refine Zu (oL (lP (aA.bE.l.length:Int) b183) rfl rfl (fun _ _=>rfl)) ?_
 refine eO (Pk 11 (Pk 10 (Pk 9 (Pk 8 Pz)))) ?_
 refine VD.one rfl ?_
 obtain ⟨b189,hS⟩:=bM hS
 refine Zu (oL (lP (aA.aZ.l.length:Int) b189) rfl rfl (fun _ _=>rfl)) ?_
 refine eV ?_
 refine VD.one rfl (mS hS fun aMk hS=>eV ?_)
 refine VD.one rfl ?_
 obtain ⟨aGw,aRt,hS⟩:=cS hS
 refine VL.yJ (vs:=[aMk.val]) (caps:=[ptr gL 0]) ((oV aMk gL aAh).out aRt) rfl rfl (by decide) ?_
 rintro _ rfl
 try dsimp only
 refine eV ?_
 refine uD ?_
 refine VC.aV [3] (cI ?_)
 refine VL.oE (aGg gL aGw) rfl (by decide) ?_
 rintro _ _
 exact ZE hS
theorem UI (dR:Sv kF) {r:Bool} (hS:Sh.xL dR.l=some r) :
 Cp Tryz.prog 3 [dR.val] (dR.ok.and Gl) (.bool r):=by
 refine Zo Tryz.func3 Tryz.ntmps3 fun c => ?_
 unfold Sh.xL at hS
 refine ZX ?_
 refine Zq (cI (jK hS rfl fun dK hS=>ZX ?_))
 refine iZ hS (fun _ hS=>ZE hS) fun h11 hS=>Zk ?_
 refine Zq (ZX ?_)
 refine jK hS rfl fun tE hS=>ZX ?_
 refine iZ hS (fun _ hS=>ZE hS) fun h14 hS=>ZX ?_
 refine jK hS rfl fun FG hS=>dJ fun Y4=>ZX ?_
 refine jK hS rfl fun IV hS=>dJ fun aFG=>ZO ?_
 refine Zl ?_
 refine VC.aV [0,3,4] (Zq (ZX ?_))
 refine Zb ?_
 refine VC.YW aFG (cs':=[(⟨none,0,[]⟩:Sv aC).val,(⟨none,0,[]⟩:Sv aH).val,(⟨none,0,[]⟩:Sv cY).val,str [109,97,105,110],i64 0,str [],i64 0,str [],(⟨none,0,[]⟩:Sv bK).val,(⟨none,0,[]⟩:Sv bK).val,i64 0,str [],str [],i64 0,(⟨none,0,[]⟩:Sv aH).val,(⟨none,0,[]⟩:Sv aC).val,(⟨none,0,[]⟩:Sv bL).val,(⟨none,0,[]⟩:Sv bY).val,(⟨none,0,[]⟩:Sv bH).val,(⟨none,0,[]⟩:Sv bH).val,i64 0]) rfl ?_
 refine VC.YW Y4 (cs':=[(⟨none,0,[]⟩:Sv aC).val,(⟨none,0,[]⟩:Sv aH).val,(⟨none,0,[]⟩:Sv cY).val,str [109,97,105,110],i64 0,str [],i64 0,str [],(⟨none,0,[]⟩:Sv bK).val,(⟨none,0,[]⟩:Sv bK).val,i64 0,str [],str [],i64 0,(⟨none,0,[]⟩:Sv aH).val,(⟨none,0,[]⟩:Sv aC).val,(⟨none,0,[]⟩:Sv bL).val,(⟨none,0,[]⟩:Sv bY).val,(⟨none,0,[]⟩:Sv bH).val,(⟨none,0,[]⟩:Sv bH).val,i64 0]) rfl ?_
 refine VC.iter (S:=Int×aM×aM) (fun sg=>(sg.1,sg.2.1.pl,sg.2.2.pl)) (fun sg=>[(0,dR.val),(3,ptr Y4 0),(4,ptr aFG 0),(5,i64 sg.1)]) (fun sg=>(sg.2.1.m.and sg.2.2.m)) (fun sg=>Ow.star (bN aFG (aJ sg.2.1) 43) (Ow.star (bN Y4 (aJ sg.2.2) 43) (Ow.emp))) (0,(⟨(⟨none,0,[]⟩:Sv aC),(⟨none,0,[]⟩:Sv aH),(⟨none,0,[]⟩:Sv cY),[109,97,105,110],0,[],0,[],(⟨none,0,[]⟩:Sv bK),(⟨none,0,[]⟩:Sv bK),0,[],[],0,(⟨none,0,[]⟩:Sv aH),(⟨none,0,[]⟩:Sv aC),(⟨none,0,[]⟩:Sv bL),(⟨none,0,[]⟩:Sv bY),(⟨none,0,[]⟩:Sv bH),(⟨none,0,[]⟩:Sv bH),0⟩:aM),(⟨(⟨none,0,[]⟩:Sv aC),(⟨none,0,[]⟩:Sv aH),(⟨none,0,[]⟩:Sv cY),[109,97,105,110],0,[],0,[],(⟨none,0,[]⟩:Sv bK),(⟨none,0,[]⟩:Sv bK),0,[],[],0,(⟨none,0,[]⟩:Sv aH),(⟨none,0,[]⟩:Sv aC),(⟨none,0,[]⟩:Sv bL),(⟨none,0,[]⟩:Sv bY),(⟨none,0,[]⟩:Sv bH),(⟨none,0,[]⟩:Sv bH),0⟩:aM)) [0,3,4,5] hS rfl ?_
 rintro ⟨VF,rF,eR⟩ m1 y1 hS hK1
 refine Zq (ZX ?_)
 refine Zc hS (fun h20 hS => ?_) (fun h20 hS => ?_)
 ·
  refine Zk ?_
  refine Zq (Zb ?_)
  refine VC.u5 (S:=Nat×Er×aM) (fun sg=>((),sg.2.1.pl,sg.2.2.pl)) (fun sg=>[(0,dR.val),(3,ptr Y4 0),(4,ptr aFG 0),(5,i64 VF),(6,ptr sg.1 0),(7,sg.2.1.val)]) (fun sg=>(sg.2.1.ok.and sg.2.2.m)) (fun sg=>Ow.star (bN aFG (aJ rF) 43) (Ow.star (bN Y4 (aJ eR) 43) (Ow.star (bN sg.1 (aJ sg.2.2) 43) (Ow.emp)))) hS ?_ ?_
  ·
   intro k13 hS
   refine VC.GH (n:=7) (listed:=bl 12 31) [(0,true),(1,true),(2,true),(3,true),(4,true)] mixed (by kernel_rfl) (by kernel_rfl) (by kernel_rfl) (by kernel_rfl) ?_
   refine VD.q rfl (rA qC rfl rfl) (by decide) ?_
   refine VD.q rfl (fQ rfl) (by decide) ?_
   refine VD.q rfl (fQ rfl) (by decide) ?_
   obtain ⟨PJ,aBV,aBK,hS⟩:=gP hS
   refine VD.q rfl (jA (s:=dR) Tryz.underlying22 aFm rfl rfl aBV (bR aBV aBK)) (by decide) ?_
   refine VD.q rfl (nF (s:=dR) aAz rfl rfl aBK) (by decide) ?_
   obtain ⟨aJh,aKq,hS⟩:=cS hS
   refine VD.TB fun hcl => ?_
   refine VG.fork (l:=[5,9]) (n:=6) (by kernel_rfl) rfl fun i hi => ?_
   obtain rfl | rfl:i=5∨i=9:=by simpa using hi
   ·
    refine qG.of rfl ?_
    refine VL.jN ((C0 eR PJ).out aKq) rfl (by decide) ?_
    rintro ⟨DQ,V0⟩ rfl
    try dsimp only
    refine zU (bl 12 63) Pz ?_
    refine VG.ord [(6,true),(7,true),(8,true),(9,false),(10,false),(11,true)] (by kernel_rfl) (eL (by kernel_rfl)) (by kernel_rfl) ?_
    refine ZX ?_
    refine VD.one rfl (dJ fun aFI=>eO (Pk 8 (Pk 7 (Pk 6 Pz))) ?_)
    refine VD.one rfl ?_
    refine Zv  (vc:=(aJ DQ)) (cs':=(aJ DQ)) rfl qL ?_
    refine eO (Pk 8 Pz) ?_
    refine ZX ?_
    refine VD.mt (aFI,V0,(DQ:aM)) [0,3,4,5,6,7] (fun _ _ h=>h) hS rfl
   refine qG.of rfl ?_
   refine dJ fun aFI => ?_
   refine VL.E8 (D':=[(4,.agg #[str PJ.line,str PJ.path,str PJ.data,.bool PJ.gone]),(3,ptr dR.b (dR.o+(VF).toNat*bD.sz kF+0)),(0,.agg (aJ eR).toArray)]) (listed' := #[true,true,true,true,true,false,false,false,false,true,false,false]) (bT.cons rfl (nF (s:=dR) aAz rfl rfl aBK) (bT.cons rfl (jA (s:=dR) Tryz.underlying22 aFm rfl rfl aBV (bR aBV aBK)) (bT.cons rfl (rA qC rfl rfl) (bT.nil)))) (by kernel_rfl) (by kernel_rfl) ?_
   refine VG.ord [(5,false),(6,true),(7,true),(8,true),(10,false),(11,true)] (by kernel_rfl) (eL (by kernel_rfl)) (by kernel_rfl) ?_
   refine VD.one rfl ?_
   refine VL.jN ((C0 eR PJ).out aKq) rfl (by decide) ?_
   rintro ⟨DQ,V0⟩ rfl
   try dsimp only
   refine eV ?_
   refine ZX ?_
   refine VD.one rfl ?_
   refine Zv  (vc:=(aJ DQ)) (cs':=(aJ DQ)) rfl qL ?_
   refine eO (Pk 8 Pz) ?_
   refine ZX ?_
   refine VD.mt (aFI,V0,(DQ:aM)) [0,3,4,5,6,7] (fun _ _ h=>h) hS rfl
  rintro ⟨aOP,aC8,aQW⟩ hS
  refine VC.u5 (S:=Nat×Er×aM) (fun sg=>((),sg.2.1.pl,sg.2.2.pl)) (fun sg=>[(0,dR.val),(3,ptr Y4 0),(4,ptr aFG 0),(5,i64 VF),(6,ptr aOP 0),(7,aC8.val),(8,ptr sg.1 0),(9,sg.2.1.val)]) (fun sg=>(sg.2.1.ok.and sg.2.2.m)) (fun sg=>Ow.star (bN aFG (aJ rF) 43) (Ow.star (bN Y4 (aJ eR) 43) (Ow.star (bN aOP (aJ aQW) 43) (Ow.star (bN sg.1 (aJ sg.2.2) 43) (Ow.emp))))) hS ?_ ?_
  ·
   intro k19 hS
   refine VC.GH (n:=7) (listed:=bl 12 31) [(0,true),(1,true),(2,true),(3,true),(4,true)] mixed (by kernel_rfl) (by kernel_rfl) (by kernel_rfl) (by kernel_rfl) ?_
   refine VD.q rfl (rA qC rfl rfl) (by decide) ?_
   refine VD.q rfl (fQ rfl) (by decide) ?_
   refine VD.q rfl (fQ rfl) (by decide) ?_
   obtain ⟨PK,aBW,aBL,hS⟩:=gP hS
   refine VD.q rfl (jA (s:=dR) Tryz.underlying22 aFm rfl rfl aBW (bR aBW aBL)) (by decide) ?_
   refine VD.q rfl (nF (s:=dR) aAz rfl rfl aBL) (by decide) ?_
   obtain ⟨aJm,aKs,hS⟩:=cS hS
   refine VD.TB fun hcl => ?_
   refine VG.fork (l:=[5,9]) (n:=6) (by kernel_rfl) rfl fun i hi => ?_
   obtain rfl | rfl:i=5∨i=9:=by simpa using hi
   ·
    refine qG.of rfl ?_
    refine VL.jN ((C0 rF PK).out aKs) rfl (by decide) ?_
    rintro ⟨DT,V3⟩ rfl
    try dsimp only
    refine zU (bl 12 63) Pz ?_
    refine VG.ord [(6,true),(7,true),(8,true),(9,false),(10,false),(11,true)] (by kernel_rfl) (eL (by kernel_rfl)) (by kernel_rfl) ?_
    refine ZX ?_
    refine VD.one rfl (dJ fun aFJ=>eO (Pk 8 (Pk 7 (Pk 6 Pz))) ?_)
    refine VD.one rfl ?_
    refine Zv  (vc:=(aJ DT)) (cs':=(aJ DT)) rfl qL ?_
    refine eO (Pk 8 Pz) ?_
    refine ZX ?_
    refine VD.mt (aFJ,V3,(DT:aM)) [0,3,4,5,6,7,8,9] (fun _ _ h=>h) hS rfl
   refine qG.of rfl ?_
   refine dJ fun aFJ => ?_
   refine VL.E8 (D':=[(4,.agg #[str PK.line,str PK.path,str PK.data,.bool PK.gone]),(3,ptr dR.b (dR.o+(VF).toNat*bD.sz kF+0)),(0,.agg (aJ rF).toArray)]) (listed' := #[true,true,true,true,true,false,false,false,false,true,false,false]) (bT.cons rfl (nF (s:=dR) aAz rfl rfl aBL) (bT.cons rfl (jA (s:=dR) Tryz.underlying22 aFm rfl rfl aBW (bR aBW aBL)) (bT.cons rfl (rA qC rfl rfl) (bT.nil)))) (by kernel_rfl) (by kernel_rfl) ?_
   refine VG.ord [(5,false),(6,true),(7,true),(8,true),(10,false),(11,true)] (by kernel_rfl) (eL (by kernel_rfl)) (by kernel_rfl) ?_
   refine VD.one rfl ?_
   refine VL.jN ((C0 rF PK).out aKs) rfl (by decide) ?_
   rintro ⟨DT,V3⟩ rfl
   try dsimp only
   refine eV ?_
   refine ZX ?_
   refine VD.one rfl ?_
   refine Zv  (vc:=(aJ DT)) (cs':=(aJ DT)) rfl qL ?_
   refine eO (Pk 8 Pz) ?_
   refine ZX ?_
   refine VD.mt (aFJ,V3,(DT:aM)) [0,3,4,5,6,7,8,9] (fun _ _ h=>h) hS rfl
  rintro ⟨a88,aIm,aEF⟩ hS
  refine Zq ?_
  refine VC.cJ [0,3,4,5,6,8] (fun (X9:Bool)=>X9) (fun X9 ρ=>(56,.bool X9)::ρ) hS ?_ ?_
  ·
   intro k23 hS
   refine iB ((List.range 16).map fun k=>(k,true)) ?_
   refine ZX ?_
   refine Zw rfl (a3K Tryz.underlying4 rfl rfl) ?_
   refine ZX ?_
   refine VD.PD 46 rfl (fun h46 => ?_) (fun h46 => ?_)
   ·
    replace hS:=T6 h46 hS
    refine ZX ?_
    refine VD.gu rfl rfl rfl (by decide) ?_
    refine VD.gu rfl rfl rfl (by decide) ?_
    refine VD.gu rfl rfl rfl (by decide) ?_
    refine VD.gu rfl rfl rfl (by decide) ?_
    refine VD.gu rfl rfl rfl (by decide) ?_
    exact ZE hS
   replace hS:=IB h46 hS
   refine ZX ?_
   refine VD.PD 49 rfl (fun h49 => ?_) (fun h49 => ?_)
   ·
    replace hS:=T6 h49 hS
    refine ZX ?_
    obtain ⟨aQj,aVZ,hS⟩:=cS hS
    refine Zi rfl (aNy rfl (aAS aC8 aVZ)) ?_
    refine ZX ?_
    obtain ⟨aQo,aV2,hS⟩:=cS hS
    refine Zi rfl (aNy rfl (aAS aIm aV2)) ?_
    exact ZE hS
   replace hS:=IB h49 hS
   exact ZE hS
  rintro X9 hS
  refine iZ hS (fun _ hS=>ZE hS) fun h56 hS => ?_
  obtain ⟨b22,hS⟩:=bM hS
  refine ZX ?_
  refine Zr (ZX ?_)
  refine Zr (ZX ?_)
  refine VL.kL ((VF+1),(aEF:aM),(aQW:aM)) [0,3,4,5] (fun _ _ h=>h) (go2 hS hK1) rfl
 replace hS:=kS hS hK1
 refine Zx ?_
 refine Zq ?_
 refine iB ((List.range 11).map fun k=>(k,true)) ?_
 refine ZX ?_
 obtain ⟨aQw,aV9,hS⟩:=cS hS
 refine Zw rfl (dU ((aGf eR rF).out aV9) rfl (fun _ _=>rfl)) ?_
 refine ZX ?_
 refine VD.split 62 rfl (fun h62 => ?_) (fun h62 => ?_)
 ·
  replace hS:=IB h62 hS
  refine ZX ?_
  obtain ⟨aQz,aVb,hS⟩:=cS hS
  refine Zi rfl (dU ((WH eR).out aVb) rfl (fun _ _=>rfl)) ?_
  refine ZX ?_
  obtain ⟨aRD,aVc,hS⟩:=cS hS
  refine Zi rfl (dU ((WH rF).out aVc) rfl (fun _ _=>rfl)) ?_
  exact ZE hS
 replace hS:=aLa h62 hS
 exact ZE hS
end Go.Proofs.YtgdabkldgphdeaaGreatDoor
end
