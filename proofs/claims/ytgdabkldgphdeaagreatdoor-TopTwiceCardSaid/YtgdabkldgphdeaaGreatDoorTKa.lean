/- Part of the proofs of: the law TopTwice: the same play leads to the same, each time (any acts) -/
import Derived.Test.YtgdabkldgphdeaaGreatDoorTAb
set_option linter.unusedVariables false
set_option linter.unusedSimpArgs false
set_option linter.unusedSectionVars false
section
namespace Go.S
theorem Q7 {α:Type} {l:List α} {i:Int} {z:α} (h0:0≤i) (h:l[i.toNat]? = some z):l.take (i+1).toNat=l.take i.toNat++[z]:=by
 rw [show (i+1).toNat=i.toNat+1 by omega,List.take_add_one,h]; rfl
end Go.S
end

section
namespace Go.S
variable {α β S T R:Type}
class Spec (o:Option α) (pre:outParam Prop) (post:outParam (α→Prop)):Prop where out:pre→Ok o post
instance {a:α}:Spec (some a) True (fun r=>r=a):=⟨fun _=>⟨a,rfl,rfl⟩⟩
theorem sB {o:Option α} {f:α→Option β} {Q:β→Prop} {pre:Prop} {P:α→Prop} [h:Spec o pre P] (k : ∀ a,P a→Ok (f a) Q) (hp:pre):Ok (o.bind f) Q:=by
 rw [vU]; exact (h.out hp).mono k
theorem sE {o:Option α} {Q:α→Prop} {pre:Prop} {P:α→Prop} [h:Spec o pre P] (k : ∀ a,P a→Q a) (hp:pre):Ok o Q:=(h.out hp).mono k
theorem sI {c:Prop} [Decidable c] {a b:Option α} {Q:α→Prop} (h1:c→Ok a Q) (h2 : ¬ c→Ok b Q):Ok (if c then a else b) Q:=a7n.2 ⟨h1,h2⟩
theorem sG {c:Prop} [Decidable c] {a:Option α} {Q:α→Prop} (k:c→Ok a Q) (h:c):Ok (gd c a) Q:=a7m.2 ⟨h,k h⟩
theorem sT {e:α} {f:α→Option β} {Q:β→Prop} (k : ∀ y,y=e→Ok (f y) Q):Ok (lt e f) Q:=k e rfl
theorem sS {a:α} {Q:α→Prop} (h:Q a):Ok (some a) Q:=aMO.2 h
theorem sA {l:List α} {i:Int} {f:α→Option β} {Q:β→Prop} (k : ∀ z,z∈l→l[i.toNat]? = some z→Ok (f z) Q) (h:0≤i∧i < l.length):Ok ((at_ l i).bind f) Q:=by
 rw [vU,aXK]
 have e:l[i.toNat]? = some l[i.toNat]:=List.getElem?_eq_getElem (by omega)
 exact ⟨h.1,_,e,k _ (List.mem_of_getElem? e) e⟩
theorem sM {l:List α} {i:Int} {f:α→Option β} {Q:β→Prop} (k : ∀ z,z∈l→Ok (f z) Q) (h:0≤i∧i < l.length):Ok ((at_ l i).bind f) Q:=sA (fun z m _=>k z m) h
theorem sU {o:Option R} {Q:T⊕R→Prop} (h:Ok o fun r=>Q (.inr r)):Ok (up o) Q:=aXM.2 h
theorem sN {t:T} {Q:T⊕R→Prop} (h:Q (.inl t)):Ok (go t) Q:=aNp.2 h
theorem sJ {K:S→Option R} {F:(S→Option R)→Option R} {Q:R→Prop} (P:S→Prop) (g : ∀ s,P s→Ok (K s) Q) (h : ∀ k:S→Option R,(∀ s,P s→Ok (k s) Q)→Ok (F k) Q):Ok (jn K F) Q:=h K g
def Rn (I:T→Prop) (μ:T→Nat) (n:Nat) (Q:R→Prop):T⊕R→Prop
  | .inl t=>I t∧μ t < n
  | .inr r=>Q r
theorem sL {B:T→Option (T⊕R)} {t0:T} {Q:R→Prop} (I:T→Prop) (μ:T→Nat) (h0:I t0) (h : ∀ t,I t→Ok (B t) (Rn I μ (μ t) Q)):Ok (iter B t0) Q :=
  aXL I μ (fun t ht=>(h t ht).mono fun y hy=>by cases y <;> exact hy) h0
theorem x5 {o:Option R} {I:T→Prop} {μ:T→Nat} {n:Nat} {Q:R→Prop} (h:Ok o Q):Ok (up o) (Rn I μ n Q):=aXM.2 h
theorem LY {t:T} {I:T→Prop} {μ:T→Nat} {n:Nat} {Q:R→Prop} (h:I t∧μ t < n):Ok (go t) (Rn I μ n Q):=aNp.2 h
class o4 (T:Type) (I:outParam (T→Prop)) (μ:outParam (T→Nat)):Prop
class AL (S:Type) (P:outParam (S→Prop)):Prop
class JnD (S:Type):Prop
instance:JnD Bool:=⟨⟩
instance:JnD Unit:=⟨⟩
theorem sJi {K:S→Option R} {F:(S→Option R)→Option R} {Q:R→Prop} {P:S→Prop} [AL S P] (g : ∀ s,P s→Ok (K s) Q) (h : ∀ k:S→Option R,(∀ s,P s→Ok (k s) Q)→Ok (F k) Q):Ok (jn K F) Q:=h K g
theorem sJd {K:S→Option R} {F:(S→Option R)→Option R} {Q:R→Prop} [JnD S] (g : ∀ s,Ok (K s) Q) (h : ∀ k:S→Option R,(∀ s,Ok (k s) Q)→Ok (F k) Q):Ok (jn K F) Q:=h K g
theorem sK' {k:S→Option R} {Q:R→Prop} {s:S} (h : ∀ s,Ok (k s) Q):Ok (k s) Q:=h s
theorem sJ0 {K:S→Option R} {F:(S→Option R)→Option R} {Q:R→Prop} (h:Ok (F K) Q):Ok (jn K F) Q:=h
theorem sK {k:S→Option R} {Q:R→Prop} {P:S→Prop} {s:S} (h : ∀ s,P s→Ok (k s) Q) (p:P s):Ok (k s) Q:=h s p
theorem sF {n:Int} {A C:Int→Option (Int⊕R)} {Q:R→Prop} (h : ∀ x,0≤x→x < n→Ok (A x) (Rn (fun x=>0≤x∧x≤n) (fun x=>(n - x).toNat) (n - x).toNat Q)) (h2:Ok (C n) (Rn (fun x=>0≤x∧x≤n) (fun x=>(n - x).toNat) 0 Q)) (h0:0≤n):Ok (iter (fun x=>if x < n then A x else C x) 0) Q:=by
 refine sL (fun x=>0≤x∧x≤n) (fun x=>(n - x).toNat) ⟨by omega,h0⟩ fun x hx => ?_
 by_cases q:x < n
 ·
  rw [if_pos q]; exact h x hx.1 q
 rw [if_neg q]
 have:x=n:=by omega
 subst this
 refine h2.mono fun y hy => ?_
 cases y with
 | inl t=>exact absurd hy.2 (by omega)
 | inr r=>exact hy
section
variable {A1 A2 A3 A4 A5:Type} {Q:R→Prop}
theorem L1 {I:T→Prop} {μ:T→Nat} {B:T→Option (T⊕R)} {t0:T} [o4 T I μ] (h : ∀ t,I t→Ok (B t) (Rn I μ (μ t) Q)) (h0:I t0):Ok (iter B t0) Q:=sL I μ h0 h
theorem L2 {I:A1×A2→Prop} {μ:A1×A2→Nat} {B:A1×A2→Option ((A1×A2)⊕R)} {t0:A1×A2} [o4 (A1×A2) I μ] (h : ∀ a b,I (a,b)→Ok (B (a,b)) (Rn I μ (μ (a,b)) Q)) (h0:I t0):Ok (iter B t0) Q:=sL I μ h0 fun ⟨a,b⟩=>h a b
theorem L3 {I:A1×A2×A3→Prop} {μ:A1×A2×A3→Nat} {B:A1×A2×A3→Option ((A1×A2×A3)⊕R)} {t0:A1×A2×A3} [o4 (A1×A2×A3) I μ] (h : ∀ a b c,I (a,b,c)→Ok (B (a,b,c)) (Rn I μ (μ (a,b,c)) Q)) (h0:I t0):Ok (iter B t0) Q:=sL I μ h0 fun ⟨a,b,c⟩=>h a b c
theorem L4 {I:A1×A2×A3×A4→Prop} {μ:A1×A2×A3×A4→Nat} {B:A1×A2×A3×A4→Option ((A1×A2×A3×A4)⊕R)} {t0:A1×A2×A3×A4} [o4 (A1×A2×A3×A4) I μ] (h : ∀ a b c d,I (a,b,c,d)→Ok (B (a,b,c,d)) (Rn I μ (μ (a,b,c,d)) Q)) (h0:I t0):Ok (iter B t0) Q:=sL I μ h0 fun ⟨a,b,c,d⟩=>h a b c d
theorem L5 {I:A1×A2×A3×A4×A5→Prop} {μ:A1×A2×A3×A4×A5→Nat} {B:A1×A2×A3×A4×A5→Option ((A1×A2×A3×A4×A5)⊕R)} {t0:A1×A2×A3×A4×A5} [o4 (A1×A2×A3×A4×A5) I μ] (h : ∀ a b c d e,I (a,b,c,d,e)→Ok (B (a,b,c,d,e)) (Rn I μ (μ (a,b,c,d,e)) Q)) (h0:I t0):Ok (iter B t0) Q:=sL I μ h0 fun ⟨a,b,c,d,e⟩=>h a b c d e
end
theorem KU (x:aC):aC.mk x.path x.mode x.data=x:=rfl
theorem NH (x:cY):cY.mk x.name x.cC=x:=rfl
theorem HQ (x:aH):aH.mk x.path x.iK x.mode x.data x.time x.size=x:=rfl
theorem FO (x:cM):cM.mk x.base x.index x.work x.text=x:=rfl
theorem FN (x:kF):kF.mk x.line x.path x.data x.gone=x:=rfl
theorem NI (x:bK):bK.mk x.verb x.cC x.text=x:=rfl
theorem DA (x:fH):fH.mk x.tree x.parents x.time x.text=x:=rfl
theorem CD (x:aF):aF.mk x.aY x.aU x.bA x.aI x.aG x.aS x.aO x.aT x.aN x.aP x.aQ x.aK x.aD x.aE x.aL x.aR x.aX x.bC x.bE x.aZ x.time=x:=rfl
theorem KX (x:eH):eH.mk x.work x.index x.refs x.cB x.cA x.fE x.eM x.fF x.cZ x.eA x.eX x.dM x.bW x.bX x.dB x.eC x.gB=x:=rfl
theorem KV (x:mM):mM.mk x.branch x.cC=x:=rfl
theorem KY (x:mN):mN.mk x.kind x.other x.text x.C9 x.todo x.made x.branch x.cB x.cA x.index x.work=x:=rfl
theorem KS (x:bB):bB.mk x.b x.at_ x.err=x:=rfl
theorem QZ (x:iM):iM.mk x.verb x.name x.n x.text x.force x.todo=x:=rfl
theorem B3 (x:dG):dG.mk x.files x.entries x.conflicts=x:=rfl
theorem KZ (x:lI):lI.mk x.cH x.cN x.bZ x.is=x:=rfl
theorem FM (x:p9):p9.mk x.base x.ours x.cU x.qI x.out=x:=rfl
theorem HP (x:pE):pE.mk x.a x.b x.n=x:=rfl
theorem NG (x:jE):jE.mk x.op x.line=x:=rfl
theorem KT (x:gZ):gZ.mk x.a x.b x.n=x:=rfl
theorem Q0 (x:M8):M8.mk x.cH x.cN x.bZ x.is=x:=rfl
theorem KW (x:qF):qF.mk x.back x.kY=x:=rfl
theorem KR (x:RX):RX.mk x.part x.at_ x.err=x:=rfl
attribute [grind =] bS cR.isNil
theorem ZZ {a:Prop} (h:a:=by
 intros
 repeat' (with_reducible first | refine sI (fun _ => ?_) (fun _ => ?_) | refine sT fun _ _ => ?_ | refine x5 ?_ | refine LY ?_ | refine sU ?_ | refine sS ?_ | refine sN ?_ | refine sF (fun _ _ _ => ?_) ?_ ?_ | refine sB (fun _ _ => ?_) ?_ | refine sM (fun _ _ => ?_) ?_ | refine sG (fun _ => ?_) ?_ | refine sE (fun _ _ => ?_) ?_ | refine sJi (fun _ _ => ?_) (fun _ _ => ?_) | refine sJd (fun _ => ?_) (fun _ _ => ?_) | refine sJ0 ?_ | exact sK' (by assumption) | refine sK (by assumption) ?_ | refine L5 (fun _ _ _ _ _ _ => ?_) ?_ | refine L4 (fun _ _ _ _ _ => ?_) ?_ | refine L3 (fun _ _ _ _ => ?_) ?_ | refine L2 (fun _ _ _ => ?_) ?_ | refine L1 (fun _ _ => ?_) ?_ | dsimp only)
 all_goals (try simp only [← List.length_eq_zero_iff,Int.toNat_natCast,List.take_length,KU,NH,HQ,FO,FN,NI,DA,CD,KX,KV,KY,KS,QZ,B3,KZ,FM,HP,NG,KT,Q0,KW,KR] at *)
 all_goals grind):a:=h
theorem ZO {a:Prop} (h:a:=by
 intros
 repeat' (with_reducible first | refine sI (fun _ => ?_) (fun _ => ?_) | refine sT fun _ _ => ?_ | refine x5 ?_ | refine LY ?_ | refine sU ?_ | refine sS ?_ | refine sN ?_ | refine sF (fun _ _ _ => ?_) ?_ ?_ | refine sB (fun _ _ => ?_) ?_ | refine sM (fun _ _ => ?_) ?_ | refine sG (fun _ => ?_) ?_ | refine sE (fun _ _ => ?_) ?_ | refine sJi (fun _ _ => ?_) (fun _ _ => ?_) | refine sJ0 ?_ | exact sK' (by assumption) | refine sK (by assumption) ?_ | refine L5 (fun _ _ _ _ _ _ => ?_) ?_ | refine L4 (fun _ _ _ _ _ => ?_) ?_ | refine L3 (fun _ _ _ _ => ?_) ?_ | refine L2 (fun _ _ _ => ?_) ?_ | refine L1 (fun _ _ => ?_) ?_ | dsimp only)
 all_goals (try simp only [← List.length_eq_zero_iff,Int.toNat_natCast,List.take_length,KU,NH,HQ,FO,FN,NI,DA,CD,KX,KV,KY,KS,QZ,B3,KZ,FM,HP,NG,KT,Q0,KW,KR] at *)
 all_goals grind):a:=h
theorem ZG {a:Prop} (h:a:=by
 intros
 repeat' (with_reducible first | refine sI (fun _ => ?_) (fun _ => ?_) | refine sT fun _ _ => ?_ | refine x5 ?_ | refine LY ?_ | refine sU ?_ | refine sS ?_ | refine sN ?_ | refine sF (fun _ _ _ => ?_) ?_ ?_ | refine sB (fun _ _ => ?_) ?_ | refine sA (fun _ _ _ => ?_) ?_ | refine sG (fun _ => ?_) ?_ | refine sE (fun _ _ => ?_) ?_ | refine sJi (fun _ _ => ?_) (fun _ _ => ?_) | refine sJd (fun _ => ?_) (fun _ _ => ?_) | refine sJ0 ?_ | exact sK' (by assumption) | refine sK (by assumption) ?_ | refine L5 (fun _ _ _ _ _ _ => ?_) ?_ | refine L4 (fun _ _ _ _ _ => ?_) ?_ | refine L3 (fun _ _ _ _ => ?_) ?_ | refine L2 (fun _ _ _ => ?_) ?_ | refine L1 (fun _ _ => ?_) ?_ | dsimp only)
 all_goals (try simp only [← List.length_eq_zero_iff,Int.toNat_natCast,List.take_length,KU,NH,HQ,FO,FN,NI,DA,CD,KX,KV,KY,KS,QZ,B3,KZ,FM,HP,NG,KT,Q0,KW,KR] at *)
 all_goals grind):a:=h
end Go.S
end

section
set_option maxRecDepth 100000
set_option maxHeartbeats 1000000
namespace Go.S
open Go
def RQ (p:List UInt8):Prop:=p.length≤100
theorem bBO:RQ [100,111]:=by unfold RQ; decide
theorem bBP:RQ [102,105,108,101]:=by unfold RQ; decide
theorem bBQ:RQ [108,105,110,101,115]:=by unfold RQ; decide
theorem bBR:RQ [108,105,110,101]:=by unfold RQ; decide
theorem bBS:RQ [112,97,116,104]:=by unfold RQ; decide
theorem bBT:RQ [115,116,101,112]:=by unfold RQ; decide
theorem bBU:RQ [98,121,116,101]:=by unfold RQ; decide
theorem bBV:RQ [99,109,100]:=by unfold RQ; decide
attribute [grind .] bBO bBP bBQ bBR bBS bBT bBU bBV
def uZ:cR→Prop
  | .nil=>True
  | .no _=>True
  | .fault p a (.no _)=>RQ p∧bS a
  | _=>False
def WO:cR→Prop
  | .nil=>True
  | .no _=>True
  | .fault p a e=>RQ p∧bS a∧uZ e
attribute [grind =] uZ.eq_1 uZ.eq_2 uZ.eq_3 WO.eq_1 WO.eq_2 WO.eq_3
theorem aLM {s:Int} (h0:0≤s) (h1:s≤4000000000):IntKind.wrap .i64 (GS .u64 (IntKind.wrap .u64 s) 1)=s / 2:=by
 have e1:IntKind.wrap .u64 s=s:=IntWalk.u64_in _ (by omega)
 rw [e1]
 have e2:GS .u64 s 1=s / 2:=by
   unfold GS
   show s.fdiv (2 ^ 1)=s / 2
   rw [Int.fdiv_eq_ediv_of_nonneg s (by decide)]
   rfl
 rw [e2]
 exact IntWalk.i64_in _ (by omega)
theorem a2c (s:List UInt8) (c:Int) : -1≤ixB s c∧ixB s c < s.length:=by
 unfold ixB
 generalize c.toNat.toUInt8=d
 induction s with
 | nil=>simp [Lib.indexByte]
 | cons x r ih=>simp only [Lib.indexByte]; grind
theorem aUs (s:List UInt8) (c:Int):0≤aKi s c∧aKi s c≤s.length:=by
 unfold aKi
 generalize c.toNat.toUInt8=d
 induction s with
 | nil=>simp [Lib.countByte]
 | cons x r ih=>simp only [Lib.countByte]; grind
instance (x:List UInt8):Spec (Sh.cmp_isNaN_string x) (True) (· = false):=⟨fun h=>by unfold Sh.cmp_isNaN_string; exact ZZ⟩
instance (x y:List UInt8):Spec (Sh.nA x y) (True) (fun r=>r=0→x=y):=⟨fun h=>by unfold Sh.nA; exact ZZ⟩
instance (x y:List UInt8):Spec (Sh.uG x y) (True) (fun r=>r=0→x=y):=⟨fun h=>by unfold Sh.uG; exact ZZ⟩
instance (x:aC) (y:List UInt8):Spec (Sh.rO x y) (True) (fun r=>r=0→x.path=y):=⟨fun h=>by unfold Sh.rO; exact ZZ⟩
instance (l:List aC) (p:List UInt8):Spec (Sh.fA l p) (l.length≤1000000000) (fun r=>0≤r.1∧r.1≤l.length∧(r.2=true → ∃ z,l[r.1.toNat]? = some z∧z.path=p)):=⟨fun h=>by unfold Sh.fA; refine sL (fun t=>0≤t.1∧t.1≤t.2∧t.2≤l.length) (fun t=>(t.2 - t.1).toNat) (by grind) fun ⟨i,j⟩ ⟨h0,h1,h2⟩ => ?_; dsimp only at h0 h1 h2 ⊢; rw [aLM (by omega) (by omega)]; exact ZG⟩
instance (l:List aC) (p:List UInt8):Spec (Sh.qB l p) (l.length≤1000000000) (fun r=>0≤r.1∧r.1≤l.length∧(r.2=true → ∃ z,l[r.1.toNat]? = some z∧z.path=p)):=⟨fun h=>by unfold Sh.qB; exact ZG⟩
instance (l:List aC) (p:List UInt8):Spec (Sh.fP l p) (l.length≤1000000000) (fun r=>(r.2=true→r.1∈l∧r.1.path=p)∧(r.2=false→r.1=⟨[],0,[]⟩)):=⟨fun h=>by unfold Sh.fP; exact ZG⟩
instance (s:List UInt8) (c:Int):Spec (Sh.j9 s c) (True) (fun r => -1≤r∧r < s.length):=⟨fun h=>by unfold Sh.j9; have:=a2c s c; exact ZZ⟩
instance (s p:List UInt8):Spec (Sh.jG s p) (p.length=1) (fun r => -1≤r∧(r < s.length∨r=0∧s=p)):=⟨fun h=>by unfold Sh.jG; have:AL (Bool) (fun b=>b=true→s=p):=⟨⟩; exact ZZ⟩
instance (s p:List UInt8):Spec (Sh.l8 s p) (p.length=1) (fun r => -1≤r∧r < s.length):=⟨fun h=>by unfold Sh.l8; exact ZZ⟩
instance (s p:List UInt8):Spec (Sh.xV s p) (p.length=1) (fun r=>0≤r∧r≤s.length):=⟨fun h=>by unfold Sh.xV; have:=aUs s; exact ZZ⟩
instance (s p:List UInt8):Spec (Sh.vI s p 0 (-1)) (p.length=1∧s.length≤1000000) (fun r=>r.length≤s.length+1 ∧ ∀ x∈r,x.length≤s.length):=⟨fun h=>by unfold Sh.vI; obtain ⟨c,hc,h1,h2⟩:=(inferInstance:Spec (Sh.xV s p) _ _).out h.1; rw [hc]; have:o4 (List UInt8×List (List UInt8)×Int) (fun t=>t.1.length≤s.length∧t.2.1.length=min (c+1) ((s.length:Int)+1)∧0≤t.2.2∧t.2.2 < t.2.1.length ∧ ∀ x∈t.2.1,x.length≤s.length) (fun t=>(s.length+1 - t.2.2).toNat):=⟨⟩; exact ZZ⟩
instance (s p:List UInt8):Spec (Sh.r8 s p) (p.length=1∧s.length≤1000000) (fun r=>r.length≤s.length+1 ∧ ∀ x∈r,x.length≤s.length):=⟨fun h=>by unfold Sh.r8; exact ZZ⟩
instance (n:Int):Spec (Sh.JK n) (True) (fun _=>True):=⟨fun h=>by unfold Sh.JK; exact ZZ⟩
instance (s:List UInt8):Spec (Sh.JL s) (s.length≤1000000) (fun _=>True):=⟨fun h=>by unfold Sh.JL; exact ZZ⟩
instance (s:List UInt8):Spec (Sh.AQ s) (True) (fun r=>bS r∧(r=0→s.length≤64)):=⟨fun h=>by unfold Sh.AQ; exact ZZ⟩
instance (x y:List UInt8):Spec (Sh.j7 x y) (True) (fun _=>True):=⟨fun h=>by unfold Sh.j7; exact ZZ⟩
instance (x y:List UInt8):Spec (Sh.tY x y) (True) (fun _=>True):=⟨fun h=>by unfold Sh.tY; exact ZZ⟩
instance (x y:List UInt8):Spec (Sh.DI x y) (y.length≤1000000000) (fun _=>True):=⟨fun h=>by unfold Sh.DI; exact ZZ⟩
instance (x y:List UInt8):Spec (Sh.pH x y) (x.length≤1000000000∧y.length≤1000000000) (fun _=>True):=⟨fun h=>by unfold Sh.pH; exact ZZ⟩
instance (x y:aC):Spec (Sh.tQ x y) (x.path.length≤1000000000∧y.path.length≤1000000000) (fun _=>True):=⟨fun h=>by unfold Sh.tQ; exact ZZ⟩
instance (l:List (aC)) (f:aC):Spec (Sh.iR l f) (l.length≤1000000000∧(∀ z∈l,z.path.length≤1000000000)∧f.path.length≤1000000000) (fun r => -1≤r∧r < l.length):=⟨fun h=>by unfold Sh.iR; exact ZZ⟩
instance (l:List (aC)) (f:aC):Spec (Sh.gT l f) (l.length≤1000000000∧(∀ z∈l,z.path.length≤1000000000)∧f.path.length≤1000000000) (fun _=>True):=⟨fun h=>by unfold Sh.gT; exact ZZ⟩
instance (l:List aC) (i:Int):Spec (Sh.w8 l i) (0≤i∧i < l.length∧l.length≤1000000000 ∧ ∀ z∈l,z.path.length≤1000000000) (fun r=>bS r∧(r=0 → ∀ z,l[i.toNat]? = some z→z.path.length≤64∧z.data.length≤4096)):=⟨fun h=>by unfold Sh.w8; exact ZG⟩
instance (l:List aC):Spec (Sh.iN l) (∀ z∈l,z.path.length≤1000000000) (fun e=>(e.isNil=true→l.length≤64 ∧ ∀ i:Nat,i < l.length → ∀ z,l[i]? = some z→z.path.length≤64∧z.data.length≤4096)∧(e = .nil ∨ ∃ p a n,e = .fault p a (.no n))∧uZ e):=⟨fun h=>by
  unfold Sh.iN
  have:o4 (Int) (fun t=>0≤t∧t≤l.length ∧ ∀ i:Nat,i < t → ∀ z,l[i]? = some z→z.path.length≤64∧z.data.length≤4096) (fun t=>(l.length - t).toNat):=⟨⟩
  refine sI (fun _=>ZZ) (fun h0=>L1 (fun x hx=>sI (fun _=>sB (fun y hy=>sI (fun e=>sG (fun _=>LY ?_) ?_) (fun _=>ZZ)) ?_) (fun _=>ZZ)) (by grind))
  . refine ⟨⟨by omega,by omega,fun i hi z hz => ?_⟩,by omega⟩
    by_cases q:(i:Int) < x
    . exact hx.2.2 i q z hz
    . exact hy.2 e z (by rw [show x.toNat=i by omega]; exact hz)
  . grind
  . grind⟩
instance (e:cR):Spec (Sh.qO e) (e = .nil ∨ ∃ p a n,e = .fault p a (.no n)) (fun r=>(r = .nil↔e = .nil)∧uZ r):=⟨fun h=>by unfold Sh.qO; rcases h with rfl | ⟨p,a,n,rfl⟩ <;> exact ZZ⟩
instance (l:List (aC)):Spec (Sh.cE l) (l.length≤4000000000) (fun r=>r=l):=⟨fun h=>by unfold Sh.cE; exact ZZ⟩
instance (l:List (aC)):Spec (Sh.bQ l) (True) (fun r=>r=l):=⟨fun h=>by unfold Sh.bQ; exact ZZ⟩
instance (x:aC) (y:List UInt8):Spec (Sh.qJ x y) (x.path.length≤1000000000∧y.length≤1000000000) (fun _=>True):=⟨fun h=>by unfold Sh.qJ; exact ZZ⟩
instance (l:List (aC)) (p:List UInt8):Spec (Sh.gU l p) (l.length≤1000000000∧(∀ z∈l,z.path.length≤1000000000)∧p.length≤1000000000) (fun r => -1≤r∧r < l.length):=⟨fun h=>by unfold Sh.gU; exact ZZ⟩
instance (l:List (aC)) (p:List UInt8):Spec (Sh.iI l p) (l.length≤1000000000∧(∀ z∈l,z.path.length≤1000000000)∧p.length≤1000000000) (fun r=>r.length≤l.length ∧ ∀ z∈r,z∈l):=⟨fun h=>by unfold Sh.iI; have:o4 (List (aC)×Int×Int) (fun t=>t.1.length=l.length∧0≤t.2.1∧t.2.1 < t.2.2∧t.2.2≤l.length ∧ ∀ z∈t.1,z∈l) (fun t=>(l.length - t.2.2).toNat):=⟨⟩; exact ZZ⟩
instance (l:List aC) (p:List UInt8):Spec (Sh.oS l p) (l.length≤1000000000∧(∀ z∈l,z.path.length≤1000000000)∧p.length≤1000000000) (fun r=>r.length≤l.length ∧ ∀ z∈r,z∈l):=⟨fun h=>by unfold Sh.oS; exact ZZ⟩
instance (l:List aC) (f:aC):Spec (Sh.mT l f) (l.length≤1000000000) (fun r=>r.length≤l.length+1 ∧ ∀ z∈r,z=f∨z∈l):=⟨fun h=>by unfold Sh.mT; exact ZZ⟩
instance (x:aC) (y:List UInt8):Spec (Sh.tP x y) (True) (fun _=>True):=⟨fun h=>by unfold Sh.tP; exact ZZ⟩
instance (l:List (aC)) (p:List UInt8):Spec (Sh.gV l p) (l.length≤1000000000) (fun r => -1≤r∧r < l.length):=⟨fun h=>by unfold Sh.gV; exact ZZ⟩
instance (l:List (aC)) (p:List UInt8):Spec (Sh.gH l p) (l.length≤1000000000) (fun r=>r.length≤l.length ∧ ∀ z∈r,z∈l):=⟨fun h=>by unfold Sh.gH; have:o4 (List (aC)×Int×Int) (fun t=>t.1.length=l.length∧0≤t.2.1∧t.2.1 < t.2.2∧t.2.2≤l.length ∧ ∀ z∈t.1,z∈l) (fun t=>(l.length - t.2.2).toNat):=⟨⟩; exact ZZ⟩
instance (l:List aC) (p:List UInt8):Spec (Sh.oG l p) (l.length≤1000000000) (fun r=>r.length≤l.length ∧ ∀ z∈r,z∈l):=⟨fun h=>by unfold Sh.oG; exact ZZ⟩
instance (l m:List (aC)):Spec (Sh.gA l m) (l.length≤1000000000) (fun _=>True):=⟨fun h=>by unfold Sh.gA; exact ZZ⟩
instance (l m:List aC):Spec (Sh.fN l m) (l.length≤1000000000) (fun _=>True):=⟨fun h=>by unfold Sh.fN; exact ZZ⟩
instance (l:List (List UInt8)):Spec (Sh.cX l) (True) (fun r=>r=l):=⟨fun h=>by unfold Sh.cX; exact ZZ⟩
end Go.S
end

section
set_option maxRecDepth 100000
set_option maxHeartbeats 1000000
namespace Go.S
open Go
theorem a6P:at_ [(32:UInt8)] 0=some 32:=rfl
theorem t32:(32:UInt8).toNat=32:=rfl
theorem aZD (z:UInt8):IntKind.wrap .i64 ((z.toNat:Int) - 48)=z.toNat - 48:=IntWalk.i64_in _ (by have:=z.toNat_lt; omega)
theorem wrap_i64 {x:Int} (h0 : -9223372036854775808≤x) (h1:x≤9223372036854775807):IntKind.wrap .i64 x=x:=IntWalk.i64_in _ ⟨h0,h1⟩
def vS (s:bK):Prop:=s.verb.length≤300∧bS s.cC∧s.text.length≤300
def vC (c:iM):Prop:=c.verb.length≤300∧c.name.length≤300∧bS c.n∧c.text.length≤300∧c.todo.length≤32 ∧ ∀ s∈c.todo,vS s
def dig (x n:Int):Prop:=0≤n∧0≤x∧(x=0∧n=0∨x=1∧n≤255∨x=2∧n≤2805∨x=3∧n≤28305∨x=4∧n≤283305∨x=5∧n≤2833305∨x=6∧n≤28333305∨x=7∧n≤283333305)
attribute [grind =] vS vC dig wrap_i64
instance (s p:List UInt8):Spec (Sh.mJ s p) (p.length=1∧s.length≤1000000000) (fun r=>r.1.length≤s.length∧r.2.1.length≤s.length):=⟨fun h=>by unfold Sh.mJ; exact ZZ⟩
instance (s p:List UInt8):Spec (Sh.wN s p) (p.length=1∧s.length≤1000000000) (fun r=>r.1.length≤s.length∧r.2.1.length≤s.length):=⟨fun h=>by unfold Sh.wN; exact ZZ⟩
instance (w:List (List UInt8)):Spec (Sh.xD w) (True) (fun r=>r=[]∨r∈w):=⟨fun h=>by unfold Sh.xD; exact ZZ⟩
instance (s:List UInt8):Spec (Sh.I8 s) (True) (fun _=>True):=⟨fun h=>by unfold Sh.I8; exact ZZ⟩
instance (s:List UInt8):Spec (Sh.C8 s) (True) (fun r=>0≤r.1∧r.1≤283333305):=⟨fun h=>by unfold Sh.C8; have:o4 (Int×Int) (fun t=>dig t.2 t.1∧t.2≤s.length) (fun t=>(s.length - t.2).toNat):=⟨⟩; simp only [aZD]; exact ZO⟩
instance (c:iM) (w:List (List UInt8)):Spec (Sh.JC c w) (vC c∧w.length≤1000000 ∧ ∀ x∈w,x.length≤300) (fun r=>vC r.2):=⟨fun h=>by unfold Sh.JC; have:AL (List (List UInt8)×Bool) (fun x=>x.1.length≤1000000 ∧ ∀ z∈x.1,z.length≤300):=⟨⟩; have:AL (Int×Bool×List UInt8×Int) (fun x=>x.2.2.1.length≤300∧bS x.2.2.2):=⟨⟩; have:AL (Unit) (fun _=>True):=⟨⟩; exact ZO⟩
instance (s:List UInt8):Spec (Sh.I9 s) (s.length≤300) (fun r=>vC r.1):=⟨fun h=>by unfold Sh.I9; have:AL (List (List UInt8)) (fun w=>w.length≤301 ∧ ∀ x∈w,x.length≤300):=⟨⟩; exact ZZ⟩
instance  : Spec (Sh.C7) (True) (fun r=>r.length≤100):=⟨fun h=>by unfold Sh.C7; exact ⟨_,rfl,by decide⟩⟩
instance (l:List (List UInt8)) (s:List UInt8):Spec (Sh.gS l s) (l.length≤1000000000) (fun r=>bS r∧r < l.length∧(l=[]→r < 0)):=⟨fun h=>by unfold Sh.gS; exact ZZ⟩
instance (s:List UInt8):Spec (Sh.BA s) (True) (fun r=>bS r):=⟨fun h=>by unfold Sh.BA; exact ZZ⟩
instance (c:iM) (e:cR):Spec (Sh.xC c e) (uZ e) (fun r=>WO r):=⟨fun h=>by unfold Sh.xC; exact ZZ⟩
instance (s:List UInt8) (c:Int):Spec (Sh.nL s c) (True) (fun r=>r.length≤s.length):=⟨fun h=>by unfold Sh.nL; have:o4 (List UInt8) (fun t=>t.length≤s.length) (fun t=>((t.length:Int)).toNat):=⟨⟩; exact ZZ⟩
instance (s:List UInt8):Spec (Sh.r9 s [32]) (True) (fun r=>r.length≤s.length):=⟨fun h=>by unfold Sh.r9; simp only [a6P,Option.bind_some,t32]; exact ZO⟩
instance (s:List UInt8):Spec (Sh.M4 s) (True) (fun r=>r.1.length≤s.length∧r.2.length≤s.length):=⟨fun h=>by unfold Sh.M4; exact ZZ⟩
instance (s:List UInt8) (c:Int):Spec (Sh.oW s c) (s.length≤1000000) (fun r=>r.length≤s.length):=⟨fun h=>by unfold Sh.oW; have:o4 (List UInt8) (fun t=>t.length≤s.length) (fun t=>((t.length:Int)).toNat):=⟨⟩; exact ZZ⟩
instance (s:List UInt8):Spec (Sh.zI s [32]) (s.length≤1000000) (fun r=>r.length≤s.length):=⟨fun h=>by unfold Sh.zI; simp only [a6P,Option.bind_some,t32]; exact ZO⟩
instance (s:List UInt8):Spec (Sh.D9 s) (True) (fun _=>True):=⟨fun h=>by unfold Sh.D9; exact ZZ⟩
instance (s:List UInt8):Spec (Sh.EW s) (True) (fun r=>0≤r.1∧r.1≤283333305):=⟨fun h=>by unfold Sh.EW; have:o4 (Int×Int) (fun t=>dig t.2 t.1∧t.2≤s.length) (fun t=>(s.length - t.2).toNat):=⟨⟩; simp only [aZD]; exact ZO⟩
instance (s:List UInt8):Spec (Sh.JX s) (s.length≤300) (fun r=>vS r.1∧bS r.2):=⟨fun h=>by unfold Sh.JX; have:AL (List UInt8) (fun x=>x.length≤300):=⟨⟩; exact ZZ⟩
instance (l:List (bK)):Spec (Sh.iA l) (True) (fun r=>r=l):=⟨fun h=>by unfold Sh.iA; exact ZZ⟩
instance (s:List UInt8):Spec (Sh.D7 s) (s.length≤300) (fun r=>r.1.length≤32∧(∀ x∈r.1,vS x)∧uZ r.2):=⟨fun h=>by unfold Sh.D7; have:o4 (List bK×Int) (fun t=>t.1.length≤32∧(∀ x∈t.1,vS x)∧0≤t.2∧t.2≤1000) (fun t=>(1000 - t.2).toNat):=⟨⟩; exact ZZ⟩
instance (s:List UInt8):Spec (Sh.AO s) (s.length≤1000000) (fun _=>True):=⟨fun h=>by unfold Sh.AO; exact ZZ⟩
instance (c:iM):Spec (Sh.MX c) (vC c) (fun r=>bS r):=⟨fun h=>by unfold Sh.MX; exact ZZ⟩
instance (c:iM):Spec (Sh.G4 c) (True) (fun r=>bS r):=⟨fun h=>by unfold Sh.G4; have:AL (Int) (fun _=>True):=⟨⟩; exact ZZ⟩
instance (s p:List UInt8):Spec (Sh.vH s p) (p.length=1) (fun _=>True):=⟨fun h=>by unfold Sh.vH; exact ZZ⟩
instance (s:List UInt8) (b:Bool):Spec (Sh.JB s b) (True) (fun r=>bS r∧(r=0→s.length≤256)):=⟨fun h=>by unfold Sh.JB; exact ZZ⟩
instance (l:List bK):Spec (Sh.JA l) (True) (fun r=>bS r):=⟨fun h=>by unfold Sh.JA; exact ZZ⟩
instance (c:iM):Spec (Sh.MW c) (True) (fun r=>bS r):=⟨fun h=>by unfold Sh.MW; exact ZZ⟩
instance (c:iM):Spec (Sh.C6 c) (vC c) (WO):=⟨fun h=>by unfold Sh.C6; exact ZZ⟩
instance (s:List UInt8):Spec (Sh.GG s) (s.length≤300) (fun r=>vC r.1∧WO r.2):=⟨fun h=>by unfold Sh.GG; have:AL (List bK) (fun x=>x.length≤32 ∧ ∀ s∈x,vS s):=⟨⟩; exact ZZ⟩
end Go.S
end

section
set_option maxRecDepth 100000
set_option maxHeartbeats 1000000
namespace Go.S
open Go
theorem aGe (l:List (List UInt8)):(tD l).length=l.length:=(AU l).length_eq
theorem aOM (l:List (List UInt8)) (y:List UInt8):y∈tD l↔y∈l:=(AU l).mem_iff
theorem aHW (l:List (List UInt8)):(oR l).length≤l.length:=SD l
theorem aHX {l:List (List UInt8)} {y:List UInt8}:y∈oR l→y∈l:=by
 have key : ∀ (l acc:List (List UInt8)),y∈l.foldl BC acc→y∈acc∨y∈l:=by
   intro l
   induction l with
   | nil=>intro acc h; exact .inl h
   | cons x r ih =>
     intro acc h
     rcases ih _ h with q | q
     . unfold BC at q; grind
     . grind
 intro h
 rcases key l [] h with q | q
 ·
  cases q
 exact q
theorem aHY {l:List (List UInt8)} (h:(oR (tD l)).length=0):l.length=0:=by
 have e : ∀ (l acc:List (List UInt8)),acc≠[]→l.foldl BC acc≠[]:=by
   intro l
   induction l with
   | nil=>intro acc h; exact h
   | cons x r ih=>intro acc h; exact ih _ (by unfold BC; split <;> simp [h])
 rw [← aGe]
 cases hs:tD l with
 | nil=>rfl
 | cons x r =>
   rw [hs] at h
   exact absurd (List.length_eq_zero_iff.1 h) (e r _ (by unfold BC; split <;> simp_all))
attribute [grind =] aGe aOM
attribute [grind →] aHY
attribute [grind! .] aHW
attribute [grind →] aHX
theorem aDy {l:List (List UInt8)} {y:List UInt8} (h:y∈JI l):y∈l:=(aGA l y).1 h
attribute [grind →] aDy
attribute [grind! .] aFz
def vF (f:aC):Prop:=f.path.length≤64∧bS f.mode∧f.data.length≤4096
def vE (e:aH):Prop:=e.path.length≤64∧bS e.iK∧bS e.mode∧e.data.length≤4096∧bS e.time∧bS e.size
def Rw (l:List aC):Prop:=l.length≤64 ∧ ∀ f∈l,vF f
def Ix (n:Nat) (l:List aH):Prop:=l.length≤n ∧ ∀ e∈l,vE e
attribute [grind =] vF vE Rw Ix
instance (l:List (List aC)):Spec (Sh.wD l) (l.length≤8 ∧ ∀ r∈l,r.length≤1000000 ∧ ∀ f∈r,f.path.length≤64) (fun r=>r.length≤8000000∧(∀ p∈r,p.length≤64)∧r.Pairwise (· < ·)∧r.length≤(l.map List.length).sum):=⟨fun h=>by
  unfold Sh.wD
  refine sL (fun t=>0≤t.1∧t.1≤l.length∧t.2.length≤1000000*t.1∧(∀ p∈t.2,p.length≤64)∧t.2.length≤((l.take t.1.toNat).map List.length).sum) (fun t=>(l.length - t.1).toNat) (by simp) fun ⟨x,acc⟩ ⟨h0,h1,h2,h3,h4⟩ => ?_
  dsimp only at h0 h1 h2 h3 h4 ⊢
  refine sI (fun hx=>sA (fun z zm hz => ?_) ⟨h0,hx⟩) (fun hx => ?_)
  . have e:((l.take (x+1).toNat).map List.length).sum=((l.take x.toNat).map List.length).sum+z.length:=by rw [Q7 h0 hz]; simp
    have hz':=h.2 z zm
    refine sL (fun t=>0≤t.1∧t.1≤z.length∧t.2.length≤acc.length+t.1 ∧ ∀ p∈t.2,p.length≤64) (fun t=>(z.length - t.1).toNat) ⟨by simp,by simp,by simp,h3⟩ fun ⟨i,a⟩ ⟨i0,i1,i2,i3⟩ => ?_
    dsimp only at i0 i1 i2 i3 ⊢
    refine sI (fun hi=>sM (fun f hf => ?_) ⟨i0,hi⟩) (fun hi => ?_)
    . have:=hz'.2 f hf
      exact ZZ
    . exact x5 (sG (fun _=>LY ⟨⟨by omega,by omega,by dsimp only; omega,i3,by dsimp only; omega⟩,by dsimp only; omega⟩) ⟨by omega,by omega⟩)
  . have:x=l.length:=by omega
    subst this
    rw [List.take_of_length_le (by omega)] at h4
    have k1:=aFz acc
    refine x5 (sG (fun _=>sT fun y hy=>sB (fun w hw=>sS ?_) trivial) (by omega))
    subst hw; subst hy
    exact ⟨by omega,fun p hp=>h3 p (aDy hp),XM acc,by omega⟩⟩
instance (h:List aC) (l:List aH):Spec (Sh.oN h l) (h.length≤1000000∧(∀ f∈h,f.path.length≤64)∧l.length≤1000000 ∧ ∀ e∈l,e.path.length≤64) (fun r=>r.length≤8000000∧(∀ p∈r,p.length≤64)∧r.length≤h.length+l.length):=⟨fun h=>by unfold Sh.oN; have:o4 (List aC×Int) (fun t=>t.1.length≤t.2∧0≤t.2∧t.2≤l.length ∧ ∀ f∈t.1,f.path.length≤64) (fun t=>(l.length - t.2).toNat):=⟨⟩; exact ZZ⟩
instance (e:aH) (p:List UInt8):Spec (Sh.CM e p) (True) (fun _=>True):=⟨fun h=>by unfold Sh.CM; exact ZZ⟩
instance (l:List (aH)) (p:List UInt8):Spec (Sh.gY l p) (l.length≤1000000000) (fun r => -1≤r∧r < l.length):=⟨fun h=>by unfold Sh.gY; exact ZZ⟩
instance (l:List (aH)) (p:List UInt8):Spec (Sh.fU l p) (l.length≤1000000000) (fun _=>True):=⟨fun h=>by unfold Sh.fU; exact ZZ⟩
instance (l:List aH) (p:List UInt8):Spec (Sh.AR l p) (l.length≤1000000000) (fun _=>True):=⟨fun h=>by unfold Sh.AR; exact ZZ⟩
instance (l:List (aH)):Spec (Sh.eP l) (l.length≤4000000000) (fun r=>r=l):=⟨fun h=>by unfold Sh.eP; exact ZZ⟩
instance (l:List (aH)):Spec (Sh.cK l) (True) (fun r=>r=l):=⟨fun h=>by unfold Sh.cK; exact ZZ⟩
instance (e:aH) (p:List UInt8):Spec (Sh.y8 e p) (True) (fun _=>True):=⟨fun h=>by unfold Sh.y8; exact ZZ⟩
instance (l:List (aH)) (p:List UInt8):Spec (Sh.fV l p) (l.length≤1000000000) (fun r => -1≤r∧r < l.length):=⟨fun h=>by unfold Sh.fV; exact ZZ⟩
instance (l:List (aH)) (p:List UInt8):Spec (Sh.gK l p) (l.length≤1000000000) (fun r=>r.length≤l.length ∧ ∀ z∈r,z∈l):=⟨fun h=>by unfold Sh.gK; have:o4 (List (aH)×Int×Int) (fun t=>t.1.length=l.length∧0≤t.2.1∧t.2.1 < t.2.2∧t.2.2≤l.length ∧ ∀ z∈t.1,z∈l) (fun t=>(l.length - t.2.2).toNat):=⟨⟩; exact ZZ⟩
instance (l:List aH) (p:List UInt8):Spec (Sh.wQ l p) (l.length≤1000000000) (fun r=>r.length≤l.length ∧ ∀ z∈r,z∈l):=⟨fun h=>by unfold Sh.wQ; exact ZZ⟩
instance (x e:aH):Spec (Sh.EM x e) (x.path.length≤64∧e.path.length≤64) (fun _=>True):=⟨fun h=>by unfold Sh.EM; exact ZZ⟩
instance (x e:aH):Spec (Sh.BG x e) (x.path.length≤64∧e.path.length≤64) (fun _=>True):=⟨fun h=>by unfold Sh.BG; exact ZZ⟩
instance (l:List (aH)) (e:aH):Spec (Sh.fW l e) (l.length≤1000000000∧(∀ z∈l,z.path.length≤64)∧e.path.length≤64) (fun r => -1≤r∧r < l.length):=⟨fun h=>by unfold Sh.fW; exact ZZ⟩
instance (l:List (aH)) (e:aH):Spec (Sh.fO l e) (l.length≤1000000000∧(∀ z∈l,z.path.length≤64)∧e.path.length≤64) (fun r=>r.length≤l.length ∧ ∀ z∈r,z∈l):=⟨fun h=>by unfold Sh.fO; have:o4 (List (aH)×Int×Int) (fun t=>t.1.length=l.length∧0≤t.2.1∧t.2.1 < t.2.2∧t.2.2≤l.length ∧ ∀ z∈t.1,z∈l) (fun t=>(l.length - t.2.2).toNat):=⟨⟩; exact ZZ⟩
instance (x:Int):Spec (Sh.cmp_isNaN_int x) (True) (· = false):=⟨fun h=>by unfold Sh.cmp_isNaN_int; exact ZZ⟩
instance (x y:Int):Spec (Sh.wW x y) (True) (fun r=>bS r):=⟨fun h=>by unfold Sh.wW; exact ZZ⟩
instance (l:List Int):Spec (Sh.G5 l) (l.length≤1000) (fun _=>True):=⟨fun h=>by unfold Sh.G5; exact ZZ⟩
instance (x e:aH):Spec (Sh.zX x e) (True) (fun _=>True):=⟨fun h=>by unfold Sh.zX; exact ZZ⟩
instance (l:List aH) (e:aH):Spec (Sh.xG l e) (l.length≤1000000∧(∀ z∈l,vE z)∧vE e) (fun r=>r.length≤l.length+1 ∧ ∀ z∈r,vE z):=⟨fun h=>by
  unfold Sh.xG
  have:AL (Int) (fun x=>0≤x∧x≤l.length):=⟨⟩
  refine sB (fun y hy => ?_) (by grind); subst hy
  refine sB (fun z hz => ?_) (by grind)
  have:AL Int (fun x=>0≤x∧x≤z.length):=⟨⟩
  exact ZZ⟩
instance (l:List aH) (w:List aC) (p:List UInt8):Spec (Sh.JT l w p) (l.length≤1000000∧(∀ z∈l,vE z)∧Rw w) (fun r=>r.length≤l.length+1 ∧ ∀ z∈r,vE z):=⟨fun h=>by unfold Sh.JT; exact ZZ⟩
instance (x e:aH):Spec (Sh.wR x e) (True) (fun _=>True):=⟨fun h=>by unfold Sh.wR; exact ZZ⟩
instance (l m:List aH):Spec (Sh.cL l m) (l.length≤1000000000) (fun r=>r=true→l.length=m.length):=⟨fun h=>by unfold Sh.cL; exact ZZ⟩
instance (l m:List aH):Spec (Sh.pG l m) (l.length≤1000000000) (fun r=>r=true→l.length=m.length):=⟨fun h=>by unfold Sh.pG; exact ZZ⟩
instance (l:List aH) (n:Int):Spec (Sh.mO l n) (l.length≤1000000 ∧ ∀ z∈l,vE z) (fun r=>r.length≤l.length∧(∀ f∈r,vF f)∧((∀ z∈l,z.iK=n)→r.length=l.length)):=⟨fun h=>by unfold Sh.mO; have:o4 (List aC×Int) (fun t=>t.1.length≤t.2∧0≤t.2∧t.2≤l.length∧(∀ f∈t.1,vF f)∧((∀ z∈l,z.iK=n)→t.1.length=t.2)) (fun t=>(l.length - t.2).toNat):=⟨⟩; exact ZZ⟩
instance (l:List aH):Spec (Sh.kK l) (l.length≤1000000 ∧ ∀ z∈l,vE z) (fun r=>r.length≤l.length∧(∀ p∈r,p.length≤64)∧(r.length=0 → ∀ z∈l,z.iK=0)):=⟨fun h=>by
  unfold Sh.kK
  refine sL (fun t=>t.1.length≤t.2∧0≤t.2∧t.2≤l.length∧(∀ p∈t.1,p.length≤64)∧(t.1.length=0 → ∀ z∈l.take t.2.toNat,z.iK=0)) (fun t=>(l.length - t.2).toNat) (by simp) fun ⟨o,x⟩ ⟨h0,h1,h2,h3,h4⟩ => ?_
  dsimp only at h0 h1 h2 h3 h4 ⊢
  refine sI (fun hx=>sA (fun z zm hz => ?_) ⟨h1,hx⟩) (fun hx => ?_)
  . have e:=Q7 h1 hz
    exact ZZ
  . have:x=l.length:=by omega
    subst this
    rw [List.take_of_length_le (by omega)] at h4
    exact ZZ⟩
instance (l:List aC):Spec (Sh.CH l) (Rw l) (fun r=>r.length=l.length∧(∀ e∈r,vE e) ∧ ∀ e∈r,e.iK=0):=⟨fun h=>by unfold Sh.CH; have:o4 (List aH×Int) (fun t=>t.1.length=t.2∧0≤t.2∧t.2≤l.length∧(∀ e∈t.1,vE e) ∧ ∀ e∈t.1,e.iK=0) (fun t=>(l.length - t.2).toNat):=⟨⟩; exact ZZ⟩
end Go.S
end

section
set_option maxRecDepth 100000
set_option maxHeartbeats 1000000
namespace Go.S
open Go
theorem aNl {l:List (List UInt8)} (h : ∀ x∈l,x.length≤5000):(GM l []).length≤5000*l.length:=by
 have:GM l []=l.flatten:=by
   unfold GM
   cases l with
   | nil=>exact Lib.join_nil []
   | cons x r=>rw [Lib.join_cons]; simp [Lib.joinTail]
 rw [this]
 clear this
 induction l with
 | nil=>simp
 | cons x r ih =>
   have h1:=h x (List.mem_cons_self ..)
   have ih:=ih fun y hy=>h y (List.mem_cons_of_mem _ hy)
   simp only [List.flatten_cons,List.length_append,List.length_cons]
   omega
instance (s:List UInt8):Spec (Sh.wF s) (s.length≤1000000) (fun r=>r.length≤s.length ∧ ∀ x∈r,x.length≤s.length):=⟨fun h=>by unfold Sh.wF; have:o4 (List UInt8×List (List UInt8)) (fun t=>t.1.length+t.2.length≤s.length ∧ ∀ x∈t.2,x.length≤s.length) (fun t=>((t.1.length:Int)).toNat):=⟨⟩; exact ZO⟩
instance (l:List (List UInt8)):Spec (Sh.DF l) (l.length≤700 ∧ ∀ x∈l,x.length≤5000) (fun r=>r.length≤5000*l.length):=⟨fun h=>by unfold Sh.DF; have:=aNl h.2; exact ZZ⟩
instance (x y:List UInt8):Spec (Sh.j8 x y) (x.length≤1000000000∧y.length≤1000000000) (fun _=>True):=⟨fun h=>by unfold Sh.j8; exact ZZ⟩
instance (x y:List UInt8):Spec (Sh.tZ x y) (x.length≤1000000000∧y.length≤1000000000) (fun _=>True):=⟨fun h=>by unfold Sh.tZ; exact ZZ⟩
instance (x:List UInt8):Spec (Sh.EN x) (x.length≤1000000000) (fun _=>True):=⟨fun h=>by unfold Sh.EN; exact ZZ⟩
theorem idx {i j a b:Int} (i0:0≤i) (i1:i≤a) (j0:0≤j) (j1:j≤b) (ha:a≤256) (hb:b≤256):0≤i*(b+1)∧i*(b+1)≤65792∧i*(b+1)+j < (a+1)*(b+1):=by
 have h1:0≤i*(b+1):=Int.mul_nonneg i0 (by omega)
 have h2:i*(b+1)≤a*(b+1):=Int.mul_le_mul_of_nonneg_right i1 (by omega)
 have h3:a*(b+1)≤256*(b+1):=Int.mul_le_mul_of_nonneg_right ha (by omega)
 have h4:(a+1)*(b+1)=a*(b+1)+(b+1):=by rw [Int.add_mul,Int.one_mul]
 omega
def Tb (t:pE):Prop:=t.a.length≤256∧t.b.length≤256∧(t.n.length:Int)=((t.a.length:Int)+1)*((t.b.length:Int)+1)
def na (l:List jE):Int:=(l.countP (fun e=>decide (e.op≠3)):Nat)
def nb (l:List jE):Int:=(l.countP (fun e=>decide (e.op≠2)):Nat)
def Ed (l:List jE):Prop := ∀ e∈l,e.op=1∨e.op=2∨e.op=3
theorem aLl (l:List jE) (e:jE):na (l++[e])=na l+if e.op=3 then 0 else 1:=by unfold na; rw [List.countP_append,List.countP_singleton]; grind
theorem aLm (l:List jE) (e:jE):nb (l++[e])=nb l+if e.op=2 then 0 else 1:=by unfold nb; rw [List.countP_append,List.countP_singleton]; grind
theorem a2j:na []=0:=rfl
theorem a2k:nb []=0:=rfl
attribute [grind =] aLl aLm a2j a2k Ed
def Md (a b:List (List UInt8)):(Unit×cR)⊕(pE×Unit)→Prop
  | .inl y=>y.2.isNil=false
  | .inr y=>y.1.a=a∧y.1.b=b∧Tb y.1
instance (t:pE) (i j:Int):Spec (Sh.oF t i j) (Tb t∧0≤i∧i≤t.a.length∧0≤j∧j≤t.b.length) (fun r=>r∈t.n):=⟨fun h=>by unfold Sh.oF; obtain ⟨⟨h1,h2,h3⟩,h4,h5,h6,h7⟩:=h; have:=idx h4 h5 h6 h7 (by omega) (by omega); exact ZZ⟩
instance (a b:List (List UInt8)):Spec (Sh.JD a b) (True) (Md a b):=⟨fun h=>by
  unfold Sh.JD
  refine sI (fun _=>sS rfl) fun ha=>sI (fun _=>sS rfl) fun hb => ?_
  have hN:=idx (i:=a.length) (j:=b.length) (a:=a.length) (b:=b.length) (by omega) (by omega) (by omega) (by omega) (by omega) (by omega)
  have hM:((a.length:Int)+1)*((b.length:Int)+1)=a.length*((b.length:Int)+1)+(b.length+1):=by rw [Int.add_mul,Int.one_mul]
  refine sG (fun _=>sG (fun _=>sG (fun _=>sG (fun _=>sT fun n hn=>sG (fun _ => ?_) ⟨by omega,by omega⟩) ⟨by omega,by omega⟩) ⟨by omega,by omega⟩) ⟨by omega,by omega⟩) ⟨by omega,by omega⟩
  have hnl:(n.length:Int)=((a.length:Int)+1)*((b.length:Int)+1):=by rw [hn,List.length_replicate]; omega
  have hn0 : ∀ v∈n,v=0:=fun v hv=>by rw [hn] at hv; exact (List.mem_replicate.1 hv).2
  refine sL (fun t => -1≤t.1∧t.1≤a.length - 1∧t.2.length=n.length ∧ ∀ v∈t.2,0≤v∧v≤300*((a.length:Int) - 1 - t.1)) (fun t=>(t.1+1).toNat) ⟨by omega,by omega,rfl,fun v hv=>by have:=hn0 v hv; omega⟩ fun ⟨i,c⟩ ⟨i0,i1,i2,i3⟩ => ?_
  dsimp only at i0 i1 i2 i3 ⊢
  refine sI (fun hi=>sG (fun _ => ?_) ⟨by omega,by omega⟩) fun _=>x5 (sS ⟨rfl,rfl,by show a.length≤256; omega,by show b.length≤256; omega,by show (c.length:Int)=((a.length:Int)+1)*((b.length:Int)+1); omega⟩)
  refine sL (fun t => -1≤t.1∧t.1≤b.length - 1∧t.2.length=n.length ∧ ∀ v∈t.2,0≤v∧v≤300*((a.length:Int) - 1 - i)+((b.length:Int) - 1 - t.1)) (fun t=>(t.1+1).toNat) ⟨by omega,by omega,i2,fun v hv=>by have:=i3 v hv; omega⟩ fun ⟨j,d⟩ ⟨j0,j1,j2,j3⟩ => ?_
  dsimp only at j0 j1 j2 j3 ⊢
  refine sI (fun hj => ?_) fun _=>x5 (sG (fun _=>LY ⟨⟨by omega,by omega,j2,fun v hv=>by have:=j3 v hv; dsimp only; omega⟩,by dsimp only; omega⟩) ⟨by omega,by omega⟩)
  have hT:Tb ⟨a,b,d⟩:=⟨by show a.length≤256; omega,by show b.length≤256; omega,by show (d.length:Int)=((a.length:Int)+1)*((b.length:Int)+1); omega⟩
  have e1:=idx (i:=i) (j:=j) (a:=a.length) (b:=b.length) hi (by omega) hj (by omega) (by omega) (by omega)
  refine sG (fun _=>sB (fun x hx=>sG (fun _=>sB (fun y hy => ?_) ⟨hT,hi,by show i≤a.length; omega,by omega,by show j+1≤b.length; omega⟩) ⟨by omega,by omega⟩) ⟨hT,by omega,by show i+1≤a.length; omega,hj,by show j≤b.length; omega⟩) ⟨by omega,by omega⟩
  have hx:=j3 x hx
  have hy:=j3 y hy
  refine sJ (fun v=>0≤v∧v≤300*((a.length:Int) - 1 - i)+((b.length:Int) - j)) (fun v hv => ?_) fun k hk => ?_
  . refine sG (fun _=>sG (fun _=>sG (fun _=>sM (fun _ _=>sT fun w hw=>sG (fun _=>LY ⟨⟨by omega,by omega,by rw [hw,List.length_set]; exact j2,fun u hu => ?_⟩,by dsimp only; omega⟩) ⟨by omega,by omega⟩) ⟨by omega,by omega⟩) ⟨by omega,by omega⟩) ⟨by omega,by omega⟩) ⟨by omega,by omega⟩
    rw [hw] at hu
    rcases List.mem_or_eq_of_mem_set hu with q | q
    . have:=j3 u q; dsimp only; omega
    . subst q; dsimp only; omega
  . refine sM (fun p _=>sM (fun q _=>sI (fun _=>sG (fun _=>sG (fun _=>sB (fun z hz => ?_) ⟨hT,by omega,by show i+1≤a.length; omega,by omega,by show j+1≤b.length; omega⟩) ⟨by omega,by omega⟩) ⟨by omega,by omega⟩) fun _=>hk _ ⟨by omega,by omega⟩) ⟨hj,by omega⟩) ⟨hi,by omega⟩
    have hz:=j3 z hz
    exact sG (fun _=>hk _ ⟨by omega,by omega⟩) ⟨by omega,by omega⟩⟩
instance (l:List (jE)):Spec (Sh.jB l) (True) (fun r=>r=l):=⟨fun h=>by unfold Sh.jB; exact ZZ⟩
instance (l:List (gZ)):Spec (Sh.jI l) (True) (fun r=>r=l):=⟨fun h=>by unfold Sh.jI; exact ZZ⟩
instance (t:pE) (i j:Int):Spec (Sh.wY t i j) (Tb t∧0≤i∧i≤t.a.length∧0≤j∧j≤t.b.length∧(i < t.a.length∨j < t.b.length)) (fun r=>r=1∧i < t.a.length∧j < t.b.length∨r=2∧i < t.a.length∨r=3∧j < t.b.length):=⟨fun h=>by unfold Sh.wY; have h1:=h.1.1; have h2:=h.1.2.1; exact ZO⟩
instance (a b:List (List UInt8)):Spec (Sh.G6 a b) (True) (fun r=>r.2.isNil=true→Ed r.1∧na r.1=a.length∧nb r.1=b.length∧a.length≤256∧b.length≤256):=⟨fun h=>by
  unfold Sh.G6
  refine sB (fun y hy => ?_) trivial
  rcases y with y | y
  . have:y.2.isNil=false:=hy
    dsimp only
    rw [if_neg (by grind)]
    exact ZZ
  . obtain ⟨h1,h2,h3⟩:=hy
    dsimp only
    have h4:=h3.1
    have h5:=h3.2.1
    have:o4 (List jE×Int×Int) (fun t=>0≤t.2.1∧t.2.1≤a.length∧0≤t.2.2∧t.2.2≤b.length∧Ed t.1∧na t.1=t.2.1∧nb t.1=t.2.2∧t.1.length≤t.2.1+t.2.2) (fun t=>(a.length - t.2.1+(b.length - t.2.2)).toNat):=⟨⟩
    exact ZO⟩
end Go.S
end

section
set_option maxRecDepth 100000
set_option maxHeartbeats 1000000
namespace Go.S
open Go
def MC (l:List gZ) (A B:Int):Prop:=(∀ m∈l,0≤m.a∧0≤m.b∧0≤m.n∧m.a+m.n≤A∧m.b+m.n≤B)∧l.Pairwise fun m m'=>m.a+m.n≤m'.a∧m.b+m.n≤m'.b
theorem MC.le {l:List gZ} {A B A' B':Int} (h:MC l A B) (a:A≤A') (b:B≤B'):MC l A' B':=⟨fun m hm=>by have:=h.1 m hm; omega,h.2⟩
theorem MC.snoc {l:List gZ} {A B:Int} (h:MC l A B) (a:0≤A) (b:0≤B) (n:Int) (hn:0≤n):MC (l++[⟨A,B,n⟩]) (A+n) (B+n):=by
 refine ⟨fun m hm => ?_,List.pairwise_append.2 ⟨h.2,by simp,fun m hm m' hm' => ?_⟩⟩
 ·
  rcases List.mem_append.1 hm with q | q
  ·
   have:=h.1 m q; omega
  rw [List.mem_singleton.1 q]; dsimp only; omega
 rw [List.mem_singleton.1 hm']; exact ⟨(h.1 m hm).2.2.2.1,(h.1 m hm).2.2.2.2⟩
theorem MC.grow {l:List gZ} {A B:Int} {z:gZ} (h:MC l A B) (hz:l.getLast? = some z) (a:z.a+z.n=A) (b:z.b+z.n=B):MC (l.set (l.length - 1) ⟨z.a,z.b,z.n+1⟩) (A+1) (B+1)∧(l.set (l.length - 1) ⟨z.a,z.b,z.n+1⟩).getLast? = some ⟨z.a,z.b,z.n+1⟩:=by
 obtain ⟨m,rfl⟩:=List.getLast?_eq_some_iff.1 hz
 have e:(m++[z]).set ((m++[z]).length - 1) ⟨z.a,z.b,z.n+1⟩=m++[⟨z.a,z.b,z.n+1⟩]:=by simp
 have hz':=h.1 z (by simp)
 rw [e]
 refine ⟨?_,by simp⟩
 have hp:=List.pairwise_append.1 h.2
 have:MC m z.a z.b:=⟨fun x hx=>by have h1:=h.1 x (List.mem_append_left _ hx); have h2:=hp.2.2 x hx z (by simp); omega,hp.1⟩
 have:=this.snoc hz'.1 hz'.2.1 (z.n+1) (by omega)
 rwa [show z.a+(z.n+1)=A+1 by omega,show z.b+(z.n+1)=B+1 by omega] at this
instance (a b:List (List UInt8)):Spec (Sh.CC a b) (True) (fun r=>r.2.isNil=true→MC r.1 a.length b.length∧a.length≤256∧b.length≤256∧r.1.length≤512):=⟨fun h=>by
  unfold Sh.CC
  refine sB (fun y hy => ?_) trivial
  refine sI (fun hn => ?_) (fun hn=>sS fun h=>absurd h hn)
  obtain ⟨y,e⟩:=y
  obtain ⟨h1,h2,h3,h4,h5⟩:=hy hn
  dsimp only at h1 h2 h3 ⊢
  have hlen:y.length≤512:=by
    have : ∀ l:List jE,Ed l→(l.length:Int)≤na l+nb l:=fun l=>by
      induction l with
      | nil=>intro _; simp [na,nb]
      | cons x r ih =>
        intro hx
        have:=ih fun e he=>hx e (List.mem_cons_of_mem _ he)
        have hx:=hx x (List.mem_cons_self ..)
        simp only [na,nb,List.countP_cons,List.length_cons] at this ⊢
        grind
    have:=this y h1
    omega
  refine sL (fun t=>0≤t.2.2.2.2∧t.2.2.2.2≤y.length∧t.2.1=na (y.take t.2.2.2.2.toNat)∧t.2.2.1=nb (y.take t.2.2.2.2.toNat)∧MC t.1 t.2.1 t.2.2.1∧(t.2.2.2.1=true → ∃ z,t.1.getLast? = some z∧z.a+z.n=t.2.1∧z.b+z.n=t.2.2.1)∧t.1.length≤t.2.2.2.2) (fun t=>(y.length - t.2.2.2.2).toNat) ⟨by simp,by simp,by simp [na],by simp [nb],⟨by simp,by simp⟩,by simp,by simp⟩ fun ⟨out,i,j,row,x⟩ ⟨x0,x1,hi,hj,hm,hr,hl⟩ => ?_
  dsimp only at x0 x1 hi hj hm hr hl ⊢
  refine sI (fun hx => ?_) (fun hx => ?_)
  . refine sA (fun z zm hz => ?_) ⟨x0,hx⟩
    have hz1:y.take (x+1).toNat=y.take x.toNat++[z]:=Q7 x0 hz
    have i0:0≤i:=by rw [hi]; exact Int.natCast_nonneg _
    have j0:0≤j:=by rw [hj]; exact Int.natCast_nonneg _
    have i1:i≤256:=by have:=List.Sublist.countP_le (p:=fun e:jE=>decide (e.op≠3)) (List.take_sublist x.toNat y); unfold na at hi h2; omega
    have j1:j≤256:=by have:=List.Sublist.countP_le (p:=fun e:jE=>decide (e.op≠2)) (List.take_sublist x.toNat y); unfold nb at hj h3; omega
    have hop:=h1 z zm
    refine sJ (fun o=>MC o (i+if z.op=3 then 0 else 1) (j+if z.op=2 then 0 else 1)∧(z.op=1 → ∃ q,o.getLast? = some q∧q.a+q.n=i+1∧q.b+q.n=j+1)∧o.length≤x+1) (fun o ⟨ho,hq,hol⟩ => ?_) fun k hk => ?_
    . have fin : ∀ i' j':Int,i'=i+(if z.op=3 then 0 else 1)→j'=j+(if z.op=2 then 0 else 1)→i'=na (y.take (x+1).toNat)∧j'=nb (y.take (x+1).toNat):=fun i' j' e1 e2=>by rw [hz1,aLl,aLm]; omega
      have:AL Int (fun v=>v=i+if z.op=3 then 0 else 1):=⟨⟩
      exact ZZ
    . refine sI (fun h1 => ?_) (fun h1 => ?_)
      . refine sJ (fun o=>MC o i j∧(∃ q,o.getLast? = some q∧q.a+q.n=i∧q.b+q.n=j)∧o.length≤x+1) (fun o ⟨ho,⟨q,hq,qa,qb⟩,hol⟩ => ?_) fun k' hk' => ?_
        . have hne:0 < o.length:=List.length_pos_iff.2 fun e=>by rw [e] at hq; cases hq
          obtain ⟨g1,g2⟩:=ho.grow hq qa qb
          have q0:=ho.1 q (List.mem_of_getLast? hq)
          have hget:o[((o.length:Int) - 1).toNat]? = some q:=by rw [List.getLast?_eq_getElem?] at hq; rw [show ((o.length:Int) - 1).toNat=o.length - 1 by omega]; exact hq
          refine sG (fun _=>sA (fun p _ hp => ?_) ⟨by omega,by omega⟩) ⟨by omega,by omega⟩
          rw [hget] at hp; cases hp
          refine sG (fun _=>sA (fun p _ hp=>sT fun w hw => ?_) ⟨by omega,by omega⟩) ⟨by omega,by omega⟩
          rw [hget] at hp; cases hp
          rw [show ((o.length:Int) - 1).toNat=o.length - 1 by omega] at hw
          subst hw
          exact hk _ ⟨by rw [h1]; exact g1,fun _=>⟨_,g2,by dsimp only; omega,by dsimp only; omega⟩,by rw [List.length_set]; exact hol⟩
        . refine sI (fun hrow => ?_) (fun hrow=>hk' _ ⟨hm,hr (by simpa using hrow),by omega⟩)
          have:=hm.snoc i0 j0 0 (by omega)
          rw [Int.add_zero,Int.add_zero] at this
          exact sT fun w hw=>sG (fun _=>sT fun v hv=>hk' _ (by subst hv; subst hw; exact ⟨this,⟨⟨i,j,0⟩,by simp,by simp,by simp⟩,by simp; omega⟩)) (by rw [hw]; simp; omega)
      . exact hk _ ⟨hm.le (by split <;> omega) (by split <;> omega),fun h=>absurd h h1,by omega⟩
  . have:x=y.length:=by omega
    subst this
    rw [List.take_of_length_le (by omega)] at hi hj
    rw [h2] at hi; rw [h3] at hj; subst hi hj
    exact ZZ⟩
def Pl (p:List Int) (A B:Int):Prop:=(∀ (x:Nat) v,p[x]? = some v→v = -1∨0≤v∧v < B∧(x:Int) < A) ∧ ∀ (x y:Nat) u v,x < y→p[x]? = some u→p[y]? = some v→0≤u→0≤v→u < v
theorem Pl.le {p:List Int} {A B A' B':Int} (h:Pl p A B) (a:A≤A') (b:B≤B'):Pl p A' B':=⟨fun x v hv=>by have:=h.1 x v hv; omega,h.2⟩
theorem Pl.set {p:List Int} {A B:Int} (h:Pl p A B) (a:0≤A) (b:0≤B):Pl (p.set A.toNat B) (A+1) (B+1):=by
 refine ⟨fun x v hv => ?_,fun x y u v hxy hu hv u0 v0 => ?_⟩
 ·
  rw [List.getElem?_set] at hv
  have:=h.1 x v
  grind
 rw [List.getElem?_set] at hu hv
 have h1:=h.1 x u
 have h2:=h.1 y v
 have h3:=h.2 x y u v hxy
 grind
instance (r:List Int) (n:Int):Spec (Sh.CA r n) (r=[-1]∧0≤n∧n≤1000) (fun q=>q=List.replicate n.toNat (-1)):=⟨fun h=>by unfold Sh.CA; exact ZZ⟩
instance (a b:List (List UInt8)):Spec (Sh.zA a b) (True) (fun r=>r.2.isNil=true→r.1.length=a.length∧Pl r.1 a.length b.length∧a.length≤256∧b.length≤256):=⟨fun h=>by
  unfold Sh.zA
  refine sB (fun y hy => ?_) trivial
  refine sI (fun hn => ?_) (fun hn=>sS fun h=>absurd h hn)
  obtain ⟨l,e⟩:=y
  obtain ⟨⟨hm,hp⟩,ha,hb,hl⟩:=hy hn
  dsimp only at hm hp hl ⊢
  refine sT fun q hq=>sB (fun o ho => ?_) ⟨hq,by omega,by omega⟩
  refine sL (fun t=>0≤t.2∧t.2≤l.length∧t.1.length=a.length ∧ ∃ A B,Pl t.1 A B∧0≤A∧0≤B∧A≤a.length∧B≤b.length ∧ ∀ m∈l.drop t.2.toNat,A≤m.a∧B≤m.b) (fun t=>(l.length - t.2).toNat) ⟨by simp,by simp,by rw [ho]; simp,0,0,⟨fun x v hv => .inl ?_,fun x y u v _ hu _ u0 _ => ?_⟩,by simp,by simp,by simp,by simp,fun m h=>⟨(hm m (List.mem_of_mem_drop h)).1,(hm m (List.mem_of_mem_drop h)).2.1⟩⟩ fun ⟨p,x⟩ ⟨x0,x1,h1,A,B,h2,A0,B0,A1,B1,h3⟩ => ?_
  . rw [ho] at hv; exact (List.mem_replicate.1 (List.mem_of_getElem? hv)).2
  . rw [ho] at hu; have:=(List.mem_replicate.1 (List.mem_of_getElem? hu)).2; omega
  dsimp only at x0 x1 h1 h3 ⊢
  refine sI (fun hx=>sA (fun z zm hz => ?_) ⟨x0,hx⟩) (fun hx=>x5 (sS fun _=>⟨h1,h2.le A1 B1,ha,hb⟩))
  obtain ⟨z0,z1,z2,z3,z4⟩:=hm z zm
  have hd:l.drop x.toNat=z::l.drop (x.toNat+1):=by
    obtain ⟨g1,g2⟩:=List.getElem?_eq_some_iff.1 hz
    rw [List.drop_eq_getElem_cons g1,g2]
  have hz':=h3 z (by rw [hd]; exact List.mem_cons_self ..)
  refine sL (fun t=>0≤t.2∧t.2≤z.n∧t.1.length=a.length∧Pl t.1 (z.a+t.2) (z.b+t.2)) (fun t=>(z.n - t.2).toNat) ⟨by simp,z2,h1,h2.le (by simp; omega) (by simp; omega)⟩ fun ⟨p,k⟩ ⟨k0,k1,g1,g2⟩ => ?_
  dsimp only at k0 k1 g1 g2 ⊢
  refine sI (fun hk=>sG (fun _=>sG (fun _=>sM (fun _ _=>sT fun w hw=>sG (fun _=>LY ⟨⟨by omega,by omega,by rw [hw,List.length_set]; exact g1,?_⟩,by dsimp only; omega⟩) ⟨by omega,by omega⟩) ⟨by omega,by omega⟩) ⟨by omega,by omega⟩) ⟨by omega,by omega⟩) (fun hk=>x5 (sG (fun _=>LY ⟨⟨by omega,by omega,g1,_,_,g2,by omega,by omega,by omega,by omega,fun m h => ?_⟩,by dsimp only; omega⟩) ⟨by omega,by omega⟩))
  . have:=g2.set (by omega) (by omega)
    subst hw
    rwa [Int.add_assoc,Int.add_assoc] at this
  . have hpd:(l.drop x.toNat).Pairwise _:=hp.sublist (List.drop_sublist _ _)
    rw [hd] at hpd
    have:=(List.pairwise_cons.1 hpd).1 m (by rw [show x.toNat+1=(x+1).toNat by omega]; exact h)
    omega⟩
instance (l:List (List UInt8)):Spec (Sh.gR l) (l.length≤4000000000) (fun r=>r=l):=⟨fun h=>by unfold Sh.gR; exact ZZ⟩
instance (l:List (List UInt8)):Spec (Sh.wS l) (l.length≤1000000) (fun r=>r=l):=⟨fun h=>by unfold Sh.wS; exact ZZ⟩
instance (l m:List (List UInt8)):Spec (Sh.jH l m) (l.length≤1000000000) (fun _=>True):=⟨fun h=>by unfold Sh.jH; exact ZZ⟩
def Ln (l:List (List UInt8)):Prop:=l.length≤300 ∧ ∀ x∈l,x.length≤4096
def Ck (c:p9):Prop:=Ln c.base∧Ln c.ours∧Ln c.cU∧Ln c.out
def Lt (n:Int) (c:p9):Prop:=c.base.length≤n∧c.ours.length≤n∧c.cU.length≤n∧c.out.length≤n
attribute [grind =] Ln Ck Lt
instance (b o t:List (List UInt8)):Spec (Sh.JJ b o t) (Ln b∧Ln o∧Ln t) (Ck):=⟨fun h=>by unfold Sh.JJ; exact ZZ⟩
theorem aGI {R:Type} {Q:R→Prop} {l:List (List UInt8)} {i j:Int} {f:List (List UInt8)→Option R} (h:0≤i∧i≤j∧j≤l.length) (hl:Ln l) (k : ∀ x,Ln x→Ok (f x) Q):Ok (Sh.DH l i j f) Q:=by
 unfold Sh.DH
 exact sG (fun _=>k _ ⟨by have:=hl.1; simp only [List.length_take,List.length_drop]; omega,fun x hx=>hl.2 x (List.mem_of_mem_drop (List.mem_of_mem_take hx))⟩) h
instance (b o t:List (List UInt8)) (w:Sh.E6) (i j k:Int):Spec (Sh.AN b o t w i j k) (Ln b∧Ln o∧Ln t∧0≤w.i∧w.i≤i∧i≤b.length∧0≤w.j∧w.j≤j∧j≤o.length∧0≤w.k∧w.k≤k∧k≤t.length∧w.out.length≤1000 ∧ ∀ c∈w.out,Ck c) (fun r=>r.i=i∧r.j=j∧r.k=k∧r.out.length≤w.out.length+1∧(∀ c∈r.out,Ck c)∧(r.op=true→r.out=w.out∧w.op=true)):=⟨fun h=>by
  unfold Sh.AN
  refine sI (fun _=>aGI (by omega) h.1 fun x hx=>aGI (by omega) h.2.1 fun y hy=>aGI (by omega) h.2.2.1 fun z hz => ?_) (fun _ => ?_)
  . exact ZZ
  . exact ZZ⟩
instance (b:List (List UInt8)) (w:Sh.E6):Spec (Sh.DG b w) (Ln b∧0≤w.i∧w.i < b.length∧0≤w.j∧w.j≤300∧0≤w.k∧w.k≤300∧w.out.length≤1000∧(∀ c∈w.out,Ck c)∧(w.op=true → ∃ c,w.out.getLast? = some c∧Lt w.i c)) (fun r=>r.i=w.i+1∧r.j=w.j+1∧r.k=w.k+1∧r.out.length≤w.out.length+1∧(∀ c∈r.out,Ck c) ∧ ∃ c,r.out.getLast? = some c∧Lt (w.i+1) c):=⟨fun h=>by
  unfold Sh.DG
  obtain ⟨hb,i0,i1,j0,j1,k0,k1,ho,hc,hop⟩:=h
  have hbl:=hb.1
  refine sM (fun line hl=>sG (fun _=>sT fun l hlq => ?_) ⟨by omega,by omega,by omega,by omega,by omega,by omega,by omega⟩) ⟨i0,i1⟩
  have hlen:=hb.2 line hl
  have : ∃ m x,l=m++[x]∧(∀ c∈m,Ck c)∧Ck x∧Lt w.i x∧m.length≤w.out.length:=by
    split at hlq
    . next q =>
      obtain ⟨c,h1,h2⟩:=hop q
      obtain ⟨m,hm⟩:=List.getLast?_eq_some_iff.1 h1
      exact ⟨m,c,by rw [hlq,hm],fun x hx=>hc x (by rw [hm]; exact List.mem_append_left _ hx),hc c (by rw [hm]; simp),h2,by rw [hm]; simp⟩
    . exact ⟨w.out,_,hlq,hc,by simp [Ck,Ln],by simp [Lt]; exact i0,Nat.le_refl _⟩
  obtain ⟨m,x,rfl,h1,h2,h3,h4⟩:=this
  rw [List.getLast?_concat,List.dropLast_concat]
  dsimp only
  refine sG (fun _=>sS ?_) ?_
  . refine ⟨rfl,rfl,rfl,by simp; exact h4,fun c hc => ?_,_,List.getLast?_concat ..,?_⟩ <;> grind
  . grind⟩
theorem aOU {b o t:List (List UInt8)} {x y:List Int} (hb:Ln b) (ho:Ln o) (ht:Ln t) (hx:x.length=b.length) (hy:y.length=b.length) (px:Pl x b.length o.length) (py:Pl y b.length t.length):Ok (Sh.FP b o t x y) fun r=>r.length≤700 ∧ ∀ c∈r,Ck c:=by
 unfold Sh.FP
 have b1:=hb.1
 have o1:=ho.1
 have t1:=ht.1
 refine sL (fun t'=>0≤t'.1∧t'.1≤b.length∧0≤t'.2.i∧t'.2.i≤t'.1∧0≤t'.2.j∧t'.2.j≤o.length∧0≤t'.2.k∧t'.2.k≤t.length∧t'.2.out.length≤2*t'.1∧(∀ c∈t'.2.out,Ck c)∧(t'.2.op=true → ∃ c,t'.2.out.getLast? = some c∧Lt t'.2.i c)∧(∀ (z:Nat) u,t'.1≤z→x[z]? = some u→0≤u→t'.2.j≤u) ∧ ∀ (z:Nat) u,t'.1≤z→y[z]? = some u→0≤u→t'.2.k≤u) (fun t'=>(b.length - t'.1).toNat) ?_ fun ⟨n,w⟩ ⟨n0,n1,i0,i1,j0,j1,k0,k1,h1,h2,h3,h4,h5⟩ => ?_
 ·
  simp
 dsimp only at n0 n1 i0 i1 j0 j1 k0 k1 h1 h2 h3 h4 h5 ⊢
 have on : ∀ Q,Ok (go (n+1,w):Option ((Int×Sh.E6)⊕List p9)) Q↔Q (.inl (n+1,w)):=fun _=>aNp
 refine sI (fun hn=>sA (fun p _ hp=>sI (fun p0=>sA (fun q _ hq=>sI (fun q0 => ?_) fun _ => ?_) ⟨n0,by omega⟩) fun _ => ?_) ⟨n0,by omega⟩) fun hn => ?_
 ·
  have a1:=px.1 _ _ hp
  have a2:=py.1 _ _ hq
  have a3:=h4 _ _ (by omega) hp p0
  have a4:=h5 _ _ (by omega) hq q0
  refine sB (fun w1 e1=>sB (fun w2 e2=>LY ?_) ?_) (by grind)
  ·
   have a5:=px.2 n.toNat
   have a6:=py.2 n.toNat
   refine ⟨⟨by omega,by omega,by grind,by grind,by grind,by grind,by grind,by grind,by grind,by grind,by grind,fun z u hz hu u0 => ?_,fun z u hz hu u0 => ?_⟩,by dsimp only; omega⟩
   ·
    have:=a5 z p u (by dsimp only at hz; omega) hp hu p0 u0; dsimp only; omega
   have:=a6 z q u (by dsimp only at hz; omega) hq hu q0 u0; dsimp only; omega
  grind
 ·
  exact LY ⟨⟨by omega,by omega,i0,by dsimp only; omega,j0,j1,k0,k1,by dsimp only; omega,h2,h3,fun z u hz=>h4 z u (by dsimp only at hz; omega),fun z u hz=>h5 z u (by dsimp only at hz; omega)⟩,by dsimp only; omega⟩
 ·
  exact LY ⟨⟨by omega,by omega,i0,by dsimp only; omega,j0,j1,k0,k1,by dsimp only; omega,h2,h3,fun z u hz=>h4 z u (by dsimp only at hz; omega),fun z u hz=>h5 z u (by dsimp only at hz; omega)⟩,by dsimp only; omega⟩
 exact x5 (sB (fun w1 e1=>sS ⟨by grind,by grind⟩) (by grind))
instance (b o t:List (List UInt8)):Spec (Sh.CI b o t) ((∀ x∈b,x.length≤4096)∧(∀ x∈o,x.length≤4096)∧(∀ x∈t,x.length≤4096)∧b.length≤10000∧o.length≤10000∧t.length≤10000) (fun r=>r.2.isNil=true→r.1.length≤700 ∧ ∀ c∈r.1,Ck c):=⟨fun h=>by
  unfold Sh.CI
  refine sB (fun x hx=>sI (fun h1=>sB (fun y hy=>sI (fun h2=>sG (fun _ => ?_) (by grind)) fun h2=>sS fun e=>absurd e h2) trivial) fun h1=>sS fun e=>absurd e h1) trivial
  obtain ⟨x1,x2,x3,x4⟩:=hx h1
  obtain ⟨y1,y2,y3,y4⟩:=hy h2
  rw [vU]
  exact (aOU ⟨by omega,h.1⟩ ⟨by omega,h.2.1⟩ ⟨by omega,h.2.2.1⟩ x1 y1 x2 y2).mono fun l hl=>sS fun _=>hl⟩
instance (l:List (List UInt8)):Spec (Sh.y9 l) (Ln l) (fun r=>r.length≤1500001):=⟨fun h=>by unfold Sh.y9; exact ZZ⟩
instance (c:p9) (a b:List UInt8):Spec (Sh.EO c a b) (Ck c∧a.length≤1000∧b.length≤1000) (fun r=>r.length≤3010000):=⟨fun h=>by
  unfold Sh.EO
  refine sG (fun _=>sT fun _ e1=>sG (fun _=>sT fun _ e2=>sB (fun y1 h1=>sG (fun _=>sT fun _ e3=>sG (fun _=>sT fun _ e4=>sB (fun y2 h2=>sG (fun _=>sT fun _ e5=>sG (fun _=>sT fun _ e6=>sG (fun _=>sT fun _ e7=>sG (fun _=>sT fun _ e8=>sS ?_) ?_) ?_) ?_) ?_) h.1.2.2.1) ?_) ?_) h.1.2.1) ?_) ?_
  all_goals
    subst_vars
    simp only [List.length_append,List.length_cons,List.length_nil]
    omega⟩
instance (x y z a b:List UInt8):Spec (Sh.G7 x y z a b) (x.length≤4096∧y.length≤4096∧z.length≤4096∧a.length≤1000∧b.length≤1000) (fun _=>True):=⟨fun h=>by unfold Sh.G7; have:o4 (Int×Int×List UInt8) (fun t=>0≤t.1∧t.1≤t.2.1∧t.2.1≤700∧t.2.2.length≤3010000*t.2.1) (fun t=>(700 - t.2.1).toNat):=⟨⟩; exact ZZ⟩
end Go.S
end

section
set_option maxRecDepth 100000
set_option maxHeartbeats 1000000
namespace Go.S
open Go
def vO (o:lI):Prop:=o.cH.length≤64∧bS o.cN∧o.bZ.length≤4096
def vP (o:M8):Prop:=o.cH.length≤64∧bS o.cN∧o.bZ.length≤4096
def vR (r:dG):Prop:=Rw r.files∧Ix 576 r.entries∧r.conflicts.length≤192 ∧ ∀ p∈r.conflicts,p.length≤64
attribute [grind =] vO vP vR
theorem aKj (l:List (List UInt8)):(oR (tD l)).Pairwise (· < ·):=XM l
attribute [grind! .] aKj
instance (l:List aC) (p:List UInt8):Spec (Sh.BT l p) (Rw l) (vO):=⟨fun h=>by unfold Sh.BT; exact ZZ⟩
instance (x y z:lI):Spec (Sh.BS x y z) (vO x∧vO y∧vO z) (fun r=>bS r):=⟨fun h=>by unfold Sh.BS; exact ZZ⟩
instance (x y z:lI) (a b:List UInt8):Spec (Sh.EV x y z a b) (vO x∧vO y∧vO z∧a.length≤1000∧b.length≤1000) (fun r=>vF r.1):=⟨fun h=>by unfold Sh.EV; exact ZO⟩
instance (p:List UInt8) (b o t:List aC) (x y:List UInt8):Spec (Sh.HJ p b o t x y) (Rw b∧Rw o∧Rw t∧x.length≤1000∧y.length≤1000) (fun r=>vF r.1):=⟨fun h=>by unfold Sh.HJ; exact ZZ⟩
instance (p:List UInt8) (l:List (List aC)):Spec (Sh.AH p l) (l.length≤3∧(∀ r∈l,Rw r)∧p.length≤64) (fun r=>r.length≤3 ∧ ∀ e∈r,vE e):=⟨fun h=>by unfold Sh.AH; have:o4 (List aH×Int) (fun t=>t.1.length≤t.2∧0≤t.2∧t.2≤l.length ∧ ∀ e∈t.1,vE e) (fun t=>(l.length - t.2).toNat):=⟨⟩; exact ZZ⟩
instance (x y:aC):Spec (Sh.yG x y) (x.path.length≤1000000000∧y.path.length≤1000000000) (fun _=>True):=⟨fun h=>by unfold Sh.yG; exact ZZ⟩
instance (l:List (aC)) (f:aC):Spec (Sh.gW l f) (l.length≤1000000000∧(∀ z∈l,z.path.length≤1000000000)∧f.path.length≤1000000000) (fun r => -1≤r∧r < l.length):=⟨fun h=>by unfold Sh.gW; exact ZZ⟩
instance (l:List (aC)) (f:aC):Spec (Sh.fT l f) (l.length≤1000000000∧(∀ z∈l,z.path.length≤1000000000)∧f.path.length≤1000000000) (fun _=>True):=⟨fun h=>by unfold Sh.fT; exact ZZ⟩
instance (l:List aC):Spec (Sh.CO l) (∀ z∈l,z.path.length≤1000000000) (fun e=>(e.isNil=true→l.length≤64)∧uZ e):=⟨fun h=>by unfold Sh.CO; exact ZZ⟩
instance (b o t:List aC) (x y:List UInt8):Spec (Sh.zJ b o t x y) (Rw b∧Rw o∧Rw t∧x.length≤1000∧y.length≤1000) (fun r=>vR r.1∧uZ r.2):=⟨fun h=>by
  unfold Sh.zJ
  refine sT fun l hl => ?_
  have hl1:l.length=3:=by rw [hl]; rfl
  have hl2 : ∀ r∈l,Rw r:=by rw [hl]; grind
  clear hl
  refine sF (fun x h0 h1=>sM (fun r hr => ?_) ⟨h0,h1⟩) (x5 (sT fun m hm => ?_)) (by omega)
  . have:=hl2 r hr
    exact ZZ
  . have hm1:m.length=3:=by rw [hm]; rfl
    have hm2 : ∀ r∈m,Rw r:=by rw [hm]; grind
    refine sB (fun ps hp => ?_) (by grind)
    have hp1:ps.length≤192:=by rw [hm] at hp; simp at hp; grind
    have hp2:=hp.2.1
    clear hp hm hm1 hm2 hl1 hl2
    refine sL (fun t=>0≤t.1∧t.1≤ps.length∧t.2.1.length≤t.1∧(∀ f∈t.2.1,vF f)∧t.2.2.1.length≤3*t.1∧(∀ e∈t.2.2.1,vE e)∧t.2.2.2.length≤t.1 ∧ ∀ p∈t.2.2.2,p.length≤64) (fun t=>(ps.length - t.1).toNat) (by simp) fun ⟨i,fs,es,cs⟩ ⟨i0,i1,f1,f2,e1,e2,c1,c2⟩ => ?_
    dsimp only at i0 i1 f1 f2 e1 e2 c1 c2 ⊢
    refine sI (fun hi=>sM (fun p hp=>sB (fun z hz => ?_) h) ⟨i0,hi⟩) (fun hi => ?_)
    . have:=hp2 p hp
      have h1:=h.1; have h2:=h.2.1; have h3:=h.2.2.1
      refine sJ (fun fs'=>fs'.length≤i+1 ∧ ∀ f∈fs',vF f) (fun fs' ⟨g1,g2⟩ => ?_) fun k hk => ?_
      . refine sI (fun _=>sT fun u hu=>sG (fun _=>sT fun v hv=>sT fun w hw=>sB (fun q hq => ?_) ⟨by rw [hw]; exact Nat.le_refl 3,by rw [hw]; grind,this⟩) (by rw [hu]; simp; omega)) (fun _ => ?_)
        . subst hv; subst hu; clear hw
          exact ZZ
        . exact ZZ
      . exact ZZ
    . exact ZZ⟩
instance (l:List aC) (p:List UInt8):Spec (Sh.uQ l p) ((∀ f∈l,vF f)∧l.length≤1000000) (vP):=⟨fun h=>by unfold Sh.uQ; exact ZZ⟩
instance (hd:List aC) (r:dG):Spec (Sh.wT hd r) (Rw hd∧vR r) (fun q=>q.length≤320∧(∀ p∈q,p.length≤64)∧q.Pairwise (· < ·)∧(r.conflicts=[]→q.length≤128)):=⟨fun h=>by
  unfold Sh.wT
  refine sT fun l hl=>sB (fun ps hp => ?_) (by rw [hl]; grind)
  have h1:ps.length≤128:=by rw [hl] at hp; simp at hp; grind
  have h2:=hp.2.1
  clear hp hl
  have:o4 (List (List UInt8)×Int) (fun t=>t.1.length≤t.2∧0≤t.2∧t.2≤ps.length ∧ ∀ p∈t.1,p.length≤64) (fun t=>(ps.length - t.2).toNat):=⟨⟩
  exact ZZ⟩
instance (l:List (List UInt8)) (p:List UInt8):Spec (Sh.eN l p) (l.length≤1000000000) (fun r=>l=[]→r=false):=⟨fun h=>by unfold Sh.eN; exact ZZ⟩
end Go.S
end

section
set_option maxRecDepth 100000
set_option maxHeartbeats 1000000
namespace Go.S
open Go
instance (hd:List aC) (l:List aH) (w:List aC) (p:List UInt8):Spec (Sh.JN hd l w p) (Rw hd∧Rw w∧l.length≤1000000 ∧ ∀ z∈l,vE z) (fun _=>True):=⟨fun h=>by unfold Sh.JN; exact ZZ⟩
instance (p:List UInt8) (r:dG) (f:aC):Spec (Sh.ER p r f) (vR r∧vF f∧p.length≤64) (fun _=>True):=⟨fun h=>by unfold Sh.ER; exact ZZ⟩
instance (l:List (List UInt8)) (r:dG) (f:aC):Spec (Sh.kD l r f) (l.length≤1000000000∧vR r∧vF f ∧ ∀ p∈l,p.length≤64) (fun r => -1≤r∧r < l.length):=⟨fun h=>by unfold Sh.kD; exact ZZ⟩
instance (l:List (List UInt8)) (r:dG) (f:aC):Spec (Sh.jJ l r f) (l.length≤1000000000∧vR r∧vF f ∧ ∀ p∈l,p.length≤64) (fun _=>True):=⟨fun h=>by unfold Sh.jJ; exact ZZ⟩
instance (hd:List aC) (r:dG) (l:List aH) (w:List aC):Spec (Sh.GO hd r l w) (Rw hd∧Rw w∧vR r∧l.length≤1000000 ∧ ∀ z∈l,vE z) (fun q=>bS q.length):=⟨fun h=>by
  unfold Sh.GO
  refine sB (fun ps hp => ?_) (by grind)
  obtain ⟨p1,p2,_,_⟩:=hp
  refine sL (fun t=>0≤t.2∧t.2≤ps.length∧t.1.length≤t.2 ∧ ∀ p∈t.1,p.length≤64) (fun t=>(ps.length - t.2).toNat) (by simp) fun ⟨o,x⟩ ⟨h0,h1,h2,h3⟩ => ?_
  dsimp only at h0 h1 h2 h3 ⊢
  refine sI (fun hx => ?_) (fun hx=>x5 ?_)
  . exact ZZ
  . refine sL (fun t=>0≤t.2∧t.2≤w.length∧t.1.length≤320+t.2 ∧ ∀ p∈t.1,p.length≤64) (fun t=>(w.length - t.2).toNat) ⟨by simp,by simp,by dsimp only; omega,h3⟩ fun ⟨o,x⟩ ⟨h0,h1,h2,h3⟩ => ?_
    dsimp only at h0 h1 h2 h3 ⊢
    exact ZZ⟩
theorem aN2 {es:List aH} {ps:List (List UInt8)} {p:List UInt8} (h : ∀ q∈ps,q≠p):es.countP (fun e=>decide (e.path∈ps++[p]))=es.countP (fun e=>decide (e.path∈ps))+es.countP (fun e=>decide (e.path=p)):=by
 induction es with
 | nil=>rfl
 | cons e r ih =>
   rw [List.countP_cons,List.countP_cons,List.countP_cons,ih]
   have:=h e.path
   grind
theorem aI7 {α:Type} {l:List α} {f:α→Bool} {x:Int} {z:α} (h0:0≤x) (hz:l[x.toNat]? = some z):(l.take (x+1).toNat).countP f=(l.take x.toNat).countP f+if f z=true then 1 else 0:=by
 rw [Q7 h0 hz,List.countP_append,List.countP_singleton]
instance (r:dG) (l:List aH) (p:List UInt8):Spec (Sh.JM r l p) (vR r∧l.length≤900000∧(∀ z∈l,vE z)∧p.length≤64) (fun q=>(∀ z∈q,vE z)∧q.length≤l.length+r.entries.countP (fun e=>decide (e.path=p))+1∧(r.conflicts=[]→q.length≤l.length+1)):=⟨fun h=>by
  unfold Sh.JM
  refine sB (fun b hb=>sI (fun hc => ?_) (fun hc => ?_)) (by grind)
  . refine sL (fun t=>0≤t.2∧t.2≤r.entries.length∧t.1.length≤l.length+(r.entries.take t.2.toNat).countP (fun e=>decide (e.path=p)) ∧ ∀ z∈t.1,vE z) (fun t=>(r.entries.length - t.2).toNat) ⟨by simp,by simp,by simp,h.2.2.1⟩ fun ⟨q,x⟩ ⟨h0,h1,h2,h3⟩ => ?_
    dsimp only at h0 h1 h2 h3 ⊢
    have k1:(r.entries.take x.toNat).countP (fun e=>decide (e.path=p))≤576:=Nat.le_trans (Nat.le_trans List.countP_le_length (List.length_take_le _ _)) (by have:=h.1.2.1.1; omega)
    refine sI (fun hx=>sA (fun z zm hz => ?_) ⟨h0,hx⟩) (fun hx => ?_)
    . have k2:=aI7 (f:=fun e:aH=>decide (e.path=p)) h0 hz
      exact ZZ
    . have:x=r.entries.length:=by omega
      subst this
      rw [List.take_of_length_le (by omega)] at h2
      exact ZZ
  . exact ZZ⟩
instance (hd:List aC) (r:dG) (l:List aH) (w:List aC):Spec (Sh.G9 hd r l w) (Rw hd∧Rw w∧vR r∧l.length≤800000 ∧ ∀ z∈l,vE z) (fun q=>(∀ z∈q.1,vE z)∧q.1.length≤l.length+896∧(r.conflicts=[]→q.1.length≤l.length+128)∧q.2.1.length≤400∧(∀ f∈q.2.1,vF f)∧uZ q.2.2):=⟨fun h=>by
  unfold Sh.G9
  refine sB (fun o ho=>sI (fun _=>ZZ) (fun _=>sB (fun ps hp=>sB (fun l1 e1=>sB (fun w1 e2 => ?_) (by grind)) (by grind)) (by grind))) (by grind)
  subst e1; subst e2
  obtain ⟨p1,p2,p3,p4⟩:=hp
  have hw64:=h.2.1.1
  refine sL (fun t=>0≤t.2.2∧t.2.2≤ps.length∧t.1.length≤l1.length∧(∀ z∈t.1,vE z)∧t.2.1.length≤w1.length ∧ ∀ f∈t.2.1,vF f) (fun t=>(ps.length - t.2.2).toNat) (by grind) fun ⟨l2,w2,x⟩ ⟨h0,h1,h2,h3,h4,h5⟩ => ?_
  dsimp only at h0 h1 h2 h3 h4 h5 ⊢
  refine sI (fun hx => ?_) (fun hx=>x5 ?_)
  . exact ZZ
  . refine sL (fun t=>0≤t.2.2∧t.2.2≤ps.length∧t.1.length≤l1.length+r.entries.countP (fun e=>decide (e.path∈ps.take t.2.2.toNat))+t.2.2∧(r.conflicts=[]→t.1.length≤l1.length+t.2.2)∧(∀ z∈t.1,vE z)∧t.2.1.length≤w1.length+t.2.2 ∧ ∀ f∈t.2.1,vF f) (fun t=>(ps.length - t.2.2).toNat) ⟨by simp,by simp,by dsimp only; omega,fun _=>by dsimp only; omega,h3,by dsimp only; omega,h5⟩ fun ⟨l3,w3,x⟩ ⟨g0,g1,g2,g3,g4,g5,g6⟩ => ?_
    dsimp only at g0 g1 g2 g3 g4 g5 g6 ⊢
    have k1:r.entries.countP (fun e=>decide (e.path∈ps.take x.toNat))≤576:=Nat.le_trans List.countP_le_length h.2.2.1.2.1.1
    refine sI (fun hx=>sA (fun z zm hz => ?_) ⟨g0,hx⟩) (fun hx => ?_)
    . have hn : ∀ q∈ps.take x.toNat,q≠z:=fun q hq e=>by
        obtain ⟨i,hi⟩:=List.getElem?_of_mem hq
        rw [List.getElem?_take] at hi
        split at hi
        . next hlt =>
          obtain ⟨a1,a2⟩:=List.getElem?_eq_some_iff.1 hi
          obtain ⟨b1,b2⟩:=List.getElem?_eq_some_iff.1 hz
          have:=List.pairwise_iff_getElem.1 p3 i x.toNat a1 b1 hlt
          rw [a2,b2,e] at this
          exact List.lt_irrefl _ this
        . cases hi
      have k2:r.entries.countP (fun e=>decide (e.path∈ps.take (x+1).toNat))=r.entries.countP (fun e=>decide (e.path∈ps.take x.toNat))+r.entries.countP (fun e=>decide (e.path=z)):=by rw [Q7 g0 hz]; exact aN2 hn
      exact ZZ
    . exact ZZ⟩
instance (e:aH) (p:List UInt8):Spec (Sh.CK e p) (True) (fun _=>True):=⟨fun h=>by unfold Sh.CK; exact ZZ⟩
instance (l:List (aH)) (p:List UInt8):Spec (Sh.fX l p) (l.length≤1000000000) (fun r => -1≤r∧r < l.length):=⟨fun h=>by unfold Sh.fX; exact ZZ⟩
instance (l:List (aH)) (p:List UInt8):Spec (Sh.fL l p) (l.length≤1000000000) (fun _=>True):=⟨fun h=>by unfold Sh.fL; exact ZZ⟩
instance (l:List aH) (p:List UInt8):Spec (Sh.HB l p) (l.length≤1000000000) (fun _=>True):=⟨fun h=>by unfold Sh.HB; exact ZZ⟩
instance (hd to:List aC) (l:List aH) (w:List aC):Spec (Sh.HA hd to l w) (Rw hd∧Rw to∧Rw w∧l.length≤1000000 ∧ ∀ z∈l,vE z) (fun q=>Ix 64 q.1∧(∀ e∈q.1,e.iK=0)∧q.2.length≤128 ∧ ∀ f∈q.2,vF f):=⟨fun h=>by
  unfold Sh.HA
  refine sL (fun t=>0≤t.2∧t.2≤w.length∧t.1.length≤t.2 ∧ ∀ f∈t.1,vF f) (fun t=>(w.length - t.2).toNat) (by simp) fun ⟨o,x⟩ ⟨h0,h1,h2,h3⟩ => ?_
  dsimp only at h0 h1 h2 h3 ⊢
  refine sI (fun hx => ?_) (fun hx=>x5 ?_)
  . exact ZZ
  . have:o4 (List aC×Int) (fun t=>0≤t.2∧t.2≤to.length∧t.1.length≤64+t.2 ∧ ∀ f∈t.1,vF f) (fun t=>(to.length - t.2).toNat):=⟨⟩
    exact ZZ⟩
end Go.S
end

section
set_option maxRecDepth 100000
set_option maxHeartbeats 1000000
namespace Go.S
open Go
theorem ZQ {a:Prop} (h:a:=by
 intros
 repeat' (with_reducible first | refine sI (fun _ => ?_) (fun _ => ?_) | refine sT fun _ _ => ?_ | refine x5 ?_ | refine LY ?_ | refine sU ?_ | refine sS ?_ | refine sN ?_ | refine sF (fun _ _ _ => ?_) ?_ ?_ | refine sB (fun _ _ => ?_) ?_ | refine sM (fun _ _ => ?_) ?_ | refine sG (fun _ => ?_) ?_ | refine sE (fun _ _ => ?_) ?_ | refine sJi (fun _ _ => ?_) (fun _ _ => ?_) | refine sJ0 ?_ | exact sK' (by assumption) | refine sK (by assumption) ?_ | refine L5 (fun _ _ _ _ _ _ => ?_) ?_ | refine L4 (fun _ _ _ _ _ => ?_) ?_ | refine L3 (fun _ _ _ _ => ?_) ?_ | refine L2 (fun _ _ _ => ?_) ?_ | refine L1 (fun _ _ => ?_) ?_ | dsimp only)
 all_goals (try simp only [← List.length_eq_zero_iff,Int.toNat_natCast,List.take_length,KU,NH,HQ,FO,FN,NI,DA,CD,KX,KV,KY,KS,QZ,B3,KZ,FM,HP,NG,KT,Q0,KW,KR] at *)
 all_goals (first | grind | grind (splits:=40))):a:=h
theorem ZS {a:Prop} (h:a:=by
 intros
 repeat' (with_reducible first | refine sI (fun _ => ?_) (fun _ => ?_) | refine sT fun _ _ => ?_ | refine x5 ?_ | refine LY ?_ | refine sU ?_ | refine sS ?_ | refine sN ?_ | refine sF (fun _ _ _ => ?_) ?_ ?_ | refine sB (fun _ _ => ?_) ?_ | refine sM (fun _ _ => ?_) ?_ | refine sG (fun _ => ?_) ?_ | refine sE (fun _ _ => ?_) ?_ | refine sJi (fun _ _ => ?_) (fun _ _ => ?_) | refine sJd (fun _ => ?_) (fun _ _ => ?_) | refine sJ0 ?_ | exact sK' (by assumption) | refine sK (by assumption) ?_ | refine L5 (fun _ _ _ _ _ _ => ?_) ?_ | refine L4 (fun _ _ _ _ _ => ?_) ?_ | refine L3 (fun _ _ _ _ => ?_) ?_ | refine L2 (fun _ _ _ => ?_) ?_ | refine L1 (fun _ _ => ?_) ?_ | dsimp only)
 all_goals (try simp only [← List.length_eq_zero_iff,Int.toNat_natCast,List.take_length,KU,NH,HQ,FO,FN,NI,DA,CD,KX,KV,KY,KS,QZ,B3,KZ,FM,HP,NG,KT,Q0,KW,KR] at *)
 all_goals (first | grind | grind (splits:=40))):a:=h
def vRf (r:cY):Prop:=r.name.length≤300∧bS r.cC
def TC (x:cM):Prop:=bS x.base∧Rw x.index∧Rw x.work∧x.text.length≤300
def Y0 (c:fH):Prop:=Rw c.tree∧c.parents.length≤2∧(∀ p∈c.parents,bS p)∧bS c.time∧c.text.length≤600
def xB (s:aF):Prop:=Rw s.aY∧Ix 5300 s.aU∧(∀ r∈s.bA,vRf r)∧s.aI.length≤300∧bS s.aG∧s.aS.length≤300∧bS s.aO∧s.aT.length≤600∧s.aN.length≤32∧(∀ x∈s.aN,vS x)∧s.aP.length≤32∧(∀ x∈s.aP,vS x)∧0≤s.aQ∧s.aK.length≤300∧s.aD.length≤300∧bS s.aE∧Ix 64 s.aL∧Rw s.aR∧s.aX.length≤16∧(∀ x∈s.aX,TC x)∧s.bC.length≤1024∧(∀ c∈s.bC,Y0 c)∧s.bE.length+s.aZ.length≤64∧bS s.time
def sz (s:aF):Prop:=s.bA.length≤3000∧s.aQ≤3000
def Gr (s r:aF):Prop:=xB r∧r.bA.length≤s.bA.length+2∧r.aQ≤s.aQ+40∧r.bE=s.bE∧r.aZ=s.aZ
attribute [grind =] vRf TC Y0 xB sz Gr
theorem aC7 : ∀ (f u:Nat),(aAn f u).length≤f
  | 0,u=>by simp [aAn]
  | f+1,u=>by
    unfold aAn
    split
    . simp
    . have:=aC7 f (u / 10); simp; omega
theorem XL (n:Int):(kO n).length≤21:=by
 unfold kO
 split
 ·
  have:=aC7 20 n.natAbs; simp; omega
 have:=aC7 20 n.toNat; omega
attribute [grind! .] XL
instance (s:aF) (n:Int):Spec (Sh.JW s n) (True) (fun r=>r=true→1≤n∧n≤s.bC.length):=⟨fun h=>by unfold Sh.JW; exact ZZ⟩
instance (s:aF) (n:Int):Spec (Sh.nC s n) (xB s) (fun r=>Rw r):=⟨fun h=>by unfold Sh.nC; exact ZZ⟩
instance (s:aF):Spec (Sh.jU s) (xB s) (fun r=>Rw r):=⟨fun h=>by unfold Sh.jU; exact ZZ⟩
instance (x:cY) (y:List UInt8):Spec (Sh.BL x y) (True) (fun r=>r=0→x.name=y):=⟨fun h=>by unfold Sh.BL; exact ZZ⟩
instance (l:List cY) (p:List UInt8):Spec (Sh.fG l p) (l.length≤1000000000) (fun r=>0≤r.1∧r.1≤l.length∧(r.2=true→r.1 < l.length)):=⟨fun h=>by unfold Sh.fG; refine sL (fun t=>0≤t.1∧t.1≤t.2∧t.2≤l.length) (fun t=>(t.2 - t.1).toNat) (by grind) fun ⟨i,j⟩ ⟨h0,h1,h2⟩ => ?_; dsimp only at h0 h1 h2 ⊢; rw [aLM (by omega) (by omega)]; exact ZZ⟩
instance (s:aF) (p:List UInt8):Spec (Sh.tV s p) (s.bA.length≤4000) (fun r=>0≤r.1∧r.1≤s.bA.length∧(r.2=true→r.1 < s.bA.length)):=⟨fun h=>by unfold Sh.tV; exact ZZ⟩
instance (s:aF):Spec (Sh.uW s) (s.bA.length≤4000) (fun _=>True):=⟨fun h=>by unfold Sh.uW; exact ZZ⟩
instance (s:aF):Spec (Sh.xP s) (s.bA.length≤4000) (fun r=>r=true→s.bC.length < 1024):=⟨fun h=>by unfold Sh.xP; exact ZZ⟩
instance (n:Int):Spec (Sh.vX n) (True) (fun _=>True):=⟨fun h=>by unfold Sh.vX; exact ZZ⟩
instance (l:List Int):Spec (Sh.mL l) (l.length≤1000) (fun r => -1≤r∧r < l.length):=⟨fun h=>by unfold Sh.mL; exact ZZ⟩
instance (l:List Int):Spec (Sh.l7 l) (l.length≤1000) (fun r=>r.length≤l.length ∧ ∀ z∈r,z∈l):=⟨fun h=>by unfold Sh.l7; have:o4 (List Int×Int×Int) (fun t=>t.1.length=l.length∧0≤t.2.1∧t.2.1 < t.2.2∧t.2.2≤l.length ∧ ∀ z∈t.1,z∈l) (fun t=>(l.length - t.2.2).toNat):=⟨⟩; exact ZZ⟩
instance (s:aF) (n:Int):Spec (Sh.rM s n) (bS n∧bS s.aG) (fun r=>r.length≤2 ∧ ∀ p∈r,bS p):=⟨fun h=>by unfold Sh.rM; exact ZZ⟩
instance (l:List (fH)):Spec (Sh.iH l) (l.length≤4000000000) (fun r=>r=l):=⟨fun h=>by unfold Sh.iH; exact ZZ⟩
instance (l:List (cY)):Spec (Sh.jQ l) (l.length≤4000000000) (fun r=>r=l):=⟨fun h=>by unfold Sh.jQ; exact ZZ⟩
instance (l:List (bK)):Spec (Sh.jR l) (l.length≤4000000000) (fun r=>r=l):=⟨fun h=>by unfold Sh.jR; exact ZZ⟩
instance (l:List (Int)):Spec (Sh.nG l) (l.length≤4000000000) (fun r=>r=l):=⟨fun h=>by unfold Sh.nG; exact ZZ⟩
instance (l:List (List Int)):Spec (Sh.lC l) (True) (fun r=>r=l):=⟨fun h=>by unfold Sh.lC; exact ZZ⟩
instance (l:List (Int)):Spec (Sh.lF l) (True) (fun r=>r=l):=⟨fun h=>by unfold Sh.lF; exact ZZ⟩
instance (l:List (cM)):Spec (Sh.eS l) (True) (fun r=>r=l):=⟨fun h=>by unfold Sh.eS; exact ZZ⟩
instance (l:List (cM)):Spec (Sh.jL l) (True) (fun r=>r=l):=⟨fun h=>by unfold Sh.jL; exact ZZ⟩
instance (l:List (List UInt8)):Spec (Sh.jW l) (True) (fun r=>r=l):=⟨fun h=>by unfold Sh.jW; exact ZZ⟩
def Rs (s r:aF):Prop:=r.aY=s.aY∧r.aU=s.aU∧r.aI=s.aI∧r.aG=s.aG∧r.aS=s.aS∧r.aO=s.aO∧r.aT=s.aT∧r.aN=s.aN∧r.aP=s.aP∧r.aQ=s.aQ∧r.aK=s.aK∧r.aD=s.aD∧r.aE=s.aE∧r.aL=s.aL∧r.aR=s.aR∧r.aX=s.aX∧r.bC=s.bC∧r.bE=s.bE∧r.aZ=s.aZ∧r.time=s.time∧r.bA.length≤s.bA.length+1 ∧ ∀ x∈r.bA,vRf x
def Mv (s r:aF):Prop:=r.aY=s.aY∧r.aU=s.aU∧r.aI=s.aI∧r.aS=s.aS∧r.aO=s.aO∧r.aT=s.aT∧r.aN=s.aN∧r.aP=s.aP∧r.aQ=s.aQ∧r.aK=s.aK∧r.aD=s.aD∧r.aE=s.aE∧r.aL=s.aL∧r.aR=s.aR∧r.aX=s.aX∧r.bC=s.bC∧r.bE=s.bE∧r.aZ=s.aZ∧r.time=s.time∧r.bA.length≤s.bA.length+1 ∧ ∀ x∈r.bA,vRf x
def Md2 (s r:aF):Prop:=r.aY=s.aY∧r.aU=s.aU∧r.aI=s.aI∧r.aS=s.aS∧r.aO=s.aO∧r.aT=s.aT∧r.aN=s.aN∧r.aP=s.aP∧r.aQ=s.aQ∧r.aK=s.aK∧r.aD=s.aD∧r.aE=s.aE∧r.aL=s.aL∧r.aR=s.aR∧r.aX=s.aX∧r.bE=s.bE∧r.aZ=s.aZ∧r.time=s.time∧r.bA.length≤s.bA.length+1∧(∀ x∈r.bA,vRf x)∧r.bC.length≤s.bC.length+1∧(∀ c∈r.bC,Y0 c)∧bS r.aG
attribute [grind =] Rs Mv Md2
instance (s:aF) (p:List UInt8) (n:Int):Spec (Sh.yE s p n) (s.bA.length≤3100∧(∀ x∈s.bA,vRf x)∧p.length≤300∧bS n) (fun r=>Rs s r):=⟨fun h=>by unfold Sh.yE; exact ZO⟩
instance (s:aF) (n:Int):Spec (Sh.zE s n) (s.bA.length≤3100∧(∀ x∈s.bA,vRf x)∧s.aI.length≤300∧bS n) (fun r=>Mv s r∧r.aG=n):=⟨fun h=>by unfold Sh.zE; exact ZZ⟩
instance (s:aF) (t:List aC) (p:List Int) (x:List UInt8):Spec (Sh.xO s t p x) (s.bA.length≤3100∧(∀ x∈s.bA,vRf x)∧s.aI.length≤300∧s.bC.length≤1024∧(∀ c∈s.bC,Y0 c)∧bS s.time∧Rw t∧p.length≤2∧(∀ z∈p,bS z)∧x.length≤600) (fun r=>Md2 s r):=⟨fun h=>by unfold Sh.xO; have:AL (List fH) (fun c=>c.length≤s.bC.length+1 ∧ ∀ z∈c,Y0 z):=⟨⟩; exact ZZ⟩
instance (s:aF):Spec (Sh.pI s) (xB s) (fun r=>r=true→s.aU.length≤64):=⟨fun h=>by unfold Sh.pI; exact ZZ⟩
instance (s:aF) (n:Int):Spec (Sh.qY s n) (xB s) (fun r=>Y0 r.1∧(r.2=true→1≤n∧n≤1024)):=⟨fun h=>by unfold Sh.qY; have:AL (Bool) (fun b=>b=true∨1≤n∧n≤s.bC.length):=⟨⟩; exact ZZ⟩
instance (s:aF) (n:Int):Spec (Sh.wK s n) (xB s) (fun r=>Rw r):=⟨fun h=>by unfold Sh.wK; exact ZZ⟩
instance (s:aF):Spec (Sh.vW s) (True) (fun r=>r=false→s.aY.length≤64):=⟨fun h=>by unfold Sh.vW; exact ZZ⟩
instance (s:aF) (x:bK):Spec (Sh.HG s x) (True) (fun _=>True):=⟨fun h=>by unfold Sh.HG; exact ZZ⟩
instance (x:List UInt8):Spec (Sh.AS x) (True) (fun r=>r.length≤256):=⟨fun h=>by unfold Sh.AS; exact ZZ⟩
instance (l m:List aC) (p:List UInt8):Spec (Sh.DX l m p) (l.length≤1000000∧m.length≤1000000) (fun _=>True):=⟨fun h=>by unfold Sh.DX; exact ZZ⟩
instance (s:aF) (c:iM):Spec (Sh.N9 s c) (xB s∧sz s∧vC c) (fun r=>(r.2.isNil=true→r.1.branch.length≤300∧bS r.1.cC)∧uZ r.2):=⟨fun h=>by unfold Sh.N9; exact ZZ⟩
instance (x:aC) (y:List (List UInt8)):Spec (Sh.BP x y) (y.length≤10000000) (fun _=>True):=⟨fun h=>by unfold Sh.BP; exact ZZ⟩
instance (l:List (aC)) (y:List (List UInt8)):Spec (Sh.gX l y) (l.length≤1000000000∧y.length≤10000000) (fun r => -1≤r∧r < l.length):=⟨fun h=>by unfold Sh.gX; exact ZZ⟩
instance (l:List (aC)) (y:List (List UInt8)):Spec (Sh.gI l y) (l.length≤1000000000∧y.length≤10000000) (fun r=>r.length≤l.length ∧ ∀ z∈r,z∈l):=⟨fun h=>by unfold Sh.gI; have:o4 (List (aC)×Int×Int) (fun t=>t.1.length=l.length∧0≤t.2.1∧t.2.1 < t.2.2∧t.2.2≤l.length ∧ ∀ z∈t.1,z∈l) (fun t=>(l.length - t.2.2).toNat):=⟨⟩; exact ZZ⟩
instance (l:List aC) (y:List (List UInt8)):Spec (Sh.GR l y) (l.length≤1000000000∧y.length≤10000000) (fun r=>r.length≤l.length ∧ ∀ z∈r,z∈l):=⟨fun h=>by unfold Sh.GR; exact ZZ⟩
instance (s:aF):Spec (Sh.AT s) (xB s) (fun _=>True):=⟨fun h=>by unfold Sh.AT; exact ZZ⟩
instance (x:cM):Spec (Sh.wM x) (x.index.length≤1000000∧x.work.length≤1000000) (fun r=>r.base=x.base∧r.index=x.index∧r.work=x.work∧r.text=x.text):=⟨fun h=>by unfold Sh.wM; exact ZZ⟩
instance (l:List cM):Spec (Sh.tW l) (l.length≤16 ∧ ∀ x∈l,TC x) (fun r=>r.length=l.length ∧ ∀ x∈r,TC x):=⟨fun h=>by unfold Sh.tW; have:o4 (List cM×Int) (fun t=>t.1.length=t.2∧0≤t.2∧t.2≤l.length ∧ ∀ x∈t.1,TC x) (fun t=>(l.length - t.2).toNat):=⟨⟩; exact ZZ⟩
instance (l:List cM) (x:cM):Spec (Sh.vA l x) (l.length≤16∧(∀ x∈l,TC x)∧x.index.length≤1000000∧x.work.length≤1000000) (fun r=>r.1.length≤16∧(∀ z∈r.1,TC z∨z.base=x.base∧z.index=x.index∧z.work=x.work∧z.text=x.text)∧bS r.2):=⟨fun h=>by unfold Sh.vA; exact ZZ⟩
instance (s:aF):Spec (Sh.HF s) (xB s) (fun _=>True):=⟨fun h=>by unfold Sh.HF; exact ZZ⟩
instance (l:List cM) (n:Int):Spec (Sh.s7 l n) (True) (fun r=>r=true→0≤n∧n < l.length):=⟨fun h=>by unfold Sh.s7; exact ZZ⟩
instance (l:List cM) (n:Int):Spec (Sh.u9 l n) (l.length≤16 ∧ ∀ x∈l,TC x) (fun r=>r.1.length≤16∧(∀ x∈r.1,TC x)∧bS r.2):=⟨fun h=>by unfold Sh.u9; exact ZZ⟩
instance (l:List cM) (n:Int):Spec (Sh.xA l n) (l.length≤16 ∧ ∀ x∈l,TC x) (fun r=>TC r.1∧bS r.2):=⟨fun h=>by unfold Sh.xA; exact ZZ⟩
instance (s:aF):Spec (Sh.yZ s) (xB s) (fun r=>r.length=s.bC.length ∧ ∀ x∈r,x.length≤2):=⟨fun h=>by unfold Sh.yZ; have:o4 (List (List Int)×Int) (fun t=>t.1.length=t.2∧0≤t.2∧t.2≤s.bC.length ∧ ∀ x∈t.1,x.length≤2) (fun t=>(s.bC.length - t.2).toNat):=⟨⟩; exact ZZ⟩
instance (l:List (List UInt8)):Spec (Sh.GN l) (l.length≤64∧0 < l.length) (fun r=>r.1.length+1=l.length∧(∀ x∈r.1,x∈l)∧r.2∈l):=⟨fun h=>by unfold Sh.GN; exact ZZ⟩
instance (l:qF) (x:List UInt8):Spec (Sh.yB l x) (l.back.length+l.kY.length≤64) (fun r=>r.2.2=0→r.1.back.length+r.1.kY.length≤64∧(∀ y∈r.1.back,y∈l.back)∧(∀ y∈r.1.kY,y=x∨y∈l.kY)∧r.2.1∈l.back):=⟨fun h=>by unfold Sh.yB; exact ZZ⟩
instance (l:List (List UInt8)) (x:List UInt8):Spec (Sh.AP l x) (l.length≤64) (fun r=>r.length≤l.length+1∧r.length≤64 ∧ ∀ y∈r,y=x∨y∈l):=⟨fun h=>by unfold Sh.AP; exact ZZ⟩
instance (l:qF) (x:List UInt8):Spec (Sh.yA l x) (l.back.length+l.kY.length≤64) (fun r=>r.2.2=0→r.1.back.length+r.1.kY.length≤64∧(∀ y∈r.1.back,y=x∨y∈l.back)∧(∀ y∈r.1.kY,y∈l.kY)∧r.2.1∈l.kY):=⟨fun h=>by unfold Sh.yA; exact ZZ⟩
instance (l:qF) (x:List UInt8):Spec (Sh.CJ l x) (l.back.length+l.kY.length≤64) (fun r=>r.back.length+r.kY.length≤64∧(∀ y∈r.back,y=x∨y∈l.back)∧r.kY=[]):=⟨fun h=>by unfold Sh.CJ; exact ZZ⟩
end Go.S
end

section
set_option maxRecDepth 100000
set_option maxHeartbeats 1000000
namespace Go.S
open Go
def unm (l:List Bool):Nat:=l.countP (fun b => !b)
theorem aYs {l:List Bool} {i:Nat} (h:l[i]? = some false):unm (l.set i true)+1=unm l:=by
 unfold unm
 induction l generalizing i with
 | nil=>cases h
 | cons x r ih =>
   cases i with
   | zero=>simp at h; subst h; simp
   | succ i=>simp only [List.set_cons_succ,List.countP_cons]; have:=ih (i:=i) (by simpa using h); omega
theorem aQT (l:List Bool):unm l≤l.length:=List.countP_le_length
instance (g:List (List Int)) (c:List Int):Spec (Sh.nM g c) (g.length≤1024∧(∀ x∈g,x.length≤2)∧c.length≤3000) (fun r=>r.length=g.length+1∧r[0]? = some false):=⟨fun h=>by
  unfold Sh.nM
  obtain ⟨g1,g2,c1⟩:=h
  refine sG (fun _=>sG (fun _=>sT fun y hy=>sB (fun w hw => ?_) (by omega)) (by omega)) (by unfold bS; omega)
  have hl:y.length=g.length+1:=by rw [hy]; simp
  have y0:y[0]? = some false:=by rw [hy]; simp
  subst hw
  clear hy
  have u0:=aQT y
  refine sL (fun t=>(t.1.length=g.length+1∧t.1[0]? = some false)∧t.2.length+2*unm t.1≤6000) (fun t=>t.2.length+3*unm t.1) ⟨⟨hl,y0⟩,by dsimp only; omega⟩ fun ⟨o,w⟩ ⟨h1,h2⟩ => ?_
  dsimp only at h1 h2 ⊢
  have u1:=aQT o
  have h11:=h1.1
  refine sI (fun hw=>sG (fun _=>sA (fun z _ hz=>sG (fun _=>sG (fun _=>sT fun w' hw' => ?_) (by omega)) (by unfold bS; omega)) (by omega)) (by unfold bS; omega)) (fun _=>x5 (sS h1))
  have e1:w'.length+1=w.length:=by rw [hw',List.length_take]; omega
  clear hw'
  refine sI (fun _=>LY ⟨⟨h1,by dsimp only; omega⟩,by dsimp only; omega⟩) (fun _=>sI (fun _=>LY ⟨⟨h1,by dsimp only; omega⟩,by dsimp only; omega⟩) (fun _=>sA (fun b _ hb=>sI (fun _=>LY ⟨⟨h1,by dsimp only; omega⟩,by dsimp only; omega⟩) (fun q=>sA (fun b' _ hb'=>sT fun o' ho' => ?_) (by omega))) (by omega)))
  have e2:=aYs (l:=o) (i:=z.toNat) (by rw [hb]; cases b <;> simp_all)
  rw [← ho'] at e2
  have e3:o'.length=g.length+1:=by rw [ho']; simp [h1.1]
  have e4:o'[0]? = some false:=by rw [ho',List.getElem?_set_ne (by omega)]; exact h1.2
  clear hb hb' ho'
  refine sG (fun _=>sA (fun x xm _=>sG (fun _=>sT fun v hv => ?_) ?_) ?_) ?_
  . have:=g2 x xm
    have:v.length=w'.length+x.length:=by rw [hv]; simp
    exact LY ⟨⟨⟨e3,e4⟩,by dsimp only; omega⟩,by dsimp only; omega⟩
  . have:=g2 x xm; omega
  . omega
  . unfold bS; omega⟩
instance (g:List (List Int)) (a c:Int):Spec (Sh.s6 g a c) (g.length≤1024∧(∀ x∈g,x.length≤2)) (fun _=>True):=⟨fun h=>by unfold Sh.s6; exact ZZ⟩
instance (l:List Bool):Spec (Sh.JG l) (l.length≤2000) (fun r=>r.length≤l.length):=⟨fun h=>by unfold Sh.JG; have:o4 (List Int×Int) (fun t=>t.1.length≤t.2∧0≤t.2∧t.2≤l.length) (fun t=>(l.length - t.2).toNat):=⟨⟩; exact ZZ⟩
instance (g:List (List Int)) (a b:Int):Spec (Sh.tT g a b) (g.length≤1024∧(∀ x∈g,x.length≤2)) (fun r=>r.length≤1100):=⟨fun h=>by
  unfold Sh.tT
  refine sT fun y1 e1=>sB (fun s1 h1=>sT fun y2 e2=>sB (fun s2 h2 => ?_) (by grind)) (by grind)
  clear e1 e2
  have hs1:=h1.1
  have hg:=h.1
  refine sL (fun t=>(t.1.length=s1.length∧t.1[0]? = some false)∧t.2.1.length≤2*t.2.2∧0≤t.2.2∧t.2.2≤s1.length) (fun t=>(s1.length - t.2.2).toNat) (by grind) fun ⟨o,ps,x⟩ ⟨⟨a1,a2⟩,a3,a4,a5⟩ => ?_
  dsimp only at a1 a2 a3 a4 a5 ⊢
  refine sI (fun hx=>sJ (fun x=>x.length=s1.length∧x[0]? = some false) (fun o' ⟨b1,b2⟩ => ?_) (fun k hk => ?_)) (fun hx=>x5 (sB (fun u hu => ?_) (by grind)))
  . refine sA (fun z _ hz=>sI (fun q => ?_) (fun _=>sG (fun _=>LY ⟨⟨⟨b1,b2⟩,by dsimp only; omega,by dsimp only; omega,by dsimp only; omega⟩,by dsimp only; omega⟩) (by unfold bS; omega))) ⟨a4,by omega⟩
    have x1:1≤x:=by
      by_cases e:x=0
      . subst e; rw [q] at hz; rw [show ((0:Int).toNat)=0 from rfl,b2] at hz; cases hz
      . omega
    refine sG (fun _=>sM (fun v vm=>sG (fun _=>sT fun u hu=>sG (fun _=>LY ⟨⟨⟨b1,b2⟩,?_,by dsimp only; omega,by dsimp only; omega⟩,by dsimp only; omega⟩) (by unfold bS; omega)) ?_) (by omega)) (by unfold bS; omega)
    . have:=h.2 v vm; rw [hu]; simp only [List.length_append]; omega
    . have:=h.2 v vm; omega
  . have key : ∀ w:Bool,o[x.toNat]? = some true∨w=false→(o.set x.toNat w).length=s1.length∧(o.set x.toNat w)[0]? = some false:=fun w hw=>by
      refine ⟨by simp [a1],?_⟩
      by_cases e:x.toNat=0
      . rw [e] at hw ⊢
        rcases hw with hw | hw
        . rw [a2] at hw; cases hw
        . subst hw; rw [List.getElem?_set_self (by omega)]
      . rw [List.getElem?_set_ne (by omega)]; exact a2
    refine sA (fun z _ hz=>sI (fun q=>sM (fun z' _=>sM (fun _ _=>sT fun u hu=>sK hk ?_) (by omega)) (by omega)) (fun q=>sM (fun _ _=>sT fun u hu=>sK hk ?_) (by omega))) (by omega)
    . subst hu; exact key _ (.inl (by rw [hz,q]))
    . subst hu; exact key _ (.inr rfl)
  . have hu1:=hu.1
    refine sL (fun t=>t.1.length=s1.length∧0≤t.2∧t.2≤s1.length) (fun t=>(s1.length - t.2).toNat) (by grind) fun ⟨o',x⟩ ⟨c1,c2,c3⟩ => ?_
    dsimp only at c1 c2 c3 ⊢
    clear hu h1 h2 a2
    exact ZZ⟩
instance (g:List (List Int)) (a b:Int):Spec (Sh.rS g a b) (g.length≤1024∧(∀ x∈g,x.length≤2)) (fun _=>True):=⟨fun h=>by unfold Sh.rS; exact ZZ⟩
instance (n e:Int):Spec (Sh.D8 n e) (True) (fun r=>(∃ p a m,r = .fault p a (.no m))∧(bS n→uZ r)):=⟨fun h=>by unfold Sh.D8; exact ZZ⟩
instance (s:bK) (g:List (List Int)) (b:Bool):Spec (Sh.JY s g b) (g.length≤1024∧(∀ x∈g,x.length≤2)) (fun _=>True):=⟨fun h=>by unfold Sh.JY; have:AL (Bool) (fun b=>b=true∨s.cC≤1024):=⟨⟩; exact ZO⟩
instance (l:List bK) (g:List (List Int)):Spec (Sh.HK l g) (g.length≤1024∧(∀ x∈g,x.length≤2)∧l.length≤1000) (fun e=>(e = .nil ∨ ∃ p a n,e = .fault p a (.no n))∧uZ e∧(e.isNil=true→l.length≤32)):=⟨fun h=>by unfold Sh.HK; have:o4 (Bool×Int) (fun t=>0≤t.2∧t.2≤l.length) (fun t=>(l.length - t.2).toNat):=⟨⟩; exact ZZ⟩
def Lf (s r:aF):Prop:=r.aI=s.aI∧r.aG=s.aG∧r.aS=s.aS∧r.aO=s.aO∧r.aT=s.aT∧r.aN=s.aN∧r.aP=s.aP∧r.aQ=s.aQ∧r.aK=s.aK∧r.aD=s.aD∧r.aE=s.aE∧r.aL=s.aL∧r.aR=s.aR∧r.aX=s.aX∧r.bC=s.bC∧r.bE=s.bE∧r.aZ=s.aZ∧r.time=s.time∧r.bA=s.bA∧(∀ f∈r.aY,vF f) ∧ ∀ e∈r.aU,vE e
def Fi (s r:aF):Prop:=r.aY=s.aY∧r.aU=s.aU∧r.aI=s.aI∧r.aS=s.aS∧r.aO=s.aO∧r.aT=s.aT∧r.aN=s.aN∧r.aP=s.aP∧r.aK=s.aK∧r.aD=s.aD∧r.aE=s.aE∧r.aL=s.aL∧r.aR=s.aR∧r.aX=s.aX∧r.bE=s.bE∧r.aZ=s.aZ∧r.time=s.time∧r.bA.length≤s.bA.length+1∧(∀ x∈r.bA,vRf x)∧r.bC.length≤1024∧(∀ c∈r.bC,Y0 c)∧bS r.aG∧s.aQ≤r.aQ∧r.aQ≤s.aQ+1
def Gk (k:Nat) (s r:aF):Prop:=xB r∧r.bA.length≤s.bA.length+k∧r.aQ≤s.aQ+k∧r.bE=s.bE∧r.aZ=s.aZ
attribute [grind =] Lf Fi Gk
instance (s:aF) (t:List aC):Spec (Sh.uH s t) (xB s∧Rw t) (fun r=>Lf s r∧r.aU.length≤64):=⟨fun h=>by unfold Sh.uH; exact ZZ⟩
instance (s:aF) (r:dG):Spec (Sh.xN s r) (xB s∧vR r) (fun q=>Lf s q.1∧q.1.aU.length≤s.aU.length+896∧(r.conflicts=[]→q.1.aU.length≤s.aU.length+128)∧(q.2.isNil=true→q.1.aY.length≤64)∧uZ q.2):=⟨fun h=>by unfold Sh.xN; exact ZZ⟩
instance (s:aF) (b t:List aC) (n:List UInt8):Spec (Sh.uI s b t n) (xB s∧Rw b∧Rw t∧n.length≤1000) (fun q=>vR q.2.1∧Lf s q.1∧q.1.aU.length≤s.aU.length+896∧(q.2.1.conflicts=[]→q.1.aU.length≤s.aU.length+128)∧(q.2.2.isNil=true→q.1.aY.length≤64)∧uZ q.2.2):=⟨fun h=>by unfold Sh.uI; exact ZZ⟩
instance (s:aF) (t:List aC) (x:List UInt8):Spec (Sh.yT s t x) (xB s∧sz s∧(∀ f∈t,vF f)∧x.length≤600) (fun r=>Gk 1 s r.1∧uZ r.2):=⟨fun h=>by unfold Sh.yT; have:AL (Int) (fun n=>bS n):=⟨⟩; have:AL (Unit×aF) (fun x=>Md2 s x.2):=⟨⟩; exact ZS⟩
instance (s:aF) (x:List UInt8):Spec (Sh.BK s x) (xB s∧sz s∧x.length≤600) (fun r=>Gk 1 s r.1∧uZ r.2):=⟨fun h=>by unfold Sh.BK; exact ZZ⟩
instance (s:aF) (x:bK) (t:List aC):Spec (Sh.xM s x t) (xB s∧s.bA.length≤3050∧s.aQ≤3050∧vS x∧Rw t) (fun r=>Fi s r.1):=⟨fun h=>by unfold Sh.xM; have:AL (List UInt8×List Int) (fun x=>x.1.length≤600∧x.2.length≤2 ∧ ∀ p∈x.2,bS p):=⟨⟩; exact ZZ⟩
end Go.S
end

section
set_option maxRecDepth 100000
set_option maxHeartbeats 1000000
namespace Go.S
open Go
instance (s t:aF) (k:List UInt8) (n:Int) (x:List UInt8):Spec (Sh.zF s t k n x) (True) (fun r=>uZ r.2.2∧r.1.aY=t.aY∧r.1.aU=t.aU∧r.1.aI=t.aI∧r.1.aG=t.aG∧r.1.aX=t.aX∧r.1.bC=t.bC∧r.1.bE=t.bE∧r.1.aZ=t.aZ∧r.1.time=t.time∧r.1.bA=t.bA∧r.1.aS=k∧r.1.aO=n∧r.1.aT=x∧r.1.aN=[]∧r.1.aP=[]∧r.1.aQ=0∧r.1.aK=[]∧r.1.aD=s.aI∧r.1.aE=s.aG∧r.1.aL=s.aU∧r.1.aR=s.aY):=⟨fun h=>by unfold Sh.zF; exact ZZ⟩
instance (s:aF) (n:List UInt8):Spec (Sh.BI s n) (xB s∧sz s∧n.length≤300) (fun r=>Gk 1 s r.1∧uZ r.2):=⟨fun h=>by unfold Sh.BI; exact ZS⟩
instance (s:aF) (n:List UInt8):Spec (Sh.JR s n) (xB s∧sz s∧n.length≤300) (fun r=>Gk 1 s r.1∧uZ r.2):=⟨fun h=>by unfold Sh.JR; exact ZS⟩
instance (s:aF) (n:Int):Spec (Sh.wL s n) (xB s) (fun r=>Gk 0 s r.1∧uZ r.2∧r.1.aU=s.aU):=⟨fun h=>by unfold Sh.wL; exact ZS⟩
instance (s:aF) (c:iM):Spec (Sh.BJ s c) (xB s∧sz s∧vC c) (fun r=>Gk 1 s r.1∧uZ r.2):=⟨fun h=>by unfold Sh.BJ; have:AL (aF) (fun x=>Lf s x∧x.aU.length≤6000):=⟨⟩; exact ZQ⟩
instance (s:aF):Spec (Sh.DW s) (xB s∧sz s) (fun r=>Gk 1 s r.1∧uZ r.2):=⟨fun h=>by unfold Sh.DW; have:AL (aF) (fun x=>Gk 1 s x):=⟨⟩; exact ZS⟩
instance (s:aF) (c:iM):Spec (Sh.D2 s c) (xB s∧sz s∧vC c) (fun r=>Gk 1 s r.1∧uZ r.2):=⟨fun h=>by unfold Sh.D2; have:AL (aF) (fun x=>Lf s x∧x.aU.length≤5300):=⟨⟩; exact ZQ⟩
instance (s:aF) (x:List UInt8):Spec (Sh.D3 s x) (xB s∧sz s∧x.length≤300) (fun r=>Gk 0 s r.1∧uZ r.2):=⟨fun h=>by unfold Sh.D3; have:AL (Unit×aF) (fun x=>Lf s x.2∧x.2.aU.length≤64):=⟨⟩; exact ZS⟩
instance (s:aF) (n:List UInt8):Spec (Sh.JQ s n) (xB s∧n.length≤300) (fun r=>Gk 0 s r.1∧uZ r.2):=⟨fun h=>by unfold Sh.JQ; have:o4 (Int×List aH) (fun t=>0≤t.1∧t.1≤6000∧t.2.length≤5300+t.1 ∧ ∀ e∈t.2,vE e) (fun t=>(6000 - t.1).toNat):=⟨⟩; have:AL (List (List UInt8)) (fun x=>x.length≤6000):=⟨⟩; exact ZS⟩
instance (s:aF) (c:iM):Spec (Sh.N7 s c) (xB s∧vC c) (fun r=>Gk 0 s r.1∧uZ r.2):=⟨fun h=>by unfold Sh.N7; exact ZS⟩
instance (s:aF) (n:List UInt8):Spec (Sh.DY s n) (xB s∧sz s∧n.length≤300) (fun r=>Gk 1 s r.1∧uZ r.2.2):=⟨fun h=>by unfold Sh.DY; have:AL (cR×Unit×aF×dG) (fun x=>vR x.2.2.2∧Lf s x.2.2.1∧x.2.2.1.aU.length≤5300∧(x.1.isNil=true→x.2.2.1.aY.length≤64)∧uZ x.1):=⟨⟩; exact ZS⟩
instance (s:aF) (c:iM):Spec (Sh.GP s c) (xB s∧sz s∧vC c) (fun r=>Gk 1 s r.1∧uZ r.2.2):=⟨fun h=>by unfold Sh.GP; have:AL (List aC×List aC×List UInt8) (fun x=>Rw x.1∧Rw x.2.1∧x.2.2.length≤600):=⟨⟩; have:AL (cR×Unit×aF×dG) (fun x=>vR x.2.2.2∧Lf s x.2.2.1∧x.2.2.1.aU.length≤5300∧(x.1.isNil=true→x.2.2.1.aY.length≤64)∧uZ x.1):=⟨⟩; exact ZS⟩
instance (s:aF) (c:iM):Spec (Sh.zG s c) (xB s∧sz s∧vC c) (fun r=>Gk 1 s r.1∧uZ r.2.2):=⟨fun h=>by unfold Sh.zG; have:o4 (Int×List aH) (fun t=>0≤t.1∧t.1≤64∧t.2.length≤1000+t.1 ∧ ∀ e∈t.2,vE e) (fun t=>(64 - t.1).toNat):=⟨⟩; have:AL (cR×Unit×aF×dG) (fun x=>vR x.2.2.2∧Lf s x.2.2.1∧x.2.2.1.aU.length≤1000∧(x.1.isNil=true→x.2.2.1.aY.length≤64)∧uZ x.1):=⟨⟩; have:AL (cR×aF) (fun x=>Gk 1 s x.2∧uZ x.1):=⟨⟩; exact ZS⟩
end Go.S
end

section
set_option maxRecDepth 100000
set_option maxHeartbeats 1000000
namespace Go.S
open Go
instance (s:aF):Spec (Sh.uX s) (xB s∧s.bA.length≤3001∧s.aQ≤3001∧s.aU.length≤192) (fun r=>Gk 35 s r.1∧uZ r.2.2):=⟨fun h=>by
  unfold Sh.uX
  refine sL (fun w=>xB w∧w.bA.length+w.aP.length≤s.bA.length+32∧w.aQ+w.aP.length≤s.aQ+32∧w.aU.length+128*w.aP.length≤4288∧w.bE=s.bE∧w.aZ=s.aZ) (fun w=>w.aP.length) (by simp only [CD]; grind) fun w ⟨w1,w2,w3,w4,w5,w6⟩ => ?_
  have:AL (Unit×Unit×cR×aF×dG) (fun x=>vR x.2.2.2.2∧Lf w x.2.2.2.1∧x.2.2.2.1.aU.length≤w.aU.length+896∧(x.2.2.2.2.conflicts=[]→x.2.2.2.1.aU.length≤w.aU.length+128)∧(x.2.2.1.isNil=true→x.2.2.2.1.aY.length≤64)∧uZ x.2.2.1):=⟨⟩
  have:AL (List bK×List bK) (fun x=>x.1.length≤1∧(∀ y∈x.1,vS y)∧x.2.length≤32 ∧ ∀ y∈x.2,vS y):=⟨⟩
  have:AL aF (fun x=>Gk 1 w x):=⟨⟩
  exact ZS⟩
instance (s:aF) (z:List aC):Spec (Sh.BM s z) (xB s∧sz s∧(∀ f∈z,vF f)∧z.length=s.aU.length) (fun r=>Gk 36 s r.1∧uZ r.2.2):=⟨fun h=>by unfold Sh.BM; exact ZS⟩
instance (s:aF):Spec (Sh.BN s) (xB s∧sz s) (fun r=>Gk 36 s r.1∧uZ r.2.2):=⟨fun h=>by unfold Sh.BN; have:AL (Unit×List aC×mN) (fun x=>(∀ f∈x.2.1,vF f)∧x.2.1.length≤5300∧((∀ z∈s.aU,z.iK=0)→x.2.1.length=s.aU.length)∧x.2.2.text=s.aT):=⟨⟩; exact ZS⟩
instance (s:aF):Spec (Sh.GQ s) (xB s∧sz s) (fun r=>Gk 35 s r.1∧uZ r.2.2):=⟨fun h=>by unfold Sh.GQ; have:AL (List bK×List bK) (fun x=>x.1.length≤32∧(∀ y∈x.1,vS y)∧x.2.length≤32 ∧ ∀ y∈x.2,vS y):=⟨⟩; exact ZS⟩
instance (s:aF) (c:iM):Spec (Sh.BO s c) (xB s∧sz s∧vC c) (fun r=>Gk 36 s r.1∧uZ r.2.2):=⟨fun h=>by unfold Sh.BO; exact ZQ⟩
instance (s:aF) (c:iM):Spec (Sh.JS s c) (xB s∧sz s∧vC c) (fun r=>Gk 36 s r.1∧uZ r.2.2):=⟨fun h=>by unfold Sh.JS; have:AL (cR×aF) (fun x=>Gk 36 s x.2∧uZ x.1):=⟨⟩; exact ZS⟩
end Go.S
end

section
set_option maxRecDepth 100000
namespace Go.S
open Go
theorem aIK {n:Nat} (h:n < 18446744073709551616):IntKind.wrap .u64 (n:Int)=n:=IntWalk.u64_in _ (by omega)
theorem wU8 {n:Nat} (h:n < 256):IntKind.wrap .u8 (n:Int)=n:=IntWalk.u8_in _ (by omega)
theorem aOy {x y:Nat} (hx:x < 18446744073709551616) (hy:y < 18446744073709551616):G2 .u64 x y=((x &&& y:Nat):Int):=by
 unfold G2
 have h:(BitVec.ofInt IntKind.u64.bits (x:Int) &&& BitVec.ofInt IntKind.u64.bits (y:Int)).toNat=x &&& y:=by
   show (BitVec.ofInt 64 (x:Int) &&& BitVec.ofInt 64 (y:Int)).toNat=x &&& y
   rw [BitVec.toNat_and,BitVec.ofInt_natCast,BitVec.ofInt_natCast,BitVec.toNat_ofNat,BitVec.toNat_ofNat,Nat.mod_eq_of_lt (by omega),Nat.mod_eq_of_lt (by omega)]
 rw [h]
 exact aIK (Nat.lt_of_le_of_lt Nat.and_le_left hx)
theorem a6x {x y:Nat} (hx:x < 18446744073709551616) (hy:y < 18446744073709551616):ZY .u64 x y=((x ||| y:Nat):Int):=by
 unfold ZY
 have h:(BitVec.ofInt IntKind.u64.bits (x:Int) ||| BitVec.ofInt IntKind.u64.bits (y:Int)).toNat=x ||| y:=by
   show (BitVec.ofInt 64 (x:Int) ||| BitVec.ofInt 64 (y:Int)).toNat=x ||| y
   rw [BitVec.toNat_or,BitVec.ofInt_natCast,BitVec.ofInt_natCast,BitVec.toNat_ofNat,BitVec.toNat_ofNat,Nat.mod_eq_of_lt (by omega),Nat.mod_eq_of_lt (by omega)]
 rw [h]
 exact aIK (Nat.or_lt_two_pow (n:=64) hx hy)
theorem bAL {x y:Nat} (hx:x < 256) (hy:y < 256):ZY .u8 x y=((x ||| y:Nat):Int):=by
 unfold ZY
 have h:(BitVec.ofInt IntKind.u8.bits (x:Int) ||| BitVec.ofInt IntKind.u8.bits (y:Int)).toNat=x ||| y:=by
   show (BitVec.ofInt 8 (x:Int) ||| BitVec.ofInt 8 (y:Int)).toNat=x ||| y
   rw [BitVec.toNat_or,BitVec.ofInt_natCast,BitVec.ofInt_natCast,BitVec.toNat_ofNat,BitVec.toNat_ofNat,Nat.mod_eq_of_lt (by omega),Nat.mod_eq_of_lt (by omega)]
 rw [h]
 exact wU8 (Nat.or_lt_two_pow (n:=8) hx hy)
theorem a6w {x y:Nat} (hx:x < 256) (hy:y < 256):G2 .u8 x y=((x &&& y:Nat):Int):=by
 unfold G2
 have h:(BitVec.ofInt IntKind.u8.bits (x:Int) &&& BitVec.ofInt IntKind.u8.bits (y:Int)).toNat=x &&& y:=by
   show (BitVec.ofInt 8 (x:Int) &&& BitVec.ofInt 8 (y:Int)).toNat=x &&& y
   rw [BitVec.toNat_and,BitVec.ofInt_natCast,BitVec.ofInt_natCast,BitVec.toNat_ofNat,BitVec.toNat_ofNat,Nat.mod_eq_of_lt (by omega),Nat.mod_eq_of_lt (by omega)]
 rw [h]
 exact wU8 (Nat.lt_of_le_of_lt Nat.and_le_left hx)
theorem aOz {x y:Nat} (hx:x < 18446744073709551616) (hy:y < 18446744073709551616):OP .u64 x y=((x ^^^ y:Nat):Int):=by
 unfold OP
 have h:(BitVec.ofInt IntKind.u64.bits (x:Int) ^^^ BitVec.ofInt IntKind.u64.bits (y:Int)).toNat=x ^^^ y:=by
   show (BitVec.ofInt 64 (x:Int) ^^^ BitVec.ofInt 64 (y:Int)).toNat=x ^^^ y
   rw [BitVec.toNat_xor,BitVec.ofInt_natCast,BitVec.ofInt_natCast,BitVec.toNat_ofNat,BitVec.toNat_ofNat,Nat.mod_eq_of_lt (by omega),Nat.mod_eq_of_lt (by omega)]
 rw [h]
 exact aIK (Nat.xor_lt_two_pow (n:=64) hx hy)
theorem aYb (x k:Nat) (hk:k≤64):GS .u64 x (k:Int)=((x / 2 ^ k:Nat):Int):=by
 unfold GS
 show Int.fdiv (x:Int) (2 ^ min (k:Int).toNat 64)=_
 rw [Int.toNat_natCast,Nat.min_eq_left hk]
 rw [show ((2:Int) ^ k)=((2 ^ k:Nat):Int) by simp]
 rw [Int.fdiv_eq_ediv_of_nonneg _ (Int.natCast_nonneg _)]
 simp
theorem aYa (x k:Nat) (hk:k≤64) (h:x*2 ^ k < 18446744073709551616):sHl .u64 x (k:Int)=((x*2 ^ k:Nat):Int):=by
 unfold sHl
 show IntKind.wrap .u64 ((x:Int)*2 ^ min (k:Int).toNat 64)=_
 rw [Int.toNat_natCast,Nat.min_eq_left hk,show ((x:Int)*2 ^ k)=((x*2 ^ k:Nat):Int) by simp]
 exact aIK h
theorem aOs (x:Nat):x &&& 127=x % 128:=Nat.and_two_pow_sub_one_eq_mod x 7
theorem bAB (x:Nat):x &&& 1=x % 2:=Nat.and_two_pow_sub_one_eq_mod x 1
theorem a7p {x:Nat} (h:x < 128):x ||| 128=x+128:=by
 have:=Nat.two_pow_add_eq_or_of_lt (i:=7) h 1
 rw [Nat.or_comm,show (128:Nat)=2 ^ 7*1 by rfl,← this]
 omega
theorem aSg {v x k:Nat} (h:v < 2 ^ k):v ||| x*2 ^ k=v+x*2 ^ k:=by
 have:=Nat.two_pow_add_eq_or_of_lt h x
 rw [Nat.or_comm,Nat.mul_comm x,← this,Nat.add_comm]
def vu (u:Nat):List UInt8:=if u < 128 then [UInt8.ofNat u] else UInt8.ofNat (u % 128+128)::vu (u / 128)
termination_by u
decreasing_by omega
theorem aOT {u:Nat} (h:u < 128):vu u=[UInt8.ofNat u]:=by rw [vu,if_pos h]
theorem aOS {u:Nat} (h : ¬ u < 128):vu u=UInt8.ofNat (u % 128+128)::vu (u / 128):=by rw [vu,if_neg h]
def aHQ (n:Int):Nat:=if 0≤n then (2*n).toNat else (-2*n - 1).toNat
def encI (n:Int):List UInt8:=vu (aHQ n)
theorem aCY {n:Int} (h:bS n):aHQ n < 18446744073709551616:=by
 obtain ⟨h1,h2⟩:=h
 unfold aHQ
 split <;> omega
theorem aUJ {n:Int} (h:bS n):OP .u64 (sHl .u64 (IntKind.wrap .u64 n) 1) (IntKind.wrap .u64 (GS .i64 n 63))=(aHQ n:Int):=by
 obtain ⟨h1,h2⟩:=h
 have hs:GS .i64 n 63=if 0≤n then 0 else -1:=by
   unfold GS
   show Int.fdiv n (2 ^ 63)=_
   rw [Int.fdiv_eq_ediv_of_nonneg _ (by decide)]
   split <;> omega
 unfold aHQ
 rw [hs]
 by_cases h0:0≤n
 ·
  rw [if_pos h0,if_pos h0]
  obtain ⟨m,rfl⟩ : ∃ m:Nat,n=m:=⟨n.toNat,by omega⟩
  have e1:=aYa m 1 (by decide) (by omega)
  rw [aIK (by omega)]
  rw [show ((1:Nat):Int)=1 from rfl] at e1
  rw [e1,show IntKind.wrap .u64 (0:Int)=((0:Nat):Int) from rfl,aOz (by omega) (by omega),Nat.xor_zero]
  omega
 rw [if_neg h0,if_neg h0]
 have e0:IntKind.wrap .u64 n=n+18446744073709551616:=by
   simp only [IntKind.wrap,IntKind.bits,IntKind.signed]
   simp
   omega
 have e1:sHl .u64 (n+18446744073709551616) 1=2*n+18446744073709551616:=by
   unfold sHl
   show IntKind.wrap .u64 ((n+18446744073709551616)*2 ^ 1)=_
   simp only [IntKind.wrap,IntKind.bits,IntKind.signed]
   simp
   omega
 have e2:IntKind.wrap .u64 (-1)=((18446744073709551615:Nat):Int):=by decide
 rw [e0,e1,e2]
 obtain ⟨m,hm⟩ : ∃ m:Nat,2*n+18446744073709551616=m:=⟨(2*n+18446744073709551616).toNat,by omega⟩
 rw [hm,aOz (by omega) (by omega)]
 have hx:m ^^^ 18446744073709551615=18446744073709551615 - m:=by
   have hb:(BitVec.ofNat 64 m ^^^ BitVec.allOnes 64) = ~~~ (BitVec.ofNat 64 m):=BitVec.xor_allOnes
   have:=congrArg BitVec.toNat hb
   rw [BitVec.toNat_xor,BitVec.toNat_not,BitVec.toNat_ofNat,Nat.mod_eq_of_lt (by omega),BitVec.toNat_allOnes] at this
   exact this
 rw [hx]
 omega
def aQU (u:Nat):Int:=if u % 2=0 then ((u / 2:Nat):Int) else -((u / 2:Nat):Int) - 1
theorem a7q {i:Nat} (h:i≤8):2 ^ (7*i)≤72057594037927936:=by
 have:=Nat.pow_le_pow_right (n:=2) (by decide) (show 7*i≤56 by omega)
 simpa using this
theorem aOr {c:UInt8} {i v:Nat} (hi:i≤9) (hv:v < 2 ^ (7*i)) (hc:i=9→c.toNat≤1):v+c.toNat % 128*2 ^ (7*i) < 18446744073709551616∧v+c.toNat % 128*2 ^ (7*i) < 2 ^ (7*(i+1)) ∧
 c.toNat % 128*2 ^ (7*i) < 18446744073709551616∧v < 18446744073709551616:=by
 have hm:c.toNat % 128≤127:=by omega
 have hp:2 ^ (7*(i+1))=128*2 ^ (7*i):=by rw [show 7*(i+1)=7+7*i by omega,Nat.pow_add]
 have hmul:c.toNat % 128*2 ^ (7*i)≤127*2 ^ (7*i):=Nat.mul_le_mul hm (Nat.le_refl _)
 rw [hp]
 by_cases h9:i=9
 ·
  subst h9
  have h1:=hc rfl
  have h2:c.toNat % 128≤1:=by omega
  have h3:c.toNat % 128*2 ^ (7*9)≤1*2 ^ (7*9):=Nat.mul_le_mul h2 (Nat.le_refl _)
  have e:2 ^ (7*9)=9223372036854775808:=by decide
  rw [e] at *
  omega
 have:=a7q (i:=i) (by omega)
 generalize 2 ^ (7*i)=P at *
 omega
theorem aR5 {c:UInt8} {i v:Nat} (hi:i≤9) (hv:v < 2 ^ (7*i)) (hc:i=9→c.toNat≤1) :
 ZY .u64 (v:Int) (sHl .u64 (IntKind.wrap .u64 (G2 .u8 (c.toNat:Int) 127)) (7*(i:Int)))=((v+c.toNat % 128*2 ^ (7*i):Nat):Int):=by
 obtain ⟨h1,_,h3,h4⟩:=aOr hi hv hc
 have hb:=c.toNat_lt
 have e1:=a6w (x:=c.toNat) (y:=127) (by omega) (by decide)
 rw [aOs] at e1
 rw [show (127:Int)=((127:Nat):Int) from rfl,e1,aIK (by omega)]
 rw [show (7*(i:Int))=((7*i:Nat):Int) by omega,aYa _ _ (by omega) h3,a6x h4 h3,aSg hv]
theorem a6y {x:Nat} (hx:x < 9223372036854775808):OP .i64 (x:Int) 0=x∧OP .i64 (x:Int) (-1) = -(x:Int) - 1:=by
 have w : ∀ n:Int,-9223372036854775808≤n∧n≤9223372036854775807→IntKind.wrap .i64 n=n:=fun n h=>IntWalk.i64_in _ h
 constructor
 ·
  unfold OP
  have h:(BitVec.ofInt IntKind.i64.bits (x:Int) ^^^ BitVec.ofInt IntKind.i64.bits 0).toNat=x:=by
    show (BitVec.ofInt 64 (x:Int) ^^^ BitVec.ofInt 64 0).toNat=x
    rw [show BitVec.ofInt 64 0=0#64 from rfl,BitVec.xor_zero,BitVec.ofInt_natCast,BitVec.toNat_ofNat,Nat.mod_eq_of_lt (by omega)]
  rw [h]
  exact w _ ⟨by omega,by omega⟩
 unfold OP
 have h:(BitVec.ofInt IntKind.i64.bits (x:Int) ^^^ BitVec.ofInt IntKind.i64.bits (-1)).toNat=18446744073709551615 - x:=by
   show (BitVec.ofInt 64 (x:Int) ^^^ BitVec.ofInt 64 (-1)).toNat=_
   rw [show BitVec.ofInt 64 (-1)=BitVec.allOnes 64 by decide,BitVec.xor_allOnes,BitVec.toNat_not,BitVec.ofInt_natCast,BitVec.toNat_ofNat,Nat.mod_eq_of_lt (by omega)]
 rw [h]
 simp only [IntKind.wrap,IntKind.bits,IntKind.signed]
 simp
 omega
theorem aUH {u:Nat} (hu:u < 18446744073709551616):OP .i64 (IntKind.wrap .i64 (GS .u64 (u:Int) 1)) (IntKind.wrap .i64 (0 - (IntKind.wrap .i64 (G2 .u64 (u:Int) 1))))=aQU u:=by
 have e1:GS .u64 (u:Int) 1=((u / 2:Nat):Int):=aYb u 1 (by decide)
 have e2:G2 .u64 (u:Int) 1=((u % 2:Nat):Int):=by
   have:=aOy (x:=u) (y:=1) hu (by decide)
   rw [bAB] at this; exact this
 have w : ∀ n:Int,-9223372036854775808≤n∧n≤9223372036854775807→IntKind.wrap .i64 n=n:=fun n h=>IntWalk.i64_in _ h
 have hb:=a6y (x:=u / 2) (by omega)
 rw [e1,e2,w _ ⟨by omega,by omega⟩,w ((u % 2:Nat):Int) ⟨by omega,by omega⟩,w _ ⟨by omega,by omega⟩]
 unfold aQU
 by_cases h:u % 2=0
 ·
  rw [if_pos h,h]; exact hb.1
 rw [if_neg h,show u % 2=1 by omega]; exact hb.2
theorem aUG {n:Int} (h:bS n):aQU (aHQ n)=n:=by
 obtain ⟨h1,h2⟩:=h
 unfold aQU aHQ
 split <;> split <;> omega
def tJ (s:List UInt8):List UInt8:=encI s.length++s
def oO (d:bB) (xs:List UInt8):Prop:=d.err = .nil∧0≤d.at_∧d.at_≤d.b.length∧d.b.drop d.at_.toNat=xs∧d.b.length≤4200000000
theorem aB {α β:Type} {Q:β→Prop} {l:List α} {i:Int} {z:α} {g:α→Option β} (h0:0≤i) (hz:l[i.toNat]? = some z) (k:Ok (g z) Q):Ok ((at_ l i).bind g) Q:=by
 rw [vU,aXK]; exact ⟨h0,z,hz,k⟩
theorem aYv (w:Nat) : ∃ c ws,vu w=c::ws∧(w < 128∧c.toNat=w∧ws=[] ∨ ¬ w < 128∧c.toNat=w % 128+128∧ws=vu (w / 128)):=by
 by_cases q:w < 128
 ·
  exact ⟨_,_,aOT q,.inl ⟨q,by simp; omega,rfl⟩⟩
 exact ⟨_,_,aOS q,.inr ⟨q,by simp; omega,rfl⟩⟩
theorem a4A {d:bB} {u:Nat} {xs:List UInt8} (hu:u < 18446744073709551616) (a:oO d (vu u++xs)):Ok (Sh.x8 d) fun q=>q.1=u∧q.2.1=0∧oO q.2.2 xs:=by
 obtain ⟨a1,a2,a3,a4,a5⟩:=a
 unfold Sh.x8
 refine sL (fun t => ∃ v w i:Nat,t=((v:Int),(i:Int))∧i≤9∧v < 2 ^ (7*i)∧v+w*2 ^ (7*i)=u∧(0 < i→0 < w)∧d.b.drop (d.at_.toNat+i)=vu w++xs) (fun t=>(10 - t.2).toNat) ⟨0,u,0,rfl,by omega,by simp,by simp,by simp,a4⟩ ?_
 rintro t ⟨v,w,i,rfl,i9,hv,hw,hp,hd⟩
 obtain ⟨c,ws,hws,hc⟩:=aYv w
 rw [hws,List.cons_append] at hd
 have hcm:c.toNat % 128=w % 128:=by omega
 have h9:i=9→c.toNat≤1:=fun e=>by subst e; rw [show 2 ^ (7*9)=9223372036854775808 by decide] at hw; omega
 have hx:d.b[(d.at_+i).toNat]? = some c:=by
   rw [show (d.at_+(i:Int)).toNat=d.at_.toNat+i by omega,← List.head?_drop,hd]; rfl
 have hlt:=(List.getElem?_eq_some_iff.1 hx).1
 have hd2:d.b.drop (d.at_.toNat+(i+1))=ws++xs:=by
   rw [← Nat.add_assoc,← List.drop_drop,hd]; rfl
 have ea:=aR5 i9 hv h9
 have hea:=aOr i9 hv h9
 dsimp only
 rw [if_pos (by omega)]
 refine sG (fun _ => ?_) (by unfold bS; omega)
 rw [if_neg (by omega)]
 refine sG (fun _=>aB (by omega) hx (sJ (fun _=>True) (fun _ _ => ?_) fun k hk => ?_)) (by unfold bS; omega)
 ·
  refine sG (fun _=>sG (fun _ => ?_) (by omega)) (by unfold bS; omega)
  rw [ea,hcm]
  rw [hcm] at hea
  by_cases q:w < 128
  ·
   rw [if_pos (by omega)]
   refine sG (fun _=>sG (fun _=>x5 (sS ⟨?_,rfl,a1,by dsimp only; omega,by dsimp only; omega,?_,a5⟩)) (by unfold bS; omega)) (by unfold bS; omega)
   ·
    rw [Nat.mod_eq_of_lt q,hw]
   dsimp only
   rw [show (d.at_+((i:Int)+1)).toNat=d.at_.toNat+(i+1) by omega,hd2]
   rcases hc with hc | hc
   ·
    rw [hc.2.2]; rfl
   exact absurd q hc.1
  rw [if_neg (by omega)]
  have i8:i≤8:=by
    rcases Nat.lt_or_ge 8 i with e | e
    . have:=h9 (by omega); omega
    . exact e
  refine sG (fun _=>LY ⟨⟨_,w / 128,i+1,rfl,by omega,hea.2.1,?_,fun _=>by omega,?_⟩,by dsimp only; omega⟩) (by unfold bS; omega)
  ·
   rw [← hw,show 2 ^ (7*(i+1))=128*2 ^ (7*i) by rw [show 7*(i+1)=7+7*i by omega,Nat.pow_add],← Nat.mul_assoc,Nat.add_assoc,← Nat.add_mul,show w % 128+w / 128*128=w by omega]
  rcases hc with hc | hc
  ·
   exact absurd hc.1 q
  rw [hd2,hc.2.2]
 refine sI (fun h=>sI (fun h1 => ?_) fun _=>sI (fun _=>sI (fun hz => ?_) fun _=>hk _ trivial) fun _=>hk _ trivial) fun _=>sI (fun _=>sI (fun hz => ?_) fun _=>hk _ trivial) fun _=>hk _ trivial
 ·
  have:=h9 (by omega); omega
 ·
  have:=hp (by omega); omega
 have:=hp (by omega); omega
theorem rI {d:bB} {n:Int} {xs:List UInt8} (h:bS n) (a:oO d (encI n++xs)):Ok (Sh.eW d) fun q=>q.1=n∧oO q.2 xs:=by
 unfold Sh.eW
 rw [a.1,if_pos (show cR.nil.isNil=true from rfl),vU]
 refine (a4A (aCY h) a).mono fun ⟨u,e,d'⟩ ⟨h1,h2,h3⟩ => ?_
 dsimp only at h1 h2 h3 ⊢
 subst h1 h2
 rw [if_pos rfl,aUH (aCY h),aUG h]
 exact sS ⟨rfl,h3⟩
theorem rT {d:bB} {s xs:List UInt8} (a:oO d (tJ s++xs)):Ok (Sh.iE d) fun q=>q.1=s∧oO q.2 xs:=by
 unfold Sh.iE
 have hs:s.length≤4200000000:=by
   have:=congrArg List.length a.2.2.2.1
   have:=a.2.2.2.2
   simp only [tJ,List.length_append,List.length_drop] at *
   omega
 rw [tJ,List.append_assoc] at a
 rw [vU]
 refine (rI (by unfold bS; omega) a).mono fun ⟨n,d'⟩ ⟨h1,a1,a2,a3,a4,a5⟩ => ?_
 dsimp only at h1 a1 a2 a3 a4 a5 ⊢
 subst h1
 have hl:=congrArg List.length a4
 simp only [List.length_append,List.length_drop] at hl
 rw [a1,if_pos (show cR.nil.isNil=true from rfl),if_neg (by omega)]
 refine sG (fun _ => ?_) (by unfold bS; omega)
 rw [if_neg (by omega)]
 refine sG (fun _=>sG (fun _=>sT fun y hy=>sG (fun _=>sS ⟨?_,rfl,by dsimp only; omega,by dsimp only; omega,?_,a5⟩) (by unfold bS; omega)) (by omega)) (by unfold bS; omega)
 ·
  rw [hy,a4,show (d'.at_+(s.length:Int)).toNat - d'.at_.toNat=s.length by omega]; simp
 dsimp only
 rw [show (d'.at_+(s.length:Int)).toNat=d'.at_.toNat+s.length by omega,← List.drop_drop,a4]; simp
end Go.S
end

section
set_option maxRecDepth 100000
set_option maxHeartbeats 1000000
namespace Go.S
open Go
def kM {α:Type} (enc:α→List UInt8) (l:List α):List UInt8:=encI l.length++l.flatMap enc
def DB (x:aC):List UInt8:=tJ x.path++(encI x.mode++tJ x.data)
def HR (x:aH):List UInt8:=tJ x.path++(encI x.iK++(encI x.mode++(tJ x.data++(encI x.time++encI x.size))))
def PS (x:cY):List UInt8:=tJ x.name++encI x.cC
def HS (x:bK):List UInt8:=tJ x.verb++(encI x.cC++tJ x.text)
def SE (x:mM):List UInt8:=tJ x.branch++encI x.cC
def PT (x:cM):List UInt8:=encI x.base++(kM DB x.index++(kM DB x.work++tJ x.text))
def U2 (x:mN):List UInt8:=tJ x.kind++(encI x.other++(tJ x.text++(kM HS x.C9++(kM HS x.todo++(encI x.made++(tJ x.branch++(SE ⟨x.cB,x.cA⟩++(kM HR x.index++kM DB x.work))))))))
def GI (n:eH):List UInt8:=kM DB n.work++(kM HR n.index++(kM PS n.refs++(SE ⟨n.cB,n.cA⟩++(U2 ⟨n.fE,n.eM,n.fF,n.cZ,n.eA,n.eX,n.dM,n.bW,n.bX,n.dB,n.eC⟩++kM PT n.gB))))
def NJ (c:fH):List UInt8:=kM DB c.tree++(kM encI c.parents++(encI c.time++tJ c.text))
def JE (s:aF):List UInt8:=GI ⟨s.aY,s.aU,s.bA,s.aI,s.aG,s.aS,s.aO,s.aT,s.aN,s.aP,s.aQ,s.aK,s.aD,s.aE,s.aL,s.aR,s.aX⟩++(kM NJ s.bC++(kM tJ s.bE++(kM tJ s.aZ++encI s.time)))
section
variable {α β:Type} {Q:β→Prop}
theorem rB {o:Option (α×bB)} {x:α} {xs:List UInt8} {f:α×bB→Option β} (h:Ok o fun q=>q.1=x∧oO q.2 xs) (k : ∀ d,oO d xs→Ok (f (x,d)) Q):Ok (o.bind f) Q:=by
 rw [vU]; exact h.mono fun ⟨_,d⟩ ⟨e,a⟩=>by subst e; exact k d a
theorem UH {o:Option (α×bB×aW)} {x:α} {xs:List UInt8} {f:α×bB×aW→Option β} (h:Ok o fun q=>q.1=x∧oO q.2.1 xs∧q.2.2=⟨false⟩) (k : ∀ d,oO d xs→Ok (f (x,d,⟨false⟩)) Q):Ok (o.bind f) Q:=by
 rw [vU]; exact h.mono fun ⟨_,d,_⟩ ⟨e,a,b⟩=>by subst e; subst b; exact k d a
theorem rB4 {o:Option (bB×aW×α)} {x:α} {xs:List UInt8} {f:bB×aW×α→Option β} (h:Ok o fun q=>q.2.2=x∧oO q.1 xs∧q.2.1=⟨false⟩) (k : ∀ d,oO d xs→Ok (f (d,⟨false⟩,x)) Q):Ok (o.bind f) Q:=by
 rw [vU]; exact h.mono fun ⟨d,_,_⟩ ⟨e,a,b⟩=>by subst e; subst b; exact k d a
end
theorem rE {β:Type} {Q:β→Prop} {d:bB} {xs:List UInt8} (a:oO d xs) {f:cR→Option β} (k:Ok (f .nil) Q):Ok ((Sh.jT d).bind f) Q:=by
 unfold Sh.jT; rw [a.1]; exact k
theorem rl {α T R:Type} (l:List α) {enc:α→List UInt8} {xs:List UInt8} {d0:bB} (pk:Int→bB→List α→T) (ix:T→Int) (hix : ∀ i q m,ix (pk i q m)=i) {B:T→Option (T⊕R)} {Q:R→Prop} (h:oO d0 (l.flatMap enc++xs))
 (hB : ∀ (k:Nat) z,(k:Int) < l.length→z∈l → ∀ d ys,oO d (enc z++ys)→Ok (B (pk k d (l.take k))) fun y => ∃ d',oO d' ys∧y = .inl (pk ((k:Int)+1) d' (l.take k++[z])))
 (hE : ∀ d,oO d xs→Ok (B (pk l.length d l)) (Rn (fun _=>True) (fun _=>0) 0 Q)):Ok (iter B (pk 0 d0 [])) Q:=by
 refine sL (fun t => ∃ (k:Nat) (d:bB),k≤l.length∧t=pk k d (l.take k)∧oO d ((l.drop k).flatMap enc++xs)) (fun t=>(l.length - ix t).toNat) ⟨0,d0,Nat.zero_le _,by simp,h⟩ ?_
 rintro t ⟨k,d,hk,rfl,hr⟩
 by_cases hi:k < l.length
 ·
  have hz:=List.getElem?_eq_getElem hi
  rw [List.drop_eq_getElem_cons hi,List.flatMap_cons,List.append_assoc] at hr
  refine (hB k _ (by omega) (List.getElem_mem hi) d _ hr).mono ?_
  rintro y ⟨d',hd,rfl⟩
  refine ⟨⟨k+1,d',by omega,?_,hd⟩,?_⟩
  ·
   rw [List.take_add_one,hz]; rfl
  dsimp only; rw [hix,hix]; omega
 have e:k=l.length:=by omega
 subst e
 rw [List.drop_length,List.take_length] at *
 refine (hE d hr).mono fun y hy => ?_
 cases y with
 | inl t=>exact absurd hy.2 (by omega)
 | inr r=>exact hy
def Wr (c xs:List UInt8):Prop:=c.length+xs.length≤4200000000
theorem Wr.nx {c x xs:List UInt8} (a:Wr c (x++xs)):Wr (c++x) xs:=by unfold Wr at *; simp only [List.length_append] at *; omega
theorem wB {β:Type} {Q:β→Prop} {c x xs:List UInt8} {o:Option eB} {f:eB→Option β} (a:Wr c (x++xs)) (h:Wr c (x++xs)→Ok o fun q=>q=⟨c++x⟩) (k:Wr (c++x) xs→Ok (f ⟨c++x⟩) Q):Ok (o.bind f) Q:=by
 rw [vU]; exact (h a).mono fun _ e=>by subst e; exact k a.nx
theorem wl {α R:Type} (l:List α) {enc:α→List UInt8} {c xs:List UInt8} {B:Int×List UInt8→Option ((Int×List UInt8)⊕R)} {Q:R→Prop} (h:Wr c (l.flatMap enc++xs))
 (hB : ∀ (k:Int) z,0≤k→k < l.length→l[k.toNat]? = some z→z∈l → ∀ c ys,Wr c (enc z++ys)→Ok (B (k,c)) fun y=>y = .inl (k+1,c++enc z))
 (hE:Wr (c++l.flatMap enc) xs→Ok (B (l.length,c++l.flatMap enc)) (Rn (fun _=>True) (fun _=>0) 0 Q)):Ok (iter B (0,c)) Q:=by
 refine sL (fun t => ∃ k:Nat,k≤l.length∧t=((k:Int),c++(l.take k).flatMap enc)∧Wr t.2 ((l.drop k).flatMap enc++xs)) (fun t=>(l.length - t.1).toNat) ⟨0,Nat.zero_le _,by simp,h⟩ ?_
 rintro t ⟨k,hk,rfl,hr⟩
 by_cases hi:k < l.length
 ·
  have hz:=List.getElem?_eq_getElem hi
  rw [List.drop_eq_getElem_cons hi,List.flatMap_cons,List.append_assoc] at hr
  refine (hB k _ (by omega) (by omega) (by simp) (List.getElem_mem hi) _ _ hr).mono ?_
  rintro y rfl
  refine ⟨⟨k+1,by omega,?_,hr.nx⟩,by dsimp only; omega⟩
  rw [List.take_add_one,hz,List.flatMap_append]
  simp [List.append_assoc]
 have e:k=l.length:=by omega
 subst e
 rw [List.drop_length] at hr
 rw [List.take_length] at *
 refine (hE hr).mono fun y hy => ?_
 cases y with
 | inl t=>exact absurd hy.2 (by omega)
 | inr r=>exact hy
theorem wIs {c xs:List UInt8} {l:List Int} (h : ∀ n∈l,bS n) (hl:l.length≤6000) (a:Wr c (l.flatMap encI++xs)):Ok (Sh.eT ⟨c⟩ l) fun q=>q=⟨c++l.flatMap encI⟩:=by
 unfold Sh.eT
 refine wl l a (fun k z k0 hk hz zm c ys a => ?_) fun a=>by dsimp only; rw [if_neg (by omega)]; exact x5 (sS rfl)
 dsimp only
 rw [if_pos hk]
 refine aB k0 hz ?_
 rw [aUJ (h z zm)]
 refine sL (fun t => ∃ v:Nat,t.1=v∧v < 18446744073709551616∧t.2++vu v=c++encI z∧Wr t.2 (vu v)) (fun t=>t.1.toNat) ⟨_,rfl,aCY (h z zm),rfl,?_⟩ ?_
 ·
  unfold Wr at *; simp only [List.length_append,encI] at *; omega
 rintro ⟨_,c'⟩ ⟨v,rfl,hv,hc,hw⟩
 dsimp only at hc hw ⊢
 unfold Wr at hw
 refine sI (fun q => ?_) (fun q => ?_)
 ·
  have e1:G2 .u64 (v:Int) 127=((v % 128:Nat):Int):=by
    have:=aOy (x:=v) (y:=127) hv (by decide)
    rw [aOs] at this; exact this
  have e2:ZY .u8 (IntKind.wrap .u8 (G2 .u64 (v:Int) 127)) 128=((v % 128+128:Nat):Int):=by
    rw [e1,wU8 (by omega)]
    have:=bAL (x:=v % 128) (y:=128) (by omega) (by decide)
    rw [a7p (by omega)] at this; exact this
  have e3:GS .u64 (v:Int) 7=((v / 128:Nat):Int):=aYb v 7 (by decide)
  rw [e2,e3]
  rw [aOS (by omega)] at hc hw
  simp only [List.length_cons] at hw
  refine sG (fun _=>sT fun u hu=>sT fun y hy=>sG (fun _=>sT fun w hw'=>LY ⟨⟨v / 128,rfl,by omega,?_,?_⟩,by dsimp only; omega⟩) ?_) ⟨by omega,by omega⟩
  ·
   rw [hw',hy,hu,← hc,Int.toNat_natCast]; simp
  ·
   rw [hw',hy]; unfold Wr; simp; omega
  rw [hy]; simp; omega
 rw [wU8 (by omega)]
 rw [aOT (by omega)] at hc hw
 simp only [List.length_cons] at hw
 refine x5 (sG (fun _=>sT fun u hu=>sT fun y hy=>sG (fun _=>sT fun w hw'=>sG (fun _=>sN ?_) (by unfold bS; omega)) ?_) ⟨by omega,by omega⟩)
 ·
  rw [hw',hy,hu,← hc,Int.toNat_natCast]
 rw [hy]; simp; omega
theorem wI {c xs:List UInt8} {n:Int} (h:bS n) (a:Wr c (encI n++xs)):Ok (Sh.eT ⟨c⟩ [n]) fun q=>q=⟨c++encI n⟩:=by
 have e:[n].flatMap encI=encI n:=by simp
 rw [← e] at a ⊢
 exact wIs (by simpa using h) (by simp) a
theorem wTs {c xs:List UInt8} {l:List (List UInt8)} (hl:l.length≤6000) (a:Wr c (l.flatMap tJ++xs)):Ok (Sh.gD ⟨c⟩ l) fun q=>q=⟨c++l.flatMap tJ⟩:=by
 unfold Sh.gD
 refine wl l a (fun k z k0 hk hz zm c ys a => ?_) fun a=>by dsimp only; rw [if_neg (by omega)]; exact x5 (sS rfl)
 dsimp only
 rw [if_pos hk]
 simp only [tJ,List.append_assoc] at a
 refine aB k0 hz (sT fun y hy => ?_)
 subst hy
 have hz:z.length≤4200000000:=by unfold Wr at a; simp only [List.length_append] at a; omega
 refine wB a (wI (by unfold bS; omega)) fun a=>sG (fun _=>sT fun w hw=>sG (fun _=>sN ?_) (by unfold bS; omega)) ?_
 ·
  rw [hw]; simp [tJ]
 unfold Wr at a; simp only [List.length_append] at a ⊢; omega
end Go.S
end

section
set_option maxRecDepth 100000
set_option maxHeartbeats 1000000
namespace Go.S
open Go
theorem bAS {d:bB} {z:aC} {xs:List UInt8} {r:aW} {l:List (aC)} (h:vF z) (hl:l.length≤4000000000) (a:oO d (DB z++xs)):Ok (Sh.sY l r d) fun q=>q.1=l++[z]∧oO q.2 xs:=by
 unfold Sh.sY
 simp only [DB,List.append_assoc] at a
 exact rB (rT a) fun d a=>rB (rI h.2.1 a) fun d a=>rB (rT a) fun d a=>sT fun y hy=>sG (fun _=>sT fun w hw=>sS ⟨by subst hw hy; rfl,a⟩) (by subst hy; simp; omega)
theorem bAP {d:bB} {z:aH} {xs:List UInt8} {r:aW} {l:List (aH)} (h:vE z) (hl:l.length≤4000000000) (a:oO d (HR z++xs)):Ok (Sh.nW l r d) fun q=>q.1=l++[z]∧oO q.2 xs:=by
 unfold Sh.nW
 simp only [HR,List.append_assoc] at a
 exact rB (rT a) fun d a=>rB (rI h.2.1 a) fun d a=>rB (rI h.2.2.1 a) fun d a=>rB (rT a) fun d a=>rB (rI h.2.2.2.2.1 a) fun d a=>rB (rI h.2.2.2.2.2 a) fun d a=>sT fun y hy=>sG (fun _=>sT fun w hw=>sS ⟨by subst hw hy; rfl,a⟩) (by subst hy; simp; omega)
theorem bB1 {d:bB} {z:bK} {xs:List UInt8} {r:aW} {l:List (bK)} (h:vS z) (hl:l.length≤4000000000) (a:oO d (HS z++xs)):Ok (Sh.pX l r d) fun q=>q.1=l++[z]∧oO q.2 xs:=by
 unfold Sh.pX
 simp only [HS,List.append_assoc] at a
 exact rB (rT a) fun d a=>rB (rI h.2.1 a) fun d a=>rB (rT a) fun d a=>sT fun y hy=>sG (fun _=>sT fun w hw=>sS ⟨by subst hw hy; rfl,a⟩) (by subst hy; simp; omega)
theorem bB2 {d:bB} {z:List UInt8} {xs:List UInt8} {r:aW} {l:List (List UInt8)} (h:(fun _=>True) z) (hl:l.length≤4000000000) (a:oO d (tJ z++xs)):Ok (Sh.pY l r d) fun q=>q.1=l++[z]∧oO q.2 xs:=by
 unfold Sh.pY
 exact rB (rT a) fun d a=>sT fun y hy=>sG (fun _=>sT fun w hw=>sS ⟨by subst hw hy; rfl,a⟩) (by subst hy; simp; omega)
theorem bAc {d:bB} {z:Int} {xs:List UInt8} {r:aW} {l:List (Int)} (h:bS z) (hl:l.length≤4000000000) (a:oO d (encI z++xs)):Ok (Sh.nX l r d) fun q=>q.1=l++[z]∧oO q.2 xs:=by
 unfold Sh.nX
 exact rB (rI h a) fun d a=>sT fun y hy=>sG (fun _=>sT fun w hw=>sS ⟨by subst hw hy; rfl,a⟩) (by subst hy; simp; omega)
theorem a7I {d:bB} {l:List (aC)} {xs:List UInt8} (h : ∀ z∈l,vF z) (hl:l.length≤6000) (a:oO d (kM DB l++xs)):Ok (Sh.tX ⟨false⟩ d []) fun q=>q.2.2=l∧oO q.1 xs∧q.2.1=⟨false⟩:=by
 unfold Sh.tX
 simp only [kM,List.append_assoc] at a
 refine rB (rI (by unfold bS; omega) a) fun d a=>sJ (fun b=>b=false) (fun b e => ?_) fun k hk => ?_
 ·
  subst e
  exact rl l (fun i d m=>(i,d,m)) (·.1) (fun _ _ _=>rfl) a (fun k z hk hz d ys a=>by dsimp only; rw [if_pos (by omega)]; exact rE a (by rw [if_pos (show cR.nil.isNil=true from rfl)]; exact rB (bAS (h z hz) (by simp; omega) a) fun d a=>sG (fun _=>sN ⟨d,a,rfl⟩) (by unfold bS; omega))) (fun d a=>by dsimp only; rw [if_neg (by omega)]; exact x5 (sS ⟨rfl,a,rfl⟩))
 rw [if_neg (by simp)]; exact hk _ (by simp)
theorem aF1 {d:bB} {l:List (aC)} {xs:List UInt8} (h : ∀ z∈l,vF z) (hl:l.length≤6000) (a:oO d (kM DB l++xs)):Ok (Sh.mD ⟨false⟩ d) fun q=>q.1=l∧oO q.2.1 xs∧q.2.2=⟨false⟩:=by
 unfold Sh.mD
 exact rB4 (a7I h hl a) fun d a=>sB (fun y hy=>sS ⟨hy,a,rfl⟩) trivial
theorem a7D {d:bB} {l:List (aH)} {xs:List UInt8} (h : ∀ z∈l,vE z) (hl:l.length≤6000) (a:oO d (kM HR l++xs)):Ok (Sh.pQ ⟨false⟩ d []) fun q=>q.2.2=l∧oO q.1 xs∧q.2.1=⟨false⟩:=by
 unfold Sh.pQ
 simp only [kM,List.append_assoc] at a
 refine rB (rI (by unfold bS; omega) a) fun d a=>sJ (fun b=>b=false) (fun b e => ?_) fun k hk => ?_
 ·
  subst e
  exact rl l (fun i d m=>(i,d,m)) (·.1) (fun _ _ _=>rfl) a (fun k z hk hz d ys a=>by dsimp only; rw [if_pos (by omega)]; exact rE a (by rw [if_pos (show cR.nil.isNil=true from rfl)]; exact rB (bAP (h z hz) (by simp; omega) a) fun d a=>sG (fun _=>sN ⟨d,a,rfl⟩) (by unfold bS; omega))) (fun d a=>by dsimp only; rw [if_neg (by omega)]; exact x5 (sS ⟨rfl,a,rfl⟩))
 rw [if_neg (by simp)]; exact hk _ (by simp)
theorem aUy {d:bB} {l:List (aH)} {xs:List UInt8} (h : ∀ z∈l,vE z) (hl:l.length≤6000) (a:oO d (kM HR l++xs)):Ok (Sh.nH ⟨false⟩ d) fun q=>q.1=l∧oO q.2.1 xs∧q.2.2=⟨false⟩:=by
 unfold Sh.nH
 exact rB4 (a7D h hl a) fun d a=>sB (fun y hy=>sS ⟨hy,a,rfl⟩) trivial
theorem a82 {d:bB} {l:List (bK)} {xs:List UInt8} (h : ∀ z∈l,vS z) (hl:l.length≤6000) (a:oO d (kM HS l++xs)):Ok (Sh.pS ⟨false⟩ d []) fun q=>q.2.2=l∧oO q.1 xs∧q.2.1=⟨false⟩:=by
 unfold Sh.pS
 simp only [kM,List.append_assoc] at a
 refine rB (rI (by unfold bS; omega) a) fun d a=>sJ (fun b=>b=false) (fun b e => ?_) fun k hk => ?_
 ·
  subst e
  exact rl l (fun i d m=>(i,d,m)) (·.1) (fun _ _ _=>rfl) a (fun k z hk hz d ys a=>by dsimp only; rw [if_pos (by omega)]; exact rE a (by rw [if_pos (show cR.nil.isNil=true from rfl)]; exact rB (bB1 (h z hz) (by simp; omega) a) fun d a=>sG (fun _=>sN ⟨d,a,rfl⟩) (by unfold bS; omega))) (fun d a=>by dsimp only; rw [if_neg (by omega)]; exact x5 (sS ⟨rfl,a,rfl⟩))
 rw [if_neg (by simp)]; exact hk _ (by simp)
theorem aYg {d:bB} {l:List (bK)} {xs:List UInt8} (h : ∀ z∈l,vS z) (hl:l.length≤6000) (a:oO d (kM HS l++xs)):Ok (Sh.o7 ⟨false⟩ d) fun q=>q.1=l∧oO q.2.1 xs∧q.2.2=⟨false⟩:=by
 unfold Sh.o7
 exact rB4 (a82 h hl a) fun d a=>sB (fun y hy=>sS ⟨hy,a,rfl⟩) trivial
theorem a86 {d:bB} {l:List (List UInt8)} {xs:List UInt8} (h : ∀ z∈l,(fun _=>True) z) (hl:l.length≤6000) (a:oO d (kM tJ l++xs)):Ok (Sh.nJ ⟨false⟩ d []) fun q=>q.2.2=l∧oO q.1 xs∧q.2.1=⟨false⟩:=by
 unfold Sh.nJ
 simp only [kM,List.append_assoc] at a
 refine rB (rI (by unfold bS; omega) a) fun d a=>sJ (fun b=>b=false) (fun b e => ?_) fun k hk => ?_
 ·
  subst e
  exact rl l (fun i d m=>(i,d,m)) (·.1) (fun _ _ _=>rfl) a (fun k z hk hz d ys a=>by dsimp only; rw [if_pos (by omega)]; exact rE a (by rw [if_pos (show cR.nil.isNil=true from rfl)]; exact rB (bB2 (h z hz) (by simp; omega) a) fun d a=>sG (fun _=>sN ⟨d,a,rfl⟩) (by unfold bS; omega))) (fun d a=>by dsimp only; rw [if_neg (by omega)]; exact x5 (sS ⟨rfl,a,rfl⟩))
 rw [if_neg (by simp)]; exact hk _ (by simp)
theorem aYn {d:bB} {l:List (List UInt8)} {xs:List UInt8} (h : ∀ z∈l,(fun _=>True) z) (hl:l.length≤6000) (a:oO d (kM tJ l++xs)):Ok (Sh.o8 ⟨false⟩ d) fun q=>q.1=l∧oO q.2.1 xs∧q.2.2=⟨false⟩:=by
 unfold Sh.o8
 exact rB4 (a86 h hl a) fun d a=>sB (fun y hy=>sS ⟨hy,a,rfl⟩) trivial
theorem a7k {d:bB} {l:List (Int)} {xs:List UInt8} (h : ∀ z∈l,bS z) (hl:l.length≤6000) (a:oO d (kM encI l++xs)):Ok (Sh.pU ⟨false⟩ d []) fun q=>q.2.2=l∧oO q.1 xs∧q.2.1=⟨false⟩:=by
 unfold Sh.pU
 simp only [kM,List.append_assoc] at a
 refine rB (rI (by unfold bS; omega) a) fun d a=>sJ (fun b=>b=false) (fun b e => ?_) fun k hk => ?_
 ·
  subst e
  exact rl l (fun i d m=>(i,d,m)) (·.1) (fun _ _ _=>rfl) a (fun k z hk hz d ys a=>by dsimp only; rw [if_pos (by omega)]; exact rE a (by rw [if_pos (show cR.nil.isNil=true from rfl)]; exact rB (bAc (h z hz) (by simp; omega) a) fun d a=>sG (fun _=>sN ⟨d,a,rfl⟩) (by unfold bS; omega))) (fun d a=>by dsimp only; rw [if_neg (by omega)]; exact x5 (sS ⟨rfl,a,rfl⟩))
 rw [if_neg (by simp)]; exact hk _ (by simp)
theorem a7j {d:bB} {l:List (Int)} {xs:List UInt8} (h : ∀ z∈l,bS z) (hl:l.length≤6000) (a:oO d (kM encI l++xs)):Ok (Sh.pV ⟨false⟩ d) fun q=>q.1=l∧oO q.2.1 xs∧q.2.2=⟨false⟩:=by
 unfold Sh.pV
 exact rB4 (a7k h hl a) fun d a=>sB (fun y hy=>sS ⟨hy,a,rfl⟩) trivial
theorem a62 {d:bB} {x:mM} {xs:List UInt8} {r:aW} (h:bS x.cC) (a:oO d (SE x++xs)):Ok (Sh.qP r d) fun q=>q.1=x∧oO q.2 xs:=by
 unfold Sh.qP
 simp only [SE,List.append_assoc] at a
 exact rB (rT a) fun d a=>rB (rI h a) fun d a=>sS ⟨rfl,a⟩
theorem bBK {d:bB} {z:cY} {xs:List UInt8} {b:aW} {r:eH} {l:List (cY)} (h:vRf z) (hl:l.length≤4000000000) (a:oO d (PS z++xs)):Ok (Sh.sW ⟨r.work,r.index,l,r.cB,r.cA,r.fE,r.eM,r.fF,r.cZ,r.eA,r.eX,r.dM,r.bW,r.bX,r.dB,r.eC,r.gB⟩ b d) fun q=>q.1=⟨r.work,r.index,l++[z],r.cB,r.cA,r.fE,r.eM,r.fF,r.cZ,r.eA,r.eX,r.dM,r.bW,r.bX,r.dB,r.eC,r.gB⟩∧oO q.2 xs:=by
 unfold Sh.sW
 simp only [PS,List.append_assoc] at a
 exact rB (rT a) fun d a=>rB (rI h.2 a) fun d a=>sT fun y hy=>sG (fun _=>sT fun w hw=>sS ⟨by subst hw hy; rfl,a⟩) (by subst hy; simp; omega)
theorem a7z {d:bB} {l:List (cY)} {xs:List UInt8} {r:eH} (h : ∀ z∈l,vRf z) (hl:l.length≤6000) (a:oO d (kM PS l++xs)):Ok (Sh.pR ⟨false⟩ d ⟨r.work,r.index,[],r.cB,r.cA,r.fE,r.eM,r.fF,r.cZ,r.eA,r.eX,r.dM,r.bW,r.bX,r.dB,r.eC,r.gB⟩) fun q=>q.2.2=⟨r.work,r.index,l,r.cB,r.cA,r.fE,r.eM,r.fF,r.cZ,r.eA,r.eX,r.dM,r.bW,r.bX,r.dB,r.eC,r.gB⟩∧oO q.1 xs∧q.2.1=⟨false⟩:=by
 unfold Sh.pR
 simp only [kM,List.append_assoc] at a
 refine rB (rI (by unfold bS; omega) a) fun d a=>sJ (fun b=>b=false) (fun b e => ?_) fun k hk => ?_
 ·
  subst e
  exact rl l (fun i d m=>(i,d,r.work,r.index,m,r.cB,r.cA,r.fE,r.eM,r.fF,r.cZ,r.eA,r.eX,r.dM,r.bW,r.bX,r.dB,r.eC,r.gB)) (·.1) (fun _ _ _=>rfl) a (fun k z hk hz d ys a=>by dsimp only; rw [if_pos (by omega)]; exact rE a (by rw [if_pos (show cR.nil.isNil=true from rfl)]; exact rB (bBK (h z hz) (by simp; omega) a) fun d a=>sG (fun _=>sN ⟨d,a,rfl⟩) (by unfold bS; omega))) (fun d a=>by dsimp only; rw [if_neg (by omega)]; exact x5 (sS ⟨rfl,a,rfl⟩))
 rw [if_neg (by simp)]; exact hk _ (by simp)
theorem bBW {d:bB} {z:cM} {xs:List UInt8} {b:Unit} {r:eH} {l:List (cM)} (h:TC z) (hl:l.length≤4000000000) (a:oO d (PT z++xs)):Ok (Sh.sX ⟨r.work,r.index,r.refs,r.cB,r.cA,r.fE,r.eM,r.fF,r.cZ,r.eA,r.eX,r.dM,r.bW,r.bX,r.dB,r.eC,l⟩ ⟨false⟩ d) fun q=>q.1=⟨r.work,r.index,r.refs,r.cB,r.cA,r.fE,r.eM,r.fF,r.cZ,r.eA,r.eX,r.dM,r.bW,r.bX,r.dB,r.eC,l++[z]⟩∧oO q.2.1 xs∧q.2.2=⟨false⟩:=by
 unfold Sh.sX
 simp only [PT,List.append_assoc] at a
 exact rB (rI h.1 a) fun d a=>UH (aF1 h.2.1.2 (by have:=h.2.1.1; omega) a) fun d a=>UH (aF1 h.2.2.1.2 (by have:=h.2.2.1.1; omega) a) fun d a=>rB (rT a) fun d a=>sT fun y hy=>sG (fun _=>sT fun w hw=>sS ⟨by subst hw hy; rfl,a,rfl⟩) (by subst hy; simp; omega)
theorem a8Y {d:bB} {l:List (cM)} {xs:List UInt8} {r:eH} (h : ∀ z∈l,TC z) (hl:l.length≤6000) (a:oO d (kM PT l++xs)):Ok (Sh.pT ⟨false⟩ d ⟨r.work,r.index,r.refs,r.cB,r.cA,r.fE,r.eM,r.fF,r.cZ,r.eA,r.eX,r.dM,r.bW,r.bX,r.dB,r.eC,[]⟩) fun q=>q.2.2=⟨r.work,r.index,r.refs,r.cB,r.cA,r.fE,r.eM,r.fF,r.cZ,r.eA,r.eX,r.dM,r.bW,r.bX,r.dB,r.eC,l⟩∧oO q.1 xs∧q.2.1=⟨false⟩:=by
 unfold Sh.pT
 simp only [kM,List.append_assoc] at a
 refine rB (rI (by unfold bS; omega) a) fun d a=>sJ (fun b=>b=false) (fun b e => ?_) fun k hk => ?_
 ·
  subst e
  exact rl l (fun i d m=>(i,d,false,r.work,r.index,r.refs,r.cB,r.cA,r.fE,r.eM,r.fF,r.cZ,r.eA,r.eX,r.dM,r.bW,r.bX,r.dB,r.eC,m)) (·.1) (fun _ _ _=>rfl) a (fun k z hk hz d ys a=>by dsimp only; rw [if_pos (by omega)]; exact rE a (by rw [if_pos (show cR.nil.isNil=true from rfl)]; exact UH (bBW (b:=()) (h z hz) (by simp; omega) a) fun d a=>sG (fun _=>sN ⟨d,a,rfl⟩) (by unfold bS; omega))) (fun d a=>by dsimp only; rw [if_neg (by omega)]; exact x5 (sS ⟨rfl,a,rfl⟩))
 rw [if_neg (by simp)]; exact hk _ (by simp)
theorem bAN {d:bB} {z:fH} {xs:List UInt8} {b:Unit} {r:aF} {l:List (fH)} (h:Y0 z) (hl:l.length≤4000000000) (a:oO d (NJ z++xs)):Ok (Sh.pW ⟨r.aY,r.aU,r.bA,r.aI,r.aG,r.aS,r.aO,r.aT,r.aN,r.aP,r.aQ,r.aK,r.aD,r.aE,r.aL,r.aR,r.aX,l,r.bE,r.aZ,r.time⟩ ⟨false⟩ d) fun q=>q.1=⟨r.aY,r.aU,r.bA,r.aI,r.aG,r.aS,r.aO,r.aT,r.aN,r.aP,r.aQ,r.aK,r.aD,r.aE,r.aL,r.aR,r.aX,l++[z],r.bE,r.aZ,r.time⟩∧oO q.2.1 xs∧q.2.2=⟨false⟩:=by
 unfold Sh.pW
 simp only [NJ,List.append_assoc] at a
 exact UH (aF1 h.1.2 (by have:=h.1.1; omega) a) fun d a=>UH (a7j h.2.2.1 (by have:=h.2.1; omega) a) fun d a=>rB (rI h.2.2.2.1 a) fun d a=>rB (rT a) fun d a=>sT fun y hy=>sG (fun _=>sT fun w hw=>sS ⟨by subst hw hy; rfl,a,rfl⟩) (by subst hy; simp; omega)
theorem a7A {d:bB} {l:List (fH)} {xs:List UInt8} {r:aF} (h : ∀ z∈l,Y0 z) (hl:l.length≤6000) (a:oO d (kM NJ l++xs)):Ok (Sh.nI ⟨false⟩ d ⟨r.aY,r.aU,r.bA,r.aI,r.aG,r.aS,r.aO,r.aT,r.aN,r.aP,r.aQ,r.aK,r.aD,r.aE,r.aL,r.aR,r.aX,[],r.bE,r.aZ,r.time⟩) fun q=>q.2.2=⟨r.aY,r.aU,r.bA,r.aI,r.aG,r.aS,r.aO,r.aT,r.aN,r.aP,r.aQ,r.aK,r.aD,r.aE,r.aL,r.aR,r.aX,l,r.bE,r.aZ,r.time⟩∧oO q.1 xs∧q.2.1=⟨false⟩:=by
 unfold Sh.nI
 simp only [kM,List.append_assoc] at a
 refine rB (rI (by unfold bS; omega) a) fun d a=>sJ (fun b=>b=false) (fun b e => ?_) fun k hk => ?_
 ·
  subst e
  exact rl l (fun i d m=>(i,d,false,r.aY,r.aU,r.bA,r.aI,r.aG,r.aS,r.aO,r.aT,r.aN,r.aP,r.aQ,r.aK,r.aD,r.aE,r.aL,r.aR,r.aX,m,r.bE,r.aZ,r.time)) (·.1) (fun _ _ _=>rfl) a (fun k z hk hz d ys a=>by dsimp only; rw [if_pos (by omega)]; exact rE a (by rw [if_pos (show cR.nil.isNil=true from rfl)]; exact UH (bAN (b:=()) (h z hz) (by simp; omega) a) fun d a=>sG (fun _=>sN ⟨d,a,rfl⟩) (by unfold bS; omega))) (fun d a=>by dsimp only; rw [if_neg (by omega)]; exact x5 (sS ⟨rfl,a,rfl⟩))
 rw [if_neg (by simp)]; exact hk _ (by simp)
instance (l:List (cY)):Spec (Sh.jX l) (True) (fun r=>r=l):=⟨fun h=>by unfold Sh.jX; exact ZZ⟩
instance (l:List (fH)):Spec (Sh.fZ l) (True) (fun r=>r=l):=⟨fun h=>by unfold Sh.fZ; exact ZZ⟩
def fSq (x:mN):Prop:=bS x.other∧x.C9.length≤6000∧(∀ z∈x.C9,vS z)∧x.todo.length≤6000∧(∀ z∈x.todo,vS z)∧bS x.made∧bS x.cA∧x.index.length≤6000∧(∀ z∈x.index,vE z)∧x.work.length≤6000 ∧ ∀ z∈x.work,vF z
def fNo (n:eH):Prop:=(n.work.length≤6000 ∧ ∀ z∈n.work,vF z)∧(n.index.length≤6000 ∧ ∀ z∈n.index,vE z)∧(n.refs.length≤6000 ∧ ∀ z∈n.refs,vRf z)∧bS n.cA∧fSq ⟨n.fE,n.eM,n.fF,n.cZ,n.eA,n.eX,n.dM,n.bW,n.bX,n.dB,n.eC⟩∧n.gB.length≤6000 ∧ ∀ z∈n.gB,TC z
def aGG (s:aF):eH:=⟨s.aY,s.aU,s.bA,s.aI,s.aG,s.aS,s.aO,s.aT,s.aN,s.aP,s.aQ,s.aK,s.aD,s.aE,s.aL,s.aR,s.aX⟩
def fSS (s:aF):Prop:=fNo (aGG s)∧(s.bC.length≤6000 ∧ ∀ z∈s.bC,Y0 z)∧s.bE.length≤6000∧s.aZ.length≤6000∧bS s.time
theorem bBX {d:bB} {x:mN} {xs:List UInt8} (h:fSq x) (a:oO d (U2 x++xs)):Ok (Sh.vB ⟨false⟩ d) fun q=>q.1=x∧oO q.2.1 xs∧q.2.2=⟨false⟩:=by
 obtain ⟨h1,h2,h3,h4,h5,h6,h7,h8,h9,h10,h11⟩:=h
 unfold Sh.vB
 simp only [U2,List.append_assoc] at a
 exact rB (rT a) fun d a=>rB (rI h1 a) fun d a=>rB (rT a) fun d a=>UH (aYg h3 h2 a) fun d a=>UH (aYg h5 h4 a) fun d a=>rB (rI h6 a) fun d a=>rB (rT a) fun d a=>rB (a62 h7 a) fun d a=>UH (aUy h9 h8 a) fun d a=>UH (aF1 h11 h10 a) fun d a=>sS ⟨rfl,a,rfl⟩
theorem a68 {d:bB} {n:eH} {xs:List UInt8} (h:fNo n) (a:oO d (GI n++xs)):Ok (Sh.nP ⟨false⟩ d) fun q=>q.1=n∧oO q.2.1 xs∧q.2.2=⟨false⟩:=by
 obtain ⟨h1,h2,h3,h4,h5,h6⟩:=h
 unfold Sh.nP
 simp only [GI,List.append_assoc] at a
 refine sJ0 (UH (aF1 h1.2 h1.1 a) fun d a=>UH (aUy h2.2 h2.1 a) fun d a => ?_)
 exact rB4 (a7z (r:=⟨n.work,n.index,[],[],0,[],0,[],[],[],0,[],[],0,[],[],[]⟩) h3.2 h3.1 a) fun d a=>rB (a62 (x:=⟨n.cB,n.cA⟩) h4 a) fun d a=>UH (bBX h5 a) fun d a=>rB4 (a8Y (r:=⟨n.work,n.index,n.refs,n.cB,n.cA,n.fE,n.eM,n.fF,n.cZ,n.eA,n.eX,n.dM,n.bW,n.bX,n.dB,n.eC,[]⟩) h6.2 h6.1 a) fun d a=>sB (fun y hy=>sB (fun w hw=>sS ⟨by subst hy hw; rfl,a,rfl⟩) trivial) trivial
theorem bBZ {d:bB} {s:aF} {xs:List UInt8} (h:fSS s) (a:oO d (JE s++xs)):Ok (Sh.sZ ⟨false⟩ d) fun q=>q.1=s∧oO q.2.1 xs∧q.2.2=⟨false⟩:=by
 obtain ⟨h1,h2,h3,h4,h5⟩:=h
 unfold Sh.sZ
 simp only [JE,List.append_assoc] at a
 exact UH (a68 h1 a) fun d a=>rB4 (a7A (r:=⟨s.aY,s.aU,s.bA,s.aI,s.aG,s.aS,s.aO,s.aT,s.aN,s.aP,s.aQ,s.aK,s.aD,s.aE,s.aL,s.aR,s.aX,[],[],[],0⟩) h2.2 h2.1 a) fun d a=>sB (fun y hy=>UH (aYn (fun _ _=>trivial) h3 a) fun d a=>UH (aYn (fun _ _=>trivial) h4 a) fun d a=>rB (rI h5 a) fun d a=>sS ⟨by subst hy; rfl,a,rfl⟩) trivial
theorem a6a {b:List UInt8} (h:b.length≤4200000000):Ok (Sh.EH b) fun d=>oO d b:=by
 unfold Sh.EH Sh.kV
 rw [vU]
 exact sT fun y hy=>sG (fun _=>sT fun w hw=>sS (sS (by subst hy hw; exact ⟨rfl,by simp,by simp,by simp,by simpa using h⟩))) (by subst hy; simp; omega)
theorem aUx {d:bB} (a:oO d []):Ok (Sh.pJ ⟨false⟩ d) fun e=>e = .nil:=by
 obtain ⟨h1,h2,h3,h4,h5⟩:=a
 have h6:(d.b.length:Int)=d.at_:=by have:=List.drop_eq_nil_iff.1 h4; omega
 unfold Sh.pJ Sh.jT Sh.B2
 rw [h1]
 refine sB (fun e he => ?_) trivial
 subst he
 rw [if_pos (show cR.nil.isNil=true from rfl)]
 refine sJ (fun b=>b=false) (fun b e=>by subst e; exact sS rfl) fun k hk => ?_
 rw [if_neg (by simp),if_pos (show cR.nil.isNil=true from rfl),vU]
 exact sG (fun _=>sS (hk _ (by simp; omega))) (by unfold bS; omega)
theorem aUF {n:eH} (h:fNo n) (hl:(GI n).length≤4200000000):Ok (Sh.mZ (GI n)) fun q=>q=(n,.nil):=by
 unfold Sh.mZ
 refine sG (fun _=>sT fun y hy => ?_) (by omega)
 subst hy
 rw [vU]
 refine (a6a hl).mono fun d a=>UH (a68 h (by rw [List.append_nil]; exact a)) fun d a => ?_
 rw [vU]
 refine (aUx a).mono fun e he => ?_
 subst he
 rw [if_pos (show cR.nil.isNil=true from rfl)]
 exact sS rfl
theorem aRj {s:aF} (h:fSS s) (hl:(JE s).length≤4200000000):Ok (Sh.CN (JE s)) fun q=>q=(s,.nil):=by
 unfold Sh.CN
 rw [vU]
 refine (a6a hl).mono fun d a=>UH (bBZ h (by rw [List.append_nil]; exact a)) fun d a => ?_
 rw [vU]
 refine (aUx a).mono fun e he => ?_
 subst he
 rw [if_pos (show cR.nil.isNil=true from rfl)]
 exact sS rfl
end Go.S
end

section
set_option maxRecDepth 100000
set_option maxHeartbeats 1000000
namespace Go.S
open Go
section
variable {β:Type} {Q:β→Prop} {c xs s:List UInt8} {n m:Int} {f:eB→Option β}
theorem WQ (h:bS n) (a:Wr c (encI n++xs)) (k:Wr (c++encI n) xs→Ok (f ⟨c++encI n⟩) Q):Ok (lt [n] fun y=>(Sh.eT ⟨c⟩ y).bind f) Q:=sT fun y e=>by subst e; exact wB a (wI h) k
theorem wBT (a:Wr c (tJ s++xs)) (k:Wr (c++tJ s) xs→Ok (f ⟨c++tJ s⟩) Q):Ok (lt [s] fun y=>(Sh.gD ⟨c⟩ y).bind f) Q:=sT fun y e=>by
  subst e
  have e:[s].flatMap tJ=tJ s:=by simp
  exact wB a (fun a=>by rw [← e] at a ⊢; exact wTs (by simp) a) k
theorem wBJ (h:bS n) (g:bS m) (a:Wr c (encI n++(encI m++xs))) (k:Wr (c++(encI n++encI m)) xs→Ok (f ⟨c++(encI n++encI m)⟩) Q):Ok (lt [n,m] fun y=>(Sh.eT ⟨c⟩ y).bind f) Q:=sT fun y e=>by
  subst e
  have e:[n,m].flatMap encI=encI n++encI m:=by simp
  rw [← List.append_assoc] at a
  exact wB a (fun a=>by rw [← e] at a ⊢; exact wIs (by simp [h,g]) (by simp) a) k
end
theorem aF2 {c xs:List UInt8} {l:List (aC)} (h : ∀ z∈l,vF z) (hl:l.length≤6000) (a:Wr c (kM DB l++xs)):Ok (Sh.lG ⟨c⟩ l) fun q=>q=⟨c++kM DB l⟩:=by
 unfold Sh.lG
 simp only [kM,List.append_assoc] at a
 exact WQ (by unfold bS; omega) a fun a=>wl l a (fun k z k0 hk hz zm c ys a=>by
   have h:=h z zm
   simp only [DB,List.append_assoc] at a
   dsimp only; rw [if_pos hk]
   exact aB k0 hz (wBT a fun a=>WQ h.2.1 a fun a=>wBT a fun a =>  sG (fun _=>sN (by simp [DB])) (by unfold bS; omega))) fun a=>by dsimp only; rw [if_neg (by omega)]; exact x5 (sS (by simp [kM]))
theorem aUz {c xs:List UInt8} {l:List (aH)} (h : ∀ z∈l,vE z) (hl:l.length≤6000) (a:Wr c (kM HR l++xs)):Ok (Sh.nK ⟨c⟩ l) fun q=>q=⟨c++kM HR l⟩:=by
 unfold Sh.nK
 simp only [kM,List.append_assoc] at a
 exact WQ (by unfold bS; omega) a fun a=>wl l a (fun k z k0 hk hz zm c ys a=>by
   have h:=h z zm
   simp only [HR,List.append_assoc] at a
   dsimp only; rw [if_pos hk]
   exact aB k0 hz (wBT a fun a=>wBJ h.2.1 h.2.2.1 a fun a=>wBT a fun a=>wBJ h.2.2.2.2.1 h.2.2.2.2.2 a fun a =>  sG (fun _=>sN (by simp [HR])) (by unfold bS; omega))) fun a=>by dsimp only; rw [if_neg (by omega)]; exact x5 (sS (by simp [kM]))
theorem aYh {c xs:List UInt8} {l:List (bK)} (h : ∀ z∈l,vS z) (hl:l.length≤6000) (a:Wr c (kM HS l++xs)):Ok (Sh.o9 ⟨c⟩ l) fun q=>q=⟨c++kM HS l⟩:=by
 unfold Sh.o9
 simp only [kM,List.append_assoc] at a
 exact WQ (by unfold bS; omega) a fun a=>wl l a (fun k z k0 hk hz zm c ys a=>by
   have h:=h z zm
   simp only [HS,List.append_assoc] at a
   dsimp only; rw [if_pos hk]
   exact aB k0 hz (wBT a fun a=>WQ h.2.1 a fun a=>wBT a fun a =>  sG (fun _=>sN (by simp [HS])) (by unfold bS; omega))) fun a=>by dsimp only; rw [if_neg (by omega)]; exact x5 (sS (by simp [kM]))
theorem aI9 {α:Type} (enc:α→List UInt8) (l:List α):kM enc l=encI l.length++l.flatMap enc:=rfl
theorem a65 {c xs:List UInt8} {x:mM} (h:bS x.cC) (a:Wr c (SE x++xs)):Ok (Sh.qQ ⟨c⟩ x) fun q=>q=⟨c++SE x⟩:=by
 unfold Sh.qQ
 simp only [SE,List.append_assoc] at a
 exact wBT a fun a=>WQ h a fun a=>sS (by simp [SE])
theorem aYo {c xs:List UInt8} {l:List (List UInt8)} (hl:l.length≤6000) (a:Wr c (kM tJ l++xs)):Ok (Sh.nD ⟨c⟩ l) fun q=>q=⟨c++kM tJ l⟩:=by
 unfold Sh.nD
 simp only [kM,List.append_assoc] at a
 exact WQ (by unfold bS; omega) a fun a=>wB a (wTs hl) fun a=>sS (by simp [kM])
theorem bBY {c xs:List UInt8} {x:mN} (h:fSq x) (a:Wr c (U2 x++xs)):Ok (Sh.vG ⟨c⟩ x) fun q=>q=⟨c++U2 x⟩:=by
 obtain ⟨h1,h2,h3,h4,h5,h6,h7,h8,h9,h10,h11⟩:=h
 unfold Sh.vG
 simp only [U2,List.append_assoc] at a
 exact wBT a fun a=>WQ h1 a fun a=>wBT a fun a=>wB a (aYh h3 h2) fun a=>wB a (aYh h5 h4) fun a=>WQ h6 a fun a=>wBT a fun a=>wB a (a65 h7) fun a=>wB a (aUz h9 h8) fun a=>wB a (aF2 h11 h10) fun a=>sS (by simp [U2])
theorem a69 {c xs:List UInt8} {n:eH} (h:fNo n) (a:Wr c (GI n++xs)):Ok (Sh.nQ ⟨c⟩ n) fun q=>q=⟨c++GI n⟩:=by
 obtain ⟨h1,h2,h3,h4,h5,h6⟩:=h
 have r1:=h3.1
 have s1:=h6.1
 unfold Sh.nQ
 simp only [GI,aI9 PS,aI9 PT,List.append_assoc] at a
 exact wB a (aF2 h1.2 h1.1) fun a=>wB a (aUz h2.2 h2.1) fun a=>WQ (by unfold bS; omega) a fun a=>wl n.refs a (fun k z k0 hk hz zm c ys a=>by
   have h:=h3.2 z zm
   simp only [PS,List.append_assoc] at a
   dsimp only; rw [if_pos hk]
   exact aB k0 hz (wBT a fun a=>WQ h.2 a fun a=>sG (fun _=>sN (by simp [PS])) (by unfold bS; omega))) fun a=>by
     dsimp only; rw [if_neg (by omega)]
     refine x5 (wB a (a65 h4) fun a=>wB a (bBY h5) fun a=>WQ (by unfold bS; omega) a fun a=>wl n.gB a (fun k z k0 hk hz zm c ys a => ?_) fun a => ?_)
     . have h:=h6.2 z zm
       simp only [PT,List.append_assoc] at a
       dsimp only; rw [if_pos hk]
       exact aB k0 hz (WQ h.1 a fun a=>wB a (aF2 h.2.1.2 (by have:=h.2.1.1; omega)) fun a=>wB a (aF2 h.2.2.1.2 (by have:=h.2.2.1.1; omega)) fun a=>wBT a fun a=>sG (fun _=>sN (by simp [PT])) (by unfold bS; omega))
     . dsimp only; rw [if_neg (by omega)]
       exact x5 (sS (by simp [GI,kM]))
theorem bB0 {c xs:List UInt8} {s:aF} (h:fSS s) (a:Wr c (JE s++xs)):Ok (Sh.s5 ⟨c⟩ s) fun q=>q=⟨c++JE s⟩:=by
 obtain ⟨h1,h2,h3,h4,h5⟩:=h
 have r1:=h2.1
 unfold Sh.s5
 simp only [JE,aI9 NJ,List.append_assoc] at a
 exact wB a (a69 h1) fun a=>WQ (by unfold bS; omega) a fun a=>wl s.bC a (fun k z k0 hk hz zm c ys a=>by
   have h:=h2.2 z zm
   simp only [NJ,aI9 encI,List.append_assoc] at a
   dsimp only; rw [if_pos hk]
   exact aB k0 hz (wB a (aF2 h.1.2 (by have:=h.1.1; omega)) fun a=>WQ (by have:=h.2.1; unfold bS; omega) a fun a=>wB a (wIs h.2.2.1 (by have:=h.2.1; omega)) fun a=>WQ h.2.2.2.1 a fun a=>wBT a fun a=>sG (fun _=>sN (by simp [NJ,kM])) (by unfold bS; omega))) fun a=>by
     dsimp only; rw [if_neg (by omega)]
     exact x5 (wB a (aYo h3) fun a=>wB a (aYo h4) fun a=>WQ h5 a fun a=>sS (by simp [JE,kM]))
instance (l:List UInt8):Spec (Sh.kV l) (l.length≤4200000000) (fun r=>r=l):=⟨fun h=>by unfold Sh.kV; exact ZZ⟩
instance (l:List UInt8):Spec (Sh.oT l) True (fun r=>r=l):=⟨fun h=>by unfold Sh.oT; exact ZZ⟩
theorem aKd {c:List UInt8} (h:c.length≤4200000000):Ok (Sh.qT ⟨c⟩) fun q=>q=c:=by
 unfold Sh.qT
 exact ZZ
theorem a2h {n:eH} (h:fNo n) (hl:(GI n).length≤4200000000):Ok (Sh.qZ n) fun q=>q=GI n:=by
 unfold Sh.qZ
 exact wB (xs:=[]) (by unfold Wr; simp; omega) (a69 h) fun a=>by rw [vU]; exact (aKd (by simpa using hl)).mono fun q hq=>sS (by simpa using hq)
theorem aRm {s:aF} (h:fSS s) (hl:(JE s).length≤4200000000):Ok (Sh.zH s) fun q=>q=JE s:=by
 unfold Sh.zH
 exact wB (xs:=[]) (by unfold Wr; simp; omega) (bB0 h) fun a=>by rw [vU]; exact (aKd (by simpa using hl)).mono fun q hq=>sS (by simpa using hq)
theorem aR6 {s:aF} (h:fSS s) (hl:(JE s).length≤4200000000):Ok (Sh.nB s) fun q=>q=s:=by
 unfold Sh.nB
 rw [vU]
 refine (aRm h hl).mono fun b hb => ?_
 subst hb
 rw [vU]
 refine (aRj h hl).mono fun q hq => ?_
 subst hq
 rw [if_pos (show cR.nil.isNil=true from rfl)]
 exact sS rfl
end Go.S
end

section
set_option maxRecDepth 100000
set_option maxHeartbeats 1000000
namespace Go.S
open Go
def vN (n:eH):Prop:=Rw n.work∧Ix 5300 n.index∧(∀ r∈n.refs,vRf r)∧n.cB.length≤300∧bS n.cA∧n.fE.length≤300∧bS n.eM∧n.fF.length≤600∧n.cZ.length≤32∧(∀ x∈n.cZ,vS x)∧n.eA.length≤32∧(∀ x∈n.eA,vS x)∧0≤n.eX∧n.dM.length≤300∧n.bW.length≤300∧bS n.bX∧Ix 64 n.dB∧Rw n.eC∧n.gB.length≤16 ∧ ∀ x∈n.gB,TC x
def zN (b:Nat) (n:eH):Prop:=vN n∧n.refs.length≤b∧n.eX≤b
def lJ (b:Nat) (t:List UInt8):Prop := ∃ n,t=GI n∧zN b n
def uJ (b:Nat) (s:aF):Prop:=xB s∧s.bA.length≤b∧s.aQ≤b
def gJ (b:Nat) (s:aF):Prop:=(∀ t∈s.bE,lJ b t) ∧ ∀ t∈s.aZ,lJ b t
theorem lJ.up {b b':Nat} {t:List UInt8} (h:lJ b t) (g:b≤b'):lJ b' t:=by
 obtain ⟨n,e,h1,h2,h3⟩:=h
 exact ⟨n,e,h1,by omega,by omega⟩
theorem gJ.up {b b':Nat} {s:aF} (h:gJ b s) (g:b≤b'):gJ b' s:=⟨fun t m=>(h.1 t m).up g,fun t m=>(h.2 t m).up g⟩
theorem XY {b:Nat} {s:aF} (h:uJ b s):zN b (aGG s):=by
 unfold uJ xB zN vN aGG at *
 grind
theorem aQV : ∀ (k u:Nat),1≤k→u < 128 ^ k→(vu u).length≤k
  | k,u,hk,h=>by
    by_cases h1:u < 128
    . rw [aOT h1]; simpa using hk
    . rw [aOS h1]
      match k,hk with
      | k+1,_ =>
        have hk1:1≤k:=by
          rcases Nat.eq_zero_or_pos k with q | q
          . subst q; simp at h; omega
          . exact q
        have:=aQV k (u / 128) hk1 (by rw [Nat.pow_succ] at h; omega)
        simp; omega
  termination_by k=>k
theorem qU {n:Int} (h:bS n):(encI n).length≤10:=aQV 10 _ (by decide) (by have:=aCY h; omega)
theorem tN {s:List UInt8} {m:Nat} (h:s.length≤m) (hm:m≤4000000000):(tJ s).length≤10+m:=by
 have:=qU (n:=s.length) (by unfold bS; omega)
 unfold tJ; simp only [List.length_append]; omega
theorem CE {α:Type} {enc:α→List UInt8} {l:List α} {m n:Nat} (h : ∀ z∈l,(enc z).length≤m) (hl:l.length≤n) (hn:n≤4000000000):(kM enc l).length≤10+n*m:=by
 have h1:=qU (n:=l.length) (by unfold bS; omega)
 have h2:(l.flatMap enc).length≤l.length*m:=by
   clear h1 hl
   induction l with
   | nil=>simp
   | cons x r ih =>
     have a:=ih fun z hz=>h z (List.mem_cons_of_mem _ hz)
     have b:=h x List.mem_cons_self
     rw [List.flatMap_cons,List.length_append,List.length_cons,Nat.succ_mul]
     omega
 have h3:l.length*m≤n*m:=Nat.mul_le_mul_right m hl
 unfold kM; simp only [List.length_append]; omega
theorem a1W {x:aC} (h:vF x):(DB x).length≤4190:=by
 have a:=tN h.1 (by decide); have b:=qU h.2.1; have c:=tN h.2.2 (by decide)
 unfold DB; simp only [List.length_append]; omega
theorem aPG {x:aH} (h:vE x):(HR x).length≤4220:=by
 obtain ⟨h1,h2,h3,h4,h5,h6⟩:=h
 have a:=tN h1 (by decide); have b:=qU h2; have c:=qU h3; have d:=tN h4 (by decide); have e:=qU h5; have f:=qU h6
 unfold HR; simp only [List.length_append]; omega
theorem a3S {x:cY} (h:vRf x):(PS x).length≤320:=by
 have a:=tN h.1 (by decide); have b:=qU h.2
 unfold PS; simp only [List.length_append]; omega
theorem aQN {x:bK} (h:vS x):(HS x).length≤630:=by
 have a:=tN h.1 (by decide); have b:=qU h.2.1; have c:=tN h.2.2 (by decide)
 unfold HS; simp only [List.length_append]; omega
theorem aBp {l:List aC} (h:Rw l):(kM DB l).length≤268170:=CE (enc:=DB) (m:=4190) (n:=64) (fun z hz=>a1W (h.2 z hz)) h.1 (by decide)
theorem a3s {x:cM} (h:TC x):(PT x).length≤536660:=by
 have a:=qU h.1; have b:=aBp h.2.1; have c:=aBp h.2.2.1; have d:=tN h.2.2.2 (by decide)
 unfold PT; simp only [List.length_append]; omega
theorem a08 {x:fH} (h:Y0 x):(NJ x).length≤268900:=by
 obtain ⟨h1,h2,h3,h4,h5⟩:=h
 have a:=aBp h1; have b:=CE (enc:=encI) (m:=10) (n:=2) (fun z hz=>qU (h3 z hz)) h2 (by decide); have c:=qU h4; have d:=tN h5 (by decide)
 unfold NJ; simp only [List.length_append]; omega
theorem aE7 {b:Nat} {n:eH} (hb:b≤3200) (h:zN b n):(GI n).length≤33000000:=by
 obtain ⟨⟨h1,h2,h3,h4,h5,h6,h7,h8,h9,h10,h11,h12,h13,h14,h15,h16,h17,h18,h19,h20⟩,h21,h22⟩:=h
 have a1:=aBp h1
 have a2:=CE (enc:=HR) (m:=4220) (n:=5300) (fun z hz=>aPG (h2.2 z hz)) h2.1 (by decide)
 have a3:=CE (enc:=PS) (m:=320) (n:=3200) (fun z hz=>a3S (h3 z hz)) (by omega) (by decide)
 have a4:=tN h4 (by decide); have a5:=qU h5; have a6:=tN h6 (by decide); have a7:=qU h7; have a8:=tN h8 (by decide)
 have a9:=CE (enc:=HS) (m:=630) (n:=32) (fun z hz=>aQN (h10 z hz)) h9 (by decide)
 have a10:=CE (enc:=HS) (m:=630) (n:=32) (fun z hz=>aQN (h12 z hz)) h11 (by decide)
 have a11:=qU (n:=n.eX) (by unfold bS; omega)
 have a12:=tN h14 (by decide); have a13:=tN h15 (by decide); have a14:=qU h16
 have a15:=CE (enc:=HR) (m:=4220) (n:=64) (fun z hz=>aPG (h17.2 z hz)) h17.1 (by decide)
 have a16:=aBp h18
 have a17:=CE (enc:=PT) (m:=536660) (n:=16) (fun z hz=>a3s (h20 z hz)) h19 (by decide)
 unfold GI U2 SE
 simp only [List.length_append]
 omega
theorem aND {b:Nat} {n:eH} (hb:b≤3200) (h:zN b n):fNo n:=by
 obtain ⟨⟨h1,h2,h3,h4,h5,h6,h7,h8,h9,h10,h11,h12,h13,h14,h15,h16,h17,h18,h19,h20⟩,h21,h22⟩:=h
 exact ⟨⟨by have:=h1.1; omega,h1.2⟩,⟨by have:=h2.1; omega,h2.2⟩,⟨by omega,h3⟩,h5,⟨h7,by dsimp only; omega,h10,by dsimp only; omega,h12,by unfold bS; dsimp only; omega,h16,by have:=h17.1; dsimp only; omega,h17.2,by have:=h18.1; dsimp only; omega,h18.2⟩,by omega,h20⟩
theorem bB3 {b:Nat} {s:aF} (hb:b≤3200) (h:uJ b s):fSS s:=by
 have a:=aND hb (XY h)
 have h:=h.1
 unfold xB at h
 exact ⟨a,⟨by omega,by grind⟩,by omega,by omega,by grind⟩
theorem aPd {b:Nat} {l:List (List UInt8)} {k:Nat} (hb:b≤3200) (h : ∀ t∈l,lJ b t) (hl:l.length≤k) (hk:k≤64):(kM tJ l).length≤10+k*33000010 :=
  CE (fun t ht=>by obtain ⟨n,e,hn⟩:=h t ht; subst e; exact tN (aE7 hb hn) (by decide)) hl (by omega)
theorem a3u {b:Nat} {s:aF} (hb:b≤3200) (h:uJ b s) (g:gJ b s):(JE s).length≤4200000000:=by
 have a:=aE7 hb (XY h)
 have h:=h.1
 unfold xB at h
 have c1:s.bC.length≤1024:=by omega
 have c2 : ∀ c∈s.bC,Y0 c:=by grind
 have c3:=CE (enc:=NJ) (m:=268900) (n:=1024) (fun z hz=>a08 (c2 z hz)) c1 (by decide)
 have l1:=aPd hb g.1 (Nat.le_refl _) (by omega)
 have l2:=aPd hb g.2 (Nat.le_refl _) (by omega)
 have t:=qU (n:=s.time) (by grind)
 have l3:s.bE.length*33000010+s.aZ.length*33000010≤64*33000010:=by rw [← Nat.add_mul]; exact Nat.mul_le_mul_right _ (by omega)
 have e:JE s=GI (aGG s)++(kM NJ s.bC++(kM tJ s.bE++(kM tJ s.aZ++encI s.time))):=rfl
 rw [e]
 simp only [List.length_append]
 omega
theorem aJ1 {b:Nat} {s:aF} (hb:b≤3200) (h:uJ b s) (g:gJ b s):Ok (Sh.nB s) fun q=>q=s:=aR6 (bB3 hb h) (a3u hb h g)
theorem aOQ {b:Nat} {s:aF} (hb:b≤3200) (h:uJ b s):Ok (Sh.qZ (aGG s)) fun q=>lJ b q:=(a2h (aND hb (XY h)) (by have:=aE7 hb (XY h); omega)).mono fun q e=>⟨_,e,XY h⟩
theorem aGh {b:Nat} {t:List UInt8} (hb:b≤3200) (h:lJ b t):Ok (Sh.mZ t) fun q=>zN b q.1∧q.2 = .nil:=by
 obtain ⟨n,rfl,h⟩:=h
 exact (aUF (aND hb h) (by have:=aE7 hb h; omega)).mono fun q e=>by subst e; exact ⟨h,rfl⟩
end Go.S
end

section
set_option maxRecDepth 100000
set_option maxHeartbeats 1000000
namespace Go.S
open Go
attribute [grind =] uJ gJ zN vN
def wJ (b:Nat) (s:aF):Prop:=uJ (b+40) s∧gJ b s
theorem a9w {b k:Nat} {s r:aF} (h:uJ b s) (g:gJ b s) (a:Gk k s r) (hk:k≤40):wJ b r:=by
 obtain ⟨a1,a2,a3,a4,a5⟩:=a
 exact ⟨⟨a1,by have:=h.2.1; omega,by have:=h.2.2; omega⟩,by unfold gJ; rw [a4,a5]; exact g⟩
theorem aGi {b:Nat} {s:aF} (h:uJ b s) (g:gJ b s):wJ b s:=⟨⟨h.1,by have:=h.2.1; omega,by have:=h.2.2; omega⟩,g⟩
theorem aYr {b:Nat} {s:aF} (hb:b≤3200) (h:uJ b s) (g:gJ b s):Ok (Sh.D4 s) fun r=>uJ b r.1∧gJ b r.1∧uZ r.2:=by
 have s1:Spec (Sh.qZ ⟨s.aY,s.aU,s.bA,s.aI,s.aG,s.aS,s.aO,s.aT,s.aN,s.aP,s.aQ,s.aK,s.aD,s.aE,s.aL,s.aR,s.aX⟩) True (fun q=>lJ b q):=⟨fun _=>aOQ hb h⟩
 have s2 : ∀ t,Spec (Sh.mZ t) (lJ b t) (fun q=>zN b q.1∧q.2 = .nil):=fun t=>⟨aGh hb⟩
 have j:AL (Unit×List UInt8×Int×List (List UInt8)×List (List UInt8)) (fun x=>x.2.2.1=0→lJ b x.2.1∧x.2.2.2.1.length+x.2.2.2.2.length≤64∧(∀ t∈x.2.2.2.1,lJ b t) ∧ ∀ t∈x.2.2.2.2,lJ b t):=⟨⟩
 unfold Sh.D4
 exact ZS
theorem aYO {b:Nat} {s:aF} (hb:b≤3200) (h:uJ b s) (g:gJ b s):Ok (Sh.DZ s) fun r=>uJ b r.1∧gJ b r.1∧uZ r.2:=by
 have s1:Spec (Sh.qZ ⟨s.aY,s.aU,s.bA,s.aI,s.aG,s.aS,s.aO,s.aT,s.aN,s.aP,s.aQ,s.aK,s.aD,s.aE,s.aL,s.aR,s.aX⟩) True (fun q=>lJ b q):=⟨fun _=>aOQ hb h⟩
 have s2 : ∀ t,Spec (Sh.mZ t) (lJ b t) (fun q=>zN b q.1∧q.2 = .nil):=fun t=>⟨aGh hb⟩
 have j:AL (Unit×List UInt8×Int×List (List UInt8)×List (List UInt8)) (fun x=>x.2.2.1=0→lJ b x.2.1∧x.2.2.2.1.length+x.2.2.2.2.length≤64∧(∀ t∈x.2.2.2.1,lJ b t) ∧ ∀ t∈x.2.2.2.2,lJ b t):=⟨⟩
 unfold Sh.DZ
 exact ZS
theorem a3X {b:Nat} {s:aF} {c:iM} (hb:b≤3000) (h:uJ b s) (g:gJ b s) (hc:vC c):Ok (Sh.JU s c) fun r=>wJ b r.1∧uZ r.2.2:=by
 have s1:Spec (Sh.D4 s) True (fun r=>wJ b r.1∧uZ r.2):=⟨fun _=>(aYr (by omega) h g).mono fun r a=>⟨aGi a.1 a.2.1,a.2.2⟩⟩
 have s2:Spec (Sh.DZ s) True (fun r=>wJ b r.1∧uZ r.2):=⟨fun _=>(aYO (by omega) h g).mono fun r a=>⟨aGi a.1 a.2.1,a.2.2⟩⟩
 have z:sz s:=by unfold sz; have:=h.2.1; have:=h.2.2; omega
 have v:=h.1
 have w:=aGi h g
 have gk : ∀ k r,Gk k s r→k≤40→wJ b r:=fun k r=>a9w h g
 clear h g
 have j:AL (cR×aF) (fun x=>wJ b x.2∧uZ x.1):=⟨⟩
 unfold Sh.JU
 exact ZZ
theorem a7C {b:Nat} {s:aF} {c:iM} (hb:b≤3000) (h:uJ b s) (g:gJ b s) (hc:vC c):Ok (Sh.N5 s c) fun r=>wJ b r.1∧WO r.2:=by
 have s1:Spec (Sh.JU s c) True (fun r=>wJ b r.1∧uZ r.2.2):=⟨fun _=>a3X hb h g hc⟩
 have s2:Spec (Sh.qZ ⟨s.aY,s.aU,s.bA,s.aI,s.aG,s.aS,s.aO,s.aT,s.aN,s.aP,s.aQ,s.aK,s.aD,s.aE,s.aL,s.aR,s.aX⟩) True (fun q=>lJ b q):=⟨fun _=>aOQ (by omega) h⟩
 have s3 : ∀ s,Spec (Sh.nB s) (uJ (b+40) s∧gJ b s) (fun q=>q=s):=fun s=>⟨fun ⟨h,g⟩=>aJ1 (by omega) h (g.up (by omega))⟩
 have w:=aGi h g
 have hl:s.bE.length+s.aZ.length≤64:=by have:=h.1; unfold xB at this; omega
 obtain ⟨g1,g2⟩:=g
 clear h
 have j1:AL cR (fun e=>WO e):=⟨⟩
 have j2:AL (List (List UInt8)×List (List UInt8)) (fun x=>x.1.length+x.2.length≤64∧(∀ t∈x.1,lJ b t) ∧ ∀ t∈x.2,lJ b t):=⟨⟩
 unfold Sh.N5
 unfold wJ at *
 exact ZS
theorem a3q {b:Nat} {s:aF} {l:List UInt8} (hb:b≤3000) (h:uJ b s) (g:gJ b s) (hl:l.length≤300):Ok (Sh.oM s l) fun r=>wJ b r.1∧WO r.2:=by
 have s1 : ∀ c,Spec (Sh.N5 s c) (vC c) (fun r=>wJ b r.1∧WO r.2):=fun c=>⟨fun hc=>a7C hb h g hc⟩
 have w:=aGi h g
 clear h g
 unfold Sh.oM
 exact ZZ
theorem a6k {b:Nat} {s:aF} {w:List aC} (h:uJ b s) (g:gJ b s) (a:Rw w):wJ b ⟨w,s.aU,s.bA,s.aI,s.aG,s.aS,s.aO,s.aT,s.aN,s.aP,s.aQ,s.aK,s.aD,s.aE,s.aL,s.aR,s.aX,s.bC,s.bE,s.aZ,s.time⟩:=by
 unfold wJ uJ gJ xB at *
 grind (splits:=40)
theorem aUI {b:Nat} {s:aF} {p d:List UInt8} {m:Int} (hb:b≤3000) (h:uJ b s) (g:gJ b s) (hm:bS m) (hp:p.length≤1000):Ok (Sh.yS s p m d) fun r=>wJ b r.1∧WO r.2:=by
 have hw:Rw s.aY:=by have:=h.1; unfold xB at this; exact this.1
 obtain ⟨q,hq,q1,q2,q3⟩:=(inferInstance:Spec (Sh.qB s.aY p) _ _).out (by have:=hw.1; omega)
 have s1:Spec (Sh.fP s.aY p) True (fun r=>r.2=q.2):=⟨fun _=>by unfold Sh.fP; rw [hq]; exact ZG⟩
 have s2 : ∀ w m d,Spec (Sh.mT w ⟨p,m,d⟩) (w=s.aY) (fun r=>(∀ z∈r,z=⟨p,m,d⟩∨z∈w)∧r.length≤w.length+1∧(q.2=true→r.length≤w.length)):=fun w m d=>⟨fun e=>by subst e; unfold Sh.mT; dsimp only; rw [hq]; exact ZG⟩
 have s3 : ∀ y,Spec (Sh.iN y) (y=[⟨p,m,d⟩]) (fun e=>(e.isNil=true→p.length≤64∧d.length≤4096)∧(e = .nil ∨ ∃ p a n,e = .fault p a (.no n))):=fun y=>⟨fun e=>by
   subst e
   refine ((inferInstance:Spec (Sh.iN [⟨p,m,d⟩]) _ _).out (by simp; omega)).mono fun e he=>⟨fun i => ?_,he.2.1⟩
   exact (he.1 i).2 0 (by simp) ⟨p,m,d⟩ rfl⟩
 have s4:Spec (Sh.nB s) True (fun q=>q=s):=⟨fun _=>aJ1 (by omega) h g⟩
 have w:=aGi h g
 have ww : ∀ w,Rw w→wJ b ⟨w,s.aU,s.bA,s.aI,s.aG,s.aS,s.aO,s.aT,s.aN,s.aP,s.aQ,s.aK,s.aD,s.aE,s.aL,s.aR,s.aX,s.bC,s.bE,s.aZ,s.time⟩:=fun w=>a6k h g
 have j1:AL cR (fun e=>uZ e∧(e.isNil=true→p.length≤64∧d.length≤4096∧(q.2=true∨s.aY.length < 64))):=⟨⟩
 clear h g hq
 unfold Sh.yS
 exact ZQ
theorem aOB {b:Nat} {s:aF} {p:List UInt8} (hb:b≤3000) (h:uJ b s) (g:gJ b s):Ok (Sh.BH s p) fun r=>wJ b r.1∧WO r.2:=by
 have hw:Rw s.aY:=by have:=h.1; unfold xB at this; exact this.1
 have s4:Spec (Sh.nB s) True (fun q=>q=s):=⟨fun _=>aJ1 (by omega) h g⟩
 have w:=aGi h g
 have ww : ∀ w,Rw w→wJ b ⟨w,s.aU,s.bA,s.aI,s.aG,s.aS,s.aO,s.aT,s.aN,s.aP,s.aQ,s.aK,s.aD,s.aE,s.aL,s.aR,s.aX,s.bC,s.bE,s.aZ,s.time⟩:=fun w=>a6k h g
 clear h g
 unfold Sh.BH
 exact ZS
theorem aUu {b:Nat} {s:aF} {a:kF} (hb:b≤3000) (h:uJ b s) (g:gJ b s) (h1:a.line.length≤300) (h2:a.path.length≤100):Ok (Sh.uV s a) fun r=>wJ b r.1∧WO r.2:=by
 have s1:Spec (Sh.oM s a.line) True (fun r=>wJ b r.1∧WO r.2):=⟨fun _=>a3q hb h g h1⟩
 have s2:Spec (Sh.BH s a.path) True (fun r=>wJ b r.1∧WO r.2):=⟨fun _=>aOB hb h g⟩
 have s3:Spec (Sh.yS s a.path 1 a.data) True (fun r=>wJ b r.1∧WO r.2):=⟨fun _=>aUI hb h g (by unfold bS; omega) (by omega)⟩
 clear h g
 unfold Sh.uV
 exact ZZ
end Go.S
end

section
set_option maxRecDepth 100000
namespace Go.S
open Go
theorem aS9:Sh.yC=some true:=by decide +kernel
end Go.S
end

section
set_option maxRecDepth 100000
set_option maxHeartbeats 1000000
namespace Go.S
open Go
instance (priority:=high) (l m:List (aC)):Spec (Sh.gA l m) (l.length≤100000000) (fun r=>l=m→r=true):=⟨fun h=>by unfold Sh.gA; exact ZG⟩
instance (priority:=high) (x y:List aC):Spec (Sh.fN x y) (x.length≤100000000) (fun r=>x=y→r=true):=⟨fun h=>by unfold Sh.fN; exact ZZ⟩
instance (priority:=high) (x y:aH):Spec (Sh.wR x y) (True) (fun r=>x=y→r=true):=⟨fun h=>by unfold Sh.wR; exact ZZ⟩
instance (priority:=high) (l m:List (aH)):Spec (Sh.cL l m) (l.length≤100000000) (fun r=>l=m→r=true):=⟨fun h=>by unfold Sh.cL; exact ZG⟩
instance (priority:=high) (x y:List aH):Spec (Sh.pG x y) (x.length≤100000000) (fun r=>x=y→r=true):=⟨fun h=>by unfold Sh.pG; exact ZZ⟩
instance (priority:=high) (l m:List (cY)):Spec (Sh.iT l m) (l.length≤100000000) (fun r=>l=m→r=true):=⟨fun h=>by unfold Sh.iT; exact ZG⟩
instance (priority:=high) (l m:List (bK)):Spec (Sh.iU l m) (l.length≤100000000) (fun r=>l=m→r=true):=⟨fun h=>by unfold Sh.iU; exact ZG⟩
instance (priority:=high) (l m:List (Int)):Spec (Sh.pP l m) (l.length≤100000000) (fun r=>l=m→r=true):=⟨fun h=>by unfold Sh.pP; exact ZG⟩
attribute [grind =] fSq
instance (priority:=high) (x y:mN):Spec (Sh.xU x y) (fSq x) (fun r=>x=y→r=true):=⟨fun h=>by unfold Sh.xU; exact ZZ⟩
instance (priority:=high) (x y:cM):Spec (Sh.sV x y) (TC x) (fun r=>x=y→r=true):=⟨fun h=>by unfold Sh.sV; exact ZZ⟩
instance (priority:=high) (l m:List (cM)):Spec (Sh.dN l m) (l.length≤100000000 ∧ ∀ x∈l,TC x) (fun r=>l=m→r=true):=⟨fun h=>by unfold Sh.dN; exact ZG⟩
instance (priority:=high) (x y:List cM):Spec (Sh.rX x y) (x.length≤100000000 ∧ ∀ z∈x,TC z) (fun r=>x=y→r=true):=⟨fun h=>by unfold Sh.rX; exact ZZ⟩
attribute [grind =] fNo
instance (priority:=high) (x y:eH):Spec (Sh.xS x y) (fNo x) (fun r=>x=y→r=true):=⟨fun h=>by unfold Sh.xS; exact ZZ⟩
instance (priority:=high) (x y:fH):Spec (Sh.vD x y) (Y0 x) (fun r=>x=y→r=true):=⟨fun h=>by unfold Sh.vD; exact ZZ⟩
instance (priority:=high) (l m:List (fH)):Spec (Sh.dA l m) (l.length≤100000000 ∧ ∀ x∈l,Y0 x) (fun r=>l=m→r=true):=⟨fun h=>by unfold Sh.dA; exact ZG⟩
theorem aMm {b:Nat} {t:List UInt8} (hb:b≤3200) (h:lJ b t):Ok (Sh.yF t t) fun r=>r=true:=by
 obtain ⟨q,hq,h1,h2⟩:=aGh hb h
 have f:=aND hb h1
 unfold Sh.yF
 rw [hq]
 clear h1 hq h
 simp only [Option.bind_some]
 refine sJ (fun _=>True) (fun x _=>sI (fun _=>sS (by simp)) fun _=>sB (fun y hy=>sS (hy rfl)) f) fun k hk=>sI (fun _=>hk _ trivial) fun _=>hk _ trivial
theorem aPH {b:Nat} {l:List (List UInt8)} (hb:b≤3200) (h : ∀ t∈l,lJ b t) (hl:l.length≤64):Ok (Sh.fC l l) fun r=>r=true:=by
 unfold Sh.fC
 refine sI (fun _=>sF (fun x h0 h1=>sA (fun z zm hz=>sA (fun z' _ hz' => ?_) ⟨h0,h1⟩) ⟨h0,h1⟩) (x5 (sS rfl)) (by omega)) (fun e=>absurd rfl e)
 have e:z=z':=by rw [hz] at hz'; exact Option.some.inj hz'
 subst e
 rw [vU]
 refine (aMm hb (h z zm)).mono fun y hy => ?_
 subst hy
 rw [if_neg (by simp)]
 exact sG (fun _=>LY ⟨⟨by omega,by omega⟩,by omega⟩) (by unfold bS; omega)
theorem a3p {b:Nat} {s:aF} (hb:b≤3200) (h:uJ b s) (g:gJ b s):Ok (Sh.HI s s) fun r=>r=true:=by
 have f:=aND hb (XY h)
 have v:=h.1
 unfold xB at v
 have l1:s.bE.length≤64:=by omega
 have l2:s.aZ.length≤64:=by omega
 have c1:s.bC.length≤100000000:=by omega
 have c2 : ∀ c∈s.bC,Y0 c:=by grind
 unfold Sh.HI
 refine sB (fun y hy => ?_) f
 rw [if_pos (hy rfl)]
 refine sB (fun y hy => ?_) ⟨c1,c2⟩
 rw [if_pos (hy rfl),if_pos rfl,vU]
 refine (aPH hb g.1 l1).mono fun y hy => ?_
 rw [if_pos hy,vU]
 exact (aPH hb g.2 l2).mono fun y hy=>sS hy
theorem aDx {l:List (List UInt8)} {m:Nat} (h : ∀ x∈l,x.length≤m):(GM l [32]).length≤(m+1)*l.length:=by
 have t : ∀ l:List (List UInt8),(∀ x∈l,x.length≤m)→(Lib.joinTail [32] l).length≤(m+1)*l.length:=by
   intro l
   induction l with
   | nil=>simp [Lib.joinTail]
   | cons x r ih =>
     intro h
     have h1:=h x List.mem_cons_self
     have ih:=ih fun y hy=>h y (List.mem_cons_of_mem _ hy)
     simp only [Lib.joinTail,List.map_cons,List.flatten_cons,List.length_append,List.length_cons,List.length_nil,Nat.mul_add] at *
     omega
 unfold GM
 cases l with
 | nil=>rw [Lib.join_nil]; simp
 | cons x r =>
   have h1:=h x List.mem_cons_self
   have ih:=t r fun y hy=>h y (List.mem_cons_of_mem _ hy)
   rw [Lib.join_cons]
   simp only [List.length_append,List.length_cons,Nat.mul_add] at *
   omega
instance (l:List (List UInt8)) (a:List UInt8):Spec (Sh.mC l a) (l.length≤8∧(∀ x∈l,x.length≤2000)∧a.length≤1000000000) (fun r=>r.length≤a.length+20000):=⟨fun ⟨h1,h2,h3⟩=>by
  have j:=aDx h2
  have k:(2000+1)*l.length≤2001*8:=Nat.mul_le_mul_left _ h1
  unfold Sh.mC
  refine sG (fun _=>sT fun y hy => ?_) (by omega)
  have:y.length≤16008:=by rw [hy]; omega
  exact ZZ⟩
theorem a3x {b:Nat} {s:aF} (hb:b≤3200) (h:uJ b s) : ∃ t,Sh.AV s=some t:=by
 have v:=h.1
 have r0:s.bA.length≤3200:=by have:=h.2.1; omega
 unfold xB at v
 have w0:s.aY.length≤64:=v.1.1
 have w1:=v.1.2
 have i0:s.aU.length≤5300:=v.2.1.1
 have i1:=v.2.1.2
 have r1 : ∀ r∈s.bA,vRf r:=v.2.2.1
 have hd0:s.aI.length≤300:=v.2.2.2.1
 have hd1:bS s.aG:=v.2.2.2.2.1
 have hd2:s.aS.length≤300:=v.2.2.2.2.2.1
 have c0:s.bC.length≤1024:=by omega
 have c1 : ∀ c∈s.bC,Y0 c:=by grind
 have s0:s.aX.length≤16:=by omega
 have l0:s.bE.length+s.aZ.length≤64:=by omega
 clear v h
 suffices q:Ok (Sh.AV s) fun _=>True by obtain ⟨t,ht,_⟩:=q; exact ⟨t,ht⟩
 unfold Sh.AV
 refine sJ (fun a=>a.length≤100000) (fun a ha => ?_) fun k hk => ?_
 ·
  refine sL (fun t=>0≤t.1∧t.1≤s.bA.length∧t.2.length≤100000+20000*t.1) (fun t=>(s.bA.length - t.1).toNat) (by simp; omega) fun ⟨x,acc⟩ ⟨h0,h1,h2⟩ => ?_
  dsimp only at h0 h1 h2 ⊢
  refine sI (fun hx=>ZZ) (fun hx=>x5 (sJ (fun a=>a.length≤100000000) (fun a ha => ?_) fun k hk=>ZZ))
  refine sL (fun t=>0≤t.1∧t.1≤s.aY.length∧t.2.length≤100000000+20000*t.1) (fun t=>(s.aY.length - t.1).toNat) (by simp; omega) fun ⟨x,acc⟩ ⟨h0,h1,h2⟩ => ?_
  dsimp only at h0 h1 h2 ⊢
  refine sI (fun hx=>ZZ) (fun hx=>x5 ?_)
  refine sL (fun t=>0≤t.1∧t.1≤s.aU.length∧t.2.length≤110000000+20000*t.1) (fun t=>(s.aU.length - t.1).toNat) (by simp; omega) fun ⟨x,acc⟩ ⟨h0,h1,h2⟩ => ?_
  dsimp only at h0 h1 h2 ⊢
  refine sI (fun hx=>ZZ) (fun hx=>x5 ?_)
  refine sL (fun t=>0≤t.1∧t.1≤s.bC.length∧t.2.length≤220000000+20000*t.1) (fun t=>(s.bC.length - t.1).toNat) (by simp; omega) fun ⟨x,acc⟩ ⟨h0,h1,h2⟩ => ?_
  dsimp only at h0 h1 h2 ⊢
  refine sI (fun hx=>sM (fun z zm => ?_) ⟨h0,hx⟩) (fun hx=>x5 ?_)
  ·
   have hz:=c1 z zm
   have hp:=hz.2.1
   have ht:=hz.1.1
   have hx5:=hz.2.2.2.2
   refine sL (fun t=>0≤t.2∧t.2≤z.parents.length∧t.1.length≤t.2 ∧ ∀ y∈t.1,y.length≤21) (fun t=>(z.parents.length - t.2).toNat) (by simp) fun ⟨ps,y⟩ ⟨g0,g1,g2,g3⟩ => ?_
   dsimp only at g0 g1 g2 g3 ⊢
   refine sI (fun hy=>ZZ) (fun hy=>x5 ?_)
   have j:=aDx g3
   have k:(21+1)*ps.length≤22*2:=Nat.mul_le_mul_left _ (by omega)
   have e1:=XL (x+1)
   have e2:=XL (z.tree.length:Int)
   have e3:(GM ps [32]).length≤44:=by omega
   clear j k
   exact ZZ
  refine sL (fun t=>0≤t.1∧t.1≤s.aX.length∧t.2.length≤250000000+20000*t.1) (fun t=>(s.aX.length - t.1).toNat) (by simp; omega) fun ⟨x,acc⟩ ⟨h0,h1,h2⟩ => ?_
  dsimp only at h0 h1 h2 ⊢
  exact ZZ
 exact ZZ
theorem bAQ {e:cR} (h:WO e) (n : ¬ e.isNil=true) : ∃ t,Sh.EJ e=some t:=by
 have e0 : ∀ n,Ok (Sh.wV n) fun t=>t.length≤100:=fun n=>by unfold Sh.wV; repeat' (first | refine sI (fun _=>sS (by decide)) (fun _ => ?_) | exact sS (by decide))
 have e1 : ∀ (p:List UInt8) (a:Int) (e:cR) (k:Nat),RQ p→bS a→k≤1000→(e.isNil=true∨Ok (Sh.EJ e) fun t=>t.length≤k)→Ok (Sh.EJ (.fault p a e)) fun t=>t.length≤200+k:=fun p a e k hp ha hk he=>by
   unfold Sh.EJ Sh.zV
   have i:=XL a
   unfold RQ at hp
   dsimp only
   refine sI (fun q => ?_) fun q => ?_
   . exact ZZ
   . rcases he with he | he
     . exact absurd he q
     . have:Spec (Sh.EJ e) True (fun t=>t.length≤k):=⟨fun _=>he⟩
       exact ZZ
 have fin : ∀ {e:cR} {k:Nat},(Ok (Sh.EJ e) fun t=>t.length≤k) → ∃ t,Sh.EJ e=some t:=fun ⟨t,ht,_⟩=>⟨t,ht⟩
 have e2 : ∀ e,uZ e→e.isNil=true∨Ok (Sh.EJ e) fun t=>t.length≤400:=fun e he=>by
   match e,he with
   | .nil,_=>exact .inl rfl
   | .no n,_=>exact .inr ((e0 n).mono fun t ht=>by omega)
   | .fault p a (.no n),he=>exact .inr ((e1 p a (.no n) 100 he.1 he.2 (by omega) (.inr (e0 n))).mono fun t ht=>by omega)
 match e,h,n with
 | .no n,_,_=>exact fin (e0 n)
 | .fault p a e,h,_=>exact fin (e1 p a e 400 h.1 h.2.1 (by omega) (e2 e h.2.2))
theorem a67:uJ 0 ⟨[],[],[],[109,97,105,110],0,[],0,[],[],[],0,[],[],0,[],[],[],[],[],[],0⟩∧gJ 0 ⟨[],[],[],[109,97,105,110],0,[],0,[],[],[],0,[],[],0,[],[],[],[],[],[],0⟩:=by
 unfold uJ xB gJ
 simp [Rw,Ix,bS]
theorem a1V (l:List kF):Ok (Sh.zD l) fun r=>r=true→l.length≤40 ∧ ∀ a∈l,a.line.length≤300∧a.path.length≤100:=by
 unfold Sh.zD
 refine sI (fun _=>sS (fun e=>by cases e)) (fun h40 => ?_)
 refine sL (fun x=>0≤x∧x≤l.length ∧ ∀ a∈l.take x.toNat,a.line.length≤300∧a.path.length≤100) (fun x=>(l.length - x).toNat) (by simp) fun x ⟨h0,h1,h2⟩ => ?_
 refine sI (fun hx => ?_) (fun hx=>x5 (sS fun _ => ?_))
 ·
  obtain ⟨z,hz⟩ : ∃ z,l[x.toNat]? = some z:=⟨_,List.getElem?_eq_getElem (by omega)⟩
  have e:=Q7 h0 hz
  refine sJ (fun c=>c=false→z.line.length≤300∧z.path.length≤100) (fun c hc=>sI (fun _=>x5 (sS (fun e=>by cases e))) fun hc0=>sG (fun _=>LY ⟨⟨by omega,by omega,?_⟩,by omega⟩) (by unfold bS; omega)) fun k hk => ?_
  ·
   rw [e]
   intro a ha
   rcases List.mem_append.1 ha with q | q
   ·
    exact h2 a q
   simp at q; subst q; exact hc (by simpa using hc0)
  refine aB h0 hz (sI (fun _=>hk _ (fun e=>by cases e)) fun h1=>aB h0 hz (sI (fun _=>hk _ (fun e=>by cases e)) fun h2=>aB h0 hz (hk _ fun _=>⟨by omega,by omega⟩)))
 have e:x=l.length:=by omega
 subst e
 rw [List.take_of_length_le (by omega)] at h2
 exact ⟨by omega,h2⟩
theorem aJZ (l:List kF):Sh.xL l=some true:=by
 apply Ok.eq
 unfold Sh.xL
 rw [aS9,Option.bind_some,if_neg (by simp),vU]
 refine (a1V l).mono fun f hf=>sI (fun _=>sS rfl) fun hf0 => ?_
 obtain ⟨n40,hin⟩:=hf (by simpa using hf0)
 unfold Sh.BQ
 simp only [Option.bind_some]
 refine sL (fun t=>0≤t.1∧t.1≤l.length∧t.2.1=t.2.2∧uJ (40*t.1.toNat) t.2.1∧gJ (40*t.1.toNat) t.2.1) (fun t=>(l.length - t.1).toNat) ⟨by simp,by simp,rfl,a67.1,a67.2⟩ fun ⟨x,s,s'⟩ ⟨h0,h1,e,hu,hg⟩ => ?_
 dsimp only at h0 h1 e hu hg ⊢
 subst e
 refine sI (fun hx => ?_) (fun hx=>x5 ?_)
 ·
  obtain ⟨z,hz⟩ : ∃ z,l[x.toNat]? = some z:=⟨_,List.getElem?_eq_getElem (by omega)⟩
  have hzl:=hin z (List.mem_of_getElem? hz)
  obtain ⟨q,hq,⟨q1,q2⟩,q3⟩:=aUu (b:=40*x.toNat) (by omega) hu hg hzl.1 hzl.2
  refine sJ0 (aB h0 hz ?_)
  rw [hq,Option.bind_some]
  refine sJ0 (aB h0 hz ?_)
  rw [hq,Option.bind_some]
  have e1:40*(x+1).toNat=40*x.toNat+40:=by omega
  refine sJ (fun b=>b=false) (fun b hb => ?_) fun k hk => ?_
  ·
   subst hb
   rw [if_neg (by simp)]
   exact sG (fun _=>LY ⟨⟨by omega,by dsimp only; omega,rfl,by dsimp only; rw [e1]; exact q1,by dsimp only; rw [e1]; exact q2.up (by omega)⟩,by dsimp only; omega⟩) (by unfold bS; omega)
  rw [if_pos rfl]
  refine sI (fun _=>hk _ rfl) fun hn => ?_
  obtain ⟨t,ht⟩:=bAQ q3 hn
  rw [ht,Option.bind_some,Option.bind_some]
  exact hk _ (by simp)
 rw [vU]
 refine (a3p (b:=40*x.toNat) (by omega) hu hg).mono fun y hy => ?_
 obtain ⟨t,ht⟩:=a3x (b:=40*x.toNat) (by omega) hu
 rw [if_pos hy,ht,Option.bind_some,Option.bind_some]
 exact sS (by simp)
end Go.S
end
