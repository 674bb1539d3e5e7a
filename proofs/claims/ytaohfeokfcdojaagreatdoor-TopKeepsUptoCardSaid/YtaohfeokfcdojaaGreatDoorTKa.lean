/- Part of the proofs of: the law TopKeeps: what is changed and not committed is there, or put aside, behind every command that does not say otherwise (any acts, any line), where what is read is of bulk at most 1048576 -/
import Derived.Test.YtaohfeokfcdojaaGreatDoorTAb
set_option linter.unusedVariables false
set_option linter.unusedSimpArgs false
set_option linter.unusedSectionVars false
section
namespace Go.S
theorem uU {α:Type} {l:List α} {i:Int} {z:α} (h0:0≤i) (h:l[i.toNat]? = some z):l.take (i+1).toNat=l.take i.toNat++[z]:=by
 rw [show (i+1).toNat=i.toNat+1 by omega,List.take_add_one,h]; rfl
end Go.S
end

section
namespace Go.S
variable {α β S T R:Type}
class Spec (o:Option α) (pre:outParam Prop) (post:outParam (α→Prop)):Prop where out:pre→Ok o post
instance {a:α}:Spec (some a) True (fun r=>r=a):=⟨fun _=>⟨a,rfl,rfl⟩⟩
theorem sB {o:Option α} {f:α→Option β} {Q:β→Prop} {pre:Prop} {P:α→Prop} [h:Spec o pre P] (k : ∀ a,P a→Ok (f a) Q) (hp:pre):Ok (o.bind f) Q:=by
 rw [sP]; exact (h.out hp).mono k
theorem sE {o:Option α} {Q:α→Prop} {pre:Prop} {P:α→Prop} [h:Spec o pre P] (k : ∀ a,P a→Q a) (hp:pre):Ok o Q:=(h.out hp).mono k
theorem sI {c:Prop} [Decidable c] {a b:Option α} {Q:α→Prop} (h1:c→Ok a Q) (h2 : ¬ c→Ok b Q):Ok (if c then a else b) Q:=a5t.2 ⟨h1,h2⟩
theorem sG {c:Prop} [Decidable c] {a:Option α} {Q:α→Prop} (k:c→Ok a Q) (h:c):Ok (gd c a) Q:=a5s.2 ⟨h,k h⟩
theorem sT {e:α} {f:α→Option β} {Q:β→Prop} (k : ∀ y,y=e→Ok (f y) Q):Ok (lt e f) Q:=k e rfl
theorem sS {a:α} {Q:α→Prop} (h:Q a):Ok (some a) Q:=aKi.2 h
theorem sA {l:List α} {i:Int} {f:α→Option β} {Q:β→Prop} (k : ∀ z,z∈l→l[i.toNat]? = some z→Ok (f z) Q) (h:0≤i∧i < l.length):Ok ((at_ l i).bind f) Q:=by
 rw [sP,aVm]
 have e:l[i.toNat]? = some l[i.toNat]:=List.getElem?_eq_getElem (by omega)
 exact ⟨h.1,_,e,k _ (List.mem_of_getElem? e) e⟩
theorem sM {l:List α} {i:Int} {f:α→Option β} {Q:β→Prop} (k : ∀ z,z∈l→Ok (f z) Q) (h:0≤i∧i < l.length):Ok ((at_ l i).bind f) Q:=sA (fun z m _=>k z m) h
theorem sU {o:Option R} {Q:T⊕R→Prop} (h:Ok o fun r=>Q (.inr r)):Ok (up o) Q:=aVo.2 h
theorem sN {t:T} {Q:T⊕R→Prop} (h:Q (.inl t)):Ok (go t) Q:=aMQ.2 h
theorem sJ {K:S→Option R} {F:(S→Option R)→Option R} {Q:R→Prop} (P:S→Prop) (g : ∀ s,P s→Ok (K s) Q) (h : ∀ k:S→Option R,(∀ s,P s→Ok (k s) Q)→Ok (F k) Q):Ok (jn K F) Q:=h K g
def Rn (I:T→Prop) (μ:T→Nat) (n:Nat) (Q:R→Prop):T⊕R→Prop
  | .inl t=>I t∧μ t < n
  | .inr r=>Q r
theorem sL {B:T→Option (T⊕R)} {t0:T} {Q:R→Prop} (I:T→Prop) (μ:T→Nat) (h0:I t0) (h : ∀ t,I t→Ok (B t) (Rn I μ (μ t) Q)):Ok (iter B t0) Q :=
  aVn I μ (fun t ht=>(h t ht).mono fun y hy=>by cases y <;> exact hy) h0
theorem uA {o:Option R} {I:T→Prop} {μ:T→Nat} {n:Nat} {Q:R→Prop} (h:Ok o Q):Ok (up o) (Rn I μ n Q):=aVo.2 h
theorem A7 {t:T} {I:T→Prop} {μ:T→Nat} {n:Nat} {Q:R→Prop} (h:I t∧μ t < n):Ok (go t) (Rn I μ n Q):=aMQ.2 h
class uM (T:Type) (I:outParam (T→Prop)) (μ:outParam (T→Nat)):Prop
class x5 (S:Type) (P:outParam (S→Prop)):Prop
class JnD (S:Type):Prop
instance:JnD Bool:=⟨⟩
instance:JnD Unit:=⟨⟩
theorem sJi {K:S→Option R} {F:(S→Option R)→Option R} {Q:R→Prop} {P:S→Prop} [x5 S P] (g : ∀ s,P s→Ok (K s) Q) (h : ∀ k:S→Option R,(∀ s,P s→Ok (k s) Q)→Ok (F k) Q):Ok (jn K F) Q:=h K g
theorem sJd {K:S→Option R} {F:(S→Option R)→Option R} {Q:R→Prop} [JnD S] (g : ∀ s,Ok (K s) Q) (h : ∀ k:S→Option R,(∀ s,Ok (k s) Q)→Ok (F k) Q):Ok (jn K F) Q:=h K g
theorem sK' {k:S→Option R} {Q:R→Prop} {s:S} (h : ∀ s,Ok (k s) Q):Ok (k s) Q:=h s
theorem sJ0 {K:S→Option R} {F:(S→Option R)→Option R} {Q:R→Prop} (h:Ok (F K) Q):Ok (jn K F) Q:=h
theorem sK {k:S→Option R} {Q:R→Prop} {P:S→Prop} {s:S} (h : ∀ s,P s→Ok (k s) Q) (p:P s):Ok (k s) Q:=h s p
theorem sF {n:Int} {A C:Int→Option (Int⊕R)} {Q:R→Prop} (h : ∀ x,0≤x→x < n→Ok (A x) (Rn (fun x=>0≤x∧x≤n) (fun x=>(n - x).toNat) (n - x).toNat Q)) (h2:Ok (C n) (Rn (fun x=>0≤x∧x≤n) (fun x=>(n - x).toNat) 0 Q)) (h0:0≤n):Ok (iter (fun x=>if x < n then A x else C x) 0) Q:=by
 refine sL (fun x=>0≤x∧x≤n) (fun x=>(n - x).toNat) ⟨by omega,h0⟩ fun x hx => ?_
 by_cases q:x < n
 ·
  rw [if_pos q]; exact h x hx.1 q
 rw [if_neg q]
 have:x=n:=by omega
 subst this
 refine h2.mono fun y hy => ?_
 cases y with
 | inl t=>exact absurd hy.2 (by omega)
 | inr r=>exact hy
section
variable {A1 A2 A3 A4 A5:Type} {Q:R→Prop}
theorem L1 {I:T→Prop} {μ:T→Nat} {B:T→Option (T⊕R)} {t0:T} [uM T I μ] (h : ∀ t,I t→Ok (B t) (Rn I μ (μ t) Q)) (h0:I t0):Ok (iter B t0) Q:=sL I μ h0 h
theorem L2 {I:A1×A2→Prop} {μ:A1×A2→Nat} {B:A1×A2→Option ((A1×A2)⊕R)} {t0:A1×A2} [uM (A1×A2) I μ] (h : ∀ a b,I (a,b)→Ok (B (a,b)) (Rn I μ (μ (a,b)) Q)) (h0:I t0):Ok (iter B t0) Q:=sL I μ h0 fun ⟨a,b⟩=>h a b
theorem L3 {I:A1×A2×A3→Prop} {μ:A1×A2×A3→Nat} {B:A1×A2×A3→Option ((A1×A2×A3)⊕R)} {t0:A1×A2×A3} [uM (A1×A2×A3) I μ] (h : ∀ a b c,I (a,b,c)→Ok (B (a,b,c)) (Rn I μ (μ (a,b,c)) Q)) (h0:I t0):Ok (iter B t0) Q:=sL I μ h0 fun ⟨a,b,c⟩=>h a b c
theorem L4 {I:A1×A2×A3×A4→Prop} {μ:A1×A2×A3×A4→Nat} {B:A1×A2×A3×A4→Option ((A1×A2×A3×A4)⊕R)} {t0:A1×A2×A3×A4} [uM (A1×A2×A3×A4) I μ] (h : ∀ a b c d,I (a,b,c,d)→Ok (B (a,b,c,d)) (Rn I μ (μ (a,b,c,d)) Q)) (h0:I t0):Ok (iter B t0) Q:=sL I μ h0 fun ⟨a,b,c,d⟩=>h a b c d
theorem L5 {I:A1×A2×A3×A4×A5→Prop} {μ:A1×A2×A3×A4×A5→Nat} {B:A1×A2×A3×A4×A5→Option ((A1×A2×A3×A4×A5)⊕R)} {t0:A1×A2×A3×A4×A5} [uM (A1×A2×A3×A4×A5) I μ] (h : ∀ a b c d e,I (a,b,c,d,e)→Ok (B (a,b,c,d,e)) (Rn I μ (μ (a,b,c,d,e)) Q)) (h0:I t0):Ok (iter B t0) Q:=sL I μ h0 fun ⟨a,b,c,d,e⟩=>h a b c d e
end
theorem JG (x:aC):aC.mk x.path x.mode x.data=x:=rfl
theorem LR (x:dP):dP.mk x.name x.cF=x:=rfl
theorem GC (x:IndexEntry):IndexEntry.mk x.path x.fA x.mode x.data x.time x.size=x:=rfl
theorem D7 (x:dA):dA.mk x.base x.index x.work x.text=x:=rfl
theorem D6 (x:iV):iV.mk x.line x.path x.data x.gone=x:=rfl
theorem LS (x:bJ):bJ.mk x.verb x.cF x.text=x:=rfl
theorem B9 (x:fB):fB.mk x.tree x.parents x.time x.text=x:=rfl
theorem BC (x:aF):aF.mk x.aU x.aS x.aZ x.aH x.aG x.aR x.aM x.aT x.aN x.aP x.aO x.aJ x.aD x.aE x.aK x.aQ x.aW x.aX x.bF x.aY x.time=x:=rfl
theorem JJ (x:eS):eS.mk x.work x.index x.refs x.cH x.cB x.fG x.eO x.fH x.dJ x.eB x.fD x.dW x.bV x.bW x.dK x.eD x.gD=x:=rfl
theorem JH (x:l5):l5.mk x.branch x.cF=x:=rfl
theorem JK (x:qJ):qJ.mk x.kind x.other x.text x.HP x.todo x.made x.branch x.cH x.cB x.index x.work=x:=rfl
theorem JE (x:bA):bA.mk x.b x.at_ x.err=x:=rfl
theorem O7 (x:fO):fO.mk x.verb x.name x.n x.text x.force x.todo=x:=rfl
theorem AT (x:cW):cW.mk x.files x.entries x.conflicts=x:=rfl
theorem JL (x:lB):lB.mk x.bU x.cK x.bS x.is=x:=rfl
theorem D5 (x:o4):o4.mk x.base x.ours x.cR x.pF x.out=x:=rfl
theorem GB (x:oA):oA.mk x.a x.b x.n=x:=rfl
theorem LQ (x:iL):iL.mk x.op x.line=x:=rfl
theorem JF (x:gC):gC.mk x.a x.b x.n=x:=rfl
theorem O8 (x:D2):D2.mk x.bU x.cK x.bS x.is=x:=rfl
theorem JI (x:o9):o9.mk x.back x.kR=x:=rfl
attribute [grind =] bP cS.isNil
theorem ZZ {a:Prop} (h:a:=by
 intros
 repeat' (with_reducible first | refine sI (fun _ => ?_) (fun _ => ?_) | refine sT fun _ _ => ?_ | refine uA ?_ | refine A7 ?_ | refine sU ?_ | refine sS ?_ | refine sN ?_ | refine sF (fun _ _ _ => ?_) ?_ ?_ | refine sB (fun _ _ => ?_) ?_ | refine sM (fun _ _ => ?_) ?_ | refine sG (fun _ => ?_) ?_ | refine sE (fun _ _ => ?_) ?_ | refine sJi (fun _ _ => ?_) (fun _ _ => ?_) | refine sJd (fun _ => ?_) (fun _ _ => ?_) | refine sJ0 ?_ | exact sK' (by assumption) | refine sK (by assumption) ?_ | refine L5 (fun _ _ _ _ _ _ => ?_) ?_ | refine L4 (fun _ _ _ _ _ => ?_) ?_ | refine L3 (fun _ _ _ _ => ?_) ?_ | refine L2 (fun _ _ _ => ?_) ?_ | refine L1 (fun _ _ => ?_) ?_ | dsimp only)
 all_goals (try simp only [← List.length_eq_zero_iff,Int.toNat_natCast,List.take_length,JG,LR,GC,D7,D6,LS,B9,BC,JJ,JH,JK,JE,O7,AT,JL,D5,GB,LQ,JF,O8,JI] at *)
 all_goals grind):a:=h
theorem ZO {a:Prop} (h:a:=by
 intros
 repeat' (with_reducible first | refine sI (fun _ => ?_) (fun _ => ?_) | refine sT fun _ _ => ?_ | refine uA ?_ | refine A7 ?_ | refine sU ?_ | refine sS ?_ | refine sN ?_ | refine sF (fun _ _ _ => ?_) ?_ ?_ | refine sB (fun _ _ => ?_) ?_ | refine sM (fun _ _ => ?_) ?_ | refine sG (fun _ => ?_) ?_ | refine sE (fun _ _ => ?_) ?_ | refine sJi (fun _ _ => ?_) (fun _ _ => ?_) | refine sJ0 ?_ | exact sK' (by assumption) | refine sK (by assumption) ?_ | refine L5 (fun _ _ _ _ _ _ => ?_) ?_ | refine L4 (fun _ _ _ _ _ => ?_) ?_ | refine L3 (fun _ _ _ _ => ?_) ?_ | refine L2 (fun _ _ _ => ?_) ?_ | refine L1 (fun _ _ => ?_) ?_ | dsimp only)
 all_goals (try simp only [← List.length_eq_zero_iff,Int.toNat_natCast,List.take_length,JG,LR,GC,D7,D6,LS,B9,BC,JJ,JH,JK,JE,O7,AT,JL,D5,GB,LQ,JF,O8,JI] at *)
 all_goals grind):a:=h
theorem ZG {a:Prop} (h:a:=by
 intros
 repeat' (with_reducible first | refine sI (fun _ => ?_) (fun _ => ?_) | refine sT fun _ _ => ?_ | refine uA ?_ | refine A7 ?_ | refine sU ?_ | refine sS ?_ | refine sN ?_ | refine sF (fun _ _ _ => ?_) ?_ ?_ | refine sB (fun _ _ => ?_) ?_ | refine sA (fun _ _ _ => ?_) ?_ | refine sG (fun _ => ?_) ?_ | refine sE (fun _ _ => ?_) ?_ | refine sJi (fun _ _ => ?_) (fun _ _ => ?_) | refine sJd (fun _ => ?_) (fun _ _ => ?_) | refine sJ0 ?_ | exact sK' (by assumption) | refine sK (by assumption) ?_ | refine L5 (fun _ _ _ _ _ _ => ?_) ?_ | refine L4 (fun _ _ _ _ _ => ?_) ?_ | refine L3 (fun _ _ _ _ => ?_) ?_ | refine L2 (fun _ _ _ => ?_) ?_ | refine L1 (fun _ _ => ?_) ?_ | dsimp only)
 all_goals (try simp only [← List.length_eq_zero_iff,Int.toNat_natCast,List.take_length,JG,LR,GC,D7,D6,LS,B9,BC,JJ,JH,JK,JE,O7,AT,JL,D5,GB,LQ,JF,O8,JI] at *)
 all_goals grind):a:=h
end Go.S
end

section
set_option maxRecDepth 100000
set_option maxHeartbeats 1000000
namespace Go.S
open Go
theorem aJh {s:Int} (h0:0≤s) (h1:s≤4000000000):IntKind.wrap .i64 (J3 .u64 (IntKind.wrap .u64 s) 1)=s / 2:=by
 have e1:IntKind.wrap .u64 s=s:=IntWalk.u64_in _ (by omega)
 rw [e1]
 have e2:J3 .u64 s 1=s / 2:=by
   unfold J3
   show s.fdiv (2 ^ 1)=s / 2
   rw [Int.fdiv_eq_ediv_of_nonneg s (by decide)]
   rfl
 rw [e2]
 exact IntWalk.i64_in _ (by omega)
theorem bL (x y:List UInt8):Op.bytesLess x y=decide (x < y):=by
 induction x generalizing y with
 | nil=>cases y <;> simp [Op.bytesLess]
 | cons a r ih=>cases y <;> simp [Op.bytesLess,ih,List.cons_lt_cons_iff,Bool.beq_eq_decide_eq]
theorem ltT {x y z:List UInt8} (h:x < y) (k:y < z):x < z:=List.lt_trans h k
theorem ltI (x:List UInt8) : ¬ x < x:=List.lt_irrefl x
theorem aVe {x y:List UInt8} (h : ¬ x < y) (k:x≠y):y < x:=by
 exact Classical.byContradiction fun q=>k (List.le_antisymm (List.not_lt.1 q) (List.not_lt.1 h))
def SF (l:List aC):Prop:=l.Pairwise (fun a b=>a.path < b.path)
theorem P9 {l:List aC} (h:SF l) {k m:Nat} {a b:aC} (hk:k < m) (ha:l[k]? = some a) (hb:l[m]? = some b):a.path < b.path:=by
 obtain ⟨h1,e1⟩:=List.getElem?_eq_some_iff.1 ha
 obtain ⟨h2,e2⟩:=List.getElem?_eq_some_iff.1 hb
 subst e1 e2
 exact List.pairwise_iff_getElem.1 h k m h1 h2 hk
instance (x:List UInt8):Spec (Sh.cmp_isNaN_string x) (True) (· = false):=⟨fun h=>by unfold Sh.cmp_isNaN_string; exact ZZ⟩
instance (x y:List UInt8):Spec (Sh.mD x y) (True) (fun r=>(r < 0↔x < y)∧(r=0↔x=y)):=⟨fun h=>by have := @ltI; unfold Sh.mD; simp only [bL]; exact ZZ⟩
instance (x y:List UInt8):Spec (Sh.tI x y) (True) (fun r=>(r < 0↔x < y)∧(r=0↔x=y)):=⟨fun h=>by unfold Sh.tI; exact ZZ⟩
instance (x:aC) (y:List UInt8):Spec (Sh.qL x y) (True) (fun r=>(r < 0↔x.path < y)∧(r=0↔x.path=y)):=⟨fun h=>by unfold Sh.qL; exact ZZ⟩
def Fd (l:List aC) (p:List UInt8) (r:Int×Bool):Prop:=0≤r.1∧r.1≤l.length∧(r.2=true → ∃ z,l[r.1.toNat]? = some z∧z.path=p)∧(SF l→(∀ (k:Nat) z,k < r.1→l[k]? = some z→z.path < p) ∧ ∀ (k:Nat) z,r.1≤k→l[k]? = some z → ¬ z.path < p∧(r.2=false→z.path≠p))
instance (l:List aC) (p:List UInt8):Spec (Sh.eU l p) (l.length≤1000000000) (Fd l p):=⟨fun h=>by
  unfold Sh.eU
  refine sL (fun t=>0≤t.1∧t.1≤t.2∧t.2≤l.length∧(SF l→(∀ (k:Nat) z,k < t.1→l[k]? = some z→z.path < p) ∧ ∀ (k:Nat) z,t.2≤k→l[k]? = some z → ¬ z.path < p)) (fun t=>(t.2 - t.1).toNat) ⟨by simp,by simp,by simp,fun _=>⟨fun k z hk=>by simp at hk; omega,fun k z hk hz=>by have:=(List.getElem?_eq_some_iff.1 hz).1; omega⟩⟩ fun ⟨i,j⟩ ⟨h0,h1,h2,h3⟩ => ?_
  dsimp only at h0 h1 h2 h3 ⊢
  rw [aJh (by omega) (by omega)]
  refine sI (fun hi=>sG (fun _=>sA (fun z zm hz=>sB (fun y hy=>sI (fun q=>sG (fun _=>A7 ⟨⟨by dsimp only; omega,by dsimp only; omega,by dsimp only; omega,fun hs=>⟨fun k a hk ha => ?_,(h3 hs).2⟩⟩,by dsimp only; omega⟩) (by unfold bP; omega)) (fun q=>A7 ⟨⟨h0,by dsimp only; omega,by dsimp only; omega,fun hs=>⟨(h3 hs).1,fun k a hk ha => ?_⟩⟩,by dsimp only; omega⟩)) trivial) (by omega)) (by unfold bP; omega)) (fun hi=>uA (sI (fun hj=>sA (fun z zm hz=>sB (fun y hy=>sS ⟨h0,by dsimp only; omega,fun e=>⟨z,hz,hy.2.1 (by simpa using e)⟩,fun hs=>⟨(h3 hs).1,fun k a hk ha=>⟨(h3 hs).2 k a (by dsimp only at hk; omega) ha,fun e => ?_⟩⟩⟩) trivial) ⟨h0,hj⟩) (fun hj=>sS ⟨h0,by dsimp only; omega,fun e=>by simp at e,fun hs=>⟨(h3 hs).1,fun k a hk ha => ?_⟩⟩)))
  . dsimp only at hk
    have hz':=hy.1.1 q
    by_cases e:k=((i+j) / 2).toNat
    . subst e; rw [hz] at ha; cases ha; exact hz'
    . exact ltT (P9 hs (by omega) ha hz) hz'
  . dsimp only at hk
    have hz' : ¬ z.path < p:=fun e=>q (hy.1.2 e)
    by_cases e:k=((i+j) / 2).toNat
    . subst e; rw [hz] at ha; cases ha; exact hz'
    . exact fun e'=>hz' (ltT (P9 hs (by omega) hz ha) e')
  . dsimp only at hk e
    have hn:z.path≠p:=fun e'=>by simp [hy.2.2 e'] at e
    by_cases e':k=i.toNat
    . subst e'; rw [hz] at ha; cases ha; exact hn
    . intro e''
      have:=P9 hs (show i.toNat < k by omega) hz ha
      rw [e''] at this
      exact (h3 hs).2 i.toNat z (by omega) hz this
  . have:=(List.getElem?_eq_some_iff.1 ha).1
    dsimp only at hk
    omega⟩
instance (l:List aC) (p:List UInt8):Spec (Sh.o5 l p) (l.length≤1000000000) (Fd l p):=⟨fun h=>by unfold Sh.o5; exact ZG⟩
end Go.S
end

section
set_option maxRecDepth 100000
set_option maxHeartbeats 1000000
namespace Go.S
open Go
section
variable {α:Type}
noncomputable def ixF (pr:α→Option Bool) (l:List α):Option Int :=
  iter (fun (x:Int)=>if x < (l.length:Int) then ((at_ l x).bind (fun z=>(pr z).bind (fun y=>if y=true then (up (some x)) else (gd (bP (x+1)) (go (x+1)))))) else (up (some (-1)))) 0
noncomputable def dlF (pr:α→Option Bool) (l:List α):Option (List α) :=
  (ixF pr l).bind (fun y=>if y=(-1) then (some l) else (gd (bP (y+1)) (iter (fun ((s,i,j):List α×Int×Int) =>
    if j < (s.length:Int) then (jn (fun ((s',i'):List α×Int)=>gd (bP (j+1)) (go (s',i',(j+1)))) (fun k=>(at_ s j).bind (fun z=>(pr z).bind (fun b =>
      if (!b)=true then ((at_ s i).bind (fun _=>lt (s.set i.toNat z) (fun y=>gd (bP (i+1)) (k (y,(i+1)))))) else (k (s,i))))))
    else (up (gd ((0:Int)≤i∧i≤(s.length:Int)) (lt (s.take i.toNat) (fun y=>some y))))) (l,y,(y+1)))))
theorem aV3 {pr:α→Option Bool} {l:List α} (hl:l.length≤1000000000) (h : ∀ z∈l,∃ y,pr z=some y):Ok (ixF pr l) fun r=>(r = -1 ∧ ∀ z∈l,pr z=some false)∨(0≤r∧r < l.length∧(∀ z∈l.take r.toNat,pr z=some false) ∧ ∃ z,l[r.toNat]? = some z∧pr z=some true):=by
 unfold ixF
 refine sL (fun x=>0≤x∧x≤l.length ∧ ∀ z∈l.take x.toNat,pr z=some false) (fun x=>(l.length - x).toNat) ⟨by omega,by omega,by simp⟩ fun x ⟨h0,h1,h2⟩ => ?_
 refine sI (fun hx=>sA (fun z zm hz => ?_) ⟨h0,hx⟩) (fun hx=>uA (sS (.inl ⟨rfl,fun z zm=>h2 z (by rw [List.take_of_length_le (by omega)]; exact zm)⟩)))
 obtain ⟨y,hy⟩:=h z zm
 rw [hy,Option.bind_some]
 refine sI (fun q=>uA (sS (.inr ⟨h0,hx,h2,z,hz,by rw [hy,q]⟩))) (fun q=>sG (fun _=>A7 ⟨⟨by omega,by omega,fun a ha => ?_⟩,by omega⟩) (by unfold bP; omega))
 rw [show (x+1).toNat=x.toNat+1 by omega,List.take_add_one,hz] at ha
 rcases List.mem_append.1 ha with ha | ha
 ·
  exact h2 a ha
 have:a=z:=by simpa using ha
 rw [this,hy]; simpa using q
theorem aNk {pr:α→Option Bool} {l:List α} (h : ∀ z∈l,pr z=some false):l.filter (fun z => !(pr z).getD false)=l:=List.filter_eq_self.2 fun z zm=>by simp [h z zm]
theorem aEK {pr:α→Option Bool} {l:List α} (hl:l.length≤1000000000) (h : ∀ z∈l,∃ y,pr z=some y):Ok (dlF pr l) fun r=>r=l.filter (fun z => !(pr z).getD false):=by
 unfold dlF
 rw [sP]
 refine (aV3 hl h).mono fun r hr=>sI (fun e=>sS ?_) (fun e => ?_)
 ·
  rcases hr with hr | hr
  ·
   exact (aNk hr.2).symm
  omega
 rcases hr with hr | ⟨h0,h1,h2,z,hz,hp⟩
 ·
  exact absurd hr.1 e
 have e1:(l.take (r+1).toNat).filter (fun z => !(pr z).getD false)=l.take r.toNat:=by
   rw [show (r+1).toNat=r.toNat+1 by omega,List.take_add_one,hz,List.filter_append,aNk h2]
   simp [hp]
 refine sG (fun _=>sL (fun t=>t.1.length=l.length∧0≤t.2.1∧t.2.1 < t.2.2∧t.2.2≤l.length∧t.1.take t.2.1.toNat=(l.take t.2.2.toNat).filter (fun z => !(pr z).getD false)∧t.1.drop t.2.2.toNat=l.drop t.2.2.toNat) (fun t=>(l.length - t.2.2).toNat) ⟨rfl,h0,by dsimp only; omega,by dsimp only; omega,e1.symm,rfl⟩ fun ⟨s,i,j⟩ ⟨a0,a1,a2,a3,a4,a5⟩ => ?_) (by unfold bP; omega)
 dsimp only at a0 a1 a2 a3 a4 a5 ⊢
 refine sI (fun hj=>sJ0 (sA (fun z zm hz => ?_) (by omega))) (fun hj=>uA (sG (fun _=>sT fun y hy=>sS ?_) (by omega)))
 ·
  have hz':l[j.toNat]? = some z:=by rw [← List.head?_drop,← a5,List.head?_drop]; exact hz
  obtain ⟨b,hb⟩:=h z (List.mem_of_getElem? hz')
  have e2 : ∀ b',pr z=some b'→(l.take (j+1).toNat).filter (fun z => !(pr z).getD false)=s.take i.toNat++if b' then [] else [z]:=fun b' hb'=>by
    rw [show (j+1).toNat=j.toNat+1 by omega,List.take_add_one,hz',List.filter_append,a4]
    cases b' <;> simp [hb']
  have e3:s.drop (j+1).toNat=l.drop (j+1).toNat:=by
    rw [show (j+1).toNat=j.toNat+1 by omega,← List.drop_drop,← List.drop_drop,a5]
  rw [hb,Option.bind_some]
  refine sI (fun q=>sA (fun _ _ _=>sT fun y hy=>sG (fun _=>sG (fun _=>A7 ⟨⟨?_,by dsimp only; omega,by dsimp only; omega,by dsimp only; omega,?_,?_⟩,by dsimp only; omega⟩) (by unfold bP; omega)) (by unfold bP; omega)) (by omega)) (fun q=>sG (fun _=>A7 ⟨⟨a0,a1,by dsimp only; omega,by dsimp only; omega,?_,e3⟩,by dsimp only; omega⟩) (by unfold bP; omega))
  ·
   simp [hy,a0]
  ·
   have:b=false:=by simpa using q
   subst this
   dsimp only
   rw [e2 _ hb,hy,show (i+1).toNat=i.toNat+1 by omega,List.take_add_one,List.getElem?_set_self (by omega),List.take_set_of_le (Nat.le_refl _)]
   rfl
  ·
   dsimp only
   rw [hy,List.drop_set_of_lt (by omega),e3]
  have:b=true:=by simpa using q
  subst this
  dsimp only
  rw [e2 _ hb]; simp
 rw [hy,a4,List.take_of_length_le (by omega)]
end
end Go.S
end

section
set_option maxRecDepth 100000
set_option maxHeartbeats 1000000
namespace Go.S
open Go
theorem aHB {l:List aC} {b:aC→Bool} (h:SF l):SF (l.filter b):=List.Pairwise.filter _ h
theorem aYn {l:List aC} {f:aC} {i:Nat} (h:SF l) (h1 : ∀ (k:Nat) z,k < i→l[k]? = some z→z.path < f.path) (h2 : ∀ (k:Nat) z,i≤k→l[k]? = some z→f.path < z.path):SF (l.take i++[f]++l.drop i):=by
 have hb:SF (l.take i++l.drop i):=by rw [List.take_append_drop]; exact h
 obtain ⟨p1,p2,p3⟩:=List.pairwise_append.1 hb
 have q1 : ∀ z∈l.take i,z.path < f.path:=fun z hz=>by
   obtain ⟨k,hk,e⟩:=List.mem_take_iff_getElem.1 hz
   exact h1 k z (by omega) (by rw [List.getElem?_eq_getElem (by omega),e])
 have q2 : ∀ z∈l.drop i,f.path < z.path:=fun z hz=>by
   obtain ⟨k,hk,e⟩:=List.mem_drop_iff_getElem.1 hz
   exact h2 (i+k) z (by omega) (by rw [List.getElem?_eq_getElem (by omega),e])
 refine List.pairwise_append.2 ⟨List.pairwise_append.2 ⟨p1,List.pairwise_singleton _ _,fun a ha b hb => ?_⟩,p2,fun a ha b hb => ?_⟩
 ·
  have:b=f:=by simpa using hb
  rw [this]; exact q1 a ha
 rcases List.mem_append.1 ha with ha | ha
 ·
  exact p3 a ha b hb
 have:a=f:=by simpa using ha
 rw [this]; exact q2 b hb
theorem aYo {l:List aC} {f z:aC} {i:Nat} (h:SF l) (hz:l[i]? = some z) (e:z.path=f.path):SF (l.set i f):=by
 have:(l.set i f).map (·.path)=l.map (·.path):=by
   rw [List.map_set,← e]
   exact List.ext_getElem? fun k=>by
     by_cases q:i=k
     . subst q
       have:=(List.getElem?_eq_some_iff.1 hz).1
       rw [List.getElem?_set_self (by simpa using this),List.getElem?_map,hz]; rfl
     . rw [List.getElem?_set_ne q]
 unfold SF at *
 rw [← List.pairwise_map (R:=(· < ·)) (f:=fun f:aC=>f.path)] at h ⊢
 rw [this]; exact h
instance (l:List aC) (p:List UInt8):Spec (Sh.eN l p) (l.length≤1000000000) (fun r=>(r.2=true→r.1∈l∧r.1.path=p)∧(r.2=false→r.1=⟨[],0,[]⟩∧(SF l → ∀ z∈l,z.path≠p))):=⟨fun h=>by
  unfold Sh.eN
  refine sB (fun y hy=>sI (fun q=>sS ⟨fun e=>by simp at e,fun _=>⟨rfl,fun hs z zm e => ?_⟩⟩) (fun q=>sA (fun z zm hz=>sS ⟨fun _=>⟨zm,?_⟩,fun e=>by simp at e⟩) ?_)) h
  . obtain ⟨k,hk⟩:=List.getElem?_of_mem zm
    obtain ⟨h1,h2⟩:=hy.2.2.2 hs
    by_cases c:(k:Int) < y.1
    . exact ltI _ (e▸h1 k z c hk)
    . exact (h2 k z (by omega) hk).2 (by simpa using q) e
  . obtain ⟨z',h1,h2⟩:=hy.2.2.1 (by simpa using q)
    rw [hz] at h1; cases h1; exact h2
  . obtain ⟨z',h1,h2⟩:=hy.2.2.1 (by simpa using q)
    have:=(List.getElem?_eq_some_iff.1 h1).1
    have:=hy.1
    omega⟩
instance (l:List (aC)):Spec (Sh.b5 l) (l.length≤4000000000) (fun r=>r=l):=⟨fun h=>by unfold Sh.b5; exact ZZ⟩
instance (l:List (aC)):Spec (Sh.bO l) (True) (fun r=>r=l):=⟨fun h=>by unfold Sh.bO; exact ZZ⟩
instance (l:List aC) (f:aC):Spec (Sh.kO l f) (l.length≤1000000000) (fun r=>r.length≤l.length+1∧(∀ z∈r,z=f∨z∈l)∧(∀ z∈l,z.path≠f.path→z∈r)∧(SF l→SF r)):=⟨fun h=>by
  unfold Sh.kO
  refine sB (fun y hy=>sB (fun q hq=>sI (fun e => ?_) (fun e => ?_)) (by omega)) (by omega)
  . subst hy
    obtain ⟨z,h1,h2⟩:=hq.2.2.1 e
    have:=(List.getElem?_eq_some_iff.1 h1).1
    have:=hq.1
    refine sA (fun _ _ _=>sT fun w hw=>sB (fun r hr=>sS ?_) trivial) (by omega)
    subst hr hw
    refine ⟨by simp,fun a ha=>(List.mem_or_eq_of_mem_set ha).symm,fun a ha hn => ?_,fun hs=>aYo hs h1 h2⟩
    obtain ⟨k,hk⟩:=List.getElem?_of_mem ha
    refine List.mem_of_getElem? (i:=k) ?_
    rw [List.getElem?_set_ne fun e'=>hn ?_]
    . exact hk
    . rw [← e',h1] at hk; cases hk; exact h2
  . subst hy
    have:=hq.1
    have:=hq.2.1
    refine sT fun w hw=>sG (fun _=>sT fun v hv=>sB (fun r hr=>sS ?_) trivial) ⟨⟨by omega,by omega⟩,by simp [hw],by simp [hw]; omega⟩
    subst hr hv hw
    refine ⟨by simp; omega,fun a ha => ?_,fun a ha _ => ?_,fun hs => ?_⟩
    . simp only [List.mem_append,List.mem_singleton] at ha
      rcases ha with (ha | ha) | ha
      . exact .inr (List.mem_of_mem_take ha)
      . exact .inl ha
      . exact .inr (List.mem_of_mem_drop ha)
    . rw [← List.take_append_drop q.1.toNat y,List.mem_append] at ha
      simp only [List.mem_append]
      exact ha.elim (fun a => .inl (.inl a)) .inr
    . obtain ⟨h1,h2⟩:=hq.2.2.2 hs
      exact aYn hs (fun k z hk hz=>h1 k z (by omega) hz) fun k z hk hz=>aVe (h2 k z (by omega) hz).1 ((h2 k z (by omega) hz).2 (by simpa using e))⟩
instance (x:aC) (y:List UInt8):Spec (Sh.l9 x y) (True) (fun r=>r=decide (x.path=y)):=⟨fun h=>by unfold Sh.l9; exact ZZ⟩
theorem aSy (x:aC) (y:List UInt8):Sh.l9 x y=some (decide (x.path=y)):=by
 obtain ⟨r,h,e⟩:=(inferInstance:Spec (Sh.l9 x y) _ _).out trivial
 rw [h,e]
instance (l:List aC) (p:List UInt8):Spec (Sh.iD l p) (l.length≤1000000000) (fun r=>r=l.filter (fun z => !decide (z.path=p))):=⟨fun h=>by
  have:=aEK (pr:=fun z=>Sh.l9 z p) h fun z _=>⟨_,aSy z p⟩
  simp only [aSy,Option.getD_some] at this
  exact this⟩
end Go.S
end

section
set_option maxRecDepth 100000
set_option maxHeartbeats 1000000
namespace Go.S
open Go
def SS (p:List UInt8):Prop:=p.length≤100
theorem a9U:SS [100,111]:=by unfold SS; decide
theorem a9V:SS [102,105,108,101]:=by unfold SS; decide
theorem a9W:SS [108,105,110,101,115]:=by unfold SS; decide
theorem a9X:SS [108,105,110,101]:=by unfold SS; decide
theorem a9Y:SS [112,97,116,104]:=by unfold SS; decide
theorem a9Z:SS [115,116,101,112]:=by unfold SS; decide
theorem a90:SS [98,121,116,101]:=by unfold SS; decide
theorem a92:SS [99,109,100]:=by unfold SS; decide
attribute [grind .] a9U a9V a9W a9X a9Y a9Z a90 a92
def uS:cS→Prop
  | .nil=>True
  | .no _=>True
  | .fault p a (.no _)=>SS p∧bP a
  | _=>False
def WW:cS→Prop
  | .nil=>True
  | .no _=>True
  | .fault p a e=>SS p∧bP a∧uS e
attribute [grind =] uS.eq_1 uS.eq_2 uS.eq_3 WW.eq_1 WW.eq_2 WW.eq_3
theorem a0e (s:List UInt8) (c:Int) : -1≤ixB s c∧ixB s c < s.length:=by
 unfold ixB
 generalize c.toNat.toUInt8=d
 induction s with
 | nil=>simp [Lib.indexByte]
 | cons x r ih=>simp only [Lib.indexByte]; grind
theorem aT8 (s:List UInt8) (c:Int):0≤aJP s c∧aJP s c≤s.length:=by
 unfold aJP
 generalize c.toNat.toUInt8=d
 induction s with
 | nil=>simp [Lib.countByte]
 | cons x r ih=>simp only [Lib.countByte]; grind
instance (s:List UInt8) (c:Int):Spec (Sh.jR s c) (True) (fun r => -1≤r∧r < s.length):=⟨fun h=>by unfold Sh.jR; have:=a0e s c; exact ZZ⟩
instance (s p:List UInt8):Spec (Sh.iN s p) (p.length=1) (fun r => -1≤r∧(r < s.length∨r=0∧s=p)):=⟨fun h=>by unfold Sh.iN; have:x5 (Bool) (fun b=>b=true→s=p):=⟨⟩; exact ZZ⟩
instance (s p:List UInt8):Spec (Sh.strings_Index s p) (p.length=1) (fun r => -1≤r∧r < s.length):=⟨fun h=>by unfold Sh.strings_Index; exact ZZ⟩
instance (s p:List UInt8):Spec (Sh.wP s p) (p.length=1) (fun r=>0≤r∧r≤s.length):=⟨fun h=>by unfold Sh.wP; have:=aT8 s; exact ZZ⟩
instance (s p:List UInt8):Spec (Sh.uI s p 0 (-1)) (p.length=1∧s.length≤1000000000) (fun r=>r.length≤s.length+1 ∧ ∀ x∈r,x.length≤s.length):=⟨fun h=>by unfold Sh.uI; obtain ⟨c,hc,h1,h2⟩:=(inferInstance:Spec (Sh.wP s p) _ _).out h.1; rw [hc]; have:uM (List UInt8×List (List UInt8)×Int) (fun t=>t.1.length≤s.length∧t.2.1.length=min (c+1) ((s.length:Int)+1)∧0≤t.2.2∧t.2.2 < t.2.1.length ∧ ∀ x∈t.2.1,x.length≤s.length) (fun t=>(s.length+1 - t.2.2).toNat):=⟨⟩; exact ZZ⟩
instance (s p:List UInt8):Spec (Sh.qY s p) (p.length=1∧s.length≤1000000000) (fun r=>r.length≤s.length+1 ∧ ∀ x∈r,x.length≤s.length):=⟨fun h=>by unfold Sh.qY; exact ZZ⟩
instance (n:Int):Spec (Sh.HV n) (True) (fun _=>True):=⟨fun h=>by unfold Sh.HV; exact ZZ⟩
instance (s:List UInt8):Spec (Sh.HW s) (s.length≤1000000) (fun _=>True):=⟨fun h=>by unfold Sh.HW; exact ZZ⟩
instance (s:List UInt8):Spec (Sh.zI s) (True) (fun r=>bP r∧(r=0→s.length≤64)):=⟨fun h=>by unfold Sh.zI; exact ZZ⟩
instance (x y:List UInt8):Spec (Sh.jP x y) (True) (fun _=>True):=⟨fun h=>by unfold Sh.jP; exact ZZ⟩
instance (x y:List UInt8):Spec (Sh.sY x y) (True) (fun _=>True):=⟨fun h=>by unfold Sh.sY; exact ZZ⟩
instance (x y:List UInt8):Spec (Sh.CH x y) (y.length≤1000000000) (fun _=>True):=⟨fun h=>by unfold Sh.CH; exact ZZ⟩
theorem aZB (x y:List UInt8):Spec (Sh.iH x y) (x.length≤1000000000∧y.length≤1000000000) (fun _=>True):=⟨fun h=>by unfold Sh.iH; exact ZZ⟩
instance (x y:List UInt8):Spec (Sh.iH x y) (x.length≤1000000000∧y.length≤1000000000) (fun r=>Sh.iH x y=some r):=⟨fun h=>by obtain ⟨r,e,_⟩:=(aZB x y).out h; exact ⟨r,e,e⟩⟩
instance (x y:aC):Spec (Sh.sD x y) (x.path.length≤1000000000∧y.path.length≤1000000000) (fun _=>True):=⟨fun h=>by unfold Sh.sD; exact ZZ⟩
instance (l:List (aC)) (f:aC):Spec (Sh.gY l f) (l.length≤1000000000∧(∀ z∈l,z.path.length≤1000000000)∧f.path.length≤1000000000) (fun r => -1≤r∧r < l.length):=⟨fun h=>by unfold Sh.gY; exact ZZ⟩
instance (l:List (aC)) (f:aC):Spec (Sh.fZ l f) (l.length≤1000000000∧(∀ z∈l,z.path.length≤1000000000)∧f.path.length≤1000000000) (fun _=>True):=⟨fun h=>by unfold Sh.fZ; exact ZZ⟩
instance (l:List aC) (i:Int):Spec (Sh.vW l i) (0≤i∧i < l.length∧l.length≤1000000000 ∧ ∀ z∈l,z.path.length≤1000000000) (fun r=>bP r∧(r=0 → ∀ z,l[i.toNat]? = some z→z.path.length≤64∧z.data.length≤4096)):=⟨fun h=>by unfold Sh.vW; exact ZG⟩
instance (l:List aC):Spec (Sh.gV l) (∀ z∈l,z.path.length≤1000000000) (fun e=>(e.isNil=true→l.length≤64 ∧ ∀ i:Nat,i < l.length → ∀ z,l[i]? = some z→z.path.length≤64∧z.data.length≤4096)∧(e = .nil ∨ ∃ p a n,e = .fault p a (.no n))∧uS e):=⟨fun h=>by
  unfold Sh.gV
  have:uM (Int) (fun t=>0≤t∧t≤l.length ∧ ∀ i:Nat,i < t → ∀ z,l[i]? = some z→z.path.length≤64∧z.data.length≤4096) (fun t=>(l.length - t).toNat):=⟨⟩
  refine sI (fun _=>ZZ) (fun h0=>L1 (fun x hx=>sI (fun _=>sB (fun y hy=>sI (fun e=>sG (fun _=>A7 ?_) ?_) (fun _=>ZZ)) ?_) (fun _=>ZZ)) (by grind))
  . refine ⟨⟨by omega,by omega,fun i hi z hz => ?_⟩,by omega⟩
    by_cases q:(i:Int) < x
    . exact hx.2.2 i q z hz
    . exact hy.2 e z (by rw [show x.toNat=i by omega]; exact hz)
  . grind
  . grind⟩
instance (e:cS):Spec (Sh.pH e) (e = .nil ∨ ∃ p a n,e = .fault p a (.no n)) (fun r=>(r = .nil↔e = .nil)∧uS r):=⟨fun h=>by unfold Sh.pH; rcases h with rfl | ⟨p,a,n,rfl⟩ <;> exact ZZ⟩
instance (x:aC) (y:List UInt8):Spec (Sh.jL x y) (x.path.length≤1000000000∧y.length≤1000000000) (fun r=>Sh.iH x.path y=some r):=⟨fun h=>by unfold Sh.jL; exact ZZ⟩
instance (l:List (aC)) (p:List UInt8):Spec (Sh.iU l p) (l.length≤1000000000∧(∀ z∈l,z.path.length≤1000000000)∧p.length≤1000000000) (fun r=>r=l.filter (fun z => !(Sh.jL z p).getD false)):=⟨fun h=>aEK (pr:=fun z=>Sh.jL z p) h.1 fun z zm=>by
  obtain ⟨r,e,_⟩:=(inferInstance:Spec (Sh.jL z p) _ _).out ⟨h.2.1 z zm,h.2.2⟩
  exact ⟨r,e⟩⟩
theorem aSx {z:aC} {p:List UInt8} {b:Bool} (h:Sh.iH z.path p=some b):Sh.jL z p=some b:=by unfold Sh.jL; rw [h]; rfl
instance (l:List aC) (p:List UInt8):Spec (Sh.nP l p) (l.length≤1000000000∧(∀ z∈l,z.path.length≤1000000000)∧p.length≤1000000000) (fun r=>r.length≤l.length∧(∀ z∈r,z∈l)∧(∀ z∈l,Sh.iH z.path p=some false→z∈r)∧(SF l→SF r)):=⟨fun h=>by have := @aHB; have := @aSx; unfold Sh.nP; exact ZZ⟩
instance (l:List aC) (p:List UInt8):Spec (Sh.nF l p) (l.length≤1000000000) (fun r=>r.length≤l.length∧(∀ z∈r,z∈l∧z.path≠p)∧(∀ z∈l,z.path≠p→z∈r)∧(SF l→SF r)):=⟨fun h=>by have := @aHB; unfold Sh.nF; exact ZZ⟩
instance (l m:List (aC)):Spec (Sh.iR l m) (l.length≤1000000000) (fun _=>True):=⟨fun h=>by unfold Sh.iR; exact ZZ⟩
instance (l m:List aC):Spec (Sh.jZ l m) (l.length≤1000000000) (fun _=>True):=⟨fun h=>by unfold Sh.jZ; exact ZZ⟩
instance (l:List (List UInt8)):Spec (Sh.cL l) (True) (fun r=>r=l):=⟨fun h=>by unfold Sh.cL; exact ZZ⟩
end Go.S
end

section
set_option maxRecDepth 100000
set_option maxHeartbeats 1000000
namespace Go.S
open Go
theorem a4V:at_ [(32:UInt8)] 0=some 32:=rfl
theorem t32:(32:UInt8).toNat=32:=rfl
theorem aXe (z:UInt8):IntKind.wrap .i64 ((z.toNat:Int) - 48)=z.toNat - 48:=IntWalk.i64_in _ (by have:=z.toNat_lt; omega)
theorem wrap_i64 {x:Int} (h0 : -9223372036854775808≤x) (h1:x≤9223372036854775807):IntKind.wrap .i64 x=x:=IntWalk.i64_in _ ⟨h0,h1⟩
def wS (n:Nat) (s:bJ):Prop:=s.verb.length≤n∧bP s.cF∧s.text.length≤n
def wC (n:Nat) (c:fO):Prop:=c.verb.length≤n∧c.name.length≤n∧bP c.n∧c.text.length≤n∧c.todo.length≤32 ∧ ∀ s∈c.todo,wS n s
def vS (s:bJ):Prop:=wS 300 s
def vC (c:fO):Prop:=wC 300 c
def dig (x n:Int):Prop:=0≤n∧0≤x∧(x=0∧n=0∨x=1∧n≤255∨x=2∧n≤2805∨x=3∧n≤28305∨x=4∧n≤283305∨x=5∧n≤2833305∨x=6∧n≤28333305∨x=7∧n≤283333305)
attribute [grind =] wS wC vS vC dig wrap_i64
instance (s p:List UInt8):Spec (Sh.lY s p) (p.length=1∧s.length≤1000000000) (fun r=>r.1.length≤s.length∧r.2.1.length≤s.length):=⟨fun h=>by unfold Sh.lY; exact ZZ⟩
instance (s p:List UInt8):Spec (Sh.vD s p) (p.length=1∧s.length≤1000000000) (fun r=>r.1.length≤s.length∧r.2.1.length≤s.length):=⟨fun h=>by unfold Sh.vD; exact ZZ⟩
instance (w:List (List UInt8)):Spec (Sh.v7 w) (True) (fun r=>r=[]∨r∈w):=⟨fun h=>by unfold Sh.v7; exact ZZ⟩
instance (s:List UInt8):Spec (Sh.HJ s) (True) (fun _=>True):=⟨fun h=>by unfold Sh.HJ; exact ZZ⟩
instance (s:List UInt8):Spec (Sh.B8 s) (True) (fun r=>0≤r.1∧r.1≤283333305):=⟨fun h=>by unfold Sh.B8; have:uM (Int×Int) (fun t=>dig t.2 t.1∧t.2≤s.length) (fun t=>(s.length - t.2).toNat):=⟨⟩; simp only [aXe]; exact ZO⟩
theorem aSd (n:Nat) (c:fO) (w:List (List UInt8)):Spec (Sh.HN c w) (wC n c∧w.length≤1000000001 ∧ ∀ x∈w,x.length≤n) (fun r=>wC n r.2):=⟨fun h=>by unfold Sh.HN; have:x5 (List (List UInt8)×Bool) (fun x=>x.1.length≤1000000001 ∧ ∀ z∈x.1,z.length≤n):=⟨⟩; have:x5 (Int×Bool×List UInt8×Int) (fun x=>x.2.2.1.length≤n∧bP x.2.2.2):=⟨⟩; have:x5 (Unit) (fun _=>True):=⟨⟩; exact ZO⟩
instance (s:List UInt8):Spec (Sh.HK s) (s.length≤1000000000) (fun r=>wC s.length r.1):=⟨fun h=>by have:=aSd s.length; unfold Sh.HK; have:x5 (List (List UInt8)) (fun w=>w.length≤s.length+1 ∧ ∀ x∈w,x.length≤s.length):=⟨⟩; exact ZZ⟩
instance  : Spec (Sh.B7) (True) (fun r=>r.length≤100):=⟨fun h=>by unfold Sh.B7; exact ⟨_,rfl,by decide⟩⟩
instance (l:List (List UInt8)) (s:List UInt8):Spec (Sh.fE l s) (l.length≤1000000000) (fun r=>bP r∧r < l.length∧(l=[]→r < 0)):=⟨fun h=>by unfold Sh.fE; exact ZZ⟩
instance (s:List UInt8):Spec (Sh.zX s) (True) (fun r=>bP r):=⟨fun h=>by unfold Sh.zX; exact ZZ⟩
instance (c:fO) (e:cS):Spec (Sh.vZ c e) (uS e) (fun r=>WW r):=⟨fun h=>by unfold Sh.vZ; exact ZZ⟩
instance (s:List UInt8) (c:Int):Spec (Sh.mP s c) (True) (fun r=>r.length≤s.length):=⟨fun h=>by unfold Sh.mP; have:uM (List UInt8) (fun t=>t.length≤s.length) (fun t=>((t.length:Int)).toNat):=⟨⟩; exact ZZ⟩
instance (s:List UInt8):Spec (Sh.qZ s [32]) (True) (fun r=>r.length≤s.length):=⟨fun h=>by unfold Sh.qZ; simp only [a4V,Option.bind_some,t32]; exact ZO⟩
instance (s:List UInt8):Spec (Sh.LH s) (True) (fun r=>r.1.length≤s.length∧r.2.length≤s.length):=⟨fun h=>by unfold Sh.LH; exact ZZ⟩
instance (s:List UInt8) (c:Int):Spec (Sh.nS s c) (s.length≤1000000000) (fun r=>r.length≤s.length):=⟨fun h=>by unfold Sh.nS; have:uM (List UInt8) (fun t=>t.length≤s.length) (fun t=>((t.length:Int)).toNat):=⟨⟩; exact ZZ⟩
instance (s:List UInt8):Spec (Sh.yE s [32]) (s.length≤1000000000) (fun r=>r.length≤s.length):=⟨fun h=>by unfold Sh.yE; simp only [a4V,Option.bind_some,t32]; exact ZO⟩
instance (s:List UInt8):Spec (Sh.C5 s) (True) (fun _=>True):=⟨fun h=>by unfold Sh.C5; exact ZZ⟩
instance (s:List UInt8):Spec (Sh.DN s) (True) (fun r=>0≤r.1∧r.1≤283333305):=⟨fun h=>by unfold Sh.DN; have:uM (Int×Int) (fun t=>dig t.2 t.1∧t.2≤s.length) (fun t=>(s.length - t.2).toNat):=⟨⟩; simp only [aXe]; exact ZO⟩
instance (s:List UInt8):Spec (Sh.IE s) (s.length≤1000000000) (fun r=>wS s.length r.1∧bP r.2):=⟨fun h=>by unfold Sh.IE; have:x5 (List UInt8) (fun x=>x.length≤s.length):=⟨⟩; exact ZZ⟩
instance (l:List (bJ)):Spec (Sh.gH l) (True) (fun r=>r=l):=⟨fun h=>by unfold Sh.gH; exact ZZ⟩
instance (s:List UInt8):Spec (Sh.C3 s) (s.length≤1000000000) (fun r=>r.1.length≤32∧(∀ x∈r.1,wS s.length x)∧uS r.2):=⟨fun h=>by unfold Sh.C3; have:uM (List bJ×Int) (fun t=>t.1.length≤32∧(∀ x∈t.1,wS s.length x)∧0≤t.2∧t.2≤1000000001) (fun t=>(1000000001 - t.2).toNat):=⟨⟩; exact ZZ⟩
instance (s:List UInt8):Spec (Sh.zF s) (s.length≤1000000000) (fun _=>True):=⟨fun h=>by unfold Sh.zF; exact ZZ⟩
instance (c:fO):Spec (Sh.LD c) (c.name.length≤1000000000) (fun r=>bP r):=⟨fun h=>by unfold Sh.LD; exact ZZ⟩
instance (c:fO):Spec (Sh.FP c) (True) (fun r=>bP r):=⟨fun h=>by unfold Sh.FP; have:x5 (Int) (fun _=>True):=⟨⟩; exact ZZ⟩
instance (s:List UInt8) (b:Bool):Spec (Sh.HM s b) (True) (fun r=>bP r∧(r=0→s.length≤256)):=⟨fun h=>by unfold Sh.HM; exact ZZ⟩
instance (l:List bJ):Spec (Sh.HL l) (True) (fun r=>bP r):=⟨fun h=>by unfold Sh.HL; exact ZZ⟩
instance (c:fO):Spec (Sh.LC c) (True) (fun r=>bP r):=⟨fun h=>by unfold Sh.LC; exact ZZ⟩
instance (c:fO):Spec (Sh.B6 c) (c.name.length≤1000000000) (WW):=⟨fun h=>by unfold Sh.B6; exact ZZ⟩
instance (s:List UInt8):Spec (Sh.zW s) (s.length≤1000000000) (fun r=>wC s.length r.1∧WW r.2):=⟨fun h=>by unfold Sh.zW; have:x5 (List bJ) (fun x=>x.length≤32 ∧ ∀ y∈x,wS s.length y):=⟨⟩; exact ZZ⟩
theorem a66 {n:Nat} {c:fO} (h:wC n c) (k:n≤300):vC c:=by
 unfold vC wC wS at *
 grind
end Go.S
end

section
set_option maxRecDepth 100000
set_option maxHeartbeats 1000000
namespace Go.S
open Go
def lE (a b:IndexEntry):Prop:=a.path < b.path∨a.path=b.path∧a.fA < b.fA
def SI (l:List IndexEntry):Prop:=l.Pairwise lE
theorem a8f {a b c:IndexEntry} (h:lE a b) (k:lE b c):lE a c:=by
 rcases h with h | ⟨h,h'⟩ <;> rcases k with k | ⟨k,k'⟩
 ·
  exact .inl (ltT h k)
 ·
  exact .inl (k▸h)
 ·
  exact .inl (h▸k)
 exact .inr ⟨h.trans k,by omega⟩
theorem aYp {l:List IndexEntry} (h:SI l) {k m:Nat} {a b:IndexEntry} (hk:k < m) (ha:l[k]? = some a) (hb:l[m]? = some b):lE a b:=by
 obtain ⟨h1,e1⟩:=List.getElem?_eq_some_iff.1 ha
 obtain ⟨h2,e2⟩:=List.getElem?_eq_some_iff.1 hb
 subst e1 e2
 exact List.pairwise_iff_getElem.1 h k m h1 h2 hk
theorem aYq {l:List IndexEntry} {f:IndexEntry} {i:Nat} (h:SI l) (h1 : ∀ (k:Nat) z,k < i→l[k]? = some z→lE z f) (h2 : ∀ z,l[i]? = some z→lE f z):SI (l.take i++[f]++l.drop i):=by
 have hb:SI (l.take i++l.drop i):=by rw [List.take_append_drop]; exact h
 obtain ⟨p1,p2,p3⟩:=List.pairwise_append.1 hb
 have q1 : ∀ z∈l.take i,lE z f:=fun z hz=>by
   obtain ⟨k,hk,e⟩:=List.mem_take_iff_getElem.1 hz
   exact h1 k z (by omega) (by rw [List.getElem?_eq_getElem (by omega),e])
 have q2 : ∀ z∈l.drop i,lE f z:=fun z hz=>by
   obtain ⟨k,hk,e⟩:=List.mem_drop_iff_getElem.1 hz
   have hz':l[i+k]? = some z:=by rw [List.getElem?_eq_getElem (by omega),e]
   cases k with
   | zero=>exact h2 z hz'
   | succ k=>exact a8f (h2 _ (List.getElem?_eq_getElem (show i < l.length by omega))) (aYp h (show i < i+(k+1) by omega) (List.getElem?_eq_getElem _) hz')
 refine List.pairwise_append.2 ⟨List.pairwise_append.2 ⟨p1,List.pairwise_singleton _ _,fun a ha b hb => ?_⟩,p2,fun a ha b hb => ?_⟩
 ·
  have:b=f:=by simpa using hb
  rw [this]; exact q1 a ha
 rcases List.mem_append.1 ha with ha | ha
 ·
  exact p3 a ha b hb
 have:a=f:=by simpa using ha
 rw [this]; exact q2 b hb
def G0 (l:List IndexEntry) (n:Int):List aC:=(l.filter (fun e=>decide (e.fA=n))).map fun e=>⟨e.path,e.mode,e.data⟩
theorem aOm {l:List IndexEntry} {n:Int} (h:SI l):SF (G0 l n):=by
 unfold G0 SF
 rw [List.pairwise_map]
 have:=(List.pairwise_filter (p:=fun e:IndexEntry=>decide (e.fA=n))).2 (h.imp (S:=fun a b=>decide (a.fA=n)=true→decide (b.fA=n)=true→a.path < b.path) fun {a b} hab ha hb => ?_)
 ·
  exact this
 simp only [decide_eq_true_eq] at ha hb
 rcases hab with q | ⟨_,q⟩
 ·
  exact q
 omega
instance (x:Int):Spec (Sh.cmp_isNaN_int x) (True) (· = false):=⟨fun h=>by unfold Sh.cmp_isNaN_int; exact ZZ⟩
instance (x y:Int):Spec (Sh.vM x y) (True) (fun r=>(r < 0↔x < y)∧(r=0↔x=y)):=⟨fun h=>by unfold Sh.vM; exact ZZ⟩
theorem or2 (a b:Int):Ok (Sh.FQ [a,b]) fun r=>r=if a=0 then b else a:=by
 unfold Sh.FQ
 refine sL (fun x=>x=0∨x=1∧a=0∨x=2∧a=0∧b=0) (fun x=>(2 - x).toNat) (.inl rfl) fun x hx => ?_
 refine sI (fun h=>sA (fun z _ hz=>sI (fun q=>sG (fun _=>A7 ?_) ?_) (fun q=>uA (sS ?_))) ?_) (fun h=>uA (sS ?_)) <;> rcases hx with rfl | ⟨rfl,ha⟩ | ⟨rfl,ha,hb⟩ <;> simp_all [bP]
instance (x e:IndexEntry):Spec (Sh.yS x e) (True) (fun r=>r < 0↔lE x e):=⟨fun h=>by
  unfold Sh.yS
  refine sB (fun y hy=>sB (fun w hw=>sT fun v hv => ?_) trivial) trivial
  subst hv
  rw [sP]
  refine (or2 y w).mono fun r hr=>sS ?_
  subst hr
  unfold lE
  have := @ltI
  split <;> grind⟩
instance (x e:IndexEntry):Spec (Sh.DC x e) (x.path.length≤64∧e.path.length≤64) (fun r=>r=false→x.path=e.path→x.fA≠e.fA∧x.fA≠0∧e.fA≠0):=⟨fun h=>by unfold Sh.DC; have:x5 Unit (fun _=>e.fA≠0):=⟨⟩; exact ZZ⟩
instance (x e:IndexEntry):Spec (Sh.tH x e) (x.path.length≤64∧e.path.length≤64) (fun r=>r=false→x.path=e.path→x.fA≠e.fA∧x.fA≠0∧e.fA≠0):=⟨fun h=>by unfold Sh.tH; exact ZZ⟩
theorem aNT {l:List IndexEntry} {b:IndexEntry→Bool} (h:SI l):SI (l.filter b):=List.Pairwise.filter _ h
instance (l:List (IndexEntry)) (e:IndexEntry):Spec (Sh.gR l e) (l.length≤1000000000∧(∀ z∈l,z.path.length≤64)∧e.path.length≤64) (fun r=>r.length≤l.length∧(∀ z∈r,z∈l∧(z.path=e.path→z.fA≠e.fA∧z.fA≠0∧e.fA≠0))∧(SI l→SI r)):=⟨fun h=>by
  refine (aEK (pr:=fun z=>Sh.tH z e) h.1 fun z zm => ?_).mono fun r hr => ?_
  . obtain ⟨r,e,_⟩:=(inferInstance:Spec (Sh.tH z e) _ _).out ⟨h.2.1 z zm,h.2.2⟩
    exact ⟨r,e⟩
  . subst hr
    refine ⟨List.length_filter_le _ _,fun z hz => ?_,aNT⟩
    obtain ⟨h1,h2⟩:=List.mem_filter.1 hz
    obtain ⟨r,e,h3⟩:=(inferInstance:Spec (Sh.tH z e) _ _).out ⟨h.2.1 z h1,h.2.2⟩
    rw [e] at h2
    exact ⟨h1,h3 (by simpa using h2)⟩⟩
end Go.S
end

section
set_option maxRecDepth 100000
set_option maxHeartbeats 1000000
namespace Go.S
open Go
def vF (f:aC):Prop:=f.path.length≤64∧bP f.mode∧f.data.length≤4096
def vE (e:IndexEntry):Prop:=e.path.length≤64∧bP e.fA∧bP e.mode∧e.data.length≤4096∧bP e.time∧bP e.size
def Rw (l:List aC):Prop:=l.length≤64∧(∀ f∈l,vF f)∧SF l
def Ix (n:Nat) (l:List IndexEntry):Prop:=l.length≤n∧(∀ e∈l,vE e)∧SI l
attribute [grind =] vF vE Rw Ix
theorem Y2:SF []:=List.Pairwise.nil
theorem aNU:SI []:=List.Pairwise.nil
attribute [grind .] Y2 aNU
instance (l:List (IndexEntry)):Spec (Sh.eC l) (l.length≤4000000000) (fun r=>r=l):=⟨fun h=>by unfold Sh.eC; exact ZZ⟩
instance (l:List (IndexEntry)):Spec (Sh.cG l) (True) (fun r=>r=l):=⟨fun h=>by unfold Sh.cG; exact ZZ⟩
instance (l:List IndexEntry) (e:IndexEntry):Spec (Sh.wA l e) (l.length≤1000000∧(∀ z∈l,vE z)∧vE e) (fun r=>r.length≤l.length+1∧(∀ z∈r,vE z∧(z=e∨z∈l))∧(SI l→SI r)):=⟨fun h=>by
  unfold Sh.wA
  refine sB (fun y hy => ?_) (by omega); subst hy
  refine sB (fun z hz => ?_) ⟨by omega,fun a ha=>(h.2.1 a ha).1,h.2.2.1⟩
  refine sJ (fun x=>0≤x∧x≤z.length∧(∀ (k:Nat) a,k < x→z[k]? = some a→lE a e) ∧ ∀ a,z[x.toNat]? = some a → ¬ lE a e) (fun x ⟨x0,x1,x2,x3⟩=>sT fun w hw=>sG (fun _=>sT fun v hv=>sB (fun r hr=>sS ?_) trivial) ⟨⟨x0,x1⟩,by simp [hw],by simp [hw]; omega⟩) fun k hk => ?_
  . subst hr hv hw
    refine ⟨by simp; omega,fun a ha => ?_,fun hs=>aYq (hz.2.2 hs) (fun k a q ha=>x2 k a (by omega) ha) fun a ha => ?_⟩
    . simp only [List.mem_append,List.mem_singleton] at ha
      rcases ha with (ha | ha) | ha
      . have:=(hz.2.1 a (List.mem_of_mem_take ha)).1; exact ⟨h.2.1 a this,.inr this⟩
      . exact ⟨ha▸h.2.2,.inl ha⟩
      . have:=(hz.2.1 a (List.mem_of_mem_drop ha)).1; exact ⟨h.2.1 a this,.inr this⟩
    . have q:=x3 a ha
      have q':=(hz.2.1 a (List.mem_of_getElem? ha)).2
      unfold lE at q ⊢
      by_cases c:a.path=e.path
      . have:=q' c; have q2 : ¬ a.fA < e.fA:=fun d=>q (.inr ⟨c,d⟩)
        exact .inr ⟨c.symm,(by omega:e.fA < a.fA)⟩
      . exact .inl (aVe (fun d=>q (.inl d)) c)
  . refine sL (fun x=>0≤x∧x≤z.length ∧ ∀ (k:Nat) a,k < x→z[k]? = some a→lE a e) (fun x=>(z.length - x).toNat) ⟨by omega,by omega,fun k a q=>by omega⟩ fun x ⟨x0,x1,x2⟩ => ?_
    refine sI (fun hx=>sA (fun a am ha=>sB (fun y hy=>sI (fun q=>sG (fun _=>A7 ⟨⟨by omega,by omega,fun k b hk hb => ?_⟩,by omega⟩) (by unfold bP; omega)) (fun q=>uA (hk _ ⟨x0,x1,x2,fun b hb => ?_⟩))) trivial) ⟨x0,hx⟩) (fun hx=>uA (hk _ ⟨x0,x1,x2,fun b hb => ?_⟩))
    . by_cases c:k=x.toNat
      . subst c; rw [ha] at hb; cases hb; exact hy.1 q
      . exact x2 k b (by omega) hb
    . rw [ha] at hb; cases hb; exact fun c=>q (hy.2 c)
    . have:=(List.getElem?_eq_some_iff.1 hb).1; omega⟩
instance (e:IndexEntry) (p:List UInt8):Spec (Sh.qF e p) (True) (fun r=>r=decide (e.path=p)):=⟨fun h=>by unfold Sh.qF; exact ZZ⟩
instance (l:List (IndexEntry)) (p:List UInt8):Spec (Sh.iF l p) (l.length≤1000000000) (fun r=>r.length≤l.length∧(∀ z∈r,z∈l∧z.path≠p)∧(SI l→SI r)):=⟨fun h=>by
  have k : ∀ z,Sh.qF z p=some (decide (z.path=p)):=fun z=>by
    obtain ⟨r,h,e⟩:=(inferInstance:Spec (Sh.qF z p) _ _).out trivial
    rw [h,e]
  refine (aEK (pr:=fun z=>Sh.qF z p) h fun z _=>⟨_,k z⟩).mono fun r hr => ?_
  subst hr
  exact ⟨List.length_filter_le _ _,fun z hz=>by have:=List.mem_filter.1 hz; simpa [k] using this,aNT⟩⟩
instance (l:List IndexEntry) (p:List UInt8):Spec (Sh.vJ l p) (l.length≤1000000000) (fun r=>r.length≤l.length∧(∀ z∈r,z∈l∧z.path≠p)∧(SI l→SI r)):=⟨fun h=>by unfold Sh.vJ; exact ZZ⟩
theorem aAh (l:List IndexEntry) (n:Int):(G0 l n).length≤l.length:=by unfold G0; rw [List.length_map]; exact List.length_filter_le _ _
theorem aS3 {l:List IndexEntry} {n:Int} {i:Nat} {z:IndexEntry} (h:l[i]? = some z):G0 (l.take (i+1)) n=G0 (l.take i) n++if z.fA=n then [⟨z.path,z.mode,z.data⟩] else []:=by
 unfold G0
 rw [List.take_add_one,h,List.filter_append,List.map_append]
 by_cases q:z.fA=n <;> simp [q]
instance (l:List IndexEntry) (n:Int):Spec (Sh.kT l n) (l.length≤1000000) (fun r=>r=G0 l n):=⟨fun h=>by
  unfold Sh.kT
  refine sL (fun t=>t.1=G0 (l.take t.2.toNat) n∧0≤t.2∧t.2≤l.length) (fun t=>(l.length - t.2).toNat) ⟨rfl,by simp,by simp⟩ fun ⟨o,x⟩ ⟨h0,h1,h2⟩ => ?_
  dsimp only at h0 h1 h2 ⊢
  have hl:=aAh (l.take x.toNat) n
  rw [← h0,List.length_take] at hl
  refine sI (fun hx=>sA (fun z zm hz => ?_) ⟨h1,hx⟩) (fun hx=>uA (sB (fun y hy=>sS ?_) trivial))
  . have e:=aS3 (n:=n) hz
    refine sI (fun q=>sT fun w hw=>sG (fun _=>sT fun v hv=>sG (fun _=>A7 ⟨⟨?_,by dsimp only; omega,by dsimp only; omega⟩,by dsimp only; omega⟩) (by unfold bP; omega)) (by simp [hw]; omega)) (fun q=>sG (fun _=>A7 ⟨⟨?_,by dsimp only; omega,by dsimp only; omega⟩,by dsimp only; omega⟩) (by unfold bP; omega))
    . dsimp only; rw [show (x+1).toNat=x.toNat+1 by omega,e,if_pos q,hv,hw,h0]
    . dsimp only; rw [show (x+1).toNat=x.toNat+1 by omega,e,if_neg q,List.append_nil]; exact h0
  . rw [hy,h0,List.take_of_length_le (by omega)]⟩
theorem aOn {l:List IndexEntry} {n:Int} (h : ∀ z∈l,vE z) : ∀ f∈G0 l n,vF f:=fun f hf=>by
  obtain ⟨z,hz,e⟩:=List.mem_map.1 hf
  have:=h z (List.mem_filter.1 hz).1
  subst e; exact ⟨this.1,this.2.2.1,this.2.2.2.1⟩
theorem aXP {l:List IndexEntry} {n:Int} (h : ∀ z∈l,z.fA=n):(G0 l n).length=l.length:=by
 unfold G0
 rw [List.length_map,List.filter_eq_self.2 fun z hz=>by simp [h z hz]]
end Go.S
end

section
set_option maxRecDepth 100000
set_option maxHeartbeats 1000000
namespace Go.S
open Go
theorem aF2 (l:List (List UInt8)):(rR l).length=l.length:=(zM l).length_eq
theorem aMd (l:List (List UInt8)) (y:List UInt8):y∈rR l↔y∈l:=(zM l).mem_iff
theorem aGB (l:List (List UInt8)):(nO l).length≤l.length:=QN l
theorem aGC {l:List (List UInt8)} {y:List UInt8}:y∈nO l→y∈l:=by
 have key : ∀ (l acc:List (List UInt8)),y∈l.foldl zZ acc→y∈acc∨y∈l:=by
   intro l
   induction l with
   | nil=>intro acc h; exact .inl h
   | cons x r ih =>
     intro acc h
     rcases ih _ h with q | q
     . unfold zZ at q; grind
     . grind
 intro h
 rcases key l [] h with q | q
 ·
  cases q
 exact q
theorem aGD {l:List (List UInt8)} (h:(nO (rR l)).length=0):l.length=0:=by
 have e : ∀ (l acc:List (List UInt8)),acc≠[]→l.foldl zZ acc≠[]:=by
   intro l
   induction l with
   | nil=>intro acc h; exact h
   | cons x r ih=>intro acc h; exact ih _ (by unfold zZ; split <;> simp [h])
 rw [← aF2]
 cases hs:rR l with
 | nil=>rfl
 | cons x r =>
   rw [hs] at h
   exact absurd (List.length_eq_zero_iff.1 h) (e r _ (by unfold zZ; split <;> simp_all))
attribute [grind =] aF2 aMd
attribute [grind →] aGD
attribute [grind! .] aGB
attribute [grind →] aGC
theorem aCo {l:List (List UInt8)} {y:List UInt8} (h:y∈HT l):y∈l:=(QZ l y).1 h
attribute [grind →] aCo
attribute [grind! .] X4
instance (l:List (List aC)):Spec (Sh.uX l) (l.length≤8 ∧ ∀ r∈l,r.length≤1000000 ∧ ∀ f∈r,f.path.length≤64) (fun r=>r.length≤8000000∧(∀ p∈r,p.length≤64)∧r.Pairwise (· < ·)∧r.length≤(l.map List.length).sum ∧ ∀ q∈l,∀ f∈q,f.path∈r):=⟨fun h=>by
  unfold Sh.uX
  refine sL (fun t=>0≤t.1∧t.1≤l.length∧t.2.length≤1000000*t.1∧(∀ p∈t.2,p.length≤64)∧t.2.length≤((l.take t.1.toNat).map List.length).sum ∧ ∀ q∈l.take t.1.toNat,∀ f∈q,f.path∈t.2) (fun t=>(l.length - t.1).toNat) (by simp) fun ⟨x,acc⟩ ⟨h0,h1,h2,h3,h4,h5⟩ => ?_
  dsimp only at h0 h1 h2 h3 h4 h5 ⊢
  refine sI (fun hx=>sA (fun z zm hz => ?_) ⟨h0,hx⟩) (fun hx => ?_)
  . have e:((l.take (x+1).toNat).map List.length).sum=((l.take x.toNat).map List.length).sum+z.length:=by rw [uU h0 hz]; simp
    have hz':=h.2 z zm
    refine sL (fun t=>0≤t.1∧t.1≤z.length∧t.2.length≤acc.length+t.1∧(∀ p∈t.2,p.length≤64)∧(∀ p∈acc,p∈t.2) ∧ ∀ f∈z.take t.1.toNat,f.path∈t.2) (fun t=>(z.length - t.1).toNat) ⟨by simp,by simp,by simp,h3,fun _ q=>q,by simp⟩ fun ⟨i,a⟩ ⟨i0,i1,i2,i3,i4,i5⟩ => ?_
    dsimp only at i0 i1 i2 i3 i4 i5 ⊢
    refine sI (fun hi=>sA (fun f hf hf' => ?_) ⟨i0,hi⟩) (fun hi => ?_)
    . have:=hz'.2 f hf
      have e':=uU i0 hf'
      have b1:=hz'.1
      have b2:=h.1
      clear h5 hz hz' h e
      refine sG (fun _=>sT fun v hv=>sG (fun _=>A7 ⟨⟨by dsimp only; omega,by dsimp only; omega,?_,?_,?_,?_⟩,by dsimp only; omega⟩) (by unfold bP; omega)) ⟨by omega,by omega⟩ <;> dsimp only
      . rw [hv,List.length_cons]; omega
      . grind
      . grind
      . rw [e',hv]; grind
    . refine uA (sG (fun _=>A7 ⟨⟨by omega,by omega,by dsimp only; omega,i3,by dsimp only; omega,fun q hq f hf => ?_⟩,by dsimp only; omega⟩) ⟨by omega,by omega⟩)
      dsimp only at hq ⊢
      rw [uU h0 hz] at hq
      rcases List.mem_append.1 hq with hq | hq
      . exact i4 _ (h5 q hq f hf)
      . have hq:=List.mem_singleton.1 hq
        subst hq
        exact i5 f (by rw [List.take_of_length_le (by omega)]; exact hf)
  . have:x=l.length:=by omega
    subst this
    rw [List.take_of_length_le (by omega)] at h4 h5
    have k1:=X4 acc
    refine uA (sG (fun _=>sT fun y hy=>sB (fun w hw=>sS ?_) trivial) (by omega))
    subst hw; subst hy
    exact ⟨by omega,fun p hp=>h3 p (aCo hp),VQ acc,by omega,fun q hq f hf=>(QZ _ _).2 (h5 q hq f hf)⟩⟩
instance (h:List aC) (l:List IndexEntry):Spec (Sh.iI h l) (h.length≤1000000∧(∀ f∈h,f.path.length≤64)∧l.length≤1000000 ∧ ∀ e∈l,e.path.length≤64) (fun r=>r.length≤8000000∧(∀ p∈r,p.length≤64)∧r.length≤h.length+l.length):=⟨fun h=>by unfold Sh.iI; have:uM (List aC×Int) (fun t=>t.1.length≤t.2∧0≤t.2∧t.2≤l.length ∧ ∀ f∈t.1,f.path.length≤64) (fun t=>(l.length - t.2).toNat):=⟨⟩; exact ZZ⟩
instance (e:IndexEntry) (p:List UInt8):Spec (Sh.BL e p) (True) (fun _=>True):=⟨fun h=>by unfold Sh.BL; exact ZZ⟩
instance (l:List (IndexEntry)) (p:List UInt8):Spec (Sh.gB l p) (l.length≤1000000000) (fun r => -1≤r∧r < l.length):=⟨fun h=>by unfold Sh.gB; exact ZZ⟩
instance (l:List (IndexEntry)) (p:List UInt8):Spec (Sh.fQ l p) (l.length≤1000000000) (fun _=>True):=⟨fun h=>by unfold Sh.fQ; exact ZZ⟩
instance (l:List IndexEntry) (p:List UInt8):Spec (Sh.zJ l p) (l.length≤1000000000) (fun _=>True):=⟨fun h=>by unfold Sh.zJ; exact ZZ⟩
instance (l:List IndexEntry) (w:List aC) (p:List UInt8):Spec (Sh.IA l w p) (l.length≤1000000∧(∀ z∈l,vE z)∧Rw w) (fun r=>r.length≤l.length+1∧(∀ z∈r,vE z)∧(SI l→SI r)):=⟨fun h=>by unfold Sh.IA; exact ZZ⟩
instance (x e:IndexEntry):Spec (Sh.BH x e) (True) (fun _=>True):=⟨fun h=>by unfold Sh.BH; exact ZZ⟩
instance (l m:List IndexEntry):Spec (Sh.dF l m) (l.length≤1000000000) (fun r=>r=true→l.length=m.length):=⟨fun h=>by unfold Sh.dF; exact ZZ⟩
instance (l m:List IndexEntry):Spec (Sh.zC l m) (l.length≤1000000000) (fun r=>r=true→l.length=m.length):=⟨fun h=>by unfold Sh.zC; exact ZZ⟩
attribute [grind .] aOm
attribute [grind →] aOn
attribute [grind =] aXP
attribute [grind! .] aAh
instance (l:List IndexEntry):Spec (Sh.jX l) (l.length≤1000000 ∧ ∀ z∈l,vE z) (fun r=>r.length≤l.length∧(∀ p∈r,p.length≤64)∧(r.length=0 → ∀ z∈l,z.fA=0)):=⟨fun h=>by
  unfold Sh.jX
  refine sL (fun t=>t.1.length≤t.2∧0≤t.2∧t.2≤l.length∧(∀ p∈t.1,p.length≤64)∧(t.1.length=0 → ∀ z∈l.take t.2.toNat,z.fA=0)) (fun t=>(l.length - t.2).toNat) (by simp) fun ⟨o,x⟩ ⟨h0,h1,h2,h3,h4⟩ => ?_
  dsimp only at h0 h1 h2 h3 h4 ⊢
  refine sI (fun hx=>sA (fun z zm hz => ?_) ⟨h1,hx⟩) (fun hx => ?_)
  . have e:=uU h1 hz
    exact ZZ
  . have:x=l.length:=by omega
    subst this
    rw [List.take_of_length_le (by omega)] at h4
    exact ZZ⟩
theorem aTD {l:List aC} {o:List IndexEntry} {i:Nat} {z:aC} (h:SF l) (ho:SI o) (hm : ∀ e∈o,∃ f∈l.take i,e.path=f.path) (hz:l[i]? = some z) (e:IndexEntry) (he:e.path=z.path):SI (o++[e]):=by
 refine List.pairwise_append.2 ⟨ho,List.pairwise_singleton _ _,fun a ha b hb => ?_⟩
 have hb:b=e:=by simpa using hb
 obtain ⟨f,hf,q⟩:=hm a ha
 obtain ⟨k,hk,e'⟩:=List.mem_take_iff_getElem.1 hf
 subst hb
 refine .inl ?_
 rw [q,he]
 exact P9 h (show k < i by omega) (by rw [List.getElem?_eq_getElem (by omega),e']) hz
instance (l:List aC):Spec (Sh.BG l) (Rw l) (fun r=>r.length=l.length∧(∀ e∈r,vE e)∧(∀ e∈r,e.fA=0)∧SI r):=⟨fun h=>by
  unfold Sh.BG
  refine sL (fun t=>t.1.length=t.2∧0≤t.2∧t.2≤l.length∧(∀ e∈t.1,vE e∧e.fA=0 ∧ ∃ f∈l.take t.2.toNat,e.path=f.path)∧SI t.1) (fun t=>(l.length - t.2).toNat) ⟨rfl,by simp,by simp,by simp,List.Pairwise.nil⟩ fun ⟨o,x⟩ ⟨h0,h1,h2,h3,h4⟩ => ?_
  dsimp only at h0 h1 h2 h3 h4 ⊢
  have:=h.1
  refine sI (fun hx=>sA (fun z zm hz=>sT fun w hw=>sG (fun _=>sT fun v hv=>sG (fun _=>A7 ⟨⟨?_,by dsimp only; omega,by dsimp only; omega,fun e he => ?_,?_⟩,by dsimp only; omega⟩) (by unfold bP; omega)) (by simp [hw]; omega)) ⟨h1,hx⟩) (fun hx=>uA (sB (fun y hy=>sS ?_) trivial))
  . dsimp only; rw [hv,hw,List.length_append,List.length_singleton]; omega
  . dsimp only at he ⊢
    rw [show (x+1).toNat=x.toNat+1 by omega,List.take_add_one,hz]
    rw [hv,hw] at he
    rcases List.mem_append.1 he with he | he
    . obtain ⟨a,b,f,c,d⟩:=h3 e he
      exact ⟨a,b,f,List.mem_append_left _ c,d⟩
    . have he:e=_:=List.mem_singleton.1 he
      have hf:=h.2.1 z zm
      subst he
      exact ⟨by unfold vE vF bP at *; simp_all,rfl,z,List.mem_append_right _ (by simp),rfl⟩
  . dsimp only; rw [hv,hw]; exact aTD h.2.2 h4 (fun e he=>(h3 e he).2.2) hz _ rfl
  . subst hy; exact ⟨by omega,fun e he=>(h3 e he).1,fun e he=>(h3 e he).2.1,h4⟩⟩
end Go.S
end

section
set_option maxRecDepth 100000
set_option maxHeartbeats 1000000
namespace Go.S
open Go
theorem aMN {l:List (List UInt8)} (h : ∀ x∈l,x.length≤5000):(TV l []).length≤5000*l.length:=by
 have:TV l []=l.flatten:=by
   unfold TV
   cases l with
   | nil=>exact Lib.join_nil []
   | cons x r=>rw [Lib.join_cons]; simp [Lib.joinTail]
 rw [this]
 clear this
 induction l with
 | nil=>simp
 | cons x r ih =>
   have h1:=h x (List.mem_cons_self ..)
   have ih:=ih fun y hy=>h y (List.mem_cons_of_mem _ hy)
   simp only [List.flatten_cons,List.length_append,List.length_cons]
   omega
instance (s:List UInt8):Spec (Sh.uZ s) (s.length≤1000000) (fun r=>r.length≤s.length ∧ ∀ x∈r,x.length≤s.length):=⟨fun h=>by unfold Sh.uZ; have:uM (List UInt8×List (List UInt8)) (fun t=>t.1.length+t.2.length≤s.length ∧ ∀ x∈t.2,x.length≤s.length) (fun t=>((t.1.length:Int)).toNat):=⟨⟩; exact ZO⟩
instance (l:List (List UInt8)):Spec (Sh.CE l) (l.length≤700 ∧ ∀ x∈l,x.length≤5000) (fun r=>r.length≤5000*l.length):=⟨fun h=>by unfold Sh.CE; have:=aMN h.2; exact ZZ⟩
instance (x y:List UInt8):Spec (Sh.jQ x y) (x.length≤1000000000∧y.length≤1000000000) (fun _=>True):=⟨fun h=>by unfold Sh.jQ; exact ZZ⟩
instance (x y:List UInt8):Spec (Sh.sZ x y) (x.length≤1000000000∧y.length≤1000000000) (fun _=>True):=⟨fun h=>by unfold Sh.sZ; exact ZZ⟩
instance (x:List UInt8):Spec (Sh.DD x) (x.length≤1000000000) (fun _=>True):=⟨fun h=>by unfold Sh.DD; exact ZZ⟩
theorem idx {i j a b:Int} (i0:0≤i) (i1:i≤a) (j0:0≤j) (j1:j≤b) (ha:a≤256) (hb:b≤256):0≤i*(b+1)∧i*(b+1)≤65792∧i*(b+1)+j < (a+1)*(b+1):=by
 have h1:0≤i*(b+1):=Int.mul_nonneg i0 (by omega)
 have h2:i*(b+1)≤a*(b+1):=Int.mul_le_mul_of_nonneg_right i1 (by omega)
 have h3:a*(b+1)≤256*(b+1):=Int.mul_le_mul_of_nonneg_right ha (by omega)
 have h4:(a+1)*(b+1)=a*(b+1)+(b+1):=by rw [Int.add_mul,Int.one_mul]
 omega
def Tb (t:oA):Prop:=t.a.length≤256∧t.b.length≤256∧(t.n.length:Int)=((t.a.length:Int)+1)*((t.b.length:Int)+1)
def na (l:List iL):Int:=(l.countP (fun e=>decide (e.op≠3)):Nat)
def nb (l:List iL):Int:=(l.countP (fun e=>decide (e.op≠2)):Nat)
def Ed (l:List iL):Prop := ∀ e∈l,e.op=1∨e.op=2∨e.op=3
theorem aKP (l:List iL) (e:iL):na (l++[e])=na l+if e.op=3 then 0 else 1:=by unfold na; rw [List.countP_append,List.countP_singleton]; grind
theorem aKQ (l:List iL) (e:iL):nb (l++[e])=nb l+if e.op=2 then 0 else 1:=by unfold nb; rw [List.countP_append,List.countP_singleton]; grind
theorem a0l:na []=0:=rfl
theorem a0m:nb []=0:=rfl
attribute [grind =] aKP aKQ a0l a0m Ed
def Md (a b:List (List UInt8)):(Unit×cS)⊕(oA×Unit)→Prop
  | .inl y=>y.2.isNil=false
  | .inr y=>y.1.a=a∧y.1.b=b∧Tb y.1
instance (t:oA) (i j:Int):Spec (Sh.nE t i j) (Tb t∧0≤i∧i≤t.a.length∧0≤j∧j≤t.b.length) (fun r=>r∈t.n):=⟨fun h=>by unfold Sh.nE; obtain ⟨⟨h1,h2,h3⟩,h4,h5,h6,h7⟩:=h; have:=idx h4 h5 h6 h7 (by omega) (by omega); exact ZZ⟩
instance (a b:List (List UInt8)):Spec (Sh.HO a b) (True) (Md a b):=⟨fun h=>by
  unfold Sh.HO
  refine sI (fun _=>sS rfl) fun ha=>sI (fun _=>sS rfl) fun hb => ?_
  have hN:=idx (i:=a.length) (j:=b.length) (a:=a.length) (b:=b.length) (by omega) (by omega) (by omega) (by omega) (by omega) (by omega)
  have hM:((a.length:Int)+1)*((b.length:Int)+1)=a.length*((b.length:Int)+1)+(b.length+1):=by rw [Int.add_mul,Int.one_mul]
  refine sG (fun _=>sG (fun _=>sG (fun _=>sG (fun _=>sT fun n hn=>sG (fun _ => ?_) ⟨by omega,by omega⟩) ⟨by omega,by omega⟩) ⟨by omega,by omega⟩) ⟨by omega,by omega⟩) ⟨by omega,by omega⟩
  have hnl:(n.length:Int)=((a.length:Int)+1)*((b.length:Int)+1):=by rw [hn,List.length_replicate]; omega
  have hn0 : ∀ v∈n,v=0:=fun v hv=>by rw [hn] at hv; exact (List.mem_replicate.1 hv).2
  refine sL (fun t => -1≤t.1∧t.1≤a.length - 1∧t.2.length=n.length ∧ ∀ v∈t.2,0≤v∧v≤300*((a.length:Int) - 1 - t.1)) (fun t=>(t.1+1).toNat) ⟨by omega,by omega,rfl,fun v hv=>by have:=hn0 v hv; omega⟩ fun ⟨i,c⟩ ⟨i0,i1,i2,i3⟩ => ?_
  dsimp only at i0 i1 i2 i3 ⊢
  refine sI (fun hi=>sG (fun _ => ?_) ⟨by omega,by omega⟩) fun _=>uA (sS ⟨rfl,rfl,by show a.length≤256; omega,by show b.length≤256; omega,by show (c.length:Int)=((a.length:Int)+1)*((b.length:Int)+1); omega⟩)
  refine sL (fun t => -1≤t.1∧t.1≤b.length - 1∧t.2.length=n.length ∧ ∀ v∈t.2,0≤v∧v≤300*((a.length:Int) - 1 - i)+((b.length:Int) - 1 - t.1)) (fun t=>(t.1+1).toNat) ⟨by omega,by omega,i2,fun v hv=>by have:=i3 v hv; omega⟩ fun ⟨j,d⟩ ⟨j0,j1,j2,j3⟩ => ?_
  dsimp only at j0 j1 j2 j3 ⊢
  refine sI (fun hj => ?_) fun _=>uA (sG (fun _=>A7 ⟨⟨by omega,by omega,j2,fun v hv=>by have:=j3 v hv; dsimp only; omega⟩,by dsimp only; omega⟩) ⟨by omega,by omega⟩)
  have hT:Tb ⟨a,b,d⟩:=⟨by show a.length≤256; omega,by show b.length≤256; omega,by show (d.length:Int)=((a.length:Int)+1)*((b.length:Int)+1); omega⟩
  have e1:=idx (i:=i) (j:=j) (a:=a.length) (b:=b.length) hi (by omega) hj (by omega) (by omega) (by omega)
  refine sG (fun _=>sB (fun x hx=>sG (fun _=>sB (fun y hy => ?_) ⟨hT,hi,by show i≤a.length; omega,by omega,by show j+1≤b.length; omega⟩) ⟨by omega,by omega⟩) ⟨hT,by omega,by show i+1≤a.length; omega,hj,by show j≤b.length; omega⟩) ⟨by omega,by omega⟩
  have hx:=j3 x hx
  have hy:=j3 y hy
  refine sJ (fun v=>0≤v∧v≤300*((a.length:Int) - 1 - i)+((b.length:Int) - j)) (fun v hv => ?_) fun k hk => ?_
  . refine sG (fun _=>sG (fun _=>sG (fun _=>sM (fun _ _=>sT fun w hw=>sG (fun _=>A7 ⟨⟨by omega,by omega,by rw [hw,List.length_set]; exact j2,fun u hu => ?_⟩,by dsimp only; omega⟩) ⟨by omega,by omega⟩) ⟨by omega,by omega⟩) ⟨by omega,by omega⟩) ⟨by omega,by omega⟩) ⟨by omega,by omega⟩
    rw [hw] at hu
    rcases List.mem_or_eq_of_mem_set hu with q | q
    . have:=j3 u q; dsimp only; omega
    . subst q; dsimp only; omega
  . refine sM (fun p _=>sM (fun q _=>sI (fun _=>sG (fun _=>sG (fun _=>sB (fun z hz => ?_) ⟨hT,by omega,by show i+1≤a.length; omega,by omega,by show j+1≤b.length; omega⟩) ⟨by omega,by omega⟩) ⟨by omega,by omega⟩) fun _=>hk _ ⟨by omega,by omega⟩) ⟨hj,by omega⟩) ⟨hi,by omega⟩
    have hz:=j3 z hz
    exact sG (fun _=>hk _ ⟨by omega,by omega⟩) ⟨by omega,by omega⟩⟩
instance (l:List (iL)):Spec (Sh.iC l) (True) (fun r=>r=l):=⟨fun h=>by unfold Sh.iC; exact ZZ⟩
instance (l:List (gC)):Spec (Sh.iP l) (True) (fun r=>r=l):=⟨fun h=>by unfold Sh.iP; exact ZZ⟩
instance (t:oA) (i j:Int):Spec (Sh.vT t i j) (Tb t∧0≤i∧i≤t.a.length∧0≤j∧j≤t.b.length∧(i < t.a.length∨j < t.b.length)) (fun r=>r=1∧i < t.a.length∧j < t.b.length∨r=2∧i < t.a.length∨r=3∧j < t.b.length):=⟨fun h=>by unfold Sh.vT; have h1:=h.1.1; have h2:=h.1.2.1; exact ZO⟩
instance (a b:List (List UInt8)):Spec (Sh.FR a b) (True) (fun r=>r.2.isNil=true→Ed r.1∧na r.1=a.length∧nb r.1=b.length∧a.length≤256∧b.length≤256):=⟨fun h=>by
  unfold Sh.FR
  refine sB (fun y hy => ?_) trivial
  rcases y with y | y
  . have:y.2.isNil=false:=hy
    dsimp only
    rw [if_neg (by grind)]
    exact ZZ
  . obtain ⟨h1,h2,h3⟩:=hy
    dsimp only
    have h4:=h3.1
    have h5:=h3.2.1
    have:uM (List iL×Int×Int) (fun t=>0≤t.2.1∧t.2.1≤a.length∧0≤t.2.2∧t.2.2≤b.length∧Ed t.1∧na t.1=t.2.1∧nb t.1=t.2.2∧t.1.length≤t.2.1+t.2.2) (fun t=>(a.length - t.2.1+(b.length - t.2.2)).toNat):=⟨⟩
    exact ZO⟩
end Go.S
end

section
set_option maxRecDepth 100000
set_option maxHeartbeats 1000000
namespace Go.S
open Go
def MC (l:List gC) (A B:Int):Prop:=(∀ m∈l,0≤m.a∧0≤m.b∧0≤m.n∧m.a+m.n≤A∧m.b+m.n≤B)∧l.Pairwise fun m m'=>m.a+m.n≤m'.a∧m.b+m.n≤m'.b
theorem MC.le {l:List gC} {A B A' B':Int} (h:MC l A B) (a:A≤A') (b:B≤B'):MC l A' B':=⟨fun m hm=>by have:=h.1 m hm; omega,h.2⟩
theorem MC.snoc {l:List gC} {A B:Int} (h:MC l A B) (a:0≤A) (b:0≤B) (n:Int) (hn:0≤n):MC (l++[⟨A,B,n⟩]) (A+n) (B+n):=by
 refine ⟨fun m hm => ?_,List.pairwise_append.2 ⟨h.2,by simp,fun m hm m' hm' => ?_⟩⟩
 ·
  rcases List.mem_append.1 hm with q | q
  ·
   have:=h.1 m q; omega
  rw [List.mem_singleton.1 q]; dsimp only; omega
 rw [List.mem_singleton.1 hm']; exact ⟨(h.1 m hm).2.2.2.1,(h.1 m hm).2.2.2.2⟩
theorem MC.grow {l:List gC} {A B:Int} {z:gC} (h:MC l A B) (hz:l.getLast? = some z) (a:z.a+z.n=A) (b:z.b+z.n=B):MC (l.set (l.length - 1) ⟨z.a,z.b,z.n+1⟩) (A+1) (B+1)∧(l.set (l.length - 1) ⟨z.a,z.b,z.n+1⟩).getLast? = some ⟨z.a,z.b,z.n+1⟩:=by
 obtain ⟨m,rfl⟩:=List.getLast?_eq_some_iff.1 hz
 have e:(m++[z]).set ((m++[z]).length - 1) ⟨z.a,z.b,z.n+1⟩=m++[⟨z.a,z.b,z.n+1⟩]:=by simp
 have hz':=h.1 z (by simp)
 rw [e]
 refine ⟨?_,by simp⟩
 have hp:=List.pairwise_append.1 h.2
 have:MC m z.a z.b:=⟨fun x hx=>by have h1:=h.1 x (List.mem_append_left _ hx); have h2:=hp.2.2 x hx z (by simp); omega,hp.1⟩
 have:=this.snoc hz'.1 hz'.2.1 (z.n+1) (by omega)
 rwa [show z.a+(z.n+1)=A+1 by omega,show z.b+(z.n+1)=B+1 by omega] at this
instance (a b:List (List UInt8)):Spec (Sh.BB a b) (True) (fun r=>r.2.isNil=true→MC r.1 a.length b.length∧a.length≤256∧b.length≤256∧r.1.length≤512):=⟨fun h=>by
  unfold Sh.BB
  refine sB (fun y hy => ?_) trivial
  refine sI (fun hn => ?_) (fun hn=>sS fun h=>absurd h hn)
  obtain ⟨y,e⟩:=y
  obtain ⟨h1,h2,h3,h4,h5⟩:=hy hn
  dsimp only at h1 h2 h3 ⊢
  have hlen:y.length≤512:=by
    have : ∀ l:List iL,Ed l→(l.length:Int)≤na l+nb l:=fun l=>by
      induction l with
      | nil=>intro _; simp [na,nb]
      | cons x r ih =>
        intro hx
        have:=ih fun e he=>hx e (List.mem_cons_of_mem _ he)
        have hx:=hx x (List.mem_cons_self ..)
        simp only [na,nb,List.countP_cons,List.length_cons] at this ⊢
        grind
    have:=this y h1
    omega
  refine sL (fun t=>0≤t.2.2.2.2∧t.2.2.2.2≤y.length∧t.2.1=na (y.take t.2.2.2.2.toNat)∧t.2.2.1=nb (y.take t.2.2.2.2.toNat)∧MC t.1 t.2.1 t.2.2.1∧(t.2.2.2.1=true → ∃ z,t.1.getLast? = some z∧z.a+z.n=t.2.1∧z.b+z.n=t.2.2.1)∧t.1.length≤t.2.2.2.2) (fun t=>(y.length - t.2.2.2.2).toNat) ⟨by simp,by simp,by simp [na],by simp [nb],⟨by simp,by simp⟩,by simp,by simp⟩ fun ⟨out,i,j,row,x⟩ ⟨x0,x1,hi,hj,hm,hr,hl⟩ => ?_
  dsimp only at x0 x1 hi hj hm hr hl ⊢
  refine sI (fun hx => ?_) (fun hx => ?_)
  . refine sA (fun z zm hz => ?_) ⟨x0,hx⟩
    have hz1:y.take (x+1).toNat=y.take x.toNat++[z]:=uU x0 hz
    have i0:0≤i:=by rw [hi]; exact Int.natCast_nonneg _
    have j0:0≤j:=by rw [hj]; exact Int.natCast_nonneg _
    have i1:i≤256:=by have:=List.Sublist.countP_le (p:=fun e:iL=>decide (e.op≠3)) (List.take_sublist x.toNat y); unfold na at hi h2; omega
    have j1:j≤256:=by have:=List.Sublist.countP_le (p:=fun e:iL=>decide (e.op≠2)) (List.take_sublist x.toNat y); unfold nb at hj h3; omega
    have hop:=h1 z zm
    refine sJ (fun o=>MC o (i+if z.op=3 then 0 else 1) (j+if z.op=2 then 0 else 1)∧(z.op=1 → ∃ q,o.getLast? = some q∧q.a+q.n=i+1∧q.b+q.n=j+1)∧o.length≤x+1) (fun o ⟨ho,hq,hol⟩ => ?_) fun k hk => ?_
    . have fin : ∀ i' j':Int,i'=i+(if z.op=3 then 0 else 1)→j'=j+(if z.op=2 then 0 else 1)→i'=na (y.take (x+1).toNat)∧j'=nb (y.take (x+1).toNat):=fun i' j' e1 e2=>by rw [hz1,aKP,aKQ]; omega
      have:x5 Int (fun v=>v=i+if z.op=3 then 0 else 1):=⟨⟩
      exact ZZ
    . refine sI (fun h1 => ?_) (fun h1 => ?_)
      . refine sJ (fun o=>MC o i j∧(∃ q,o.getLast? = some q∧q.a+q.n=i∧q.b+q.n=j)∧o.length≤x+1) (fun o ⟨ho,⟨q,hq,qa,qb⟩,hol⟩ => ?_) fun k' hk' => ?_
        . have hne:0 < o.length:=List.length_pos_iff.2 fun e=>by rw [e] at hq; cases hq
          obtain ⟨g1,g2⟩:=ho.grow hq qa qb
          have q0:=ho.1 q (List.mem_of_getLast? hq)
          have hget:o[((o.length:Int) - 1).toNat]? = some q:=by rw [List.getLast?_eq_getElem?] at hq; rw [show ((o.length:Int) - 1).toNat=o.length - 1 by omega]; exact hq
          refine sG (fun _=>sA (fun p _ hp => ?_) ⟨by omega,by omega⟩) ⟨by omega,by omega⟩
          rw [hget] at hp; cases hp
          refine sG (fun _=>sA (fun p _ hp=>sT fun w hw => ?_) ⟨by omega,by omega⟩) ⟨by omega,by omega⟩
          rw [hget] at hp; cases hp
          rw [show ((o.length:Int) - 1).toNat=o.length - 1 by omega] at hw
          subst hw
          exact hk _ ⟨by rw [h1]; exact g1,fun _=>⟨_,g2,by dsimp only; omega,by dsimp only; omega⟩,by rw [List.length_set]; exact hol⟩
        . refine sI (fun hrow => ?_) (fun hrow=>hk' _ ⟨hm,hr (by simpa using hrow),by omega⟩)
          have:=hm.snoc i0 j0 0 (by omega)
          rw [Int.add_zero,Int.add_zero] at this
          exact sT fun w hw=>sG (fun _=>sT fun v hv=>hk' _ (by subst hv; subst hw; exact ⟨this,⟨⟨i,j,0⟩,by simp,by simp,by simp⟩,by simp; omega⟩)) (by rw [hw]; simp; omega)
      . exact hk _ ⟨hm.le (by split <;> omega) (by split <;> omega),fun h=>absurd h h1,by omega⟩
  . have:x=y.length:=by omega
    subst this
    rw [List.take_of_length_le (by omega)] at hi hj
    rw [h2] at hi; rw [h3] at hj; subst hi hj
    exact ZZ⟩
def Pl (p:List Int) (A B:Int):Prop:=(∀ (x:Nat) v,p[x]? = some v→v = -1∨0≤v∧v < B∧(x:Int) < A) ∧ ∀ (x y:Nat) u v,x < y→p[x]? = some u→p[y]? = some v→0≤u→0≤v→u < v
theorem Pl.le {p:List Int} {A B A' B':Int} (h:Pl p A B) (a:A≤A') (b:B≤B'):Pl p A' B':=⟨fun x v hv=>by have:=h.1 x v hv; omega,h.2⟩
theorem Pl.set {p:List Int} {A B:Int} (h:Pl p A B) (a:0≤A) (b:0≤B):Pl (p.set A.toNat B) (A+1) (B+1):=by
 refine ⟨fun x v hv => ?_,fun x y u v hxy hu hv u0 v0 => ?_⟩
 ·
  rw [List.getElem?_set] at hv
  have:=h.1 x v
  grind
 rw [List.getElem?_set] at hu hv
 have h1:=h.1 x u
 have h2:=h.1 y v
 have h3:=h.2 x y u v hxy
 grind
instance (r:List Int) (n:Int):Spec (Sh.A9 r n) (r=[-1]∧0≤n∧n≤1000) (fun q=>q=List.replicate n.toNat (-1)):=⟨fun h=>by unfold Sh.A9; exact ZZ⟩
instance (a b:List (List UInt8)):Spec (Sh.x8 a b) (True) (fun r=>r.2.isNil=true→r.1.length=a.length∧Pl r.1 a.length b.length∧a.length≤256∧b.length≤256):=⟨fun h=>by
  unfold Sh.x8
  refine sB (fun y hy => ?_) trivial
  refine sI (fun hn => ?_) (fun hn=>sS fun h=>absurd h hn)
  obtain ⟨l,e⟩:=y
  obtain ⟨⟨hm,hp⟩,ha,hb,hl⟩:=hy hn
  dsimp only at hm hp hl ⊢
  refine sT fun q hq=>sB (fun o ho => ?_) ⟨hq,by omega,by omega⟩
  refine sL (fun t=>0≤t.2∧t.2≤l.length∧t.1.length=a.length ∧ ∃ A B,Pl t.1 A B∧0≤A∧0≤B∧A≤a.length∧B≤b.length ∧ ∀ m∈l.drop t.2.toNat,A≤m.a∧B≤m.b) (fun t=>(l.length - t.2).toNat) ⟨by simp,by simp,by rw [ho]; simp,0,0,⟨fun x v hv => .inl ?_,fun x y u v _ hu _ u0 _ => ?_⟩,by simp,by simp,by simp,by simp,fun m h=>⟨(hm m (List.mem_of_mem_drop h)).1,(hm m (List.mem_of_mem_drop h)).2.1⟩⟩ fun ⟨p,x⟩ ⟨x0,x1,h1,A,B,h2,A0,B0,A1,B1,h3⟩ => ?_
  . rw [ho] at hv; exact (List.mem_replicate.1 (List.mem_of_getElem? hv)).2
  . rw [ho] at hu; have:=(List.mem_replicate.1 (List.mem_of_getElem? hu)).2; omega
  dsimp only at x0 x1 h1 h3 ⊢
  refine sI (fun hx=>sA (fun z zm hz => ?_) ⟨x0,hx⟩) (fun hx=>uA (sS fun _=>⟨h1,h2.le A1 B1,ha,hb⟩))
  obtain ⟨z0,z1,z2,z3,z4⟩:=hm z zm
  have hd:l.drop x.toNat=z::l.drop (x.toNat+1):=by
    obtain ⟨g1,g2⟩:=List.getElem?_eq_some_iff.1 hz
    rw [List.drop_eq_getElem_cons g1,g2]
  have hz':=h3 z (by rw [hd]; exact List.mem_cons_self ..)
  refine sL (fun t=>0≤t.2∧t.2≤z.n∧t.1.length=a.length∧Pl t.1 (z.a+t.2) (z.b+t.2)) (fun t=>(z.n - t.2).toNat) ⟨by simp,z2,h1,h2.le (by simp; omega) (by simp; omega)⟩ fun ⟨p,k⟩ ⟨k0,k1,g1,g2⟩ => ?_
  dsimp only at k0 k1 g1 g2 ⊢
  refine sI (fun hk=>sG (fun _=>sG (fun _=>sM (fun _ _=>sT fun w hw=>sG (fun _=>A7 ⟨⟨by omega,by omega,by rw [hw,List.length_set]; exact g1,?_⟩,by dsimp only; omega⟩) ⟨by omega,by omega⟩) ⟨by omega,by omega⟩) ⟨by omega,by omega⟩) ⟨by omega,by omega⟩) (fun hk=>uA (sG (fun _=>A7 ⟨⟨by omega,by omega,g1,_,_,g2,by omega,by omega,by omega,by omega,fun m h => ?_⟩,by dsimp only; omega⟩) ⟨by omega,by omega⟩))
  . have:=g2.set (by omega) (by omega)
    subst hw
    rwa [Int.add_assoc,Int.add_assoc] at this
  . have hpd:(l.drop x.toNat).Pairwise _:=hp.sublist (List.drop_sublist _ _)
    rw [hd] at hpd
    have:=(List.pairwise_cons.1 hpd).1 m (by rw [show x.toNat+1=(x+1).toNat by omega]; exact h)
    omega⟩
instance (l:List (List UInt8)):Spec (Sh.fY l) (l.length≤4000000000) (fun r=>r=l):=⟨fun h=>by unfold Sh.fY; exact ZZ⟩
instance (l:List (List UInt8)):Spec (Sh.vL l) (l.length≤1000000) (fun r=>r=l):=⟨fun h=>by unfold Sh.vL; exact ZZ⟩
instance (l m:List (List UInt8)):Spec (Sh.iO l m) (l.length≤1000000000) (fun _=>True):=⟨fun h=>by unfold Sh.iO; exact ZZ⟩
def Ln (l:List (List UInt8)):Prop:=l.length≤300 ∧ ∀ x∈l,x.length≤4096
def Ck (c:o4):Prop:=Ln c.base∧Ln c.ours∧Ln c.cR∧Ln c.out
def Lt (n:Int) (c:o4):Prop:=c.base.length≤n∧c.ours.length≤n∧c.cR.length≤n∧c.out.length≤n
attribute [grind =] Ln Ck Lt
instance (b o t:List (List UInt8)):Spec (Sh.HU b o t) (Ln b∧Ln o∧Ln t) (Ck):=⟨fun h=>by unfold Sh.HU; exact ZZ⟩
theorem aEu {R:Type} {Q:R→Prop} {l:List (List UInt8)} {i j:Int} {f:List (List UInt8)→Option R} (h:0≤i∧i≤j∧j≤l.length) (hl:Ln l) (k : ∀ x,Ln x→Ok (f x) Q):Ok (Sh.CG l i j f) Q:=by
 unfold Sh.CG
 exact sG (fun _=>k _ ⟨by have:=hl.1; simp only [List.length_take,List.length_drop]; omega,fun x hx=>hl.2 x (List.mem_of_mem_drop (List.mem_of_mem_take hx))⟩) h
instance (b o t:List (List UInt8)) (w:Sh.DS) (i j k:Int):Spec (Sh.zE b o t w i j k) (Ln b∧Ln o∧Ln t∧0≤w.i∧w.i≤i∧i≤b.length∧0≤w.j∧w.j≤j∧j≤o.length∧0≤w.k∧w.k≤k∧k≤t.length∧w.out.length≤1000 ∧ ∀ c∈w.out,Ck c) (fun r=>r.i=i∧r.j=j∧r.k=k∧r.out.length≤w.out.length+1∧(∀ c∈r.out,Ck c)∧(r.op=true→r.out=w.out∧w.op=true)):=⟨fun h=>by
  unfold Sh.zE
  refine sI (fun _=>aEu (by omega) h.1 fun x hx=>aEu (by omega) h.2.1 fun y hy=>aEu (by omega) h.2.2.1 fun z hz => ?_) (fun _ => ?_)
  . exact ZZ
  . exact ZZ⟩
instance (b:List (List UInt8)) (w:Sh.DS):Spec (Sh.CF b w) (Ln b∧0≤w.i∧w.i < b.length∧0≤w.j∧w.j≤300∧0≤w.k∧w.k≤300∧w.out.length≤1000∧(∀ c∈w.out,Ck c)∧(w.op=true → ∃ c,w.out.getLast? = some c∧Lt w.i c)) (fun r=>r.i=w.i+1∧r.j=w.j+1∧r.k=w.k+1∧r.out.length≤w.out.length+1∧(∀ c∈r.out,Ck c) ∧ ∃ c,r.out.getLast? = some c∧Lt (w.i+1) c):=⟨fun h=>by
  unfold Sh.CF
  obtain ⟨hb,i0,i1,j0,j1,k0,k1,ho,hc,hop⟩:=h
  have hbl:=hb.1
  refine sM (fun line hl=>sG (fun _=>sT fun l hlq => ?_) ⟨by omega,by omega,by omega,by omega,by omega,by omega,by omega⟩) ⟨i0,i1⟩
  have hlen:=hb.2 line hl
  have : ∃ m x,l=m++[x]∧(∀ c∈m,Ck c)∧Ck x∧Lt w.i x∧m.length≤w.out.length:=by
    split at hlq
    . next q =>
      obtain ⟨c,h1,h2⟩:=hop q
      obtain ⟨m,hm⟩:=List.getLast?_eq_some_iff.1 h1
      exact ⟨m,c,by rw [hlq,hm],fun x hx=>hc x (by rw [hm]; exact List.mem_append_left _ hx),hc c (by rw [hm]; simp),h2,by rw [hm]; simp⟩
    . exact ⟨w.out,_,hlq,hc,by simp [Ck,Ln],by simp [Lt]; exact i0,Nat.le_refl _⟩
  obtain ⟨m,x,rfl,h1,h2,h3,h4⟩:=this
  rw [List.getLast?_concat,List.dropLast_concat]
  dsimp only
  refine sG (fun _=>sS ?_) ?_
  . refine ⟨rfl,rfl,rfl,by simp; exact h4,fun c hc => ?_,_,List.getLast?_concat ..,?_⟩ <;> grind
  . grind⟩
theorem aMl {b o t:List (List UInt8)} {x y:List Int} (hb:Ln b) (ho:Ln o) (ht:Ln t) (hx:x.length=b.length) (hy:y.length=b.length) (px:Pl x b.length o.length) (py:Pl y b.length t.length):Ok (Sh.D9 b o t x y) fun r=>r.length≤700 ∧ ∀ c∈r,Ck c:=by
 unfold Sh.D9
 have b1:=hb.1
 have o1:=ho.1
 have t1:=ht.1
 refine sL (fun t'=>0≤t'.1∧t'.1≤b.length∧0≤t'.2.i∧t'.2.i≤t'.1∧0≤t'.2.j∧t'.2.j≤o.length∧0≤t'.2.k∧t'.2.k≤t.length∧t'.2.out.length≤2*t'.1∧(∀ c∈t'.2.out,Ck c)∧(t'.2.op=true → ∃ c,t'.2.out.getLast? = some c∧Lt t'.2.i c)∧(∀ (z:Nat) u,t'.1≤z→x[z]? = some u→0≤u→t'.2.j≤u) ∧ ∀ (z:Nat) u,t'.1≤z→y[z]? = some u→0≤u→t'.2.k≤u) (fun t'=>(b.length - t'.1).toNat) ?_ fun ⟨n,w⟩ ⟨n0,n1,i0,i1,j0,j1,k0,k1,h1,h2,h3,h4,h5⟩ => ?_
 ·
  simp
 dsimp only at n0 n1 i0 i1 j0 j1 k0 k1 h1 h2 h3 h4 h5 ⊢
 have on : ∀ Q,Ok (go (n+1,w):Option ((Int×Sh.DS)⊕List o4)) Q↔Q (.inl (n+1,w)):=fun _=>aMQ
 refine sI (fun hn=>sA (fun p _ hp=>sI (fun p0=>sA (fun q _ hq=>sI (fun q0 => ?_) fun _ => ?_) ⟨n0,by omega⟩) fun _ => ?_) ⟨n0,by omega⟩) fun hn => ?_
 ·
  have a1:=px.1 _ _ hp
  have a2:=py.1 _ _ hq
  have a3:=h4 _ _ (by omega) hp p0
  have a4:=h5 _ _ (by omega) hq q0
  refine sB (fun w1 e1=>sB (fun w2 e2=>A7 ?_) ?_) (by grind)
  ·
   have a5:=px.2 n.toNat
   have a6:=py.2 n.toNat
   refine ⟨⟨by omega,by omega,by grind,by grind,by grind,by grind,by grind,by grind,by grind,by grind,by grind,fun z u hz hu u0 => ?_,fun z u hz hu u0 => ?_⟩,by dsimp only; omega⟩
   ·
    have:=a5 z p u (by dsimp only at hz; omega) hp hu p0 u0; dsimp only; omega
   have:=a6 z q u (by dsimp only at hz; omega) hq hu q0 u0; dsimp only; omega
  grind
 ·
  exact A7 ⟨⟨by omega,by omega,i0,by dsimp only; omega,j0,j1,k0,k1,by dsimp only; omega,h2,h3,fun z u hz=>h4 z u (by dsimp only at hz; omega),fun z u hz=>h5 z u (by dsimp only at hz; omega)⟩,by dsimp only; omega⟩
 ·
  exact A7 ⟨⟨by omega,by omega,i0,by dsimp only; omega,j0,j1,k0,k1,by dsimp only; omega,h2,h3,fun z u hz=>h4 z u (by dsimp only at hz; omega),fun z u hz=>h5 z u (by dsimp only at hz; omega)⟩,by dsimp only; omega⟩
 exact uA (sB (fun w1 e1=>sS ⟨by grind,by grind⟩) (by grind))
instance (b o t:List (List UInt8)):Spec (Sh.BI b o t) ((∀ x∈b,x.length≤4096)∧(∀ x∈o,x.length≤4096)∧(∀ x∈t,x.length≤4096)∧b.length≤10000∧o.length≤10000∧t.length≤10000) (fun r=>r.2.isNil=true→r.1.length≤700 ∧ ∀ c∈r.1,Ck c):=⟨fun h=>by
  unfold Sh.BI
  refine sB (fun x hx=>sI (fun h1=>sB (fun y hy=>sI (fun h2=>sG (fun _ => ?_) (by grind)) fun h2=>sS fun e=>absurd e h2) trivial) fun h1=>sS fun e=>absurd e h1) trivial
  obtain ⟨x1,x2,x3,x4⟩:=hx h1
  obtain ⟨y1,y2,y3,y4⟩:=hy h2
  rw [sP]
  exact (aMl ⟨by omega,h.1⟩ ⟨by omega,h.2.1⟩ ⟨by omega,h.2.2.1⟩ x1 y1 x2 y2).mono fun l hl=>sS fun _=>hl⟩
instance (l:List (List UInt8)):Spec (Sh.x7 l) (Ln l) (fun r=>r.length≤1500001):=⟨fun h=>by unfold Sh.x7; exact ZZ⟩
instance (c:o4) (a b:List UInt8):Spec (Sh.DE c a b) (Ck c∧a.length≤1000∧b.length≤1000) (fun r=>r.length≤3010000):=⟨fun h=>by
  unfold Sh.DE
  refine sG (fun _=>sT fun _ e1=>sG (fun _=>sT fun _ e2=>sB (fun y1 h1=>sG (fun _=>sT fun _ e3=>sG (fun _=>sT fun _ e4=>sB (fun y2 h2=>sG (fun _=>sT fun _ e5=>sG (fun _=>sT fun _ e6=>sG (fun _=>sT fun _ e7=>sG (fun _=>sT fun _ e8=>sS ?_) ?_) ?_) ?_) ?_) h.1.2.2.1) ?_) ?_) h.1.2.1) ?_) ?_
  all_goals
    subst_vars
    simp only [List.length_append,List.length_cons,List.length_nil]
    omega⟩
instance (x y z a b:List UInt8):Spec (Sh.FU x y z a b) (x.length≤4096∧y.length≤4096∧z.length≤4096∧a.length≤1000∧b.length≤1000) (fun _=>True):=⟨fun h=>by unfold Sh.FU; have:uM (Int×Int×List UInt8) (fun t=>0≤t.1∧t.1≤t.2.1∧t.2.1≤700∧t.2.2.length≤3010000*t.2.1) (fun t=>(700 - t.2.1).toNat):=⟨⟩; exact ZZ⟩
end Go.S
end

section
set_option maxRecDepth 100000
set_option maxHeartbeats 1000000
namespace Go.S
open Go
def vO (o:lB):Prop:=o.bU.length≤64∧bP o.cK∧o.bS.length≤4096
def vP (o:D2):Prop:=o.bU.length≤64∧bP o.cK∧o.bS.length≤4096
def vR (r:cW):Prop:=Rw r.files∧(r.entries.length≤576 ∧ ∀ e∈r.entries,vE e)∧r.conflicts.length≤192 ∧ ∀ p∈r.conflicts,p.length≤64
attribute [grind =] vO vP vR
theorem aCn (l:List (List UInt8)):(nO (rR l)).Pairwise (· < ·):=VQ l
attribute [grind! .] aCn
instance (l:List aC) (p:List UInt8):Spec (Sh.AM l p) (Rw l) (fun r=>vO r∧(r.is=true→r.bU=p)∧(r.is=false→r=⟨[],0,[],false⟩)):=⟨fun h=>by unfold Sh.AM; exact ZZ⟩
instance (x y z:lB):Spec (Sh.AL x y z) (vO x∧vO y∧vO z) (fun r=>bP r):=⟨fun h=>by unfold Sh.AL; exact ZZ⟩
instance (x y z:lB) (a b:List UInt8):Spec (Sh.DM x y z a b) (vO x∧vO y∧vO z∧a.length≤1000∧b.length≤1000) (fun r=>vF r.1∧r.1.path=y.bU):=⟨fun h=>by unfold Sh.DM; exact ZO⟩
instance (p:List UInt8) (b o t:List aC) (x y:List UInt8):Spec (Sh.F5 p b o t x y) (Rw b∧Rw o∧Rw t∧x.length≤1000∧y.length≤1000) (fun r=>vF r.1∧(r.2.1=true→r.1.path=p)):=⟨fun h=>by unfold Sh.F5; exact ZO⟩
instance (p:List UInt8) (l:List (List aC)):Spec (Sh.y9 p l) (l.length≤3∧(∀ r∈l,Rw r)∧p.length≤64) (fun r=>r.length≤3 ∧ ∀ e∈r,vE e):=⟨fun h=>by unfold Sh.y9; have:uM (List IndexEntry×Int) (fun t=>t.1.length≤t.2∧0≤t.2∧t.2≤l.length ∧ ∀ e∈t.1,vE e) (fun t=>(l.length - t.2).toNat):=⟨⟩; exact ZZ⟩
instance (x y:aC):Spec (Sh.xD x y) (x.path.length≤1000000000∧y.path.length≤1000000000) (fun _=>True):=⟨fun h=>by unfold Sh.xD; exact ZZ⟩
instance (l:List (aC)) (f:aC):Spec (Sh.gA l f) (l.length≤1000000000∧(∀ z∈l,z.path.length≤1000000000)∧f.path.length≤1000000000) (fun r => -1≤r∧r < l.length):=⟨fun h=>by unfold Sh.gA; exact ZZ⟩
instance (l:List (aC)) (f:aC):Spec (Sh.fP l f) (l.length≤1000000000∧(∀ z∈l,z.path.length≤1000000000)∧f.path.length≤1000000000) (fun _=>True):=⟨fun h=>by unfold Sh.fP; exact ZZ⟩
instance (l:List aC):Spec (Sh.BN l) (∀ z∈l,z.path.length≤1000000000) (fun e=>(e.isNil=true→l.length≤64)∧uS e):=⟨fun h=>by unfold Sh.BN; exact ZZ⟩
instance (b o t:List aC) (x y:List UInt8):Spec (Sh.yF b o t x y) (Rw b∧Rw o∧Rw t∧x.length≤1000∧y.length≤1000) (fun r=>vR r.1∧uS r.2):=⟨fun h=>by
  unfold Sh.yF
  refine sT fun l hl => ?_
  have hl1:l.length=3:=by rw [hl]; rfl
  have hl2 : ∀ r∈l,Rw r:=by rw [hl]; grind
  clear hl
  refine sF (fun x h0 h1=>sM (fun r hr => ?_) ⟨h0,h1⟩) (uA (sT fun m hm => ?_)) (by omega)
  . have:=hl2 r hr
    exact ZZ
  . have hm1:m.length=3:=by rw [hm]; rfl
    have hm2 : ∀ r∈m,Rw r:=by rw [hm]; grind
    refine sB (fun ps hp => ?_) (by grind)
    have hp1:ps.length≤192:=by rw [hm] at hp; simp at hp; grind
    have hp2:=hp.2.1
    have hp3:=hp.2.2.1
    clear hp hm hm1 hm2 hl1 hl2
    refine sL (fun t=>0≤t.1∧t.1≤ps.length∧t.2.1.length≤t.1∧((∀ f∈t.2.1,vF f ∧ ∀ p∈ps.drop t.1.toNat,f.path < p)∧SF t.2.1)∧t.2.2.1.length≤3*t.1∧(∀ e∈t.2.2.1,vE e)∧t.2.2.2.length≤t.1 ∧ ∀ p∈t.2.2.2,p.length≤64) (fun t=>(ps.length - t.1).toNat) (by simp [Y2]) fun ⟨i,fs,es,cs⟩ ⟨i0,i1,f1,⟨f2,f3⟩,e1,e2,c1,c2⟩ => ?_
    dsimp only at i0 i1 f1 f2 f3 e1 e2 c1 c2 ⊢
    refine sI (fun hi=>sA (fun p hp hz0=>sB (fun z hz => ?_) h) ⟨i0,hi⟩) (fun hi => ?_)
    . have:=hp2 p hp
      have h1:=h.1; have h2:=h.2.1; have h3:=h.2.2.1
      have hd:ps.drop i.toNat=p::ps.drop (i+1).toNat:=by
        rw [show (i+1).toNat=i.toNat+1 by omega,List.drop_eq_getElem_cons (by omega)]
        rw [List.getElem?_eq_getElem (by omega)] at hz0
        rw [Option.some.inj hz0]
      have hq : ∀ q∈ps.drop (i+1).toNat,p < q:=by
        have:=hp3.drop (i:=i.toNat)
        rw [hd] at this
        exact (List.pairwise_cons.1 this).1
      refine sJ (fun fs'=>fs'.length≤i+1∧(∀ f∈fs',vF f ∧ ∀ p∈ps.drop (i+1).toNat,f.path < p)∧SF fs') (fun fs' ⟨g1,g2,g3⟩ => ?_) fun k hk => ?_
      . clear hd hq f2 f3 hz0
        refine sI (fun _=>sT fun u hu=>sG (fun _=>sT fun v hv=>sT fun w hw=>sB (fun q hq => ?_) ⟨by rw [hw]; exact Nat.le_refl 3,by rw [hw]; grind,this⟩) (by rw [hu]; simp; omega)) (fun _ => ?_)
        . subst hv; subst hu; clear hw
          exact ZZ
        . exact ZZ
      . have f4 : ∀ f∈fs,vF f ∧ ∀ p∈ps.drop (i+1).toNat,f.path < p:=fun f hf=>⟨(f2 f hf).1,fun q hq'=>(f2 f hf).2 q (by rw [hd]; exact .tail _ hq')⟩
        refine sI (fun e=>sT fun u hu=>sG (fun _=>sT fun v hv=>sK hk ?_) (by rw [hu]; simp; omega)) (fun _=>sK hk ⟨by omega,f4,f3⟩)
        subst hv hu
        refine ⟨by simp; omega,fun f hf => ?_,List.pairwise_append.2 ⟨f3,List.pairwise_singleton _ _,fun a ha b hb => ?_⟩⟩
        . rcases List.mem_append.1 hf with hf | hf
          . exact f4 f hf
          . have hf:=List.mem_singleton.1 hf
            subst hf
            exact ⟨hz.1,fun q hq'=>by have:=hq q hq'; rwa [← hz.2 e] at this⟩
        . have hb:=List.mem_singleton.1 hb
          subst hb
          have:=(f2 a ha).2 p (by rw [hd]; exact .head _)
          rwa [← hz.2 e] at this
    . clear hp3
      have f5 : ∀ f∈fs,vF f:=fun f hf=>(f2 f hf).1
      clear f2
      exact ZZ⟩
def Pf (l:List aC) (p:List UInt8) (r:D2):Prop:=(r.is=true→(⟨r.bU,r.cK,r.bS⟩:aC)∈l∧r.bU=p)∧(r.is=false→r.bU=[]∧r.cK=0∧r.bS=[]∧(SF l → ∀ z∈l,z.path≠p))
instance (l:List aC) (p:List UInt8):Spec (Sh.tT l p) ((∀ f∈l,vF f)∧l.length≤1000000) (fun r=>vP r∧Pf l p r):=⟨fun h=>by unfold Sh.tT Pf; exact ZZ⟩
theorem aDF {l:List aC} (h:SF l) {a b:aC} (ha:a∈l) (hb:b∈l) (e:a.path=b.path):a=b:=by
 obtain ⟨i,hi⟩:=List.getElem?_of_mem ha
 obtain ⟨j,hj⟩:=List.getElem?_of_mem hb
 rcases Nat.lt_trichotomy i j with q | q | q
 ·
  have:=P9 h q hi hj; rw [e] at this; exact absurd this (ltI _)
 ·
  subst q; rw [hi] at hj; cases hj; rfl
 have:=P9 h q hj hi; rw [e] at this; exact absurd this (ltI _)
theorem aTA {l:List aC} {p:List UInt8} {r:D2} (h:Pf l p r) (hs:SF l) {f:aC} (hf:f∈l) (e:f.path=p):r.is=true∧f=⟨r.bU,r.cK,r.bS⟩:=by
 cases q:r.is with
 | false=>exact absurd e ((h.2 q).2.2.2 hs f hf)
 | true=>exact ⟨rfl,aDF hs hf (h.1 q).1 (e.trans (h.1 q).2.symm)⟩
instance (hd:List aC) (r:cW):Spec (Sh.qG hd r) (Rw hd∧vR r) (fun q=>q.length≤320∧(∀ p∈q,p.length≤64)∧q.Pairwise (· < ·)∧(r.conflicts=[]→q.length≤128)∧(∀ p∈r.conflicts,p∈q) ∧ ∀ f∈r.files,f.path∉q→f∈hd):=⟨fun h=>by
  unfold Sh.qG
  refine sT fun l hl=>sB (fun ps hp => ?_) (by rw [hl]; grind)
  have h1:ps.length≤128:=by rw [hl] at hp; simp at hp; grind
  have h2:=hp.2.1
  have h3 : ∀ f∈r.files,f.path∈ps:=fun f hf=>hp.2.2.2.2 r.files (by rw [hl]; simp) f hf
  clear hp hl
  refine sL (fun t=>t.1.length≤t.2∧0≤t.2∧t.2≤ps.length∧(∀ p∈t.1,p.length≤64) ∧ ∀ f∈r.files,f.path∈ps.take t.2.toNat→f.path∈t.1∨f∈hd) (fun t=>(ps.length - t.2).toNat) (by simp) fun ⟨o,x⟩ ⟨o0,x0,x1,o1,o2⟩ => ?_
  dsimp only at o0 x0 x1 o1 o2 ⊢
  refine sI (fun hx=>sA (fun p hp hz=>sB (fun u hu=>sB (fun v hv => ?_) ?_) ?_) ⟨x0,hx⟩) (fun hx => ?_)
  . have e:=uU x0 hz
    refine sI (fun q=>sG (fun _=>A7 ⟨⟨by dsimp only; omega,by dsimp only; omega,by dsimp only; omega,o1,fun f hf hm => ?_⟩,by dsimp only; omega⟩) (by unfold bP; omega)) (fun q=>sT fun w hw=>sG (fun _=>sT fun y hy=>sG (fun _=>A7 ⟨⟨by dsimp only; rw [hy,hw,List.length_append,List.length_singleton]; omega,by dsimp only; omega,by dsimp only; omega,fun a ha => ?_,fun f hf hm => ?_⟩,by dsimp only; omega⟩) (by unfold bP; omega)) (by rw [hw,List.length_singleton]; omega))
    . dsimp only at hm ⊢
      rw [e] at hm
      rcases List.mem_append.1 hm with hm | hm
      . exact o2 f hf hm
      . obtain ⟨a,b⟩:=aTA hv.2 h.2.1.2.2 hf (List.mem_singleton.1 hm)
        rw [b,← q.1,← q.2.1,← q.2.2.1]
        exact .inr (hu.2.1 (q.2.2.2.trans a)).1
    . dsimp only at ha
      rw [hy,hw] at ha
      rcases List.mem_append.1 ha with ha | ha
      . exact o1 a ha
      . rw [List.mem_singleton.1 ha]; exact h2 p hp
    . dsimp only at hm ⊢
      rw [e] at hm
      rw [hy,hw]
      rcases List.mem_append.1 hm with hm | hm
      . exact (o2 f hf hm).imp (List.mem_append_left _) id
      . exact .inl (List.mem_append_right _ hm)
  . exact ⟨h.2.1.2.1,by have:=h.2.1.1; omega⟩
  . exact ⟨h.1.2.1,by have:=h.1.1; omega⟩
  . have hc:=h.2.2.2.1
    have hc':=h.2.2.2.2
    refine uA (sG (fun _=>sT fun y hy=>sG (fun _=>sT fun z hz=>sG (fun _=>sT fun w hw=>sS ?_) ?_) ?_) ?_)
    . have k : ∀ p,p∈w↔p∈o∨p∈r.conflicts:=fun p=>by
        rw [hw,hz,hy]; exact (QZ _ _).trans List.mem_append
      have k2:=aCn y
      rw [← hz,← hw] at k2
      have k3:=X4 y
      refine ⟨?_,fun p hp=>((k p).1 hp).elim (o1 p) (hc' p),k2,fun e => ?_,fun p hp=>(k p).2 (.inr hp),fun f hf hn => ?_⟩
      . have:w.length≤y.length:=by rw [hw,hz]; exact k3
        rw [hy,List.length_append] at this; omega
      . have:w.length≤y.length:=by rw [hw,hz]; exact k3
        rw [hy,e,List.length_append,List.length_nil] at this; omega
      . rcases o2 f hf (by rw [List.take_of_length_le (by omega)]; exact h3 f hf) with q | q
        . exact absurd ((k _).2 (.inl q)) hn
        . exact q
    all_goals grind⟩
instance (l:List (List UInt8)) (p:List UInt8):Spec (Sh.cP l p) (l.length≤1000000000) (fun r=>l=[]→r=false):=⟨fun h=>by unfold Sh.cP; exact ZZ⟩
end Go.S
end

section
set_option maxRecDepth 100000
set_option maxHeartbeats 1000000
namespace Go.S
open Go
instance (hd:List aC) (l:List IndexEntry) (w:List aC) (p:List UInt8):Spec (Sh.HY hd l w p) (Rw hd∧Rw w∧l.length≤1000000 ∧ ∀ z∈l,vE z) (fun b=>b=true → ∀ f∈w,f.path=p→f∈G0 l 0):=⟨fun h=>by
  unfold Sh.HY
  refine sB (fun s hs=>sB (fun y hy=>sB (fun v hv=>sI (fun q => ?_) (fun _=>sS fun e=>by cases e)) ?_) ?_) h.2.2.1
  . have key : ∀ f∈w,f.path=p→f∈G0 l 0:=fun f hf e=>by
      obtain ⟨a,b⟩:=aTA hv.2 h.2.1.2.2 hf e
      have:=(hy.2.1 (q.2.2.2▸a)).1
      rw [b,q.1,q.2.1,q.2.2.1,← hs]; exact this
    clear hs hy hv
    exact ZZ
  . exact ⟨h.2.1.2.1,by have:=h.2.1.1; omega⟩
  . subst hs; exact ⟨aOn h.2.2.2,by have:=aAh l 0; omega⟩⟩
theorem sBe {α β:Type} {o:Option α} {f:α→Option β} {Q:β→Prop} {pre:Prop} {P:α→Prop} [h:Spec o pre P] (k : ∀ a,o=some a→P a→Ok (f a) Q) (hp:pre):Ok (o.bind f) Q:=by
 obtain ⟨a,e,q⟩:=h.out hp
 rw [e]; exact k a e q
end Go.S
end

section
set_option maxRecDepth 100000
set_option maxHeartbeats 1000000
namespace Go.S
open Go
instance (p:List UInt8) (r:cW) (f:aC):Spec (Sh.DH p r f) (vR r∧vF f∧p.length≤64) (fun _=>True):=⟨fun h=>by unfold Sh.DH; exact ZZ⟩
instance (l:List (List UInt8)) (r:cW) (f:aC):Spec (Sh.jT l r f) (l.length≤1000000000∧vR r∧vF f ∧ ∀ p∈l,p.length≤64) (fun r => -1≤r∧r < l.length):=⟨fun h=>by unfold Sh.jT; exact ZZ⟩
instance (l:List (List UInt8)) (r:cW) (f:aC):Spec (Sh.iQ l r f) (l.length≤1000000000∧vR r∧vF f ∧ ∀ p∈l,p.length≤64) (fun _=>True):=⟨fun h=>by unfold Sh.iQ; exact ZZ⟩
instance (hd:List aC) (r:cW) (l:List IndexEntry) (w:List aC):Spec (Sh.E8 hd r l w) (Rw hd∧Rw w∧vR r∧l.length≤1000000 ∧ ∀ z∈l,vE z) (fun q=>bP q.length∧(q=[] → ∀ f∈w,f∉G0 l 0 → ∀ ps,Sh.qG hd r=some ps→f.path∉ps)):=⟨fun h=>by
  unfold Sh.E8
  refine sBe (fun ps hps hp => ?_) (by grind)
  obtain ⟨p1,p2,_,_⟩:=hp
  refine sL (fun t=>0≤t.2∧t.2≤ps.length∧t.1.length≤t.2∧(∀ p∈t.1,p.length≤64)∧(t.1=[] → ∀ f∈w,f∉G0 l 0→f.path∉ps.take t.2.toNat)) (fun t=>(ps.length - t.2).toNat) (by simp) fun ⟨o,x⟩ ⟨h0,h1,h2,h3,h4⟩ => ?_
  dsimp only at h0 h1 h2 h3 h4 ⊢
  refine sI (fun hx=>sA (fun p hp hz => ?_) ⟨h0,hx⟩) (fun hx=>uA ?_)
  . have e:=uU h0 hz
    have:=p2 p hp
    clear hps hz
    exact ZZ
  . have h5:o=[] → ∀ f∈w,f∉G0 l 0→f.path∉ps:=fun e f hf hn=>by
      have:=h4 e f hf hn
      rwa [List.take_of_length_le (by omega)] at this
    clear h4
    refine sL (fun t=>0≤t.2∧t.2≤w.length∧t.1.length≤320+t.2∧(∀ p∈t.1,p.length≤64)∧(t.1=[]→o=[])) (fun t=>(w.length - t.2).toNat) ⟨by simp,by simp,by dsimp only; omega,h3,id⟩ fun ⟨o',x⟩ ⟨h0,h1,h2,h3,h4⟩ => ?_
    dsimp only at h0 h1 h2 h3 h4 ⊢
    have h6:o'=[] → ∀ f∈w,f∉G0 l 0 → ∀ ps,Sh.qG hd r=some ps→f.path∉ps:=fun e f hf hn qs hq=>by
      rw [hps] at hq; cases hq; exact h5 (h4 e) f hf hn
    clear hps h5
    exact ZZ⟩
theorem aLt {es:List IndexEntry} {ps:List (List UInt8)} {p:List UInt8} (h : ∀ q∈ps,q≠p):es.countP (fun e=>decide (e.path∈ps++[p]))=es.countP (fun e=>decide (e.path∈ps))+es.countP (fun e=>decide (e.path=p)):=by
 induction es with
 | nil=>rfl
 | cons e r ih =>
   rw [List.countP_cons,List.countP_cons,List.countP_cons,ih]
   have:=h e.path
   grind
theorem aHR {α:Type} {l:List α} {f:α→Bool} {x:Int} {z:α} (h0:0≤x) (hz:l[x.toNat]? = some z):(l.take (x+1).toNat).countP f=(l.take x.toNat).countP f+if f z=true then 1 else 0:=by
 rw [uU h0 hz,List.countP_append,List.countP_singleton]
instance (r:cW) (l:List IndexEntry) (p:List UInt8):Spec (Sh.HX r l p) (vR r∧l.length≤900000∧(∀ z∈l,vE z)∧p.length≤64) (fun q=>(∀ z∈q,vE z∧(z.path=p∨z∈l))∧(SI l→SI q)∧q.length≤l.length+r.entries.countP (fun e=>decide (e.path=p))+1∧(r.conflicts=[]→q.length≤l.length+1)):=⟨fun h=>by
  unfold Sh.HX
  refine sB (fun b hb=>sI (fun hc => ?_) (fun hc => ?_)) (by grind)
  . refine sL (fun t=>0≤t.2∧t.2≤r.entries.length∧t.1.length≤l.length+(r.entries.take t.2.toNat).countP (fun e=>decide (e.path=p))∧(∀ z∈t.1,vE z∧(z.path=p∨z∈l))∧(SI l→SI t.1)) (fun t=>(r.entries.length - t.2).toNat) ⟨by simp,by simp,by simp,fun z hz=>⟨h.2.2.1 z hz,.inr hz⟩,id⟩ fun ⟨q,x⟩ ⟨h0,h1,h2,h3,h4⟩ => ?_
    dsimp only at h0 h1 h2 h3 h4 ⊢
    have k1:(r.entries.take x.toNat).countP (fun e=>decide (e.path=p))≤576:=Nat.le_trans (Nat.le_trans List.countP_le_length (List.length_take_le _ _)) (by have:=h.1.2.1.1; omega)
    refine sI (fun hx=>sA (fun z zm hz => ?_) ⟨h0,hx⟩) (fun hx => ?_)
    . have k2:=aHR (f:=fun e:IndexEntry=>decide (e.path=p)) h0 hz
      exact ZZ
    . have:x=r.entries.length:=by omega
      subst this
      rw [List.take_of_length_le (by omega)] at h2
      exact ZZ
  . exact ZZ⟩
theorem aTB {l:List aC} {p:List UInt8} {r:D2} (h:Pf l p r) (k:r.is=true):r.bU=p:=(h.1 k).2
attribute [grind →] aTB
def Ko (hd:List aC) (l:List IndexEntry) (w:List aC) (l':List IndexEntry) (w' t:List aC):Prop := ∀ f∈w,f∉G0 l 0→f∉hd→f∈w'∧f∉G0 l' 0∧f∉t
theorem aXQ {l l':List IndexEntry} {f:aC} (h : ∀ z∈l',z.path=f.path→z∈l) (k:f∈G0 l' 0):f∈G0 l 0:=by
 obtain ⟨z,hz,e⟩:=List.mem_map.1 k
 obtain ⟨h1,h2⟩:=List.mem_filter.1 hz
 exact List.mem_map.2 ⟨z,List.mem_filter.2 ⟨h z h1 (by rw [← e]),h2⟩,e⟩
instance (hd:List aC) (r:cW) (l:List IndexEntry) (w:List aC):Spec (Sh.FW hd r l w) (Rw hd∧Rw w∧vR r∧l.length≤800000 ∧ ∀ z∈l,vE z) (fun q=>(∀ z∈q.1,vE z)∧q.1.length≤l.length+896∧(r.conflicts=[]→q.1.length≤l.length+128)∧q.2.1.length≤400∧(∀ f∈q.2.1,vF f)∧uS q.2.2∧(SI l→SI q.1)∧SF q.2.1∧(q.2.2.isNil=true→Ko hd l w q.1 q.2.1 r.files)):=⟨fun h=>by
  unfold Sh.FW
  refine sB (fun o ho=>sI (fun _=>ZZ) (fun ho'=>sBe (fun ps hps hp=>sB (fun l1 e1=>sB (fun w1 e2 => ?_) (by grind)) (by grind)) (by grind))) (by grind)
  subst e1; subst e2
  have kk : ∀ f∈w1,f∉G0 l1 0→f.path∉ps:=fun f hf hn=>ho.2 (List.length_eq_zero_iff.1 (by omega)) f hf hn ps hps
  obtain ⟨p1,p2,p3,p4,p5,p6⟩:=hp
  clear ho ho' hps p5
  have hw64:=h.2.1.1
  refine sL (fun t=>0≤t.2.2∧t.2.2≤ps.length∧t.1.length≤l1.length∧(∀ z∈t.1,vE z)∧t.2.1.length≤w1.length∧(∀ f∈t.2.1,vF f)∧(SI l1→SI t.1)∧SF t.2.1∧(∀ f∈w1,f.path∉ps→f∈t.2.1) ∧ ∀ z∈t.1,z.path∉ps→z∈l1) (fun t=>(ps.length - t.2.2).toNat) (by grind) fun ⟨l2,w2,x⟩ ⟨h0,h1,h2,h3,h4,h5,h6,h7,h8,h9⟩ => ?_
  dsimp only at h0 h1 h2 h3 h4 h5 h6 h7 h8 h9 ⊢
  refine sI (fun hx => ?_) (fun hx=>uA ?_)
  . clear kk p6 p3
    exact ZZ
  . refine sL (fun t=>0≤t.2.2∧t.2.2≤ps.length∧t.1.length≤l1.length+r.entries.countP (fun e=>decide (e.path∈ps.take t.2.2.toNat))+t.2.2∧(r.conflicts=[]→t.1.length≤l1.length+t.2.2)∧(∀ z∈t.1,vE z)∧t.2.1.length≤w1.length+t.2.2∧(∀ f∈t.2.1,vF f)∧(SI l1→SI t.1)∧SF t.2.1∧(∀ f∈w1,f.path∉ps→f∈t.2.1) ∧ ∀ z∈t.1,z.path∉ps→z∈l1) (fun t=>(ps.length - t.2.2).toNat) ⟨by simp,by simp,by dsimp only; omega,fun _=>by dsimp only; omega,h3,by dsimp only; omega,h5,h6,h7,h8,h9⟩ fun ⟨l3,w3,x⟩ ⟨g0,g1,g2,g3,g4,g5,g6,g7,g8,g9,g10⟩ => ?_
    dsimp only at g0 g1 g2 g3 g4 g5 g6 g7 g8 g9 g10 ⊢
    have k1:r.entries.countP (fun e=>decide (e.path∈ps.take x.toNat))≤576:=Nat.le_trans List.countP_le_length h.2.2.1.2.1.1
    refine sI (fun hx=>sA (fun z zm hz => ?_) ⟨g0,hx⟩) (fun hx => ?_)
    . have hn : ∀ q∈ps.take x.toNat,q≠z:=fun q hq e=>by
        obtain ⟨i,hi⟩:=List.getElem?_of_mem hq
        rw [List.getElem?_take] at hi
        split at hi
        . next hlt =>
          obtain ⟨a1,a2⟩:=List.getElem?_eq_some_iff.1 hi
          obtain ⟨b1,b2⟩:=List.getElem?_eq_some_iff.1 hz
          have:=List.pairwise_iff_getElem.1 p3 i x.toNat a1 b1 hlt
          rw [a2,b2,e] at this
          exact List.lt_irrefl _ this
        . cases hi
      have k2:r.entries.countP (fun e=>decide (e.path∈ps.take (x+1).toNat))=r.entries.countP (fun e=>decide (e.path∈ps.take x.toNat))+r.entries.countP (fun e=>decide (e.path=z)):=by rw [uU g0 hz]; exact aLt hn
      clear kk p6 h6 h7 h8 h9 h0 h1 h2 h3 h4 h5 hn hz p3
      exact ZZ
    . have key:Ko hd l1 w1 l3 w3 r.files:=fun f hf h1 h2=>by
        have q:=kk f hf h1
        exact ⟨g9 f hf q,fun c=>h1 (aXQ (fun z hz e=>g10 z hz (e▸q)) c),fun c=>h2 (p6 f c q)⟩
      clear kk p6
      exact ZZ⟩
instance (e:IndexEntry) (p:List UInt8):Spec (Sh.tJ e p) (True) (fun r=>r=decide (e.path=p)):=⟨fun h=>by unfold Sh.tJ; exact ZZ⟩
theorem aKH (e:IndexEntry) (p:List UInt8):Sh.tJ e p=some (decide (e.path=p)):=by
 obtain ⟨r,h,k⟩:=(inferInstance:Spec (Sh.tJ e p) _ _).out trivial
 rw [h,k]
instance (l:List (IndexEntry)) (p:List UInt8):Spec (Sh.gZ l p) (l.length≤1000000000) (fun r=>0≤r → ∃ z∈l,z.path=p):=⟨fun h=>(aV3 (pr:=fun z=>Sh.tJ z p) h fun z _=>⟨_,aKH z p⟩).mono fun r hr h0=>by
  rcases hr with hr | ⟨_,_,_,z,hz,e⟩
  . omega
  . rw [aKH] at e
    exact ⟨z,List.mem_of_getElem? hz,by simpa using e⟩⟩
instance (l:List (IndexEntry)) (p:List UInt8):Spec (Sh.fI l p) (l.length≤1000000000) (fun b=>b=true → ∃ z∈l,z.path=p):=⟨fun h=>by unfold Sh.fI; exact ZZ⟩
instance (l:List IndexEntry) (p:List UInt8):Spec (Sh.FY l p) (l.length≤1000000000) (fun b=>b=true → ∃ z∈l,z.path=p):=⟨fun h=>by unfold Sh.FY; exact ZZ⟩
theorem aTC {l o:List aC} {i:Nat} {z:aC} (h:SF l) (ho:SF o) (hm : ∀ a∈o,a∈l.take i) (hz:l[i]? = some z):SF (o++[z]):=by
 refine List.pairwise_append.2 ⟨ho,List.pairwise_singleton _ _,fun a ha b hb => ?_⟩
 have hb:=List.mem_singleton.1 hb
 obtain ⟨k,hk,e⟩:=List.mem_take_iff_getElem.1 (hm a ha)
 rw [hb]
 exact P9 h (show k < i by omega) (by rw [List.getElem?_eq_getElem (by omega),e]) hz
def Al (hd to:List aC) (l:List IndexEntry) (f:aC):Prop:=(∀ z∈hd,z.path≠f.path)∧(∀ e∈l,e.path≠f.path) ∧ ∀ g∈to,g.path≠f.path∧Sh.iH f.path g.path=some false
instance (hd to:List aC) (l:List IndexEntry) (w:List aC):Spec (Sh.FX hd to l w) (Rw hd∧Rw to∧Rw w∧l.length≤1000000 ∧ ∀ z∈l,vE z) (fun q=>Ix 64 q.1∧(∀ e∈q.1,e.fA=0)∧q.2.length≤128∧(∀ f∈q.2,vF f)∧SF q.2 ∧ ∀ f∈w,Al hd to l f→f∈q.2):=⟨fun h=>by
  unfold Sh.FX
  refine sL (fun t=>0≤t.2∧t.2≤w.length∧t.1.length≤t.2∧(∀ f∈t.1,vF f)∧SF t.1∧(∀ f∈t.1,f∈w.take t.2.toNat) ∧ ∀ f∈w.take t.2.toNat,Al hd to l f→f∈t.1) (fun t=>(w.length - t.2).toNat) (by simp [Y2]) fun ⟨o,x⟩ ⟨h0,h1,h2,h3,h4,h5,h6⟩ => ?_
  dsimp only at h0 h1 h2 h3 h4 h5 h6 ⊢
  refine sI (fun hx=>sA (fun z zm hz => ?_) ⟨h0,hx⟩) (fun hx=>uA ?_)
  . have e:=uU h0 hz
    have k1:=aTC h.2.2.1.2.2 h4 h5 hz
    have k2 : ∀ f∈o,f∈w.take (x+1).toNat:=fun f hf=>by rw [e]; exact List.mem_append_left _ (h5 f hf)
    have k3:z∈w.take (x+1).toNat:=by rw [e]; simp
    have k4 : ∀ f∈w.take (x+1).toNat,Al hd to l f→f≠z→f∈o:=fun f hf a n=>by
      rw [e] at hf
      exact (List.mem_append.1 hf).elim (fun c=>h6 f c a) fun c=>absurd (List.mem_singleton.1 c) n
    have k5 : ∀ r,Pf hd z.path r→r.is=true → ¬ Al hd to l z:=fun r a b c=>c.1 _ (a.1 b).1 (a.1 b).2
    have k6:(∃ e∈l,e.path=z.path) → ¬ Al hd to l z:=fun ⟨e,a,b⟩ c=>c.2.1 e a b
    have:x5 Bool (fun b=>b=false → ¬ Al hd to l z):=⟨⟩
    clear h5 h6 hz e
    exact ZZ
  . rw [List.take_of_length_le (by omega)] at h6
    clear h5
    have k : ∀ g∈to,∀ f∈w,Al hd to l f→f.path≠g.path∧Sh.iH f.path g.path=some false:=fun g hg f _ a=>⟨fun e=>(a.2.2 g hg).1 e.symm,(a.2.2 g hg).2⟩
    have:uM (List aC×Int) (fun t=>0≤t.2∧t.2≤to.length∧t.1.length≤64+t.2∧(∀ f∈t.1,vF f)∧SF t.1 ∧ ∀ f∈w,Al hd to l f→f∈t.1) (fun t=>(to.length - t.2).toNat):=⟨⟩
    exact ZZ⟩
end Go.S
end

section
set_option maxRecDepth 100000
set_option maxHeartbeats 1000000
namespace Go.S
open Go
theorem ZQ {a:Prop} (h:a:=by
 intros
 repeat' (with_reducible first | refine sI (fun _ => ?_) (fun _ => ?_) | refine sT fun _ _ => ?_ | refine uA ?_ | refine A7 ?_ | refine sU ?_ | refine sS ?_ | refine sN ?_ | refine sF (fun _ _ _ => ?_) ?_ ?_ | refine sB (fun _ _ => ?_) ?_ | refine sM (fun _ _ => ?_) ?_ | refine sG (fun _ => ?_) ?_ | refine sE (fun _ _ => ?_) ?_ | refine sJi (fun _ _ => ?_) (fun _ _ => ?_) | refine sJ0 ?_ | exact sK' (by assumption) | refine sK (by assumption) ?_ | refine L5 (fun _ _ _ _ _ _ => ?_) ?_ | refine L4 (fun _ _ _ _ _ => ?_) ?_ | refine L3 (fun _ _ _ _ => ?_) ?_ | refine L2 (fun _ _ _ => ?_) ?_ | refine L1 (fun _ _ => ?_) ?_ | dsimp only)
 all_goals (try simp only [← List.length_eq_zero_iff,Int.toNat_natCast,List.take_length,JG,LR,GC,D7,D6,LS,B9,BC,JJ,JH,JK,JE,O7,AT,JL,D5,GB,LQ,JF,O8,JI] at *)
 all_goals (first | grind | grind (splits:=40))):a:=h
theorem ZS {a:Prop} (h:a:=by
 intros
 repeat' (with_reducible first | refine sI (fun _ => ?_) (fun _ => ?_) | refine sT fun _ _ => ?_ | refine uA ?_ | refine A7 ?_ | refine sU ?_ | refine sS ?_ | refine sN ?_ | refine sF (fun _ _ _ => ?_) ?_ ?_ | refine sB (fun _ _ => ?_) ?_ | refine sM (fun _ _ => ?_) ?_ | refine sG (fun _ => ?_) ?_ | refine sE (fun _ _ => ?_) ?_ | refine sJi (fun _ _ => ?_) (fun _ _ => ?_) | refine sJd (fun _ => ?_) (fun _ _ => ?_) | refine sJ0 ?_ | exact sK' (by assumption) | refine sK (by assumption) ?_ | refine L5 (fun _ _ _ _ _ _ => ?_) ?_ | refine L4 (fun _ _ _ _ _ => ?_) ?_ | refine L3 (fun _ _ _ _ => ?_) ?_ | refine L2 (fun _ _ _ => ?_) ?_ | refine L1 (fun _ _ => ?_) ?_ | dsimp only)
 all_goals (try simp only [← List.length_eq_zero_iff,Int.toNat_natCast,List.take_length,JG,LR,GC,D7,D6,LS,B9,BC,JJ,JH,JK,JE,O7,AT,JL,D5,GB,LQ,JF,O8,JI] at *)
 all_goals (first | grind | grind (splits:=40))):a:=h
def vRf (r:dP):Prop:=r.name.length≤300∧bP r.cF
def WX (x:dA):Prop:=bP x.base∧Rw x.index∧Rw x.work∧x.text.length≤300
def vCm (c:fB):Prop:=Rw c.tree∧c.parents.length≤2∧(∀ p∈c.parents,bP p)∧bP c.time∧c.text.length≤600
def s6 (s:aF):Prop:=Rw s.aU∧Ix 5300 s.aS∧(∀ r∈s.aZ,vRf r)∧s.aH.length≤300∧bP s.aG∧s.aR.length≤300∧bP s.aM∧s.aT.length≤600∧s.aN.length≤32∧(∀ x∈s.aN,vS x)∧s.aP.length≤32∧(∀ x∈s.aP,vS x)∧0≤s.aO∧s.aJ.length≤300∧s.aD.length≤300∧bP s.aE∧Ix 64 s.aK∧Rw s.aQ∧s.aW.length≤16∧(∀ x∈s.aW,WX x)∧s.aX.length≤1024∧(∀ c∈s.aX,vCm c)∧s.bF.length+s.aY.length≤64∧bP s.time
def sz (s:aF):Prop:=s.aZ.length≤3000∧s.aO≤3000
def Gr (s r:aF):Prop:=s6 r∧r.aZ.length≤s.aZ.length+2∧r.aO≤s.aO+40∧r.bF=s.bF∧r.aY=s.aY
attribute [grind =] vRf WX vCm s6 sz Gr
theorem aBU : ∀ (f u:Nat),(ZA f u).length≤f
  | 0,u=>by simp [ZA]
  | f+1,u=>by
    unfold ZA
    split
    . simp
    . have:=aBU f (u / 10); simp; omega
theorem aRG (n:Int):(sO n).length≤21:=by
 unfold sO
 split
 ·
  have:=aBU 20 n.natAbs; simp; omega
 have:=aBU 20 n.toNat; omega
attribute [grind! .] aRG
def Tr (c:List fB) (n:Int):List aC:=if 1≤n then ((c[(n - 1).toNat]?).map (·.tree)).getD [] else []
theorem aNV {c:List fB} {n:Int} {z:fB} (h:1≤n) (e:c[(n - 1).toNat]? = some z):Tr c n=z.tree:=by unfold Tr; rw [if_pos h,e]; rfl
theorem a5A {c:List fB} {n:Int} (h : ¬ (1≤n∧n≤c.length)):Tr c n=[]:=by
 unfold Tr
 split
 ·
  rw [List.getElem?_eq_none (by omega)]; rfl
 rfl
theorem aTG (c:List fB) (x:fB):Tr (c++[x]) ((c++[x]).length:Int)=x.tree:=by
 refine aNV (by simp; omega) ?_
 rw [show (((c++[x]).length:Int) - 1).toNat=c.length by simp,List.getElem?_append_right (Nat.le_refl _)]
 simp
def Un (w:List aC) (l:List IndexEntry) (t:List aC) (f:aC):Prop:=f∈w∧f∉G0 l 0∧f∉t
theorem a8D {w:List aC} {l:List IndexEntry} {t:List aC} {f:aC} (h:Un w l t f):f∈w:=h.1
attribute [grind →] a8D
def Kp (s r:aF):Prop := ∀ f,Un s.aU s.aS (Tr s.aX s.aG) f→Un r.aU r.aS (Tr r.aX r.aG) f
def Sg (s r:aF):Prop := ∀ f,Un s.aU s.aS (Tr s.aX s.aG) f→f∈r.aU ∨ ∃ x∈r.aW,f∈x.work
attribute [grind =] Kp Sg
instance (priority:=high) (l:List (List UInt8)) (s:List UInt8):Spec (Sh.fE l s) (l.length≤1000000000) (fun r=>bP r∧r < l.length∧(l=[]→r < 0)∧(0≤r→s∈l)∧(r < 0→s∉l)):=⟨fun h=>by
  unfold Sh.fE
  refine sL (fun x=>0≤x∧x≤l.length∧s∉l.take x.toNat) (fun x=>(l.length - x).toNat) (by simp) fun x ⟨h0,h1,h2⟩ => ?_
  refine sI (fun hx=>sA (fun z zm hz => ?_) ⟨h0,hx⟩) (fun hx => ?_)
  . have e:=uU h0 hz
    exact ZZ
  . rw [List.take_of_length_le (by omega)] at h2
    exact ZZ⟩
instance (priority:=high) (l:List (List UInt8)) (p:List UInt8):Spec (Sh.cP l p) (l.length≤1000000000) (fun r=>r=decide (p∈l)):=⟨fun h=>by unfold Sh.cP; exact ZZ⟩
theorem aIw {l:List (List UInt8)} (h:l.length≤1000000000) (p:List UInt8):Sh.cP l p=some (decide (p∈l)):=by
 obtain ⟨r,e,q⟩:=(inferInstance:Spec (Sh.cP l p) _ _).out h
 rw [e,q]
theorem aGt {h:List aC} {l:List IndexEntry}:(h.length≤1000000∧(∀ f∈h,f.path.length≤64)∧l.length≤1000000 ∧ ∀ e∈l,e.path.length≤64)→Ok (Sh.iI h l) fun r=>r.length≤8000000∧(∀ p∈r,p.length≤64)∧r.length≤h.length+l.length∧(∀ z∈h,z.path∈r) ∧ ∀ e∈l,e.path∈r:=fun ⟨b1,b2,b3,b4⟩=>by
  unfold Sh.iI
  refine sL (fun t=>t.1.length≤t.2∧0≤t.2∧t.2≤l.length∧(∀ f∈t.1,f.path.length≤64) ∧ ∀ e∈l.take t.2.toNat,∃ f∈t.1,f.path=e.path) (fun t=>(l.length - t.2).toNat) (by simp) fun ⟨o,x⟩ ⟨h0,h1,h2,h3,h4⟩ => ?_
  dsimp only at h0 h1 h2 h3 h4 ⊢
  refine sI (fun hx=>sA (fun z zm hz=>sT fun w hw=>sG (fun _=>sT fun v hv=>sG (fun _=>A7 ⟨⟨?_,by dsimp only; omega,by dsimp only; omega,fun f hf => ?_,fun e he => ?_⟩,by dsimp only; omega⟩) (by unfold bP; omega)) (by simp [hw]; omega)) ⟨h1,hx⟩) (fun hx=>uA (sT fun y hy=>sB (fun r hr=>sS ?_) ?_))
  . dsimp only; rw [hv,hw,List.length_append,List.length_singleton]; omega
  . dsimp only at hf
    rw [hv,hw] at hf
    rcases List.mem_append.1 hf with hf | hf
    . exact h3 f hf
    . rw [List.mem_singleton.1 hf]; exact b4 z zm
  . dsimp only at he ⊢
    rw [uU h1 hz] at he
    rw [hv,hw]
    rcases List.mem_append.1 he with he | he
    . obtain ⟨f,a,b⟩:=h4 e he; exact ⟨f,List.mem_append_left _ a,b⟩
    . exact ⟨_,List.mem_append_right _ (List.mem_singleton.2 rfl),by rw [List.mem_singleton.1 he]⟩
  . rw [List.take_of_length_le (by omega)] at h4
    obtain ⟨r1,r2,_,r4,r5⟩:=hr
    have k1:=r5 h (by simp [hy])
    have k2:=r5 o (by simp [hy])
    refine ⟨r1,r2,by rw [hy] at r4; simp at r4; omega,k1,fun e he => ?_⟩
    obtain ⟨f,a,b⟩:=h4 e he
    exact b▸k2 f a
  . rw [hy]; simp only [List.length_cons,List.length_nil,List.mem_cons,List.not_mem_nil,or_false,forall_eq_or_imp,forall_eq]
    exact ⟨by omega,⟨by omega,b2⟩,by omega,h3⟩
instance (priority:=high) (h:List aC) (l:List IndexEntry):Spec (Sh.iI h l) (h.length≤1000000∧(∀ f∈h,f.path.length≤64)∧l.length≤1000000 ∧ ∀ e∈l,e.path.length≤64) (fun r=>r.length≤8000000∧(∀ p∈r,p.length≤64)∧r.length≤h.length+l.length∧(∀ z∈h,z.path∈r)∧(∀ e∈l,e.path∈r)∧Sh.iI h l=some r):=⟨fun hh=>by
  obtain ⟨r,e,a1,a2,a3,a4,a5⟩:=aGt hh
  exact ⟨r,e,a1,a2,a3,a4,a5,e⟩⟩
instance (s:aF) (n:Int):Spec (Sh.ID s n) (True) (fun r=>r=decide (1≤n∧n≤s.aX.length)):=⟨fun h=>by unfold Sh.ID; exact ZZ⟩
instance (s:aF) (n:Int):Spec (Sh.kX s n) (s6 s) (fun r=>r=Tr s.aX n∧Rw r):=⟨fun h=>by
  have hc : ∀ c∈s.aX,vCm c:=by unfold s6 at h; grind
  have h1:s.aX.length≤1024:=by unfold s6 at h; grind
  clear h
  unfold Sh.kX
  refine sB (fun b hb=>sI (fun q=>sS ⟨(a5A (by grind)).symm,by simp [Rw,Y2]⟩) (fun q => ?_)) trivial
  have k:1≤n∧n≤s.aX.length:=by grind
  refine sG (fun _=>sA (fun z zm hz => ?_) (by omega)) (by unfold bP; omega)
  have r:=(hc z zm).1
  rw [aNV k.1 hz]
  refine sB (fun x hx=>sB (fun y hy=>sS ?_) trivial) (by have:=r.1; omega)
  subst hy; subst hx
  exact ⟨rfl,r⟩⟩
instance (s:aF):Spec (Sh.jC s) (s6 s) (fun r=>r=Tr s.aX s.aG∧Rw r):=⟨fun h=>by unfold Sh.jC; exact ZZ⟩
instance (x:dP) (y:List UInt8):Spec (Sh.AG x y) (True) (fun r=>r=0→x.name=y):=⟨fun h=>by unfold Sh.AG; exact ZZ⟩
instance (l:List dP) (p:List UInt8):Spec (Sh.eX l p) (l.length≤1000000000) (fun r=>0≤r.1∧r.1≤l.length∧(r.2=true→r.1 < l.length)):=⟨fun h=>by unfold Sh.eX; refine sL (fun t=>0≤t.1∧t.1≤t.2∧t.2≤l.length) (fun t=>(t.2 - t.1).toNat) (by grind) fun ⟨i,j⟩ ⟨h0,h1,h2⟩ => ?_; dsimp only at h0 h1 h2 ⊢; rw [aJh (by omega) (by omega)]; exact ZZ⟩
instance (s:aF) (p:List UInt8):Spec (Sh.sV s p) (s.aZ.length≤4000) (fun r=>0≤r.1∧r.1≤s.aZ.length∧(r.2=true→r.1 < s.aZ.length)):=⟨fun h=>by unfold Sh.sV; exact ZZ⟩
instance (s:aF):Spec (Sh.tY s) (s.aZ.length≤4000) (fun _=>True):=⟨fun h=>by unfold Sh.tY; exact ZZ⟩
instance (s:aF):Spec (Sh.wM s) (s.aZ.length≤4000) (fun r=>r=true→s.aX.length < 1024):=⟨fun h=>by unfold Sh.wM; exact ZZ⟩
instance (n:Int):Spec (Sh.uR n) (True) (fun _=>True):=⟨fun h=>by unfold Sh.uR; exact ZZ⟩
instance (l:List Int):Spec (Sh.lZ l) (l.length≤1000) (fun r => -1≤r∧r < l.length):=⟨fun h=>by unfold Sh.lZ; exact ZZ⟩
instance (l:List Int):Spec (Sh.lP l) (l.length≤1000) (fun r=>r.length≤l.length ∧ ∀ z∈r,z∈l):=⟨fun h=>by unfold Sh.lP; have:uM (List Int×Int×Int) (fun t=>t.1.length=l.length∧0≤t.2.1∧t.2.1 < t.2.2∧t.2.2≤l.length ∧ ∀ z∈t.1,z∈l) (fun t=>(l.length - t.2.2).toNat):=⟨⟩; exact ZZ⟩
instance (s:aF) (n:Int):Spec (Sh.qH s n) (bP n∧bP s.aG) (fun r=>r.length≤2 ∧ ∀ p∈r,bP p):=⟨fun h=>by unfold Sh.qH; exact ZZ⟩
instance (l:List (fB)):Spec (Sh.gP l) (l.length≤4000000000) (fun r=>r=l):=⟨fun h=>by unfold Sh.gP; exact ZZ⟩
instance (l:List (dP)):Spec (Sh.iZ l) (l.length≤4000000000) (fun r=>r=l):=⟨fun h=>by unfold Sh.iZ; exact ZZ⟩
instance (l:List (bJ)):Spec (Sh.jA l) (l.length≤4000000000) (fun r=>r=l):=⟨fun h=>by unfold Sh.jA; exact ZZ⟩
instance (l:List (Int)):Spec (Sh.mJ l) (l.length≤4000000000) (fun r=>r=l):=⟨fun h=>by unfold Sh.mJ; exact ZZ⟩
instance (l:List (List Int)):Spec (Sh.kM l) (True) (fun r=>r=l):=⟨fun h=>by unfold Sh.kM; exact ZZ⟩
instance (l:List (Int)):Spec (Sh.kW l) (True) (fun r=>r=l):=⟨fun h=>by unfold Sh.kW; exact ZZ⟩
instance (l:List (dA)):Spec (Sh.eG l) (True) (fun r=>r=l):=⟨fun h=>by unfold Sh.eG; exact ZZ⟩
instance (l:List (dA)):Spec (Sh.iT l) (True) (fun r=>r=l):=⟨fun h=>by unfold Sh.iT; exact ZZ⟩
instance (l:List (List UInt8)):Spec (Sh.jD l) (True) (fun r=>r=l):=⟨fun h=>by unfold Sh.jD; exact ZZ⟩
def Rs (s r:aF):Prop:=r.aU=s.aU∧r.aS=s.aS∧r.aH=s.aH∧r.aG=s.aG∧r.aR=s.aR∧r.aM=s.aM∧r.aT=s.aT∧r.aN=s.aN∧r.aP=s.aP∧r.aO=s.aO∧r.aJ=s.aJ∧r.aD=s.aD∧r.aE=s.aE∧r.aK=s.aK∧r.aQ=s.aQ∧r.aW=s.aW∧r.aX=s.aX∧r.bF=s.bF∧r.aY=s.aY∧r.time=s.time∧r.aZ.length≤s.aZ.length+1 ∧ ∀ x∈r.aZ,vRf x
def Mv (s r:aF):Prop:=r.aU=s.aU∧r.aS=s.aS∧r.aH=s.aH∧r.aR=s.aR∧r.aM=s.aM∧r.aT=s.aT∧r.aN=s.aN∧r.aP=s.aP∧r.aO=s.aO∧r.aJ=s.aJ∧r.aD=s.aD∧r.aE=s.aE∧r.aK=s.aK∧r.aQ=s.aQ∧r.aW=s.aW∧r.aX=s.aX∧r.bF=s.bF∧r.aY=s.aY∧r.time=s.time∧r.aZ.length≤s.aZ.length+1 ∧ ∀ x∈r.aZ,vRf x
def Md2 (s r:aF):Prop:=r.aU=s.aU∧r.aS=s.aS∧r.aH=s.aH∧r.aR=s.aR∧r.aM=s.aM∧r.aT=s.aT∧r.aN=s.aN∧r.aP=s.aP∧r.aO=s.aO∧r.aJ=s.aJ∧r.aD=s.aD∧r.aE=s.aE∧r.aK=s.aK∧r.aQ=s.aQ∧r.aW=s.aW∧r.bF=s.bF∧r.aY=s.aY∧r.time=s.time∧r.aZ.length≤s.aZ.length+1∧(∀ x∈r.aZ,vRf x)∧r.aX.length≤s.aX.length+1∧(∀ c∈r.aX,vCm c)∧bP r.aG
attribute [grind =] Rs Mv Md2
instance (s:aF) (p:List UInt8) (n:Int):Spec (Sh.xC s p n) (s.aZ.length≤3100∧(∀ x∈s.aZ,vRf x)∧p.length≤300∧bP n) (fun r=>Rs s r):=⟨fun h=>by unfold Sh.xC; exact ZO⟩
instance (s:aF) (n:Int):Spec (Sh.yA s n) (s.aZ.length≤3100∧(∀ x∈s.aZ,vRf x)∧s.aH.length≤300∧bP n) (fun r=>Mv s r∧r.aG=n):=⟨fun h=>by unfold Sh.yA; exact ZZ⟩
instance (s:aF) (t:List aC) (p:List Int) (x:List UInt8):Spec (Sh.wL s t p x) (s.aZ.length≤3100∧(∀ x∈s.aZ,vRf x)∧s.aH.length≤300∧s.aX.length≤1024∧(∀ c∈s.aX,vCm c)∧bP s.time∧Rw t∧p.length≤2∧(∀ z∈p,bP z)∧x.length≤600) (fun r=>Md2 s r∧Tr r.aX r.aG=t):=⟨fun h=>by have := @aTG; unfold Sh.wL; have:x5 (List fB) (fun c=>c.length≤s.aX.length+1∧(∀ z∈c,vCm z)∧Tr c (c.length:Int)=t):=⟨⟩; exact ZZ⟩
instance (s:aF):Spec (Sh.oD s) (s6 s) (fun r=>r=true→s.aS.length≤64):=⟨fun h=>by unfold Sh.oD; exact ZZ⟩
instance (s:aF) (n:Int):Spec (Sh.pT s n) (s6 s) (fun r=>vCm r.1∧(r.2=true→1≤n∧n≤1024)):=⟨fun h=>by unfold Sh.pT; have:x5 (Bool) (fun b=>b=true∨1≤n∧n≤s.aX.length):=⟨⟩; exact ZZ⟩
instance (s:aF) (n:Int):Spec (Sh.u9 s n) (s6 s) (fun r=>Rw r):=⟨fun h=>by unfold Sh.u9; exact ZZ⟩
instance (s:aF):Spec (Sh.uQ s) (True) (fun r=>r=false→s.aU.length≤64):=⟨fun h=>by unfold Sh.uQ; exact ZZ⟩
instance (s:aF) (x:bJ):Spec (Sh.F2 s x) (True) (fun _=>True):=⟨fun h=>by unfold Sh.F2; exact ZZ⟩
instance (x:List UInt8):Spec (Sh.zK x) (True) (fun r=>r.length≤256):=⟨fun h=>by unfold Sh.zK; exact ZZ⟩
instance (l m:List aC) (p:List UInt8):Spec (Sh.CV l m p) (l.length≤1000000∧m.length≤1000000) (fun _=>True):=⟨fun h=>by unfold Sh.CV; exact ZZ⟩
instance (s:aF) (c:fO):Spec (Sh.MM s c) (s6 s∧sz s∧vC c) (fun r=>(r.2.isNil=true→r.1.branch.length≤300∧bP r.1.cF)∧uS r.2):=⟨fun h=>by unfold Sh.MM; exact ZZ⟩
theorem aOj {y:List (List UInt8)} (h:y.length≤10000000) (x:aC):Sh.xQ x y=some (!decide (x.path∈y)):=by unfold Sh.xQ; rw [aIw (by omega)]; rfl
instance (l:List (aC)) (y:List (List UInt8)):Spec (Sh.iE l y) (l.length≤1000000000∧y.length≤10000000) (fun r=>r.length≤l.length∧(∀ z∈r,z∈l)∧(∀ z∈l,z.path∈y→z∈r)∧(SF l→SF r)):=⟨fun h=>(aEK (pr:=fun z=>Sh.xQ z y) h.1 fun z _=>⟨_,aOj h.2 z⟩).mono fun r hr=>by
  simp only [aOj h.2,Option.getD_some,Bool.not_not] at hr
  subst hr
  exact ⟨List.length_filter_le _ _,fun z hz=>(List.mem_filter.1 hz).1,fun z hz q=>List.mem_filter.2 ⟨hz,by simpa using q⟩,aHB⟩⟩
instance (l:List aC) (y:List (List UInt8)):Spec (Sh.FB l y) (l.length≤1000000000∧y.length≤10000000) (fun r=>r.length≤l.length∧(∀ z∈r,z∈l)∧(∀ z∈l,z.path∈y→z∈r)∧(SF l→SF r)):=⟨fun h=>by unfold Sh.FB; exact ZZ⟩
instance (s:aF):Spec (Sh.zL s) (s6 s) (fun _=>True):=⟨fun h=>by unfold Sh.zL; exact ZZ⟩
instance (x:dA):Spec (Sh.vB x) (x.index.length≤1000000∧x.work.length≤1000000) (fun r=>r.base=x.base∧r.index=x.index∧r.work=x.work∧r.text=x.text):=⟨fun h=>by unfold Sh.vB; exact ZZ⟩
instance (l:List dA):Spec (Sh.sW l) (l.length≤16 ∧ ∀ x∈l,WX x) (fun r=>r.length=l.length ∧ ∀ x∈r,WX x):=⟨fun h=>by unfold Sh.sW; have:uM (List dA×Int) (fun t=>t.1.length=t.2∧0≤t.2∧t.2≤l.length ∧ ∀ x∈t.1,WX x) (fun t=>(l.length - t.2).toNat):=⟨⟩; exact ZZ⟩
instance (l:List dA) (x:dA):Spec (Sh.uF l x) (l.length≤16∧(∀ x∈l,WX x)∧x.index.length≤1000000∧x.work.length≤1000000) (fun r=>r.1.length≤16∧(∀ z∈r.1,WX z∨z.base=x.base∧z.index=x.index∧z.work=x.work∧z.text=x.text)∧(r.2=0 → ∃ z∈r.1,z.work=x.work)∧bP r.2):=⟨fun h=>by unfold Sh.uF; exact ZZ⟩
def Ib (s:aF) (ps:List (List UInt8)):Prop := ∀ g∈Tr s.aX s.aG,∀ f∈s.aU,f.path∉ps→Sh.iH f.path g.path=some false
instance (s:aF):Spec (Sh.F1 s) (s6 s) (fun r=>r=false → ∀ ps,Sh.iI (Tr s.aX s.aG) s.aS=some ps→Ib s ps):=⟨fun h=>by
  unfold Sh.F1
  refine sB (fun hd hh=>sBe (fun ps hps hp=>sB (fun hd' hh' => ?_) h) (by grind)) h
  have w:=h.1.1
  have w2:=h.1.2.1
  obtain ⟨rfl,hh⟩:=hh
  obtain ⟨rfl,_⟩:=hh'
  refine sL (fun x=>0≤x∧x≤(Tr s.aX s.aG).length ∧ ∀ g∈(Tr s.aX s.aG).take x.toNat,∀ f∈s.aU,f.path∉ps→Sh.iH f.path g.path=some false) (fun x=>((Tr s.aX s.aG).length - x).toNat) (by simp) fun x ⟨h0,h1,h2⟩ => ?_
  have t64:=hh.1
  refine sI (fun hx=>sA (fun g gm hg => ?_) ⟨h0,hx⟩) (fun hx=>uA (sS fun _ qs hq g gm f fm hn => ?_))
  . have e:=uU h0 hg
    have g64:=(hh.2.1 g gm).1
    refine sL (fun y=>0≤y∧y≤s.aU.length ∧ ∀ f∈s.aU.take y.toNat,f.path∉ps→Sh.iH f.path g.path=some false) (fun y=>(s.aU.length - y).toNat) (by simp) fun y ⟨y0,y1,y2⟩ => ?_
    refine sI (fun hy=>sA (fun f fm hf => ?_) ⟨y0,hy⟩) (fun hy => ?_)
    . have e':=uU y0 hf
      have f64:=(w2 f fm).1
      have:x5 Bool (fun b=>b=false→f.path∉ps→Sh.iH f.path g.path=some false):=⟨⟩
      have p1:=hp.1
      clear h2 e hp hps hh h
      exact ZZ
    . rw [List.take_of_length_le (by omega)] at y2
      clear hp hps hh h
      exact ZZ
  . rw [List.take_of_length_le (by omega)] at h2
    rw [hps] at hq; cases hq
    exact h2 g gm f fm hn⟩
instance (l:List dA) (n:Int):Spec (Sh.rN l n) (True) (fun r=>r=true→0≤n∧n < l.length):=⟨fun h=>by unfold Sh.rN; exact ZZ⟩
instance (l:List dA) (n:Int):Spec (Sh.uE l n) (l.length≤16 ∧ ∀ x∈l,WX x) (fun r=>r.1.length≤16∧(∀ x∈r.1,WX x)∧bP r.2):=⟨fun h=>by unfold Sh.uE; exact ZZ⟩
instance (l:List dA) (n:Int):Spec (Sh.vY l n) (l.length≤16 ∧ ∀ x∈l,WX x) (fun r=>WX r.1∧bP r.2):=⟨fun h=>by unfold Sh.vY; exact ZZ⟩
instance (s:aF):Spec (Sh.xX s) (s6 s) (fun r=>r.length=s.aX.length ∧ ∀ x∈r,x.length≤2):=⟨fun h=>by unfold Sh.xX; have:uM (List (List Int)×Int) (fun t=>t.1.length=t.2∧0≤t.2∧t.2≤s.aX.length ∧ ∀ x∈t.1,x.length≤2) (fun t=>(s.aX.length - t.2).toNat):=⟨⟩; exact ZZ⟩
instance (l:List (List UInt8)):Spec (Sh.E7 l) (l.length≤64∧0 < l.length) (fun r=>r.1.length+1=l.length∧(∀ x∈r.1,x∈l)∧r.2∈l):=⟨fun h=>by unfold Sh.E7; exact ZZ⟩
instance (l:o9) (x:List UInt8):Spec (Sh.w9 l x) (l.back.length+l.kR.length≤64) (fun r=>r.2.2=0→r.1.back.length+r.1.kR.length≤64∧(∀ y∈r.1.back,y∈l.back)∧(∀ y∈r.1.kR,y=x∨y∈l.kR)∧r.2.1∈l.back):=⟨fun h=>by unfold Sh.w9; exact ZZ⟩
instance (l:List (List UInt8)) (x:List UInt8):Spec (Sh.zG l x) (l.length≤64) (fun r=>r.length≤l.length+1∧r.length≤64 ∧ ∀ y∈r,y=x∨y∈l):=⟨fun h=>by unfold Sh.zG; exact ZZ⟩
instance (l:o9) (x:List UInt8):Spec (Sh.w8 l x) (l.back.length+l.kR.length≤64) (fun r=>r.2.2=0→r.1.back.length+r.1.kR.length≤64∧(∀ y∈r.1.back,y=x∨y∈l.back)∧(∀ y∈r.1.kR,y∈l.kR)∧r.2.1∈l.kR):=⟨fun h=>by unfold Sh.w8; exact ZZ⟩
instance (l:o9) (x:List UInt8):Spec (Sh.BJ l x) (l.back.length+l.kR.length≤64) (fun r=>r.back.length+r.kR.length≤64∧(∀ y∈r.back,y=x∨y∈l.back)∧r.kR=[]):=⟨fun h=>by unfold Sh.BJ; exact ZZ⟩
end Go.S
end

section
set_option maxRecDepth 100000
set_option maxHeartbeats 1000000
namespace Go.S
open Go
def unm (l:List Bool):Nat:=l.countP (fun b => !b)
theorem aX3 {l:List Bool} {i:Nat} (h:l[i]? = some false):unm (l.set i true)+1=unm l:=by
 unfold unm
 induction l generalizing i with
 | nil=>cases h
 | cons x r ih =>
   cases i with
   | zero=>simp at h; subst h; simp
   | succ i=>simp only [List.set_cons_succ,List.countP_cons]; have:=ih (i:=i) (by simpa using h); omega
theorem aOt (l:List Bool):unm l≤l.length:=List.countP_le_length
instance (g:List (List Int)) (c:List Int):Spec (Sh.mQ g c) (g.length≤1024∧(∀ x∈g,x.length≤2)∧c.length≤3000) (fun r=>r.length=g.length+1∧r[0]? = some false):=⟨fun h=>by
  unfold Sh.mQ
  obtain ⟨g1,g2,c1⟩:=h
  refine sG (fun _=>sG (fun _=>sT fun y hy=>sB (fun w hw => ?_) (by omega)) (by omega)) (by unfold bP; omega)
  have hl:y.length=g.length+1:=by rw [hy]; simp
  have y0:y[0]? = some false:=by rw [hy]; simp
  subst hw
  clear hy
  have u0:=aOt y
  refine sL (fun t=>(t.1.length=g.length+1∧t.1[0]? = some false)∧t.2.length+2*unm t.1≤6000) (fun t=>t.2.length+3*unm t.1) ⟨⟨hl,y0⟩,by dsimp only; omega⟩ fun ⟨o,w⟩ ⟨h1,h2⟩ => ?_
  dsimp only at h1 h2 ⊢
  have u1:=aOt o
  have h11:=h1.1
  refine sI (fun hw=>sG (fun _=>sA (fun z _ hz=>sG (fun _=>sG (fun _=>sT fun w' hw' => ?_) (by omega)) (by unfold bP; omega)) (by omega)) (by unfold bP; omega)) (fun _=>uA (sS h1))
  have e1:w'.length+1=w.length:=by rw [hw',List.length_take]; omega
  clear hw'
  refine sI (fun _=>A7 ⟨⟨h1,by dsimp only; omega⟩,by dsimp only; omega⟩) (fun _=>sI (fun _=>A7 ⟨⟨h1,by dsimp only; omega⟩,by dsimp only; omega⟩) (fun _=>sA (fun b _ hb=>sI (fun _=>A7 ⟨⟨h1,by dsimp only; omega⟩,by dsimp only; omega⟩) (fun q=>sA (fun b' _ hb'=>sT fun o' ho' => ?_) (by omega))) (by omega)))
  have e2:=aX3 (l:=o) (i:=z.toNat) (by rw [hb]; cases b <;> simp_all)
  rw [← ho'] at e2
  have e3:o'.length=g.length+1:=by rw [ho']; simp [h1.1]
  have e4:o'[0]? = some false:=by rw [ho',List.getElem?_set_ne (by omega)]; exact h1.2
  clear hb hb' ho'
  refine sG (fun _=>sA (fun x xm _=>sG (fun _=>sT fun v hv => ?_) ?_) ?_) ?_
  . have:=g2 x xm
    have:v.length=w'.length+x.length:=by rw [hv]; simp
    exact A7 ⟨⟨⟨e3,e4⟩,by dsimp only; omega⟩,by dsimp only; omega⟩
  . have:=g2 x xm; omega
  . omega
  . unfold bP; omega⟩
instance (g:List (List Int)) (a c:Int):Spec (Sh.rM g a c) (g.length≤1024∧(∀ x∈g,x.length≤2)) (fun _=>True):=⟨fun h=>by unfold Sh.rM; exact ZZ⟩
instance (l:List Bool):Spec (Sh.HS l) (l.length≤2000) (fun r=>r.length≤l.length):=⟨fun h=>by unfold Sh.HS; have:uM (List Int×Int) (fun t=>t.1.length≤t.2∧0≤t.2∧t.2≤l.length) (fun t=>(l.length - t.2).toNat):=⟨⟩; exact ZZ⟩
instance (g:List (List Int)) (a b:Int):Spec (Sh.sH g a b) (g.length≤1024∧(∀ x∈g,x.length≤2)) (fun r=>r.length≤1100):=⟨fun h=>by
  unfold Sh.sH
  refine sT fun y1 e1=>sB (fun s1 h1=>sT fun y2 e2=>sB (fun s2 h2 => ?_) (by grind)) (by grind)
  clear e1 e2
  have hs1:=h1.1
  have hg:=h.1
  refine sL (fun t=>(t.1.length=s1.length∧t.1[0]? = some false)∧t.2.1.length≤2*t.2.2∧0≤t.2.2∧t.2.2≤s1.length) (fun t=>(s1.length - t.2.2).toNat) (by grind) fun ⟨o,ps,x⟩ ⟨⟨a1,a2⟩,a3,a4,a5⟩ => ?_
  dsimp only at a1 a2 a3 a4 a5 ⊢
  refine sI (fun hx=>sJ (fun x=>x.length=s1.length∧x[0]? = some false) (fun o' ⟨b1,b2⟩ => ?_) (fun k hk => ?_)) (fun hx=>uA (sB (fun u hu => ?_) (by grind)))
  . refine sA (fun z _ hz=>sI (fun q => ?_) (fun _=>sG (fun _=>A7 ⟨⟨⟨b1,b2⟩,by dsimp only; omega,by dsimp only; omega,by dsimp only; omega⟩,by dsimp only; omega⟩) (by unfold bP; omega))) ⟨a4,by omega⟩
    have x1:1≤x:=by
      by_cases e:x=0
      . subst e; rw [q] at hz; rw [show ((0:Int).toNat)=0 from rfl,b2] at hz; cases hz
      . omega
    refine sG (fun _=>sM (fun v vm=>sG (fun _=>sT fun u hu=>sG (fun _=>A7 ⟨⟨⟨b1,b2⟩,?_,by dsimp only; omega,by dsimp only; omega⟩,by dsimp only; omega⟩) (by unfold bP; omega)) ?_) (by omega)) (by unfold bP; omega)
    . have:=h.2 v vm; rw [hu]; simp only [List.length_append]; omega
    . have:=h.2 v vm; omega
  . have key : ∀ w:Bool,o[x.toNat]? = some true∨w=false→(o.set x.toNat w).length=s1.length∧(o.set x.toNat w)[0]? = some false:=fun w hw=>by
      refine ⟨by simp [a1],?_⟩
      by_cases e:x.toNat=0
      . rw [e] at hw ⊢
        rcases hw with hw | hw
        . rw [a2] at hw; cases hw
        . subst hw; rw [List.getElem?_set_self (by omega)]
      . rw [List.getElem?_set_ne (by omega)]; exact a2
    refine sA (fun z _ hz=>sI (fun q=>sM (fun z' _=>sM (fun _ _=>sT fun u hu=>sK hk ?_) (by omega)) (by omega)) (fun q=>sM (fun _ _=>sT fun u hu=>sK hk ?_) (by omega))) (by omega)
    . subst hu; exact key _ (.inl (by rw [hz,q]))
    . subst hu; exact key _ (.inr rfl)
  . have hu1:=hu.1
    refine sL (fun t=>t.1.length=s1.length∧0≤t.2∧t.2≤s1.length) (fun t=>(s1.length - t.2).toNat) (by grind) fun ⟨o',x⟩ ⟨c1,c2,c3⟩ => ?_
    dsimp only at c1 c2 c3 ⊢
    clear hu h1 h2 a2
    exact ZZ⟩
instance (g:List (List Int)) (a b:Int):Spec (Sh.qP g a b) (g.length≤1024∧(∀ x∈g,x.length≤2)) (fun _=>True):=⟨fun h=>by unfold Sh.qP; exact ZZ⟩
instance (n e:Int):Spec (Sh.C4 n e) (True) (fun r=>(∃ p a m,r = .fault p a (.no m))∧(bP n→uS r)):=⟨fun h=>by unfold Sh.C4; exact ZZ⟩
instance (s:bJ) (g:List (List Int)) (b:Bool):Spec (Sh.IF s g b) (g.length≤1024∧(∀ x∈g,x.length≤2)) (fun _=>True):=⟨fun h=>by unfold Sh.IF; have:x5 (Bool) (fun b=>b=true∨s.cF≤1024):=⟨⟩; exact ZO⟩
instance (l:List bJ) (g:List (List Int)):Spec (Sh.F6 l g) (g.length≤1024∧(∀ x∈g,x.length≤2)∧l.length≤1000) (fun e=>(e = .nil ∨ ∃ p a n,e = .fault p a (.no n))∧uS e∧(e.isNil=true→l.length≤32)):=⟨fun h=>by unfold Sh.F6; have:uM (Bool×Int) (fun t=>0≤t.2∧t.2≤l.length) (fun t=>(l.length - t.2).toNat):=⟨⟩; exact ZZ⟩
def Lf (s r:aF):Prop:=r.aH=s.aH∧r.aG=s.aG∧r.aR=s.aR∧r.aM=s.aM∧r.aT=s.aT∧r.aN=s.aN∧r.aP=s.aP∧r.aO=s.aO∧r.aJ=s.aJ∧r.aD=s.aD∧r.aE=s.aE∧r.aK=s.aK∧r.aQ=s.aQ∧r.aW=s.aW∧r.aX=s.aX∧r.bF=s.bF∧r.aY=s.aY∧r.time=s.time∧r.aZ=s.aZ∧(∀ f∈r.aU,vF f)∧(∀ e∈r.aS,vE e)∧SF r.aU∧SI r.aS
def Fi (s r:aF):Prop:=r.aU=s.aU∧r.aS=s.aS∧r.aH=s.aH∧r.aR=s.aR∧r.aM=s.aM∧r.aT=s.aT∧r.aN=s.aN∧r.aP=s.aP∧r.aJ=s.aJ∧r.aD=s.aD∧r.aE=s.aE∧r.aK=s.aK∧r.aQ=s.aQ∧r.aW=s.aW∧r.bF=s.bF∧r.aY=s.aY∧r.time=s.time∧r.aZ.length≤s.aZ.length+1∧(∀ x∈r.aZ,vRf x)∧r.aX.length≤1024∧(∀ c∈r.aX,vCm c)∧bP r.aG∧s.aO≤r.aO∧r.aO≤s.aO+1
def Gk (k:Nat) (s r:aF):Prop:=s6 r∧r.aZ.length≤s.aZ.length+k∧r.aO≤s.aO+k∧r.bF=s.bF∧r.aY=s.aY
def Ls (s q:aF) (t:List aC):Prop := ∀ f,Un s.aU s.aS (Tr s.aX s.aG) f→Un q.aU q.aS t f∧Un q.aU q.aS (Tr s.aX s.aG) f
def Wk (s r:aF):Prop := ∀ f,Un s.aU s.aS (Tr s.aX s.aG) f→f∈r.aU
theorem a4x {hd:List aC} {l:List IndexEntry} {w:List aC} {l':List IndexEntry} {w' t:List aC} (h:Ko hd l w l' w' t) : ∀ f,Un w l hd f→Un w' l' t f∧Un w' l' hd f:=fun f ⟨a,b,c⟩=>by
  obtain ⟨x,y,z⟩:=h f a b c
  exact ⟨⟨x,y,z⟩,x,y,c⟩
theorem aYr {w:List aC} {l:List IndexEntry} {t:List aC} {f:aC} (h:Un w l t f):Un w l (G0 l 0) f:=⟨h.1,h.2.1,h.2.1⟩
attribute [grind →] a4x
attribute [grind =] Lf Fi Gk Ls Wk
theorem aUT (s:aF) (t:List aC) (h:s6 s∧Rw t):Ok (Sh.qW s t) fun r=>Lf s r∧r.aS.length≤64 ∧ ∀ f∈s.aU,Al (Tr s.aX s.aG) t s.aS f→f∈r.aU:=by unfold Sh.qW; exact ZZ
theorem aTF {s:aF} (h:s6 s) (n:Int):Rw (Tr s.aX n):=by
 obtain ⟨r,_,e,w⟩:=(inferInstance:Spec (Sh.kX s n) _ _).out h
 exact e▸w
instance (s:aF) (t:List aC):Spec (Sh.qW s t) (s6 s∧Rw t) (fun r=>Lf s r∧r.aS.length≤64∧(t=Tr s.aX s.aG → ∀ ps,Sh.iI (Tr s.aX s.aG) s.aS=some ps→Ib s ps → ∀ f∈s.aU,f.path∉ps→f∈r.aU)):=⟨fun h=>(aUT s t h).mono fun r ⟨a,b,c⟩=>⟨a,b,fun e ps hp hi f hf hn=>by
  have w:=aTF h.1 s.aG
  have ix:=h.1.2.1
  obtain ⟨q,eq,_,_,_,k1,k2⟩:=aGt (h:=Tr s.aX s.aG) (l:=s.aS) ⟨by have:=w.1; omega,fun f hf=>(w.2.1 f hf).1,by have:=ix.1; omega,fun e he=>(ix.2.1 e he).1⟩
  rw [hp] at eq; cases eq; subst e
  exact c f hf ⟨fun z hz e=>hn (e▸k1 z hz),fun z hz e=>hn (e▸k2 z hz),fun g hg=>⟨fun e=>hn (e▸k1 g hg),hi g hg f hf hn⟩⟩⟩⟩
instance (s:aF) (r:cW):Spec (Sh.wK s r) (s6 s∧vR r) (fun q=>Lf s q.1∧q.1.aS.length≤s.aS.length+896∧(r.conflicts=[]→q.1.aS.length≤s.aS.length+128)∧(q.2.isNil=true→q.1.aU.length≤64∧Ls s q.1 r.files)∧uS q.2):=⟨fun h=>by unfold Sh.wK; exact ZZ⟩
instance (s:aF) (b t:List aC) (n:List UInt8):Spec (Sh.tK s b t n) (s6 s∧Rw b∧Rw t∧n.length≤1000) (fun q=>vR q.2.1∧Lf s q.1∧q.1.aS.length≤s.aS.length+896∧(q.2.1.conflicts=[]→q.1.aS.length≤s.aS.length+128)∧(q.2.2.isNil=true→q.1.aU.length≤64∧Ls s q.1 q.2.1.files)∧uS q.2.2):=⟨fun h=>by unfold Sh.tK; exact ZZ⟩
instance (s:aF) (t:List aC) (x:List UInt8):Spec (Sh.xP s t x) (s6 s∧sz s∧(∀ f∈t,vF f)∧SF t∧x.length≤600) (fun r=>Gk 1 s r.1∧r.1.aU=s.aU∧uS r.2):=⟨fun h=>by unfold Sh.xP; have:x5 (Int) (fun n=>bP n):=⟨⟩; have:x5 (Unit×aF) (fun x=>Md2 s x.2):=⟨⟩; exact ZS⟩
instance (s:aF) (x:List UInt8):Spec (Sh.AF s x) (s6 s∧sz s∧x.length≤600) (fun r=>Gk 1 s r.1∧r.1.aU=s.aU∧uS r.2):=⟨fun h=>by unfold Sh.AF; exact ZZ⟩
instance (s:aF) (x:bJ) (t:List aC):Spec (Sh.wH s x t) (s6 s∧s.aZ.length≤3050∧s.aO≤3050∧vS x∧Rw t) (fun r=>Fi s r.1 ∧ ∀ f,Un s.aU s.aS (Tr s.aX s.aG) f→Un s.aU s.aS t f→Un s.aU s.aS (Tr r.1.aX r.1.aG) f):=⟨fun h=>by unfold Sh.wH; have:x5 (List UInt8×List Int) (fun x=>x.1.length≤600∧x.2.length≤2 ∧ ∀ p∈x.2,bP p):=⟨⟩; exact ZZ⟩
end Go.S
end

section
set_option maxRecDepth 100000
set_option maxHeartbeats 1000000
namespace Go.S
open Go
instance (s t:aF) (k:List UInt8) (n:Int) (x:List UInt8):Spec (Sh.yB s t k n x) (True) (fun r=>uS r.2.2∧r.1.aU=t.aU∧r.1.aS=t.aS∧r.1.aH=t.aH∧r.1.aG=t.aG∧r.1.aW=t.aW∧r.1.aX=t.aX∧r.1.bF=t.bF∧r.1.aY=t.aY∧r.1.time=t.time∧r.1.aZ=t.aZ∧r.1.aR=k∧r.1.aM=n∧r.1.aT=x∧r.1.aN=[]∧r.1.aP=[]∧r.1.aO=0∧r.1.aJ=[]∧r.1.aD=s.aH∧r.1.aE=s.aG∧r.1.aK=s.aS∧r.1.aQ=s.aU):=⟨fun h=>by unfold Sh.yB; exact ZZ⟩
instance (s:aF) (n:List UInt8):Spec (Sh.AD s n) (s6 s∧sz s∧n.length≤300) (fun r=>Gk 1 s r.1∧r.1.aU=s.aU∧uS r.2):=⟨fun h=>by unfold Sh.AD; exact ZS⟩
instance (s:aF) (n:List UInt8):Spec (Sh.H8 s n) (s6 s∧sz s∧n.length≤300) (fun r=>Gk 1 s r.1∧r.1.aU=s.aU∧uS r.2):=⟨fun h=>by unfold Sh.H8; exact ZS⟩
instance (s:aF) (n:Int):Spec (Sh.vA s n) (s6 s) (fun r=>Gk 0 s r.1∧uS r.2∧r.1.aS=s.aS∧r.1.aU=s.aU):=⟨fun h=>by unfold Sh.vA; exact ZS⟩
instance (s:aF) (c:fO):Spec (Sh.AE s c) (s6 s∧sz s∧vC c) (fun r=>Gk 1 s r.1∧(c.force=false→Wk s r.1)∧uS r.2):=⟨fun h=>by unfold Sh.AE; have:x5 (aF) (fun x=>Lf s x∧x.aS.length≤6000∧(c.force=false→Wk s x)):=⟨⟩; exact ZQ⟩
instance (s:aF):Spec (Sh.CU s) (s6 s∧sz s) (fun r=>Gk 1 s r.1∧uS r.2):=⟨fun h=>by unfold Sh.CU; have:x5 (aF) (fun x=>Gk 1 s x):=⟨⟩; exact ZS⟩
instance (s:aF) (c:fO):Spec (Sh.CY s c) (s6 s∧sz s∧vC c) (fun r=>Gk 1 s r.1∧(c.name≠[104,97,114,100]→r.1.aU=s.aU)∧uS r.2):=⟨fun h=>by unfold Sh.CY; have:x5 (aF) (fun x=>Lf s x∧x.aS.length≤5300∧(c.name≠[104,97,114,100]→x.aU=s.aU)):=⟨⟩; exact ZQ⟩
instance (s:aF) (x:List UInt8):Spec (Sh.CZ s x) (s6 s∧sz s∧x.length≤300) (fun r=>Gk 0 s r.1∧Sg s r.1∧uS r.2):=⟨fun h=>by unfold Sh.CZ; have:x5 (Unit×aF) (fun x=>Lf s x.2∧x.2.aS.length≤64 ∧ ∀ ps,Sh.iI (Tr s.aX s.aG) s.aS=some ps → ∀ f∈s.aU,f.path∉ps→f∈x.2.aU):=⟨⟩; exact ZS⟩
instance (s:aF) (n:List UInt8):Spec (Sh.H7 s n) (s6 s∧n.length≤300) (fun r=>Gk 0 s r.1∧uS r.2):=⟨fun h=>by unfold Sh.H7; have:uM (Int×List IndexEntry) (fun t=>0≤t.1∧t.1≤6000∧t.2.length≤5300+t.1∧(∀ e∈t.2,vE e)∧SI t.2) (fun t=>(6000 - t.1).toNat):=⟨⟩; have:x5 (List (List UInt8)) (fun x=>x.length≤6000):=⟨⟩; exact ZS⟩
instance (s:aF) (c:fO):Spec (Sh.MK s c) (s6 s∧vC c) (fun r=>Gk 0 s r.1∧uS r.2):=⟨fun h=>by unfold Sh.MK; exact ZS⟩
instance (s:aF) (n:List UInt8):Spec (Sh.CW s n) (s6 s∧sz s∧n.length≤300) (fun r=>Gk 1 s r.1∧Wk s r.1∧uS r.2.2):=⟨fun h=>by unfold Sh.CW; have:x5 (cS×Unit×aF×cW) (fun x=>vR x.2.2.2∧Lf s x.2.2.1∧x.2.2.1.aS.length≤5300∧(x.1.isNil=true→x.2.2.1.aU.length≤64∧Wk s x.2.2.1)∧uS x.1):=⟨⟩; exact ZS⟩
instance (s:aF) (c:fO):Spec (Sh.E9 s c) (s6 s∧sz s∧vC c) (fun r=>Gk 1 s r.1∧Wk s r.1∧uS r.2.2):=⟨fun h=>by unfold Sh.E9; have:x5 (List aC×List aC×List UInt8) (fun x=>Rw x.1∧Rw x.2.1∧x.2.2.length≤600):=⟨⟩; have:x5 (cS×Unit×aF×cW) (fun x=>vR x.2.2.2∧Lf s x.2.2.1∧x.2.2.1.aS.length≤5300∧(x.1.isNil=true→x.2.2.1.aU.length≤64∧Wk s x.2.2.1)∧uS x.1):=⟨⟩; exact ZS⟩
instance (s:aF) (c:fO):Spec (Sh.yC s c) (s6 s∧sz s∧vC c) (fun r=>Gk 1 s r.1∧Wk s r.1∧uS r.2.2):=⟨fun h=>by unfold Sh.yC; have:uM (Int×List IndexEntry) (fun t=>0≤t.1∧t.1≤64∧t.2.length≤1000+t.1∧(∀ e∈t.2,vE e)∧SI t.2) (fun t=>(64 - t.1).toNat):=⟨⟩; have:x5 (cS×Unit×aF×cW) (fun x=>vR x.2.2.2∧Lf s x.2.2.1∧x.2.2.1.aS.length≤1000∧(x.1.isNil=true→x.2.2.1.aU.length≤64∧Wk s x.2.2.1)∧uS x.1):=⟨⟩; have:x5 (cS×aF) (fun x=>Gk 1 s x.2∧uS x.1∧Wk s x.2):=⟨⟩; exact ZS⟩
end Go.S
end

section
set_option maxRecDepth 100000
set_option maxHeartbeats 1000000
namespace Go.S
open Go
instance (s:aF):Spec (Sh.tZ s) (s6 s∧s.aZ.length≤3001∧s.aO≤3001∧s.aS.length≤192) (fun r=>Gk 35 s r.1∧Kp s r.1∧uS r.2.2):=⟨fun h=>by
  unfold Sh.tZ
  refine sL (fun w=>s6 w∧w.aZ.length+w.aP.length≤s.aZ.length+32∧w.aO+w.aP.length≤s.aO+32∧w.aS.length+128*w.aP.length≤4288∧w.bF=s.bF∧w.aY=s.aY∧Kp s w) (fun w=>w.aP.length) (by simp only [BC]; grind) fun w ⟨w1,w2,w3,w4,w5,w6,w7⟩ => ?_
  have:x5 (Unit×Unit×cS×aF×cW) (fun x=>vR x.2.2.2.2∧Lf w x.2.2.2.1∧x.2.2.2.1.aS.length≤w.aS.length+896∧(x.2.2.2.2.conflicts=[]→x.2.2.2.1.aS.length≤w.aS.length+128)∧(x.2.2.1.isNil=true→x.2.2.2.1.aU.length≤64∧Ls w x.2.2.2.1 x.2.2.2.2.files)∧uS x.2.2.1):=⟨⟩
  have:x5 (List bJ×List bJ) (fun x=>x.1.length≤1∧(∀ y∈x.1,vS y)∧x.2.length≤32 ∧ ∀ y∈x.2,vS y):=⟨⟩
  have:x5 aF (fun x=>Gk 1 w x∧Kp w x):=⟨⟩
  exact ZS⟩
attribute [grind →] aYr
instance (s:aF) (z:List aC):Spec (Sh.AH s z) (s6 s∧sz s∧(∀ f∈z,vF f)∧z.length=s.aS.length∧z=G0 s.aS 0) (fun r=>Gk 36 s r.1∧Wk s r.1∧uS r.2.2):=⟨fun h=>by unfold Sh.AH; exact ZS⟩
instance (s:aF):Spec (Sh.AI s) (s6 s∧sz s) (fun r=>Gk 36 s r.1∧Wk s r.1∧uS r.2.2):=⟨fun h=>by unfold Sh.AI; have:x5 (Unit×List aC×qJ) (fun x=>(∀ f∈x.2.1,vF f)∧x.2.1.length≤5300∧((∀ z∈s.aS,z.fA=0)→x.2.1.length=s.aS.length)∧x.2.2.text=s.aT∧x.2.1=G0 s.aS 0):=⟨⟩; exact ZS⟩
instance (s:aF):Spec (Sh.FA s) (s6 s∧sz s) (fun r=>Gk 35 s r.1∧uS r.2.2):=⟨fun h=>by unfold Sh.FA; have:x5 (List bJ×List bJ) (fun x=>x.1.length≤32∧(∀ y∈x.1,vS y)∧x.2.length≤32 ∧ ∀ y∈x.2,vS y):=⟨⟩; exact ZS⟩
instance (s:aF) (c:fO):Spec (Sh.AJ s c) (s6 s∧sz s∧vC c) (fun r=>Gk 36 s r.1∧Wk s r.1∧uS r.2.2):=⟨fun h=>by unfold Sh.AJ; exact ZQ⟩
instance (s:aF) (c:fO):Spec (Sh.H9 s c) (s6 s∧sz s∧vC c) (fun r=>Gk 36 s r.1∧((c.verb=[115,119,105,116,99,104]→c.force=false)→(c.verb=[114,101,115,101,116]→c.name≠[104,97,114,100])→Sg s r.1)∧uS r.2.2):=⟨fun h=>by unfold Sh.H9; have:x5 (cS×aF) (fun x=>Gk 36 s x.2∧uS x.1∧((c.verb=[115,119,105,116,99,104]→c.force=false)→(c.verb=[114,101,115,101,116]→c.name≠[104,97,114,100])→Sg s x.2)):=⟨⟩; exact ZS⟩
end Go.S
end

section
set_option maxRecDepth 100000
namespace Go.S
open Go
theorem aGu {n:Nat} (h:n < 18446744073709551616):IntKind.wrap .u64 (n:Int)=n:=IntWalk.u64_in _ (by omega)
theorem wU8 {n:Nat} (h:n < 256):IntKind.wrap .u8 (n:Int)=n:=IntWalk.u8_in _ (by omega)
theorem aN4 {x y:Nat} (hx:x < 18446744073709551616) (hy:y < 18446744073709551616):FN .u64 x y=((x &&& y:Nat):Int):=by
 unfold FN
 have h:(BitVec.ofInt IntKind.u64.bits (x:Int) &&& BitVec.ofInt IntKind.u64.bits (y:Int)).toNat=x &&& y:=by
   show (BitVec.ofInt 64 (x:Int) &&& BitVec.ofInt 64 (y:Int)).toNat=x &&& y
   rw [BitVec.toNat_and,BitVec.ofInt_natCast,BitVec.ofInt_natCast,BitVec.toNat_ofNat,BitVec.toNat_ofNat,Nat.mod_eq_of_lt (by omega),Nat.mod_eq_of_lt (by omega)]
 rw [h]
 exact aGu (Nat.lt_of_le_of_lt Nat.and_le_left hx)
theorem a5G {x y:Nat} (hx:x < 18446744073709551616) (hy:y < 18446744073709551616):XN .u64 x y=((x ||| y:Nat):Int):=by
 unfold XN
 have h:(BitVec.ofInt IntKind.u64.bits (x:Int) ||| BitVec.ofInt IntKind.u64.bits (y:Int)).toNat=x ||| y:=by
   show (BitVec.ofInt 64 (x:Int) ||| BitVec.ofInt 64 (y:Int)).toNat=x ||| y
   rw [BitVec.toNat_or,BitVec.ofInt_natCast,BitVec.ofInt_natCast,BitVec.toNat_ofNat,BitVec.toNat_ofNat,Nat.mod_eq_of_lt (by omega),Nat.mod_eq_of_lt (by omega)]
 rw [h]
 exact aGu (Nat.or_lt_two_pow (n:=64) hx hy)
theorem a8P {x y:Nat} (hx:x < 256) (hy:y < 256):XN .u8 x y=((x ||| y:Nat):Int):=by
 unfold XN
 have h:(BitVec.ofInt IntKind.u8.bits (x:Int) ||| BitVec.ofInt IntKind.u8.bits (y:Int)).toNat=x ||| y:=by
   show (BitVec.ofInt 8 (x:Int) ||| BitVec.ofInt 8 (y:Int)).toNat=x ||| y
   rw [BitVec.toNat_or,BitVec.ofInt_natCast,BitVec.ofInt_natCast,BitVec.toNat_ofNat,BitVec.toNat_ofNat,Nat.mod_eq_of_lt (by omega),Nat.mod_eq_of_lt (by omega)]
 rw [h]
 exact wU8 (Nat.or_lt_two_pow (n:=8) hx hy)
theorem a5F {x y:Nat} (hx:x < 256) (hy:y < 256):FN .u8 x y=((x &&& y:Nat):Int):=by
 unfold FN
 have h:(BitVec.ofInt IntKind.u8.bits (x:Int) &&& BitVec.ofInt IntKind.u8.bits (y:Int)).toNat=x &&& y:=by
   show (BitVec.ofInt 8 (x:Int) &&& BitVec.ofInt 8 (y:Int)).toNat=x &&& y
   rw [BitVec.toNat_and,BitVec.ofInt_natCast,BitVec.ofInt_natCast,BitVec.toNat_ofNat,BitVec.toNat_ofNat,Nat.mod_eq_of_lt (by omega),Nat.mod_eq_of_lt (by omega)]
 rw [h]
 exact wU8 (Nat.lt_of_le_of_lt Nat.and_le_left hx)
theorem aN5 {x y:Nat} (hx:x < 18446744073709551616) (hy:y < 18446744073709551616):M6 .u64 x y=((x ^^^ y:Nat):Int):=by
 unfold M6
 have h:(BitVec.ofInt IntKind.u64.bits (x:Int) ^^^ BitVec.ofInt IntKind.u64.bits (y:Int)).toNat=x ^^^ y:=by
   show (BitVec.ofInt 64 (x:Int) ^^^ BitVec.ofInt 64 (y:Int)).toNat=x ^^^ y
   rw [BitVec.toNat_xor,BitVec.ofInt_natCast,BitVec.ofInt_natCast,BitVec.toNat_ofNat,BitVec.toNat_ofNat,Nat.mod_eq_of_lt (by omega),Nat.mod_eq_of_lt (by omega)]
 rw [h]
 exact aGu (Nat.xor_lt_two_pow (n:=64) hx hy)
theorem aXL (x k:Nat) (hk:k≤64):J3 .u64 x (k:Int)=((x / 2 ^ k:Nat):Int):=by
 unfold J3
 show Int.fdiv (x:Int) (2 ^ min (k:Int).toNat 64)=_
 rw [Int.toNat_natCast,Nat.min_eq_left hk]
 rw [show ((2:Int) ^ k)=((2 ^ k:Nat):Int) by simp]
 rw [Int.fdiv_eq_ediv_of_nonneg _ (Int.natCast_nonneg _)]
 simp
theorem aXK (x k:Nat) (hk:k≤64) (h:x*2 ^ k < 18446744073709551616):sHl .u64 x (k:Int)=((x*2 ^ k:Nat):Int):=by
 unfold sHl
 show IntKind.wrap .u64 ((x:Int)*2 ^ min (k:Int).toNat 64)=_
 rw [Int.toNat_natCast,Nat.min_eq_left hk,show ((x:Int)*2 ^ k)=((x*2 ^ k:Nat):Int) by simp]
 exact aGu h
theorem aNX (x:Nat):x &&& 127=x % 128:=Nat.and_two_pow_sub_one_eq_mod x 7
theorem a8F (x:Nat):x &&& 1=x % 2:=Nat.and_two_pow_sub_one_eq_mod x 1
theorem a5v {x:Nat} (h:x < 128):x ||| 128=x+128:=by
 have:=Nat.two_pow_add_eq_or_of_lt (i:=7) h 1
 rw [Nat.or_comm,show (128:Nat)=2 ^ 7*1 by rfl,← this]
 omega
theorem aRQ {v x k:Nat} (h:v < 2 ^ k):v ||| x*2 ^ k=v+x*2 ^ k:=by
 have:=Nat.two_pow_add_eq_or_of_lt h x
 rw [Nat.or_comm,Nat.mul_comm x,← this,Nat.add_comm]
def vu (u:Nat):List UInt8:=if u < 128 then [UInt8.ofNat u] else UInt8.ofNat (u % 128+128)::vu (u / 128)
termination_by u
decreasing_by omega
theorem aMk {u:Nat} (h:u < 128):vu u=[UInt8.ofNat u]:=by rw [vu,if_pos h]
theorem aMj {u:Nat} (h : ¬ u < 128):vu u=UInt8.ofNat (u % 128+128)::vu (u / 128):=by rw [vu,if_neg h]
def aFv (n:Int):Nat:=if 0≤n then (2*n).toNat else (-2*n - 1).toNat
def encI (n:Int):List UInt8:=vu (aFv n)
theorem aBN {n:Int} (h:bP n):aFv n < 18446744073709551616:=by
 obtain ⟨h1,h2⟩:=h
 unfold aFv
 split <;> omega
theorem aSf {n:Int} (h:bP n):M6 .u64 (sHl .u64 (IntKind.wrap .u64 n) 1) (IntKind.wrap .u64 (J3 .i64 n 63))=(aFv n:Int):=by
 obtain ⟨h1,h2⟩:=h
 have hs:J3 .i64 n 63=if 0≤n then 0 else -1:=by
   unfold J3
   show Int.fdiv n (2 ^ 63)=_
   rw [Int.fdiv_eq_ediv_of_nonneg _ (by decide)]
   split <;> omega
 unfold aFv
 rw [hs]
 by_cases h0:0≤n
 ·
  rw [if_pos h0,if_pos h0]
  obtain ⟨m,rfl⟩ : ∃ m:Nat,n=m:=⟨n.toNat,by omega⟩
  have e1:=aXK m 1 (by decide) (by omega)
  rw [aGu (by omega)]
  rw [show ((1:Nat):Int)=1 from rfl] at e1
  rw [e1,show IntKind.wrap .u64 (0:Int)=((0:Nat):Int) from rfl,aN5 (by omega) (by omega),Nat.xor_zero]
  omega
 rw [if_neg h0,if_neg h0]
 have e0:IntKind.wrap .u64 n=n+18446744073709551616:=by
   simp only [IntKind.wrap,IntKind.bits,IntKind.signed]
   simp
   omega
 have e1:sHl .u64 (n+18446744073709551616) 1=2*n+18446744073709551616:=by
   unfold sHl
   show IntKind.wrap .u64 ((n+18446744073709551616)*2 ^ 1)=_
   simp only [IntKind.wrap,IntKind.bits,IntKind.signed]
   simp
   omega
 have e2:IntKind.wrap .u64 (-1)=((18446744073709551615:Nat):Int):=by decide
 rw [e0,e1,e2]
 obtain ⟨m,hm⟩ : ∃ m:Nat,2*n+18446744073709551616=m:=⟨(2*n+18446744073709551616).toNat,by omega⟩
 rw [hm,aN5 (by omega) (by omega)]
 have hx:m ^^^ 18446744073709551615=18446744073709551615 - m:=by
   have hb:(BitVec.ofNat 64 m ^^^ BitVec.allOnes 64) = ~~~ (BitVec.ofNat 64 m):=BitVec.xor_allOnes
   have:=congrArg BitVec.toNat hb
   rw [BitVec.toNat_xor,BitVec.toNat_not,BitVec.toNat_ofNat,Nat.mod_eq_of_lt (by omega),BitVec.toNat_allOnes] at this
   exact this
 rw [hx]
 omega
def aOu (u:Nat):Int:=if u % 2=0 then ((u / 2:Nat):Int) else -((u / 2:Nat):Int) - 1
theorem a5w {i:Nat} (h:i≤8):2 ^ (7*i)≤72057594037927936:=by
 have:=Nat.pow_le_pow_right (n:=2) (by decide) (show 7*i≤56 by omega)
 simpa using this
theorem aNW {c:UInt8} {i v:Nat} (hi:i≤9) (hv:v < 2 ^ (7*i)) (hc:i=9→c.toNat≤1):v+c.toNat % 128*2 ^ (7*i) < 18446744073709551616∧v+c.toNat % 128*2 ^ (7*i) < 2 ^ (7*(i+1)) ∧
 c.toNat % 128*2 ^ (7*i) < 18446744073709551616∧v < 18446744073709551616:=by
 have hm:c.toNat % 128≤127:=by omega
 have hp:2 ^ (7*(i+1))=128*2 ^ (7*i):=by rw [show 7*(i+1)=7+7*i by omega,Nat.pow_add]
 have hmul:c.toNat % 128*2 ^ (7*i)≤127*2 ^ (7*i):=Nat.mul_le_mul hm (Nat.le_refl _)
 rw [hp]
 by_cases h9:i=9
 ·
  subst h9
  have h1:=hc rfl
  have h2:c.toNat % 128≤1:=by omega
  have h3:c.toNat % 128*2 ^ (7*9)≤1*2 ^ (7*9):=Nat.mul_le_mul h2 (Nat.le_refl _)
  have e:2 ^ (7*9)=9223372036854775808:=by decide
  rw [e] at *
  omega
 have:=a5w (i:=i) (by omega)
 generalize 2 ^ (7*i)=P at *
 omega
theorem aQA {c:UInt8} {i v:Nat} (hi:i≤9) (hv:v < 2 ^ (7*i)) (hc:i=9→c.toNat≤1) :
 XN .u64 (v:Int) (sHl .u64 (IntKind.wrap .u64 (FN .u8 (c.toNat:Int) 127)) (7*(i:Int)))=((v+c.toNat % 128*2 ^ (7*i):Nat):Int):=by
 obtain ⟨h1,_,h3,h4⟩:=aNW hi hv hc
 have hb:=c.toNat_lt
 have e1:=a5F (x:=c.toNat) (y:=127) (by omega) (by decide)
 rw [aNX] at e1
 rw [show (127:Int)=((127:Nat):Int) from rfl,e1,aGu (by omega)]
 rw [show (7*(i:Int))=((7*i:Nat):Int) by omega,aXK _ _ (by omega) h3,a5G h4 h3,aRQ hv]
theorem a5H {x:Nat} (hx:x < 9223372036854775808):M6 .i64 (x:Int) 0=x∧M6 .i64 (x:Int) (-1) = -(x:Int) - 1:=by
 have w : ∀ n:Int,-9223372036854775808≤n∧n≤9223372036854775807→IntKind.wrap .i64 n=n:=fun n h=>IntWalk.i64_in _ h
 constructor
 ·
  unfold M6
  have h:(BitVec.ofInt IntKind.i64.bits (x:Int) ^^^ BitVec.ofInt IntKind.i64.bits 0).toNat=x:=by
    show (BitVec.ofInt 64 (x:Int) ^^^ BitVec.ofInt 64 0).toNat=x
    rw [show BitVec.ofInt 64 0=0#64 from rfl,BitVec.xor_zero,BitVec.ofInt_natCast,BitVec.toNat_ofNat,Nat.mod_eq_of_lt (by omega)]
  rw [h]
  exact w _ ⟨by omega,by omega⟩
 unfold M6
 have h:(BitVec.ofInt IntKind.i64.bits (x:Int) ^^^ BitVec.ofInt IntKind.i64.bits (-1)).toNat=18446744073709551615 - x:=by
   show (BitVec.ofInt 64 (x:Int) ^^^ BitVec.ofInt 64 (-1)).toNat=_
   rw [show BitVec.ofInt 64 (-1)=BitVec.allOnes 64 by decide,BitVec.xor_allOnes,BitVec.toNat_not,BitVec.ofInt_natCast,BitVec.toNat_ofNat,Nat.mod_eq_of_lt (by omega)]
 rw [h]
 simp only [IntKind.wrap,IntKind.bits,IntKind.signed]
 simp
 omega
theorem aSc {u:Nat} (hu:u < 18446744073709551616):M6 .i64 (IntKind.wrap .i64 (J3 .u64 (u:Int) 1)) (IntKind.wrap .i64 (0 - (IntKind.wrap .i64 (FN .u64 (u:Int) 1))))=aOu u:=by
 have e1:J3 .u64 (u:Int) 1=((u / 2:Nat):Int):=aXL u 1 (by decide)
 have e2:FN .u64 (u:Int) 1=((u % 2:Nat):Int):=by
   have:=aN4 (x:=u) (y:=1) hu (by decide)
   rw [a8F] at this; exact this
 have w : ∀ n:Int,-9223372036854775808≤n∧n≤9223372036854775807→IntKind.wrap .i64 n=n:=fun n h=>IntWalk.i64_in _ h
 have hb:=a5H (x:=u / 2) (by omega)
 rw [e1,e2,w _ ⟨by omega,by omega⟩,w ((u % 2:Nat):Int) ⟨by omega,by omega⟩,w _ ⟨by omega,by omega⟩]
 unfold aOu
 by_cases h:u % 2=0
 ·
  rw [if_pos h,h]; exact hb.1
 rw [if_neg h,show u % 2=1 by omega]; exact hb.2
theorem aSb {n:Int} (h:bP n):aOu (aFv n)=n:=by
 obtain ⟨h1,h2⟩:=h
 unfold aOu aFv
 split <;> split <;> omega
def rY (s:List UInt8):List UInt8:=encI s.length++s
def nL (d:bA) (xs:List UInt8):Prop:=d.err = .nil∧0≤d.at_∧d.at_≤d.b.length∧d.b.drop d.at_.toNat=xs∧d.b.length≤4200000000
theorem aB {α β:Type} {Q:β→Prop} {l:List α} {i:Int} {z:α} {g:α→Option β} (h0:0≤i) (hz:l[i.toNat]? = some z) (k:Ok (g z) Q):Ok ((at_ l i).bind g) Q:=by
 rw [sP,aVm]; exact ⟨h0,z,hz,k⟩
theorem aX6 (w:Nat) : ∃ c ws,vu w=c::ws∧(w < 128∧c.toNat=w∧ws=[] ∨ ¬ w < 128∧c.toNat=w % 128+128∧ws=vu (w / 128)):=by
 by_cases q:w < 128
 ·
  exact ⟨_,_,aMk q,.inl ⟨q,by simp; omega,rfl⟩⟩
 exact ⟨_,_,aMj q,.inr ⟨q,by simp; omega,rfl⟩⟩
theorem a1t {d:bA} {u:Nat} {xs:List UInt8} (hu:u < 18446744073709551616) (a:nL d (vu u++xs)):Ok (Sh.wZ d) fun q=>q.1=u∧q.2.1=0∧nL q.2.2 xs:=by
 obtain ⟨a1,a2,a3,a4,a5⟩:=a
 unfold Sh.wZ
 refine sL (fun t => ∃ v w i:Nat,t=((v:Int),(i:Int))∧i≤9∧v < 2 ^ (7*i)∧v+w*2 ^ (7*i)=u∧(0 < i→0 < w)∧d.b.drop (d.at_.toNat+i)=vu w++xs) (fun t=>(10 - t.2).toNat) ⟨0,u,0,rfl,by omega,by simp,by simp,by simp,a4⟩ ?_
 rintro t ⟨v,w,i,rfl,i9,hv,hw,hp,hd⟩
 obtain ⟨c,ws,hws,hc⟩:=aX6 w
 rw [hws,List.cons_append] at hd
 have hcm:c.toNat % 128=w % 128:=by omega
 have h9:i=9→c.toNat≤1:=fun e=>by subst e; rw [show 2 ^ (7*9)=9223372036854775808 by decide] at hw; omega
 have hx:d.b[(d.at_+i).toNat]? = some c:=by
   rw [show (d.at_+(i:Int)).toNat=d.at_.toNat+i by omega,← List.head?_drop,hd]; rfl
 have hlt:=(List.getElem?_eq_some_iff.1 hx).1
 have hd2:d.b.drop (d.at_.toNat+(i+1))=ws++xs:=by
   rw [← Nat.add_assoc,← List.drop_drop,hd]; rfl
 have ea:=aQA i9 hv h9
 have hea:=aNW i9 hv h9
 dsimp only
 rw [if_pos (by omega)]
 refine sG (fun _ => ?_) (by unfold bP; omega)
 rw [if_neg (by omega)]
 refine sG (fun _=>aB (by omega) hx (sJ (fun _=>True) (fun _ _ => ?_) fun k hk => ?_)) (by unfold bP; omega)
 ·
  refine sG (fun _=>sG (fun _ => ?_) (by omega)) (by unfold bP; omega)
  rw [ea,hcm]
  rw [hcm] at hea
  by_cases q:w < 128
  ·
   rw [if_pos (by omega)]
   refine sG (fun _=>sG (fun _=>uA (sS ⟨?_,rfl,a1,by dsimp only; omega,by dsimp only; omega,?_,a5⟩)) (by unfold bP; omega)) (by unfold bP; omega)
   ·
    rw [Nat.mod_eq_of_lt q,hw]
   dsimp only
   rw [show (d.at_+((i:Int)+1)).toNat=d.at_.toNat+(i+1) by omega,hd2]
   rcases hc with hc | hc
   ·
    rw [hc.2.2]; rfl
   exact absurd q hc.1
  rw [if_neg (by omega)]
  have i8:i≤8:=by
    rcases Nat.lt_or_ge 8 i with e | e
    . have:=h9 (by omega); omega
    . exact e
  refine sG (fun _=>A7 ⟨⟨_,w / 128,i+1,rfl,by omega,hea.2.1,?_,fun _=>by omega,?_⟩,by dsimp only; omega⟩) (by unfold bP; omega)
  ·
   rw [← hw,show 2 ^ (7*(i+1))=128*2 ^ (7*i) by rw [show 7*(i+1)=7+7*i by omega,Nat.pow_add],← Nat.mul_assoc,Nat.add_assoc,← Nat.add_mul,show w % 128+w / 128*128=w by omega]
  rcases hc with hc | hc
  ·
   exact absurd hc.1 q
  rw [hd2,hc.2.2]
 refine sI (fun h=>sI (fun h1 => ?_) fun _=>sI (fun _=>sI (fun hz => ?_) fun _=>hk _ trivial) fun _=>hk _ trivial) fun _=>sI (fun _=>sI (fun hz => ?_) fun _=>hk _ trivial) fun _=>hk _ trivial
 ·
  have:=h9 (by omega); omega
 ·
  have:=hp (by omega); omega
 have:=hp (by omega); omega
theorem rI {d:bA} {n:Int} {xs:List UInt8} (h:bP n) (a:nL d (encI n++xs)):Ok (Sh.eM d) fun q=>q.1=n∧nL q.2 xs:=by
 unfold Sh.eM
 rw [a.1,if_pos (show cS.nil.isNil=true from rfl),sP]
 refine (a1t (aBN h) a).mono fun ⟨u,e,d'⟩ ⟨h1,h2,h3⟩ => ?_
 dsimp only at h1 h2 h3 ⊢
 subst h1 h2
 rw [if_pos rfl,aSc (aBN h),aSb h]
 exact sS ⟨rfl,h3⟩
theorem rT {d:bA} {s xs:List UInt8} (a:nL d (rY s++xs)):Ok (Sh.gK d) fun q=>q.1=s∧nL q.2 xs:=by
 unfold Sh.gK
 have hs:s.length≤4200000000:=by
   have:=congrArg List.length a.2.2.2.1
   have:=a.2.2.2.2
   simp only [rY,List.length_append,List.length_drop] at *
   omega
 rw [rY,List.append_assoc] at a
 rw [sP]
 refine (rI (by unfold bP; omega) a).mono fun ⟨n,d'⟩ ⟨h1,a1,a2,a3,a4,a5⟩ => ?_
 dsimp only at h1 a1 a2 a3 a4 a5 ⊢
 subst h1
 have hl:=congrArg List.length a4
 simp only [List.length_append,List.length_drop] at hl
 rw [a1,if_pos (show cS.nil.isNil=true from rfl),if_neg (by omega)]
 refine sG (fun _ => ?_) (by unfold bP; omega)
 rw [if_neg (by omega)]
 refine sG (fun _=>sG (fun _=>sT fun y hy=>sG (fun _=>sS ⟨?_,rfl,by dsimp only; omega,by dsimp only; omega,?_,a5⟩) (by unfold bP; omega)) (by omega)) (by unfold bP; omega)
 ·
  rw [hy,a4,show (d'.at_+(s.length:Int)).toNat - d'.at_.toNat=s.length by omega]; simp
 dsimp only
 rw [show (d'.at_+(s.length:Int)).toNat=d'.at_.toNat+s.length by omega,← List.drop_drop,a4]; simp
end Go.S
end

section
set_option maxRecDepth 100000
set_option maxHeartbeats 1000000
namespace Go.S
open Go
def j8 {α:Type} (enc:α→List UInt8) (l:List α):List UInt8:=encI l.length++l.flatMap enc
def CA (x:aC):List UInt8:=rY x.path++(encI x.mode++rY x.data)
def GD (x:IndexEntry):List UInt8:=rY x.path++(encI x.fA++(encI x.mode++(rY x.data++(encI x.time++encI x.size))))
def N8 (x:dP):List UInt8:=rY x.name++encI x.cF
def GF (x:bJ):List UInt8:=rY x.verb++(encI x.cF++rY x.text)
def QO (x:l5):List UInt8:=rY x.branch++encI x.cF
def N9 (x:dA):List UInt8:=encI x.base++(j8 CA x.index++(j8 CA x.work++rY x.text))
def TF (x:qJ):List UInt8:=rY x.kind++(encI x.other++(rY x.text++(j8 GF x.HP++(j8 GF x.todo++(encI x.made++(rY x.branch++(QO ⟨x.cH,x.cB⟩++(j8 GD x.index++j8 CA x.work))))))))
def E3 (n:eS):List UInt8:=j8 CA n.work++(j8 GD n.index++(j8 N8 n.refs++(QO ⟨n.cH,n.cB⟩++(TF ⟨n.fG,n.eO,n.fH,n.dJ,n.eB,n.fD,n.dW,n.bV,n.bW,n.dK,n.eD⟩++j8 N9 n.gD))))
def LU (c:fB):List UInt8:=j8 CA c.tree++(j8 encI c.parents++(encI c.time++rY c.text))
def HQ (s:aF):List UInt8:=E3 ⟨s.aU,s.aS,s.aZ,s.aH,s.aG,s.aR,s.aM,s.aT,s.aN,s.aP,s.aO,s.aJ,s.aD,s.aE,s.aK,s.aQ,s.aW⟩++(j8 LU s.aX++(j8 rY s.bF++(j8 rY s.aY++encI s.time)))
section
variable {α β:Type} {Q:β→Prop}
theorem rB {o:Option (α×bA)} {x:α} {xs:List UInt8} {f:α×bA→Option β} (h:Ok o fun q=>q.1=x∧nL q.2 xs) (k : ∀ d,nL d xs→Ok (f (x,d)) Q):Ok (o.bind f) Q:=by
 rw [sP]; exact h.mono fun ⟨_,d⟩ ⟨e,a⟩=>by subst e; exact k d a
theorem SQ {o:Option (α×bA×aV)} {x:α} {xs:List UInt8} {f:α×bA×aV→Option β} (h:Ok o fun q=>q.1=x∧nL q.2.1 xs∧q.2.2=⟨false⟩) (k : ∀ d,nL d xs→Ok (f (x,d,⟨false⟩)) Q):Ok (o.bind f) Q:=by
 rw [sP]; exact h.mono fun ⟨_,d,_⟩ ⟨e,a,b⟩=>by subst e; subst b; exact k d a
theorem rB4 {o:Option (bA×aV×α)} {x:α} {xs:List UInt8} {f:bA×aV×α→Option β} (h:Ok o fun q=>q.2.2=x∧nL q.1 xs∧q.2.1=⟨false⟩) (k : ∀ d,nL d xs→Ok (f (d,⟨false⟩,x)) Q):Ok (o.bind f) Q:=by
 rw [sP]; exact h.mono fun ⟨d,_,_⟩ ⟨e,a,b⟩=>by subst e; subst b; exact k d a
end
theorem rE {β:Type} {Q:β→Prop} {d:bA} {xs:List UInt8} (a:nL d xs) {f:cS→Option β} (k:Ok (f .nil) Q):Ok ((Sh.jB d).bind f) Q:=by
 unfold Sh.jB; rw [a.1]; exact k
theorem rl {α T R:Type} (l:List α) {enc:α→List UInt8} {xs:List UInt8} {d0:bA} (pk:Int→bA→List α→T) (ix:T→Int) (hix : ∀ i q m,ix (pk i q m)=i) {B:T→Option (T⊕R)} {Q:R→Prop} (h:nL d0 (l.flatMap enc++xs))
 (hB : ∀ (k:Nat) z,(k:Int) < l.length→z∈l → ∀ d ys,nL d (enc z++ys)→Ok (B (pk k d (l.take k))) fun y => ∃ d',nL d' ys∧y = .inl (pk ((k:Int)+1) d' (l.take k++[z])))
 (hE : ∀ d,nL d xs→Ok (B (pk l.length d l)) (Rn (fun _=>True) (fun _=>0) 0 Q)):Ok (iter B (pk 0 d0 [])) Q:=by
 refine sL (fun t => ∃ (k:Nat) (d:bA),k≤l.length∧t=pk k d (l.take k)∧nL d ((l.drop k).flatMap enc++xs)) (fun t=>(l.length - ix t).toNat) ⟨0,d0,Nat.zero_le _,by simp,h⟩ ?_
 rintro t ⟨k,d,hk,rfl,hr⟩
 by_cases hi:k < l.length
 ·
  have hz:=List.getElem?_eq_getElem hi
  rw [List.drop_eq_getElem_cons hi,List.flatMap_cons,List.append_assoc] at hr
  refine (hB k _ (by omega) (List.getElem_mem hi) d _ hr).mono ?_
  rintro y ⟨d',hd,rfl⟩
  refine ⟨⟨k+1,d',by omega,?_,hd⟩,?_⟩
  ·
   rw [List.take_add_one,hz]; rfl
  dsimp only; rw [hix,hix]; omega
 have e:k=l.length:=by omega
 subst e
 rw [List.drop_length,List.take_length] at *
 refine (hE d hr).mono fun y hy => ?_
 cases y with
 | inl t=>exact absurd hy.2 (by omega)
 | inr r=>exact hy
def Wr (c xs:List UInt8):Prop:=c.length+xs.length≤4200000000
theorem Wr.nx {c x xs:List UInt8} (a:Wr c (x++xs)):Wr (c++x) xs:=by unfold Wr at *; simp only [List.length_append] at *; omega
theorem wB {β:Type} {Q:β→Prop} {c x xs:List UInt8} {o:Option dV} {f:dV→Option β} (a:Wr c (x++xs)) (h:Wr c (x++xs)→Ok o fun q=>q=⟨c++x⟩) (k:Wr (c++x) xs→Ok (f ⟨c++x⟩) Q):Ok (o.bind f) Q:=by
 rw [sP]; exact (h a).mono fun _ e=>by subst e; exact k a.nx
theorem wl {α R:Type} (l:List α) {enc:α→List UInt8} {c xs:List UInt8} {B:Int×List UInt8→Option ((Int×List UInt8)⊕R)} {Q:R→Prop} (h:Wr c (l.flatMap enc++xs))
 (hB : ∀ (k:Int) z,0≤k→k < l.length→l[k.toNat]? = some z→z∈l → ∀ c ys,Wr c (enc z++ys)→Ok (B (k,c)) fun y=>y = .inl (k+1,c++enc z))
 (hE:Wr (c++l.flatMap enc) xs→Ok (B (l.length,c++l.flatMap enc)) (Rn (fun _=>True) (fun _=>0) 0 Q)):Ok (iter B (0,c)) Q:=by
 refine sL (fun t => ∃ k:Nat,k≤l.length∧t=((k:Int),c++(l.take k).flatMap enc)∧Wr t.2 ((l.drop k).flatMap enc++xs)) (fun t=>(l.length - t.1).toNat) ⟨0,Nat.zero_le _,by simp,h⟩ ?_
 rintro t ⟨k,hk,rfl,hr⟩
 by_cases hi:k < l.length
 ·
  have hz:=List.getElem?_eq_getElem hi
  rw [List.drop_eq_getElem_cons hi,List.flatMap_cons,List.append_assoc] at hr
  refine (hB k _ (by omega) (by omega) (by simp) (List.getElem_mem hi) _ _ hr).mono ?_
  rintro y rfl
  refine ⟨⟨k+1,by omega,?_,hr.nx⟩,by dsimp only; omega⟩
  rw [List.take_add_one,hz,List.flatMap_append]
  simp [List.append_assoc]
 have e:k=l.length:=by omega
 subst e
 rw [List.drop_length] at hr
 rw [List.take_length] at *
 refine (hE hr).mono fun y hy => ?_
 cases y with
 | inl t=>exact absurd hy.2 (by omega)
 | inr r=>exact hy
theorem wIs {c xs:List UInt8} {l:List Int} (h : ∀ n∈l,bP n) (hl:l.length≤6000) (a:Wr c (l.flatMap encI++xs)):Ok (Sh.eH ⟨c⟩ l) fun q=>q=⟨c++l.flatMap encI⟩:=by
 unfold Sh.eH
 refine wl l a (fun k z k0 hk hz zm c ys a => ?_) fun a=>by dsimp only; rw [if_neg (by omega)]; exact uA (sS rfl)
 dsimp only
 rw [if_pos hk]
 refine aB k0 hz ?_
 rw [aSf (h z zm)]
 refine sL (fun t => ∃ v:Nat,t.1=v∧v < 18446744073709551616∧t.2++vu v=c++encI z∧Wr t.2 (vu v)) (fun t=>t.1.toNat) ⟨_,rfl,aBN (h z zm),rfl,?_⟩ ?_
 ·
  unfold Wr at *; simp only [List.length_append,encI] at *; omega
 rintro ⟨_,c'⟩ ⟨v,rfl,hv,hc,hw⟩
 dsimp only at hc hw ⊢
 unfold Wr at hw
 refine sI (fun q => ?_) (fun q => ?_)
 ·
  have e1:FN .u64 (v:Int) 127=((v % 128:Nat):Int):=by
    have:=aN4 (x:=v) (y:=127) hv (by decide)
    rw [aNX] at this; exact this
  have e2:XN .u8 (IntKind.wrap .u8 (FN .u64 (v:Int) 127)) 128=((v % 128+128:Nat):Int):=by
    rw [e1,wU8 (by omega)]
    have:=a8P (x:=v % 128) (y:=128) (by omega) (by decide)
    rw [a5v (by omega)] at this; exact this
  have e3:J3 .u64 (v:Int) 7=((v / 128:Nat):Int):=aXL v 7 (by decide)
  rw [e2,e3]
  rw [aMj (by omega)] at hc hw
  simp only [List.length_cons] at hw
  refine sG (fun _=>sT fun u hu=>sT fun y hy=>sG (fun _=>sT fun w hw'=>A7 ⟨⟨v / 128,rfl,by omega,?_,?_⟩,by dsimp only; omega⟩) ?_) ⟨by omega,by omega⟩
  ·
   rw [hw',hy,hu,← hc,Int.toNat_natCast]; simp
  ·
   rw [hw',hy]; unfold Wr; simp; omega
  rw [hy]; simp; omega
 rw [wU8 (by omega)]
 rw [aMk (by omega)] at hc hw
 simp only [List.length_cons] at hw
 refine uA (sG (fun _=>sT fun u hu=>sT fun y hy=>sG (fun _=>sT fun w hw'=>sG (fun _=>sN ?_) (by unfold bP; omega)) ?_) ⟨by omega,by omega⟩)
 ·
  rw [hw',hy,hu,← hc,Int.toNat_natCast]
 rw [hy]; simp; omega
theorem wI {c xs:List UInt8} {n:Int} (h:bP n) (a:Wr c (encI n++xs)):Ok (Sh.eH ⟨c⟩ [n]) fun q=>q=⟨c++encI n⟩:=by
 have e:[n].flatMap encI=encI n:=by simp
 rw [← e] at a ⊢
 exact wIs (by simpa using h) (by simp) a
theorem wTs {c xs:List UInt8} {l:List (List UInt8)} (hl:l.length≤6000) (a:Wr c (l.flatMap rY++xs)):Ok (Sh.fV ⟨c⟩ l) fun q=>q=⟨c++l.flatMap rY⟩:=by
 unfold Sh.fV
 refine wl l a (fun k z k0 hk hz zm c ys a => ?_) fun a=>by dsimp only; rw [if_neg (by omega)]; exact uA (sS rfl)
 dsimp only
 rw [if_pos hk]
 simp only [rY,List.append_assoc] at a
 refine aB k0 hz (sT fun y hy => ?_)
 subst hy
 have hz:z.length≤4200000000:=by unfold Wr at a; simp only [List.length_append] at a; omega
 refine wB a (wI (by unfold bP; omega)) fun a=>sG (fun _=>sT fun w hw=>sG (fun _=>sN ?_) (by unfold bP; omega)) ?_
 ·
  rw [hw]; simp [rY]
 unfold Wr at a; simp only [List.length_append] at a ⊢; omega
end Go.S
end

section
set_option maxRecDepth 100000
set_option maxHeartbeats 1000000
namespace Go.S
open Go
theorem a8W {d:bA} {z:aC} {xs:List UInt8} {r:aV} {l:List (aC)} (h:vF z) (hl:l.length≤4000000000) (a:nL d (CA z++xs)):Ok (Sh.rH l r d) fun q=>q.1=l++[z]∧nL q.2 xs:=by
 unfold Sh.rH
 simp only [CA,List.append_assoc] at a
 exact rB (rT a) fun d a=>rB (rI h.2.1 a) fun d a=>rB (rT a) fun d a=>sT fun y hy=>sG (fun _=>sT fun w hw=>sS ⟨by subst hw hy; rfl,a⟩) (by subst hy; simp; omega)
theorem a8U {d:bA} {z:IndexEntry} {xs:List UInt8} {r:aV} {l:List (IndexEntry)} (h:vE z) (hl:l.length≤4000000000) (a:nL d (GD z++xs)):Ok (Sh.mZ l r d) fun q=>q.1=l++[z]∧nL q.2 xs:=by
 unfold Sh.mZ
 simp only [GD,List.append_assoc] at a
 exact rB (rT a) fun d a=>rB (rI h.2.1 a) fun d a=>rB (rI h.2.2.1 a) fun d a=>rB (rT a) fun d a=>rB (rI h.2.2.2.2.1 a) fun d a=>rB (rI h.2.2.2.2.2 a) fun d a=>sT fun y hy=>sG (fun _=>sT fun w hw=>sS ⟨by subst hw hy; rfl,a⟩) (by subst hy; simp; omega)
theorem a99 {d:bA} {z:bJ} {xs:List UInt8} {r:aV} {l:List (bJ)} (h:vS z) (hl:l.length≤4000000000) (a:nL d (GF z++xs)):Ok (Sh.oQ l r d) fun q=>q.1=l++[z]∧nL q.2 xs:=by
 unfold Sh.oQ
 simp only [GF,List.append_assoc] at a
 exact rB (rT a) fun d a=>rB (rI h.2.1 a) fun d a=>rB (rT a) fun d a=>sT fun y hy=>sG (fun _=>sT fun w hw=>sS ⟨by subst hw hy; rfl,a⟩) (by subst hy; simp; omega)
theorem a9b {d:bA} {z:List UInt8} {xs:List UInt8} {r:aV} {l:List (List UInt8)} (h:(fun _=>True) z) (hl:l.length≤4000000000) (a:nL d (rY z++xs)):Ok (Sh.oR l r d) fun q=>q.1=l++[z]∧nL q.2 xs:=by
 unfold Sh.oR
 exact rB (rT a) fun d a=>sT fun y hy=>sG (fun _=>sT fun w hw=>sS ⟨by subst hw hy; rfl,a⟩) (by subst hy; simp; omega)
theorem a8g {d:bA} {z:Int} {xs:List UInt8} {r:aV} {l:List (Int)} (h:bP z) (hl:l.length≤4000000000) (a:nL d (encI z++xs)):Ok (Sh.nA l r d) fun q=>q.1=l++[z]∧nL q.2 xs:=by
 unfold Sh.nA
 exact rB (rI h a) fun d a=>sT fun y hy=>sG (fun _=>sT fun w hw=>sS ⟨by subst hw hy; rfl,a⟩) (by subst hy; simp; omega)
theorem a5R {d:bA} {l:List (aC)} {xs:List UInt8} (h : ∀ z∈l,vF z) (hl:l.length≤6000) (a:nL d (j8 CA l++xs)):Ok (Sh.sX ⟨false⟩ d []) fun q=>q.2.2=l∧nL q.1 xs∧q.2.1=⟨false⟩:=by
 unfold Sh.sX
 simp only [j8,List.append_assoc] at a
 refine rB (rI (by unfold bP; omega) a) fun d a=>sJ (fun b=>b=false) (fun b e => ?_) fun k hk => ?_
 ·
  subst e
  exact rl l (fun i d m=>(i,d,m)) (·.1) (fun _ _ _=>rfl) a (fun k z hk hz d ys a=>by dsimp only; rw [if_pos (by omega)]; exact rE a (by rw [if_pos (show cS.nil.isNil=true from rfl)]; exact rB (a8W (h z hz) (by simp; omega) a) fun d a=>sG (fun _=>sN ⟨d,a,rfl⟩) (by unfold bP; omega))) (fun d a=>by dsimp only; rw [if_neg (by omega)]; exact uA (sS ⟨rfl,a,rfl⟩))
 rw [if_neg (by simp)]; exact hk _ (by simp)
theorem aES {d:bA} {l:List (aC)} {xs:List UInt8} (h : ∀ z∈l,vF z) (hl:l.length≤6000) (a:nL d (j8 CA l++xs)):Ok (Sh.lT ⟨false⟩ d) fun q=>q.1=l∧nL q.2.1 xs∧q.2.2=⟨false⟩:=by
 unfold Sh.lT
 exact rB4 (a5R h hl a) fun d a=>sB (fun y hy=>sS ⟨hy,a,rfl⟩) trivial
theorem a5L {d:bA} {l:List (IndexEntry)} {xs:List UInt8} (h : ∀ z∈l,vE z) (hl:l.length≤6000) (a:nL d (j8 GD l++xs)):Ok (Sh.oJ ⟨false⟩ d []) fun q=>q.2.2=l∧nL q.1 xs∧q.2.1=⟨false⟩:=by
 unfold Sh.oJ
 simp only [j8,List.append_assoc] at a
 refine rB (rI (by unfold bP; omega) a) fun d a=>sJ (fun b=>b=false) (fun b e => ?_) fun k hk => ?_
 ·
  subst e
  exact rl l (fun i d m=>(i,d,m)) (·.1) (fun _ _ _=>rfl) a (fun k z hk hz d ys a=>by dsimp only; rw [if_pos (by omega)]; exact rE a (by rw [if_pos (show cS.nil.isNil=true from rfl)]; exact rB (a8U (h z hz) (by simp; omega) a) fun d a=>sG (fun _=>sN ⟨d,a,rfl⟩) (by unfold bP; omega))) (fun d a=>by dsimp only; rw [if_neg (by omega)]; exact uA (sS ⟨rfl,a,rfl⟩))
 rw [if_neg (by simp)]; exact hk _ (by simp)
theorem aTe {d:bA} {l:List (IndexEntry)} {xs:List UInt8} (h : ∀ z∈l,vE z) (hl:l.length≤6000) (a:nL d (j8 GD l++xs)):Ok (Sh.mL ⟨false⟩ d) fun q=>q.1=l∧nL q.2.1 xs∧q.2.2=⟨false⟩:=by
 unfold Sh.mL
 exact rB4 (a5L h hl a) fun d a=>sB (fun y hy=>sS ⟨hy,a,rfl⟩) trivial
theorem a6Z {d:bA} {l:List (bJ)} {xs:List UInt8} (h : ∀ z∈l,vS z) (hl:l.length≤6000) (a:nL d (j8 GF l++xs)):Ok (Sh.oL ⟨false⟩ d []) fun q=>q.2.2=l∧nL q.1 xs∧q.2.1=⟨false⟩:=by
 unfold Sh.oL
 simp only [j8,List.append_assoc] at a
 refine rB (rI (by unfold bP; omega) a) fun d a=>sJ (fun b=>b=false) (fun b e => ?_) fun k hk => ?_
 ·
  subst e
  exact rl l (fun i d m=>(i,d,m)) (·.1) (fun _ _ _=>rfl) a (fun k z hk hz d ys a=>by dsimp only; rw [if_pos (by omega)]; exact rE a (by rw [if_pos (show cS.nil.isNil=true from rfl)]; exact rB (a99 (h z hz) (by simp; omega) a) fun d a=>sG (fun _=>sN ⟨d,a,rfl⟩) (by unfold bP; omega))) (fun d a=>by dsimp only; rw [if_neg (by omega)]; exact uA (sS ⟨rfl,a,rfl⟩))
 rw [if_neg (by simp)]; exact hk _ (by simp)
theorem aXR {d:bA} {l:List (bJ)} {xs:List UInt8} (h : ∀ z∈l,vS z) (hl:l.length≤6000) (a:nL d (j8 GF l++xs)):Ok (Sh.nY ⟨false⟩ d) fun q=>q.1=l∧nL q.2.1 xs∧q.2.2=⟨false⟩:=by
 unfold Sh.nY
 exact rB4 (a6Z h hl a) fun d a=>sB (fun y hy=>sS ⟨hy,a,rfl⟩) trivial
theorem a62 {d:bA} {l:List (List UInt8)} {xs:List UInt8} (h : ∀ z∈l,(fun _=>True) z) (hl:l.length≤6000) (a:nL d (j8 rY l++xs)):Ok (Sh.mN ⟨false⟩ d []) fun q=>q.2.2=l∧nL q.1 xs∧q.2.1=⟨false⟩:=by
 unfold Sh.mN
 simp only [j8,List.append_assoc] at a
 refine rB (rI (by unfold bP; omega) a) fun d a=>sJ (fun b=>b=false) (fun b e => ?_) fun k hk => ?_
 ·
  subst e
  exact rl l (fun i d m=>(i,d,m)) (·.1) (fun _ _ _=>rfl) a (fun k z hk hz d ys a=>by dsimp only; rw [if_pos (by omega)]; exact rE a (by rw [if_pos (show cS.nil.isNil=true from rfl)]; exact rB (a9b (h z hz) (by simp; omega) a) fun d a=>sG (fun _=>sN ⟨d,a,rfl⟩) (by unfold bP; omega))) (fun d a=>by dsimp only; rw [if_neg (by omega)]; exact uA (sS ⟨rfl,a,rfl⟩))
 rw [if_neg (by simp)]; exact hk _ (by simp)
theorem aXY {d:bA} {l:List (List UInt8)} {xs:List UInt8} (h : ∀ z∈l,(fun _=>True) z) (hl:l.length≤6000) (a:nL d (j8 rY l++xs)):Ok (Sh.nZ ⟨false⟩ d) fun q=>q.1=l∧nL q.2.1 xs∧q.2.2=⟨false⟩:=by
 unfold Sh.nZ
 exact rB4 (a62 h hl a) fun d a=>sB (fun y hy=>sS ⟨hy,a,rfl⟩) trivial
theorem a5q {d:bA} {l:List (Int)} {xs:List UInt8} (h : ∀ z∈l,bP z) (hl:l.length≤6000) (a:nL d (j8 encI l++xs)):Ok (Sh.oN ⟨false⟩ d []) fun q=>q.2.2=l∧nL q.1 xs∧q.2.1=⟨false⟩:=by
 unfold Sh.oN
 simp only [j8,List.append_assoc] at a
 refine rB (rI (by unfold bP; omega) a) fun d a=>sJ (fun b=>b=false) (fun b e => ?_) fun k hk => ?_
 ·
  subst e
  exact rl l (fun i d m=>(i,d,m)) (·.1) (fun _ _ _=>rfl) a (fun k z hk hz d ys a=>by dsimp only; rw [if_pos (by omega)]; exact rE a (by rw [if_pos (show cS.nil.isNil=true from rfl)]; exact rB (a8g (h z hz) (by simp; omega) a) fun d a=>sG (fun _=>sN ⟨d,a,rfl⟩) (by unfold bP; omega))) (fun d a=>by dsimp only; rw [if_neg (by omega)]; exact uA (sS ⟨rfl,a,rfl⟩))
 rw [if_neg (by simp)]; exact hk _ (by simp)
theorem a5p {d:bA} {l:List (Int)} {xs:List UInt8} (h : ∀ z∈l,bP z) (hl:l.length≤6000) (a:nL d (j8 encI l++xs)):Ok (Sh.oO ⟨false⟩ d) fun q=>q.1=l∧nL q.2.1 xs∧q.2.2=⟨false⟩:=by
 unfold Sh.oO
 exact rB4 (a5q h hl a) fun d a=>sB (fun y hy=>sS ⟨hy,a,rfl⟩) trivial
theorem a4c {d:bA} {x:l5} {xs:List UInt8} {r:aV} (h:bP x.cF) (a:nL d (QO x++xs)):Ok (Sh.pI r d) fun q=>q.1=x∧nL q.2 xs:=by
 unfold Sh.pI
 simp only [QO,List.append_assoc] at a
 exact rB (rT a) fun d a=>rB (rI h a) fun d a=>sS ⟨rfl,a⟩
theorem a9R {d:bA} {z:dP} {xs:List UInt8} {b:aV} {r:eS} {l:List (dP)} (h:vRf z) (hl:l.length≤4000000000) (a:nL d (N8 z++xs)):Ok (Sh.rF ⟨r.work,r.index,l,r.cH,r.cB,r.fG,r.eO,r.fH,r.dJ,r.eB,r.fD,r.dW,r.bV,r.bW,r.dK,r.eD,r.gD⟩ b d) fun q=>q.1=⟨r.work,r.index,l++[z],r.cH,r.cB,r.fG,r.eO,r.fH,r.dJ,r.eB,r.fD,r.dW,r.bV,r.bW,r.dK,r.eD,r.gD⟩∧nL q.2 xs:=by
 unfold Sh.rF
 simp only [N8,List.append_assoc] at a
 exact rB (rT a) fun d a=>rB (rI h.2 a) fun d a=>sT fun y hy=>sG (fun _=>sT fun w hw=>sS ⟨by subst hw hy; rfl,a⟩) (by subst hy; simp; omega)
theorem a6E {d:bA} {l:List (dP)} {xs:List UInt8} {r:eS} (h : ∀ z∈l,vRf z) (hl:l.length≤6000) (a:nL d (j8 N8 l++xs)):Ok (Sh.oK ⟨false⟩ d ⟨r.work,r.index,[],r.cH,r.cB,r.fG,r.eO,r.fH,r.dJ,r.eB,r.fD,r.dW,r.bV,r.bW,r.dK,r.eD,r.gD⟩) fun q=>q.2.2=⟨r.work,r.index,l,r.cH,r.cB,r.fG,r.eO,r.fH,r.dJ,r.eB,r.fD,r.dW,r.bV,r.bW,r.dK,r.eD,r.gD⟩∧nL q.1 xs∧q.2.1=⟨false⟩:=by
 unfold Sh.oK
 simp only [j8,List.append_assoc] at a
 refine rB (rI (by unfold bP; omega) a) fun d a=>sJ (fun b=>b=false) (fun b e => ?_) fun k hk => ?_
 ·
  subst e
  exact rl l (fun i d m=>(i,d,r.work,r.index,m,r.cH,r.cB,r.fG,r.eO,r.fH,r.dJ,r.eB,r.fD,r.dW,r.bV,r.bW,r.dK,r.eD,r.gD)) (·.1) (fun _ _ _=>rfl) a (fun k z hk hz d ys a=>by dsimp only; rw [if_pos (by omega)]; exact rE a (by rw [if_pos (show cS.nil.isNil=true from rfl)]; exact rB (a9R (h z hz) (by simp; omega) a) fun d a=>sG (fun _=>sN ⟨d,a,rfl⟩) (by unfold bP; omega))) (fun d a=>by dsimp only; rw [if_neg (by omega)]; exact uA (sS ⟨rfl,a,rfl⟩))
 rw [if_neg (by simp)]; exact hk _ (by simp)
theorem a94 {d:bA} {z:dA} {xs:List UInt8} {b:Unit} {r:eS} {l:List (dA)} (h:WX z) (hl:l.length≤4000000000) (a:nL d (N9 z++xs)):Ok (Sh.rG ⟨r.work,r.index,r.refs,r.cH,r.cB,r.fG,r.eO,r.fH,r.dJ,r.eB,r.fD,r.dW,r.bV,r.bW,r.dK,r.eD,l⟩ ⟨false⟩ d) fun q=>q.1=⟨r.work,r.index,r.refs,r.cH,r.cB,r.fG,r.eO,r.fH,r.dJ,r.eB,r.fD,r.dW,r.bV,r.bW,r.dK,r.eD,l++[z]⟩∧nL q.2.1 xs∧q.2.2=⟨false⟩:=by
 unfold Sh.rG
 simp only [N9,List.append_assoc] at a
 exact rB (rI h.1 a) fun d a=>SQ (aES h.2.1.2.1 (by have:=h.2.1.1; omega) a) fun d a=>SQ (aES h.2.2.1.2.1 (by have:=h.2.2.1.1; omega) a) fun d a=>rB (rT a) fun d a=>sT fun y hy=>sG (fun _=>sT fun w hw=>sS ⟨by subst hw hy; rfl,a,rfl⟩) (by subst hy; simp; omega)
theorem a6W {d:bA} {l:List (dA)} {xs:List UInt8} {r:eS} (h : ∀ z∈l,WX z) (hl:l.length≤6000) (a:nL d (j8 N9 l++xs)):Ok (Sh.oM ⟨false⟩ d ⟨r.work,r.index,r.refs,r.cH,r.cB,r.fG,r.eO,r.fH,r.dJ,r.eB,r.fD,r.dW,r.bV,r.bW,r.dK,r.eD,[]⟩) fun q=>q.2.2=⟨r.work,r.index,r.refs,r.cH,r.cB,r.fG,r.eO,r.fH,r.dJ,r.eB,r.fD,r.dW,r.bV,r.bW,r.dK,r.eD,l⟩∧nL q.1 xs∧q.2.1=⟨false⟩:=by
 unfold Sh.oM
 simp only [j8,List.append_assoc] at a
 refine rB (rI (by unfold bP; omega) a) fun d a=>sJ (fun b=>b=false) (fun b e => ?_) fun k hk => ?_
 ·
  subst e
  exact rl l (fun i d m=>(i,d,false,r.work,r.index,r.refs,r.cH,r.cB,r.fG,r.eO,r.fH,r.dJ,r.eB,r.fD,r.dW,r.bV,r.bW,r.dK,r.eD,m)) (·.1) (fun _ _ _=>rfl) a (fun k z hk hz d ys a=>by dsimp only; rw [if_pos (by omega)]; exact rE a (by rw [if_pos (show cS.nil.isNil=true from rfl)]; exact SQ (a94 (b:=()) (h z hz) (by simp; omega) a) fun d a=>sG (fun _=>sN ⟨d,a,rfl⟩) (by unfold bP; omega))) (fun d a=>by dsimp only; rw [if_neg (by omega)]; exact uA (sS ⟨rfl,a,rfl⟩))
 rw [if_neg (by simp)]; exact hk _ (by simp)
theorem a8R {d:bA} {z:fB} {xs:List UInt8} {b:Unit} {r:aF} {l:List (fB)} (h:vCm z) (hl:l.length≤4000000000) (a:nL d (LU z++xs)):Ok (Sh.oP ⟨r.aU,r.aS,r.aZ,r.aH,r.aG,r.aR,r.aM,r.aT,r.aN,r.aP,r.aO,r.aJ,r.aD,r.aE,r.aK,r.aQ,r.aW,l,r.bF,r.aY,r.time⟩ ⟨false⟩ d) fun q=>q.1=⟨r.aU,r.aS,r.aZ,r.aH,r.aG,r.aR,r.aM,r.aT,r.aN,r.aP,r.aO,r.aJ,r.aD,r.aE,r.aK,r.aQ,r.aW,l++[z],r.bF,r.aY,r.time⟩∧nL q.2.1 xs∧q.2.2=⟨false⟩:=by
 unfold Sh.oP
 simp only [LU,List.append_assoc] at a
 exact SQ (aES h.1.2.1 (by have:=h.1.1; omega) a) fun d a=>SQ (a5p h.2.2.1 (by have:=h.2.1; omega) a) fun d a=>rB (rI h.2.2.2.1 a) fun d a=>rB (rT a) fun d a=>sT fun y hy=>sG (fun _=>sT fun w hw=>sS ⟨by subst hw hy; rfl,a,rfl⟩) (by subst hy; simp; omega)
theorem a5J {d:bA} {l:List (fB)} {xs:List UInt8} {r:aF} (h : ∀ z∈l,vCm z) (hl:l.length≤6000) (a:nL d (j8 LU l++xs)):Ok (Sh.mM ⟨false⟩ d ⟨r.aU,r.aS,r.aZ,r.aH,r.aG,r.aR,r.aM,r.aT,r.aN,r.aP,r.aO,r.aJ,r.aD,r.aE,r.aK,r.aQ,r.aW,[],r.bF,r.aY,r.time⟩) fun q=>q.2.2=⟨r.aU,r.aS,r.aZ,r.aH,r.aG,r.aR,r.aM,r.aT,r.aN,r.aP,r.aO,r.aJ,r.aD,r.aE,r.aK,r.aQ,r.aW,l,r.bF,r.aY,r.time⟩∧nL q.1 xs∧q.2.1=⟨false⟩:=by
 unfold Sh.mM
 simp only [j8,List.append_assoc] at a
 refine rB (rI (by unfold bP; omega) a) fun d a=>sJ (fun b=>b=false) (fun b e => ?_) fun k hk => ?_
 ·
  subst e
  exact rl l (fun i d m=>(i,d,false,r.aU,r.aS,r.aZ,r.aH,r.aG,r.aR,r.aM,r.aT,r.aN,r.aP,r.aO,r.aJ,r.aD,r.aE,r.aK,r.aQ,r.aW,m,r.bF,r.aY,r.time)) (·.1) (fun _ _ _=>rfl) a (fun k z hk hz d ys a=>by dsimp only; rw [if_pos (by omega)]; exact rE a (by rw [if_pos (show cS.nil.isNil=true from rfl)]; exact SQ (a8R (b:=()) (h z hz) (by simp; omega) a) fun d a=>sG (fun _=>sN ⟨d,a,rfl⟩) (by unfold bP; omega))) (fun d a=>by dsimp only; rw [if_neg (by omega)]; exact uA (sS ⟨rfl,a,rfl⟩))
 rw [if_neg (by simp)]; exact hk _ (by simp)
instance (l:List (dP)):Spec (Sh.jH l) (True) (fun r=>r=l):=⟨fun h=>by unfold Sh.jH; exact ZZ⟩
instance (l:List (fB)):Spec (Sh.fT l) (True) (fun r=>r=l):=⟨fun h=>by unfold Sh.fT; exact ZZ⟩
def fSq (x:qJ):Prop:=bP x.other∧x.HP.length≤6000∧(∀ z∈x.HP,vS z)∧x.todo.length≤6000∧(∀ z∈x.todo,vS z)∧bP x.made∧bP x.cB∧x.index.length≤6000∧(∀ z∈x.index,vE z)∧x.work.length≤6000 ∧ ∀ z∈x.work,vF z
def fNo (n:eS):Prop:=(n.work.length≤6000 ∧ ∀ z∈n.work,vF z)∧(n.index.length≤6000 ∧ ∀ z∈n.index,vE z)∧(n.refs.length≤6000 ∧ ∀ z∈n.refs,vRf z)∧bP n.cB∧fSq ⟨n.fG,n.eO,n.fH,n.dJ,n.eB,n.fD,n.dW,n.bV,n.bW,n.dK,n.eD⟩∧n.gD.length≤6000 ∧ ∀ z∈n.gD,WX z
def aEs (s:aF):eS:=⟨s.aU,s.aS,s.aZ,s.aH,s.aG,s.aR,s.aM,s.aT,s.aN,s.aP,s.aO,s.aJ,s.aD,s.aE,s.aK,s.aQ,s.aW⟩
def fSS (s:aF):Prop:=fNo (aEs s)∧(s.aX.length≤6000 ∧ ∀ z∈s.aX,vCm z)∧s.bF.length≤6000∧s.aY.length≤6000∧bP s.time
theorem a95 {d:bA} {x:qJ} {xs:List UInt8} (h:fSq x) (a:nL d (TF x++xs)):Ok (Sh.uG ⟨false⟩ d) fun q=>q.1=x∧nL q.2.1 xs∧q.2.2=⟨false⟩:=by
 obtain ⟨h1,h2,h3,h4,h5,h6,h7,h8,h9,h10,h11⟩:=h
 unfold Sh.uG
 simp only [TF,List.append_assoc] at a
 exact rB (rT a) fun d a=>rB (rI h1 a) fun d a=>rB (rT a) fun d a=>SQ (aXR h3 h2 a) fun d a=>SQ (aXR h5 h4 a) fun d a=>rB (rI h6 a) fun d a=>rB (rT a) fun d a=>rB (a4c h7 a) fun d a=>SQ (aTe h9 h8 a) fun d a=>SQ (aES h11 h10 a) fun d a=>sS ⟨rfl,a,rfl⟩
theorem a4g {d:bA} {n:eS} {xs:List UInt8} (h:fNo n) (a:nL d (E3 n++xs)):Ok (Sh.mS ⟨false⟩ d) fun q=>q.1=n∧nL q.2.1 xs∧q.2.2=⟨false⟩:=by
 obtain ⟨h1,h2,h3,h4,h5,h6⟩:=h
 unfold Sh.mS
 simp only [E3,List.append_assoc] at a
 refine sJ0 (SQ (aES h1.2 h1.1 a) fun d a=>SQ (aTe h2.2 h2.1 a) fun d a => ?_)
 exact rB4 (a6E (r:=⟨n.work,n.index,[],[],0,[],0,[],[],[],0,[],[],0,[],[],[]⟩) h3.2 h3.1 a) fun d a=>rB (a4c (x:=⟨n.cH,n.cB⟩) h4 a) fun d a=>SQ (a95 h5 a) fun d a=>rB4 (a6W (r:=⟨n.work,n.index,n.refs,n.cH,n.cB,n.fG,n.eO,n.fH,n.dJ,n.eB,n.fD,n.dW,n.bV,n.bW,n.dK,n.eD,[]⟩) h6.2 h6.1 a) fun d a=>sB (fun y hy=>sB (fun w hw=>sS ⟨by subst hy hw; rfl,a,rfl⟩) trivial) trivial
theorem a97 {d:bA} {s:aF} {xs:List UInt8} (h:fSS s) (a:nL d (HQ s++xs)):Ok (Sh.rJ ⟨false⟩ d) fun q=>q.1=s∧nL q.2.1 xs∧q.2.2=⟨false⟩:=by
 obtain ⟨h1,h2,h3,h4,h5⟩:=h
 unfold Sh.rJ
 simp only [HQ,List.append_assoc] at a
 exact SQ (a4g h1 a) fun d a=>rB4 (a5J (r:=⟨s.aU,s.aS,s.aZ,s.aH,s.aG,s.aR,s.aM,s.aT,s.aN,s.aP,s.aO,s.aJ,s.aD,s.aE,s.aK,s.aQ,s.aW,[],[],[],0⟩) h2.2 h2.1 a) fun d a=>sB (fun y hy=>SQ (aXY (fun _ _=>trivial) h3 a) fun d a=>SQ (aXY (fun _ _=>trivial) h4 a) fun d a=>rB (rI h5 a) fun d a=>sS ⟨by subst hy; rfl,a,rfl⟩) trivial
theorem a4i {b:List UInt8} (h:b.length≤4200000000):Ok (Sh.DA b) fun d=>nL d b:=by
 unfold Sh.DA Sh.kG
 rw [sP]
 exact sT fun y hy=>sG (fun _=>sT fun w hw=>sS (sS (by subst hy hw; exact ⟨rfl,by simp,by simp,by simp,by simpa using h⟩))) (by subst hy; simp; omega)
theorem aTd {d:bA} (a:nL d []):Ok (Sh.oE ⟨false⟩ d) fun e=>e = .nil:=by
 obtain ⟨h1,h2,h3,h4,h5⟩:=a
 have h6:(d.b.length:Int)=d.at_:=by have:=List.drop_eq_nil_iff.1 h4; omega
 unfold Sh.oE Sh.jB Sh.AS
 rw [h1]
 refine sB (fun e he => ?_) trivial
 subst he
 rw [if_pos (show cS.nil.isNil=true from rfl)]
 refine sJ (fun b=>b=false) (fun b e=>by subst e; exact sS rfl) fun k hk => ?_
 rw [if_neg (by simp),if_pos (show cS.nil.isNil=true from rfl),sP]
 exact sG (fun _=>sS (hk _ (by simp; omega))) (by unfold bP; omega)
theorem aSa {n:eS} (h:fNo n) (hl:(E3 n).length≤4200000000):Ok (Sh.qI (E3 n)) fun q=>q=(n,.nil):=by
 unfold Sh.qI
 refine sG (fun _=>sT fun y hy => ?_) (by omega)
 subst hy
 rw [sP]
 refine (a4i hl).mono fun d a=>SQ (a4g h (by rw [List.append_nil]; exact a)) fun d a => ?_
 rw [sP]
 refine (aTd a).mono fun e he => ?_
 subst he
 rw [if_pos (show cS.nil.isNil=true from rfl)]
 exact sS rfl
theorem aQO {s:aF} (h:fSS s) (hl:(HQ s).length≤4200000000):Ok (Sh.BM (HQ s)) fun q=>q=(s,.nil):=by
 unfold Sh.BM
 rw [sP]
 refine (a4i hl).mono fun d a=>SQ (a97 h (by rw [List.append_nil]; exact a)) fun d a => ?_
 rw [sP]
 refine (aTd a).mono fun e he => ?_
 subst he
 rw [if_pos (show cS.nil.isNil=true from rfl)]
 exact sS rfl
end Go.S
end

section
set_option maxRecDepth 100000
set_option maxHeartbeats 1000000
namespace Go.S
open Go
section
variable {β:Type} {Q:β→Prop} {c xs s:List UInt8} {n m:Int} {f:dV→Option β}
theorem U1 (h:bP n) (a:Wr c (encI n++xs)) (k:Wr (c++encI n) xs→Ok (f ⟨c++encI n⟩) Q):Ok (lt [n] fun y=>(Sh.eH ⟨c⟩ y).bind f) Q:=sT fun y e=>by subst e; exact wB a (wI h) k
theorem wBT (a:Wr c (rY s++xs)) (k:Wr (c++rY s) xs→Ok (f ⟨c++rY s⟩) Q):Ok (lt [s] fun y=>(Sh.fV ⟨c⟩ y).bind f) Q:=sT fun y e=>by
  subst e
  have e:[s].flatMap rY=rY s:=by simp
  exact wB a (fun a=>by rw [← e] at a ⊢; exact wTs (by simp) a) k
theorem wBJ (h:bP n) (g:bP m) (a:Wr c (encI n++(encI m++xs))) (k:Wr (c++(encI n++encI m)) xs→Ok (f ⟨c++(encI n++encI m)⟩) Q):Ok (lt [n,m] fun y=>(Sh.eH ⟨c⟩ y).bind f) Q:=sT fun y e=>by
  subst e
  have e:[n,m].flatMap encI=encI n++encI m:=by simp
  rw [← List.append_assoc] at a
  exact wB a (fun a=>by rw [← e] at a ⊢; exact wIs (by simp [h,g]) (by simp) a) k
end
theorem aET {c xs:List UInt8} {l:List (aC)} (h : ∀ z∈l,vF z) (hl:l.length≤6000) (a:Wr c (j8 CA l++xs)):Ok (Sh.kY ⟨c⟩ l) fun q=>q=⟨c++j8 CA l⟩:=by
 unfold Sh.kY
 simp only [j8,List.append_assoc] at a
 exact U1 (by unfold bP; omega) a fun a=>wl l a (fun k z k0 hk hz zm c ys a=>by
   have h:=h z zm
   simp only [CA,List.append_assoc] at a
   dsimp only; rw [if_pos hk]
   exact aB k0 hz (wBT a fun a=>U1 h.2.1 a fun a=>wBT a fun a =>  sG (fun _=>sN (by simp [CA])) (by unfold bP; omega))) fun a=>by dsimp only; rw [if_neg (by omega)]; exact uA (sS (by simp [j8]))
theorem aTf {c xs:List UInt8} {l:List (IndexEntry)} (h : ∀ z∈l,vE z) (hl:l.length≤6000) (a:Wr c (j8 GD l++xs)):Ok (Sh.mO ⟨c⟩ l) fun q=>q=⟨c++j8 GD l⟩:=by
 unfold Sh.mO
 simp only [j8,List.append_assoc] at a
 exact U1 (by unfold bP; omega) a fun a=>wl l a (fun k z k0 hk hz zm c ys a=>by
   have h:=h z zm
   simp only [GD,List.append_assoc] at a
   dsimp only; rw [if_pos hk]
   exact aB k0 hz (wBT a fun a=>wBJ h.2.1 h.2.2.1 a fun a=>wBT a fun a=>wBJ h.2.2.2.2.1 h.2.2.2.2.2 a fun a =>  sG (fun _=>sN (by simp [GD])) (by unfold bP; omega))) fun a=>by dsimp only; rw [if_neg (by omega)]; exact uA (sS (by simp [j8]))
theorem aXS {c xs:List UInt8} {l:List (bJ)} (h : ∀ z∈l,vS z) (hl:l.length≤6000) (a:Wr c (j8 GF l++xs)):Ok (Sh.n4 ⟨c⟩ l) fun q=>q=⟨c++j8 GF l⟩:=by
 unfold Sh.n4
 simp only [j8,List.append_assoc] at a
 exact U1 (by unfold bP; omega) a fun a=>wl l a (fun k z k0 hk hz zm c ys a=>by
   have h:=h z zm
   simp only [GF,List.append_assoc] at a
   dsimp only; rw [if_pos hk]
   exact aB k0 hz (wBT a fun a=>U1 h.2.1 a fun a=>wBT a fun a =>  sG (fun _=>sN (by simp [GF])) (by unfold bP; omega))) fun a=>by dsimp only; rw [if_neg (by omega)]; exact uA (sS (by simp [j8]))
theorem aHS {α:Type} (enc:α→List UInt8) (l:List α):j8 enc l=encI l.length++l.flatMap enc:=rfl
theorem a4d {c xs:List UInt8} {x:l5} (h:bP x.cF) (a:Wr c (QO x++xs)):Ok (Sh.pJ ⟨c⟩ x) fun q=>q=⟨c++QO x⟩:=by
 unfold Sh.pJ
 simp only [QO,List.append_assoc] at a
 exact wBT a fun a=>U1 h a fun a=>sS (by simp [QO])
theorem aXZ {c xs:List UInt8} {l:List (List UInt8)} (hl:l.length≤6000) (a:Wr c (j8 rY l++xs)):Ok (Sh.mG ⟨c⟩ l) fun q=>q=⟨c++j8 rY l⟩:=by
 unfold Sh.mG
 simp only [j8,List.append_assoc] at a
 exact U1 (by unfold bP; omega) a fun a=>wB a (wTs hl) fun a=>sS (by simp [j8])
theorem a96 {c xs:List UInt8} {x:qJ} (h:fSq x) (a:Wr c (TF x++xs)):Ok (Sh.uH ⟨c⟩ x) fun q=>q=⟨c++TF x⟩:=by
 obtain ⟨h1,h2,h3,h4,h5,h6,h7,h8,h9,h10,h11⟩:=h
 unfold Sh.uH
 simp only [TF,List.append_assoc] at a
 exact wBT a fun a=>U1 h1 a fun a=>wBT a fun a=>wB a (aXS h3 h2) fun a=>wB a (aXS h5 h4) fun a=>U1 h6 a fun a=>wBT a fun a=>wB a (a4d h7) fun a=>wB a (aTf h9 h8) fun a=>wB a (aET h11 h10) fun a=>sS (by simp [TF])
theorem a4h {c xs:List UInt8} {n:eS} (h:fNo n) (a:Wr c (E3 n++xs)):Ok (Sh.mT ⟨c⟩ n) fun q=>q=⟨c++E3 n⟩:=by
 obtain ⟨h1,h2,h3,h4,h5,h6⟩:=h
 have r1:=h3.1
 have s1:=h6.1
 unfold Sh.mT
 simp only [E3,aHS N8,aHS N9,List.append_assoc] at a
 exact wB a (aET h1.2 h1.1) fun a=>wB a (aTf h2.2 h2.1) fun a=>U1 (by unfold bP; omega) a fun a=>wl n.refs a (fun k z k0 hk hz zm c ys a=>by
   have h:=h3.2 z zm
   simp only [N8,List.append_assoc] at a
   dsimp only; rw [if_pos hk]
   exact aB k0 hz (wBT a fun a=>U1 h.2 a fun a=>sG (fun _=>sN (by simp [N8])) (by unfold bP; omega))) fun a=>by
     dsimp only; rw [if_neg (by omega)]
     refine uA (wB a (a4d h4) fun a=>wB a (a96 h5) fun a=>U1 (by unfold bP; omega) a fun a=>wl n.gD a (fun k z k0 hk hz zm c ys a => ?_) fun a => ?_)
     . have h:=h6.2 z zm
       simp only [N9,List.append_assoc] at a
       dsimp only; rw [if_pos hk]
       exact aB k0 hz (U1 h.1 a fun a=>wB a (aET h.2.1.2.1 (by have:=h.2.1.1; omega)) fun a=>wB a (aET h.2.2.1.2.1 (by have:=h.2.2.1.1; omega)) fun a=>wBT a fun a=>sG (fun _=>sN (by simp [N9])) (by unfold bP; omega))
     . dsimp only; rw [if_neg (by omega)]
       exact uA (sS (by simp [E3,j8]))
theorem a98 {c xs:List UInt8} {s:aF} (h:fSS s) (a:Wr c (HQ s++xs)):Ok (Sh.rK ⟨c⟩ s) fun q=>q=⟨c++HQ s⟩:=by
 obtain ⟨h1,h2,h3,h4,h5⟩:=h
 have r1:=h2.1
 unfold Sh.rK
 simp only [HQ,aHS LU,List.append_assoc] at a
 exact wB a (a4h h1) fun a=>U1 (by unfold bP; omega) a fun a=>wl s.aX a (fun k z k0 hk hz zm c ys a=>by
   have h:=h2.2 z zm
   simp only [LU,aHS encI,List.append_assoc] at a
   dsimp only; rw [if_pos hk]
   exact aB k0 hz (wB a (aET h.1.2.1 (by have:=h.1.1; omega)) fun a=>U1 (by have:=h.2.1; unfold bP; omega) a fun a=>wB a (wIs h.2.2.1 (by have:=h.2.1; omega)) fun a=>U1 h.2.2.2.1 a fun a=>wBT a fun a=>sG (fun _=>sN (by simp [LU,j8])) (by unfold bP; omega))) fun a=>by
     dsimp only; rw [if_neg (by omega)]
     exact uA (wB a (aXZ h3) fun a=>wB a (aXZ h4) fun a=>U1 h5 a fun a=>sS (by simp [HQ,j8]))
instance (l:List UInt8):Spec (Sh.kG l) (l.length≤4200000000) (fun r=>r=l):=⟨fun h=>by unfold Sh.kG; exact ZZ⟩
instance (l:List UInt8):Spec (Sh.nR l) True (fun r=>r=l):=⟨fun h=>by unfold Sh.nR; exact ZZ⟩
theorem aJK {c:List UInt8} (h:c.length≤4200000000):Ok (Sh.pN ⟨c⟩) fun q=>q=c:=by
 unfold Sh.pN
 exact ZZ
theorem a0j {n:eS} (h:fNo n) (hl:(E3 n).length≤4200000000):Ok (Sh.pU n) fun q=>q=E3 n:=by
 unfold Sh.pU
 exact wB (xs:=[]) (by unfold Wr; simp; omega) (a4h h) fun a=>by rw [sP]; exact (aJK (by simpa using hl)).mono fun q hq=>sS (by simpa using hq)
theorem aQR {s:aF} (h:fSS s) (hl:(HQ s).length≤4200000000):Ok (Sh.yD s) fun q=>q=HQ s:=by
 unfold Sh.yD
 exact wB (xs:=[]) (by unfold Wr; simp; omega) (a98 h) fun a=>by rw [sP]; exact (aJK (by simpa using hl)).mono fun q hq=>sS (by simpa using hq)
theorem aQB {s:aF} (h:fSS s) (hl:(HQ s).length≤4200000000):Ok (Sh.mF s) fun q=>q=s:=by
 unfold Sh.mF
 rw [sP]
 refine (aQR h hl).mono fun b hb => ?_
 subst hb
 rw [sP]
 refine (aQO h hl).mono fun q hq => ?_
 subst hq
 rw [if_pos (show cS.nil.isNil=true from rfl)]
 exact sS rfl
end Go.S
end

section
set_option maxRecDepth 100000
set_option maxHeartbeats 1000000
namespace Go.S
open Go
def vN (n:eS):Prop:=Rw n.work∧Ix 5300 n.index∧(∀ r∈n.refs,vRf r)∧n.cH.length≤300∧bP n.cB∧n.fG.length≤300∧bP n.eO∧n.fH.length≤600∧n.dJ.length≤32∧(∀ x∈n.dJ,vS x)∧n.eB.length≤32∧(∀ x∈n.eB,vS x)∧0≤n.fD∧n.dW.length≤300∧n.bV.length≤300∧bP n.bW∧Ix 64 n.dK∧Rw n.eD∧n.gD.length≤16 ∧ ∀ x∈n.gD,WX x
def zN (b:Nat) (n:eS):Prop:=vN n∧n.refs.length≤b∧n.fD≤b
def lJ (b:Nat) (t:List UInt8):Prop := ∃ n,t=E3 n∧zN b n
def uJ (b:Nat) (s:aF):Prop:=s6 s∧s.aZ.length≤b∧s.aO≤b
def gJ (b:Nat) (s:aF):Prop:=(∀ t∈s.bF,lJ b t) ∧ ∀ t∈s.aY,lJ b t
theorem lJ.up {b b':Nat} {t:List UInt8} (h:lJ b t) (g:b≤b'):lJ b' t:=by
 obtain ⟨n,e,h1,h2,h3⟩:=h
 exact ⟨n,e,h1,by omega,by omega⟩
theorem gJ.up {b b':Nat} {s:aF} (h:gJ b s) (g:b≤b'):gJ b' s:=⟨fun t m=>(h.1 t m).up g,fun t m=>(h.2 t m).up g⟩
theorem aAi {b:Nat} {s:aF} (h:uJ b s):zN b (aEs s):=by
 unfold uJ s6 zN vN aEs at *
 grind
theorem aOv : ∀ (k u:Nat),1≤k→u < 128 ^ k→(vu u).length≤k
  | k,u,hk,h=>by
    by_cases h1:u < 128
    . rw [aMk h1]; simpa using hk
    . rw [aMj h1]
      match k,hk with
      | k+1,_ =>
        have hk1:1≤k:=by
          rcases Nat.eq_zero_or_pos k with q | q
          . subst q; simp at h; omega
          . exact q
        have:=aOv k (u / 128) hk1 (by rw [Nat.pow_succ] at h; omega)
        simp; omega
  termination_by k=>k
theorem pO {n:Int} (h:bP n):(encI n).length≤10:=aOv 10 _ (by decide) (by have:=aBN h; omega)
theorem sC {s:List UInt8} {m:Nat} (h:s.length≤m) (hm:m≤4000000000):(rY s).length≤10+m:=by
 have:=pO (n:=s.length) (by unfold bP; omega)
 unfold rY; simp only [List.length_append]; omega
theorem BD {α:Type} {enc:α→List UInt8} {l:List α} {m n:Nat} (h : ∀ z∈l,(enc z).length≤m) (hl:l.length≤n) (hn:n≤4000000000):(j8 enc l).length≤10+n*m:=by
 have h1:=pO (n:=l.length) (by unfold bP; omega)
 have h2:(l.flatMap enc).length≤l.length*m:=by
   clear h1 hl
   induction l with
   | nil=>simp
   | cons x r ih =>
     have a:=ih fun z hz=>h z (List.mem_cons_of_mem _ hz)
     have b:=h x List.mem_cons_self
     rw [List.flatMap_cons,List.length_append,List.length_cons,Nat.succ_mul]
     omega
 have h3:l.length*m≤n*m:=Nat.mul_le_mul_right m hl
 unfold j8; simp only [List.length_append]; omega
theorem aZi {x:aC} (h:vF x):(CA x).length≤4190:=by
 have a:=sC h.1 (by decide); have b:=pO h.2.1; have c:=sC h.2.2 (by decide)
 unfold CA; simp only [List.length_append]; omega
theorem aNc {x:IndexEntry} (h:vE x):(GD x).length≤4220:=by
 obtain ⟨h1,h2,h3,h4,h5,h6⟩:=h
 have a:=sC h1 (by decide); have b:=pO h2; have c:=pO h3; have d:=sC h4 (by decide); have e:=pO h5; have f:=pO h6
 unfold GD; simp only [List.length_append]; omega
theorem a1W {x:dP} (h:vRf x):(N8 x).length≤320:=by
 have a:=sC h.1 (by decide); have b:=pO h.2
 unfold N8; simp only [List.length_append]; omega
theorem aOl {x:bJ} (h:vS x):(GF x).length≤630:=by
 have a:=sC h.1 (by decide); have b:=pO h.2.1; have c:=sC h.2.2 (by decide)
 unfold GF; simp only [List.length_append]; omega
theorem aAc {l:List aC} (h:Rw l):(j8 CA l).length≤268170:=BD (enc:=CA) (m:=4190) (n:=64) (fun z hz=>aZi (h.2.1 z hz)) h.1 (by decide)
theorem a1m {x:dA} (h:WX x):(N9 x).length≤536660:=by
 have a:=pO h.1; have b:=aAc h.2.1; have c:=aAc h.2.2.1; have d:=sC h.2.2.2 (by decide)
 unfold N9; simp only [List.length_append]; omega
theorem aZE {x:fB} (h:vCm x):(LU x).length≤268900:=by
 obtain ⟨h1,h2,h3,h4,h5⟩:=h
 have a:=aAc h1; have b:=BD (enc:=encI) (m:=10) (n:=2) (fun z hz=>pO (h3 z hz)) h2 (by decide); have c:=pO h4; have d:=sC h5 (by decide)
 unfold LU; simp only [List.length_append]; omega
theorem aDW {b:Nat} {n:eS} (hb:b≤3200) (h:zN b n):(E3 n).length≤33000000:=by
 obtain ⟨⟨h1,h2,h3,h4,h5,h6,h7,h8,h9,h10,h11,h12,h13,h14,h15,h16,h17,h18,h19,h20⟩,h21,h22⟩:=h
 have a1:=aAc h1
 have a2:=BD (enc:=GD) (m:=4220) (n:=5300) (fun z hz=>aNc (h2.2.1 z hz)) h2.1 (by decide)
 have a3:=BD (enc:=N8) (m:=320) (n:=3200) (fun z hz=>a1W (h3 z hz)) (by omega) (by decide)
 have a4:=sC h4 (by decide); have a5:=pO h5; have a6:=sC h6 (by decide); have a7:=pO h7; have a8:=sC h8 (by decide)
 have a9:=BD (enc:=GF) (m:=630) (n:=32) (fun z hz=>aOl (h10 z hz)) h9 (by decide)
 have a10:=BD (enc:=GF) (m:=630) (n:=32) (fun z hz=>aOl (h12 z hz)) h11 (by decide)
 have a11:=pO (n:=n.fD) (by unfold bP; omega)
 have a12:=sC h14 (by decide); have a13:=sC h15 (by decide); have a14:=pO h16
 have a15:=BD (enc:=GD) (m:=4220) (n:=64) (fun z hz=>aNc (h17.2.1 z hz)) h17.1 (by decide)
 have a16:=aAc h18
 have a17:=BD (enc:=N9) (m:=536660) (n:=16) (fun z hz=>a1m (h20 z hz)) h19 (by decide)
 unfold E3 TF QO
 simp only [List.length_append]
 omega
theorem aYV {b:Nat} {n:eS} (hb:b≤3200) (h:zN b n):fNo n:=by
 obtain ⟨⟨h1,h2,h3,h4,h5,h6,h7,h8,h9,h10,h11,h12,h13,h14,h15,h16,h17,h18,h19,h20⟩,h21,h22⟩:=h
 exact ⟨⟨by have:=h1.1; omega,h1.2.1⟩,⟨by have:=h2.1; omega,h2.2.1⟩,⟨by omega,h3⟩,h5,⟨h7,by dsimp only; omega,h10,by dsimp only; omega,h12,by unfold bP; dsimp only; omega,h16,by have:=h17.1; dsimp only; omega,h17.2.1,by have:=h18.1; dsimp only; omega,h18.2.1⟩,by omega,h20⟩
theorem a9c {b:Nat} {s:aF} (hb:b≤3200) (h:uJ b s):fSS s:=by
 have a:=aYV hb (aAi h)
 have h:=h.1
 unfold s6 at h
 exact ⟨a,⟨by omega,by grind⟩,by omega,by omega,by grind⟩
theorem aOJ {b:Nat} {l:List (List UInt8)} {k:Nat} (hb:b≤3200) (h : ∀ t∈l,lJ b t) (hl:l.length≤k) (hk:k≤64):(j8 rY l).length≤10+k*33000010 :=
  BD (fun t ht=>by obtain ⟨n,e,hn⟩:=h t ht; subst e; exact sC (aDW hb hn) (by decide)) hl (by omega)
theorem a1o {b:Nat} {s:aF} (hb:b≤3200) (h:uJ b s) (g:gJ b s):(HQ s).length≤4200000000:=by
 have a:=aDW hb (aAi h)
 have h:=h.1
 unfold s6 at h
 have c1:s.aX.length≤1024:=by omega
 have c2 : ∀ c∈s.aX,vCm c:=by grind
 have c3:=BD (enc:=LU) (m:=268900) (n:=1024) (fun z hz=>aZE (c2 z hz)) c1 (by decide)
 have l1:=aOJ hb g.1 (Nat.le_refl _) (by omega)
 have l2:=aOJ hb g.2 (Nat.le_refl _) (by omega)
 have t:=pO (n:=s.time) (by grind)
 have l3:s.bF.length*33000010+s.aY.length*33000010≤64*33000010:=by rw [← Nat.add_mul]; exact Nat.mul_le_mul_right _ (by omega)
 have e:HQ s=E3 (aEs s)++(j8 LU s.aX++(j8 rY s.bF++(j8 rY s.aY++encI s.time))):=rfl
 rw [e]
 simp only [List.length_append]
 omega
theorem aIE {b:Nat} {s:aF} (hb:b≤3200) (h:uJ b s) (g:gJ b s):Ok (Sh.mF s) fun q=>q=s:=aQB (a9c hb h) (a1o hb h g)
theorem aMh {b:Nat} {s:aF} (hb:b≤3200) (h:uJ b s):Ok (Sh.pU (aEs s)) fun q=>lJ b q:=(a0j (aYV hb (aAi h)) (by have:=aDW hb (aAi h); omega)).mono fun q e=>⟨_,e,aAi h⟩
theorem aLU {b:Nat} {t:List UInt8} (hb:b≤3200) (h:lJ b t):Ok (Sh.qI t) fun q=>zN b q.1∧q.2 = .nil:=by
 obtain ⟨n,rfl,h⟩:=h
 exact (aSa (aYV hb h) (by have:=aDW hb h; omega)).mono fun q e=>by subst e; exact ⟨h,rfl⟩
end Go.S
end

section
set_option maxRecDepth 100000
set_option maxHeartbeats 1000000
namespace Go.S
open Go
attribute [grind =] uJ gJ zN vN
def wJ (b:Nat) (s:aF):Prop:=uJ (b+40) s∧gJ b s
theorem a7z {b k:Nat} {s r:aF} (h:uJ b s) (g:gJ b s) (a:Gk k s r) (hk:k≤40):wJ b r:=by
 obtain ⟨a1,a2,a3,a4,a5⟩:=a
 exact ⟨⟨a1,by have:=h.2.1; omega,by have:=h.2.2; omega⟩,by unfold gJ; rw [a4,a5]; exact g⟩
theorem aF4 {b:Nat} {s:aF} (h:uJ b s) (g:gJ b s):wJ b s:=⟨⟨h.1,by have:=h.2.1; omega,by have:=h.2.2; omega⟩,g⟩
def Nd (c:fO):Prop:=c.verb≠[97,100,100]∧c.verb≠[114,109]∧c.verb≠[97,98,111,114,116]∧c.verb≠[115,107,105,112]∧c.verb≠[117,110,100,111]∧c.verb≠[114,101,100,111]∧(c.verb=[115,119,105,116,99,104]→c.force=false)∧(c.verb=[114,101,115,101,116]→c.name≠[104,97,114,100])
attribute [grind =] Nd
theorem aX2 {b:Nat} {s:aF} (hb:b≤3200) (h:uJ b s) (g:gJ b s):Ok (Sh.C0 s) fun r=>uJ b r.1∧gJ b r.1∧uS r.2:=by
 have s1:Spec (Sh.pU ⟨s.aU,s.aS,s.aZ,s.aH,s.aG,s.aR,s.aM,s.aT,s.aN,s.aP,s.aO,s.aJ,s.aD,s.aE,s.aK,s.aQ,s.aW⟩) True (fun q=>lJ b q):=⟨fun _=>aMh hb h⟩
 have s2 : ∀ t,Spec (Sh.qI t) (lJ b t) (fun q=>zN b q.1∧q.2 = .nil):=fun t=>⟨aLU hb⟩
 have j:x5 (Unit×List UInt8×Int×List (List UInt8)×List (List UInt8)) (fun x=>x.2.2.1=0→lJ b x.2.1∧x.2.2.2.1.length+x.2.2.2.2.length≤64∧(∀ t∈x.2.2.2.1,lJ b t) ∧ ∀ t∈x.2.2.2.2,lJ b t):=⟨⟩
 unfold Sh.C0
 exact ZS
theorem aWq {b:Nat} {s:aF} (hb:b≤3200) (h:uJ b s) (g:gJ b s):Ok (Sh.CX s) fun r=>uJ b r.1∧gJ b r.1∧uS r.2:=by
 have s1:Spec (Sh.pU ⟨s.aU,s.aS,s.aZ,s.aH,s.aG,s.aR,s.aM,s.aT,s.aN,s.aP,s.aO,s.aJ,s.aD,s.aE,s.aK,s.aQ,s.aW⟩) True (fun q=>lJ b q):=⟨fun _=>aMh hb h⟩
 have s2 : ∀ t,Spec (Sh.qI t) (lJ b t) (fun q=>zN b q.1∧q.2 = .nil):=fun t=>⟨aLU hb⟩
 have j:x5 (Unit×List UInt8×Int×List (List UInt8)×List (List UInt8)) (fun x=>x.2.2.1=0→lJ b x.2.1∧x.2.2.2.1.length+x.2.2.2.2.length≤64∧(∀ t∈x.2.2.2.1,lJ b t) ∧ ∀ t∈x.2.2.2.2,lJ b t):=⟨⟩
 unfold Sh.CX
 exact ZS
theorem a19 {b:Nat} {s:aF} {c:fO} (hb:b≤3000) (h:uJ b s) (g:gJ b s) (hc:vC c):Ok (Sh.IB s c) fun r=>wJ b r.1∧uS r.2.2∧(Nd c→Sg s r.1):=by
 have s1:Spec (Sh.C0 s) True (fun r=>wJ b r.1∧uS r.2):=⟨fun _=>(aX2 (by omega) h g).mono fun r a=>⟨aF4 a.1 a.2.1,a.2.2⟩⟩
 have s2:Spec (Sh.CX s) True (fun r=>wJ b r.1∧uS r.2):=⟨fun _=>(aWq (by omega) h g).mono fun r a=>⟨aF4 a.1 a.2.1,a.2.2⟩⟩
 have z:sz s:=by unfold sz; have:=h.2.1; have:=h.2.2; omega
 have v:=h.1
 have w:=aF4 h g
 have gk : ∀ k r,Gk k s r→k≤40→wJ b r:=fun k r=>a7z h g
 clear h g
 have j:x5 (cS×aF) (fun x=>wJ b x.2∧uS x.1∧(Nd c→Sg s x.2)):=⟨⟩
 unfold Sh.IB
 exact ZZ
theorem aTa {b:Nat} {s:aF} {c:fO} (hb:b≤3000) (h:uJ b s) (g:gJ b s) (hc:vC c):Ok (Sh.GV s c) fun r=>wJ b r.1∧WW r.2∧(Nd c→Sg s r.1):=by
 have s1:Spec (Sh.IB s c) True (fun r=>wJ b r.1∧uS r.2.2∧(Nd c→Sg s r.1)):=⟨fun _=>a19 hb h g hc⟩
 have s2:Spec (Sh.pU ⟨s.aU,s.aS,s.aZ,s.aH,s.aG,s.aR,s.aM,s.aT,s.aN,s.aP,s.aO,s.aJ,s.aD,s.aE,s.aK,s.aQ,s.aW⟩) True (fun q=>lJ b q):=⟨fun _=>aMh (by omega) h⟩
 have s3 : ∀ s,Spec (Sh.mF s) (uJ (b+40) s∧gJ b s) (fun q=>q=s):=fun s=>⟨fun ⟨h,g⟩=>aIE (by omega) h (g.up (by omega))⟩
 have w:=aF4 h g
 have hl:s.bF.length+s.aY.length≤64:=by have:=h.1; unfold s6 at this; omega
 obtain ⟨g1,g2⟩:=g
 clear h
 have j1:x5 cS (fun e=>WW e):=⟨⟩
 have j2:x5 (List (List UInt8)×List (List UInt8)) (fun x=>x.1.length+x.2.length≤64∧(∀ t∈x.1,lJ b t) ∧ ∀ t∈x.2,lJ b t):=⟨⟩
 unfold Sh.GV
 unfold wJ at *
 exact ZS
theorem a1k {b:Nat} {s:aF} {l:List UInt8} (hb:b≤3000) (h:uJ b s) (g:gJ b s) (hl:l.length≤300):Ok (Sh.nK s l) fun r=>wJ b r.1∧WW r.2:=by
 have s1 : ∀ c,Spec (Sh.GV s c) (vC c) (fun r=>wJ b r.1∧WW r.2):=fun c=>⟨fun hc=>(aTa hb h g hc).mono fun r a=>⟨a.1,a.2.1⟩⟩
 have w:=aF4 h g
 clear h g
 unfold Sh.nK
 exact ZZ
theorem a4r {b:Nat} {s:aF} {w:List aC} (h:uJ b s) (g:gJ b s) (a:Rw w):wJ b ⟨w,s.aS,s.aZ,s.aH,s.aG,s.aR,s.aM,s.aT,s.aN,s.aP,s.aO,s.aJ,s.aD,s.aE,s.aK,s.aQ,s.aW,s.aX,s.bF,s.aY,s.time⟩:=by
 unfold wJ uJ gJ s6 at *
 grind (splits:=40)
theorem aSe {b:Nat} {s:aF} {p d:List UInt8} {m:Int} (hb:b≤3000) (h:uJ b s) (g:gJ b s) (hm:bP m) (hp:p.length≤1000):Ok (Sh.xO s p m d) fun r=>wJ b r.1∧WW r.2:=by
 have hw:Rw s.aU:=by have:=h.1; unfold s6 at this; exact this.1
 obtain ⟨q,hq,q1,q2,q3,_⟩:=(inferInstance:Spec (Sh.o5 s.aU p) _ _).out (by have:=hw.1; omega)
 have s1:Spec (Sh.eN s.aU p) True (fun r=>r.2=q.2):=⟨fun _=>by unfold Sh.eN; rw [hq]; exact ZG⟩
 have s2 : ∀ w m d,Spec (Sh.kO w ⟨p,m,d⟩) (w=s.aU) (fun r=>(∀ z∈r,z=⟨p,m,d⟩∨z∈w)∧r.length≤w.length+1∧(q.2=true→r.length≤w.length)∧SF r):=fun w m d=>⟨fun e=>by
   obtain ⟨r,hr,_,_,_,k⟩:=(inferInstance:Spec (Sh.kO w ⟨p,m,d⟩) _ _).out (by have:=hw.1; rw [e]; omega)
   have hh:Ok (Sh.kO w ⟨p,m,d⟩) fun r=>(∀ z∈r,z=⟨p,m,d⟩∨z∈w)∧r.length≤w.length+1∧(q.2=true→r.length≤w.length):=by subst e; unfold Sh.kO; dsimp only; rw [hq]; exact ZG
   obtain ⟨r',hr',a,b,c⟩:=hh
   rw [hr] at hr'; cases hr'
   exact ⟨r,hr,a,b,c,k (e▸hw.2.2)⟩⟩
 have s3 : ∀ y,Spec (Sh.gV y) (y=[⟨p,m,d⟩]) (fun e=>(e.isNil=true→p.length≤64∧d.length≤4096)∧(e = .nil ∨ ∃ p a n,e = .fault p a (.no n))):=fun y=>⟨fun e=>by
   subst e
   refine ((inferInstance:Spec (Sh.gV [⟨p,m,d⟩]) _ _).out (by simp; omega)).mono fun e he=>⟨fun i => ?_,he.2.1⟩
   exact (he.1 i).2 0 (by simp) ⟨p,m,d⟩ rfl⟩
 have s4:Spec (Sh.mF s) True (fun q=>q=s):=⟨fun _=>aIE (by omega) h g⟩
 have w:=aF4 h g
 have ww : ∀ w,Rw w→wJ b ⟨w,s.aS,s.aZ,s.aH,s.aG,s.aR,s.aM,s.aT,s.aN,s.aP,s.aO,s.aJ,s.aD,s.aE,s.aK,s.aQ,s.aW,s.aX,s.bF,s.aY,s.time⟩:=fun w=>a4r h g
 have j1:x5 cS (fun e=>uS e∧(e.isNil=true→p.length≤64∧d.length≤4096∧(q.2=true∨s.aU.length < 64))):=⟨⟩
 clear h g hq
 unfold Sh.xO
 exact ZQ
theorem aM1 {b:Nat} {s:aF} {p:List UInt8} (hb:b≤3000) (h:uJ b s) (g:gJ b s):Ok (Sh.AB s p) fun r=>wJ b r.1∧WW r.2:=by
 have hw:Rw s.aU:=by have:=h.1; unfold s6 at this; exact this.1
 have s4:Spec (Sh.mF s) True (fun q=>q=s):=⟨fun _=>aIE (by omega) h g⟩
 have w:=aF4 h g
 have ww : ∀ w,Rw w→wJ b ⟨w,s.aS,s.aZ,s.aH,s.aG,s.aR,s.aM,s.aT,s.aN,s.aP,s.aO,s.aJ,s.aD,s.aE,s.aK,s.aQ,s.aW,s.aX,s.bF,s.aY,s.time⟩:=fun w=>a4r h g
 clear h g
 unfold Sh.AB
 exact ZS
theorem aTb {b:Nat} {s:aF} {a:iV} (hb:b≤3000) (h:uJ b s) (g:gJ b s) (h1:a.line.length≤300) (h2:a.path.length≤100):Ok (Sh.yX s a) fun r=>wJ b r.1∧WW r.2:=by
 have s1:Spec (Sh.nK s a.line) True (fun r=>wJ b r.1∧WW r.2):=⟨fun _=>a1k hb h g h1⟩
 have s2:Spec (Sh.AB s a.path) True (fun r=>wJ b r.1∧WW r.2):=⟨fun _=>aM1 hb h g⟩
 have s3:Spec (Sh.xO s a.path 1 a.data) True (fun r=>wJ b r.1∧WW r.2):=⟨fun _=>aSe hb h g (by unfold bP; omega) (by omega)⟩
 clear h g
 unfold Sh.yX
 exact ZZ
end Go.S
end

section
set_option maxRecDepth 100000
namespace Go.S
open Go
theorem aRJ:Sh.xA=some true:=by decide +kernel
end Go.S
end

section
set_option maxRecDepth 100000
set_option maxHeartbeats 1000000
namespace Go.S
open Go
instance (f:aC) (r:List aC):Spec (Sh.vK f r) (r.length≤1000000000) (fun b=>SF r→b=true→f∉r):=⟨fun h=>by
  have u:=fun (hs:SF r) => @aDF r hs
  unfold Sh.vK
  exact ZZ⟩
instance (f:aC) (b:aF):Spec (Sh.zD f b) (s6 b) (fun q=>(∃ x∈b.aW,f∈x.work)→q=true):=⟨fun h=>by
  have w:=h.1
  have hs : ∀ x∈b.aW,Rw x.work:=by unfold s6 at h; grind
  have hl:b.aW.length≤16:=by unfold s6 at h; grind
  clear h
  unfold Sh.zD
  refine sB (fun y hy=>sJ (fun _=>True) (fun x _=>sI (fun _=>sS fun _=>rfl) fun _ => ?_) fun k hk => ?_) (by have:=w.1; omega)
  . clear hy
    refine sL (fun x=>0≤x∧x≤b.aW.length ∧ ∀ y∈b.aW.take x.toNat,f∉y.work) (fun x=>(b.aW.length - x).toNat) (by simp) fun x ⟨h0,h1,h2⟩ => ?_
    refine sI (fun hx=>sA (fun z zm hz => ?_) ⟨h0,hx⟩) (fun hx=>uA (sS fun ⟨y,ym,hy⟩ => ?_))
    . have e:=uU h0 hz
      have wz:=hs z zm
      have u := @aDF z.work wz.2.2
      have:x5 Bool (fun c=>c=false→f∉z.work):=⟨⟩
      clear hs hz
      exact ZZ
    . rw [List.take_of_length_le (by omega)] at h2
      exact absurd hy (h2 y ym)
  . clear hs
    exact ZZ⟩
instance (c:fO):Spec (Sh.qV c) True (fun r=>r=false→c.verb≠[97,98,111,114,116]∧c.verb≠[115,107,105,112]∧c.verb≠[117,110,100,111]∧c.verb≠[114,101,100,111]∧(c.verb=[115,119,105,116,99,104]→c.force=false)∧(c.verb=[114,101,115,101,116]→c.name≠[104,97,114,100])):=⟨fun h=>by unfold Sh.qV; exact ZO⟩
theorem aV8 {a b:aF} {c:fO} (ha:s6 a) (hb:s6 b) (h:Nd c→Sg a b):Ok (Sh.FT a b c) fun r=>r.length=0:=by
 have wa:=ha.1
 have ia:=ha.2.1
 have wb:=hb.1
 have tr:=aTF ha a.aG
 unfold Sh.FT
 refine sJ (fun x=>x=false→Nd c) (fun x hx=>sI (fun _=>sS rfl) fun hn => ?_) fun k hk => ?_
 ·
  have sg:=h (hx (by simpa using hn))
  refine sB (fun z hz=>sB (fun hd hh => ?_) ha) (by have:=ia.1; omega)
  subst hz
  obtain ⟨rfl,_⟩:=hh
  have s1:SF (G0 a.aS 0):=aOm ia.2.2
  have s2:=aAh a.aS 0
  have s3:=ia.1
  refine sL (fun t=>0≤t.2∧t.2≤a.aU.length∧t.1.length=0) (fun t=>(a.aU.length - t.2).toNat) (by simp) fun ⟨o,x⟩ ⟨h0,h1,h2⟩ => ?_
  dsimp only at h0 h1 h2 ⊢
  refine sI (fun hx=>sM (fun f fm => ?_) ⟨h0,hx⟩) (fun hx => ?_)
  ·
   have key:f∉G0 a.aS 0→f∉Tr a.aX a.aG→f∈b.aU ∨ ∃ y∈b.aW,f∈y.work:=fun p q=>sg f ⟨fm,p,q⟩
   have u := @aDF b.aU wb.2.2
   have:x5 Bool (fun q=>q=false):=⟨⟩
   have v1:=wb.1
   have v2:=tr.1
   have v3:=tr.2.2
   have v4:=wa.1
   have v5:=wb.2.2
   clear sg ia ha h tr wa wb
   exact ZZ
  exact ZZ
 clear ha hb ia wa wb tr
 exact ZO
theorem a4f:uJ 0 ⟨[],[],[],[109,97,105,110],0,[],0,[],[],[],0,[],[],0,[],[],[],[],[],[],0⟩∧gJ 0 ⟨[],[],[],[109,97,105,110],0,[],0,[],[],[],0,[],[],0,[],[],[],[],[],[],0⟩:=by
 unfold uJ s6 gJ
 simp [Rw,Ix,bP,Y2,aNU]
theorem aZh (l:List iV):Ok (Sh.x9 l) fun r=>r=true→l.length≤40 ∧ ∀ a∈l,a.line.length≤300∧a.path.length≤100:=by
 unfold Sh.x9
 refine sI (fun _=>sS (fun e=>by cases e)) (fun h40 => ?_)
 refine sL (fun x=>0≤x∧x≤l.length ∧ ∀ a∈l.take x.toNat,a.line.length≤300∧a.path.length≤100) (fun x=>(l.length - x).toNat) (by simp) fun x ⟨h0,h1,h2⟩ => ?_
 refine sI (fun hx => ?_) (fun hx=>uA (sS fun _ => ?_))
 ·
  obtain ⟨z,hz⟩ : ∃ z,l[x.toNat]? = some z:=⟨_,List.getElem?_eq_getElem (by omega)⟩
  have e:=uU h0 hz
  refine sJ (fun c=>c=false→z.line.length≤300∧z.path.length≤100) (fun c hc=>sI (fun _=>uA (sS (fun e=>by cases e))) fun hc0=>sG (fun _=>A7 ⟨⟨by omega,by omega,?_⟩,by omega⟩) (by unfold bP; omega)) fun k hk => ?_
  ·
   rw [e]
   intro a ha
   rcases List.mem_append.1 ha with q | q
   ·
    exact h2 a q
   simp at q; subst q; exact hc (by simpa using hc0)
  refine aB h0 hz (sI (fun _=>hk _ (fun e=>by cases e)) fun h1=>aB h0 hz (sI (fun _=>hk _ (fun e=>by cases e)) fun h2=>aB h0 hz (hk _ fun _=>⟨by omega,by omega⟩)))
 have e:x=l.length:=by omega
 subst e
 rw [List.take_of_length_le (by omega)] at h2
 exact ⟨by omega,h2⟩
theorem aVv {l:List iV} (n40:l.length≤40) (hin : ∀ a∈l,a.line.length≤300∧a.path.length≤100):Ok (Sh.wG l) fun s=>uJ 1600 s∧gJ 1600 s:=by
 unfold Sh.wG Sh.FD
 simp only [Option.bind_some]
 refine sL (fun t=>0≤t.1∧t.1≤l.length∧uJ (40*t.1.toNat) t.2∧gJ (40*t.1.toNat) t.2) (fun t=>(l.length - t.1).toNat) ⟨by simp,by simp,a4f.1,a4f.2⟩ fun ⟨x,s⟩ ⟨h0,h1,hu,hg⟩ => ?_
 dsimp only at h0 h1 hu hg ⊢
 refine sI (fun hx=>sA (fun z zm _ => ?_) ⟨h0,hx⟩) (fun hx=>uA (sS ⟨⟨hu.1,by have:=hu.2.1; omega,by have:=hu.2.2; omega⟩,hg.up (by omega)⟩))
 rw [sP]
 refine (aTb (b:=40*x.toNat) (by omega) hu hg (hin z zm).1 (hin z zm).2).mono fun q ⟨⟨q1,q2⟩,_⟩ => ?_
 have e1:40*(x+1).toNat=40*x.toNat+40:=by omega
 exact sG (fun _=>A7 ⟨⟨by omega,by dsimp only; omega,by dsimp only; rw [e1]; exact q1,by dsimp only; rw [e1]; exact q2.up (by omega)⟩,by dsimp only; omega⟩) (by unfold bP; omega)
theorem aIC (l:List iV) (s:List UInt8) (hl:s.length≤1000000000):Sh.wF l s=some true:=by
 apply Ok.eq
 unfold Sh.wF
 rw [aRJ,Option.bind_some,if_neg (by simp)]
 refine sB (fun p hp => ?_) hl
 refine sJ (fun x=>x=false→(l.length≤40 ∧ ∀ a∈l,a.line.length≤300∧a.path.length≤100)∧s.length≤300) (fun x hx=>sI (fun _=>sS rfl) fun hn => ?_) fun k hk => ?_
 ·
  obtain ⟨⟨n40,hin⟩,h300⟩:=hx (by simpa using hn)
  rw [sP]
  refine (aVv n40 hin).mono fun t ⟨hu,hg⟩ => ?_
  rw [sP]
  refine (aTa (b:=1600) (by omega) hu hg (a66 hp.1 h300)).mono fun q ⟨⟨q1,_⟩,_,q3⟩ => ?_
  rw [sP]
  exact (aV8 hu.1 q1.1 q3).mono fun y hy=>sS (by simp [hy])
 rw [sP]
 exact (aZh l).mono fun f hf=>sI (fun _=>hk _ (fun e=>by cases e)) fun hf0=>sI (fun _=>hk _ (fun e=>by cases e)) fun h3=>hk _ fun _=>⟨hf (by simpa using hf0),by omega⟩
end Go.S
end
