/- Part of the proofs of: the law StateChecks (second form: where what is read is of bulk at most 1048576) -/
import Derived.Test.YthbccdlpalenlaaGreatDoorCF
set_option linter.unusedVariables false
set_option linter.unusedSimpArgs false
set_option linter.unusedSectionVars false
section
namespace Go.S
open Go
def vu (u:Nat):List UInt8:=if u < 128 then [UInt8.ofNat u] else UInt8.ofNat (u % 128+128)::vu (u / 128)
termination_by u
decreasing_by omega
theorem aFu {u:Nat} (h:u < 128):vu u=[UInt8.ofNat u]:=by rw [vu,if_pos h]
theorem aCC {u:Nat} (h : ¬ u < 128):vu u=UInt8.ofNat (u % 128+128)::vu (u / 128):=by rw [vu,if_neg h]
theorem aFt : ∀ (k u:Nat),1≤k→u < 128 ^ k→(vu u).length≤k
  | k,u,hk,h=>by
    by_cases h1:u < 128
    . rw [aFu h1]; simpa using hk
    . rw [aCC h1]
      match k,hk with
      | k+1,_ =>
        have hk1:1≤k:=by
          rcases Nat.eq_zero_or_pos k with q | q
          . subst q; simp at h; omega
          . exact q
        have:=aFt k (u / 128) hk1 (by rw [Nat.pow_succ] at h; omega)
        simp; omega
  termination_by k=>k
def ZI (n:Int):Nat:=if 0≤n then (2*n).toNat else (-2*n - 1).toNat
def kU (n:Int):List UInt8:=vu (ZI n)
theorem aDI {n:Int} (h:dV n):ZI n < 18446744073709551616:=by
 obtain ⟨h1,h2⟩:=h
 unfold ZI
 split <;> omega
theorem KA {n:Int} (h:dV n):(kU n).length≤10:=aFt 10 _ (by decide) (by have:=aDI h; omega)
def pI (s:List UInt8):List UInt8:=kU s.length++s
theorem aPk {n:Int} (h:dV n):GV .u64 (O4 .u64 (IntKind.wrap .u64 n) 1) (IntKind.wrap .u64 (NS .i64 n 63))=(ZI n:Int):=by
 obtain ⟨h1,h2⟩:=h
 have hs:NS .i64 n 63=if 0≤n then 0 else -1:=by
   unfold NS
   show Int.fdiv n (2 ^ 63)=_
   rw [Int.fdiv_eq_ediv_of_nonneg _ (by decide)]
   split <;> omega
 unfold ZI
 rw [hs]
 by_cases h0:0≤n
 ·
  rw [if_pos h0,if_pos h0]
  obtain ⟨m,rfl⟩ : ∃ m:Nat,n=m:=⟨n.toNat,by omega⟩
  have e1:=aUV m 1 (by decide) (by omega)
  rw [aEV (by omega)]
  rw [show ((1:Nat):Int)=1 from rfl] at e1
  rw [e1,show IntKind.wrap .u64 (0:Int)=((0:Nat):Int) from rfl,aLT (by omega) (by omega),Nat.xor_zero]
  omega
 rw [if_neg h0,if_neg h0]
 have e0:IntKind.wrap .u64 n=n+18446744073709551616:=by
   simp only [IntKind.wrap,IntKind.bits,IntKind.signed]
   simp
   omega
 have e1:O4 .u64 (n+18446744073709551616) 1=2*n+18446744073709551616:=by
   unfold O4
   show IntKind.wrap .u64 ((n+18446744073709551616)*2 ^ 1)=_
   simp only [IntKind.wrap,IntKind.bits,IntKind.signed]
   simp
   omega
 have e2:IntKind.wrap .u64 (-1)=((18446744073709551615:Nat):Int):=by decide
 rw [e0,e1,e2]
 obtain ⟨m,hm⟩ : ∃ m:Nat,2*n+18446744073709551616=m:=⟨(2*n+18446744073709551616).toNat,by omega⟩
 rw [hm,aLT (by omega) (by omega)]
 have hx:m ^^^ 18446744073709551615=18446744073709551615 - m:=by
   have hb:(BitVec.ofNat 64 m ^^^ BitVec.allOnes 64) = ~~~ (BitVec.ofNat 64 m):=BitVec.xor_allOnes
   have:=congrArg BitVec.toNat hb
   rw [BitVec.toNat_xor,BitVec.toNat_not,BitVec.toNat_ofNat,Nat.mod_eq_of_lt (by omega),BitVec.toNat_allOnes] at this
   exact this
 rw [hx]
 omega
theorem aOz {v:Nat} {c:List UInt8} {R:Type} (hv:v < 18446744073709551616) (hc:c.length+10≤4294967296) {K:List UInt8→Option R} {Q:R→Prop} (hK:Ok (K (c++vu v)) Q)
 (B:Int×List UInt8→Option ((Int×List UInt8)⊕R)) (hB : ∀ t,B t=if 128≤t.1 then (gd ((0:Int)≤(J8 .u8 (IntKind.wrap .u8 (wA .u64 t.1 127)) 128)∧(J8 .u8 (IntKind.wrap .u8 (wA .u64 t.1 127)) 128)≤255) (
 lt (UInt8.ofNat (J8 .u8 (IntKind.wrap .u8 (wA .u64 t.1 127)) 128).toNat) (fun YR=>lt [YR] (fun AJ=>gd (t.2.length+AJ.length≤4294967296) (lt (t.2++AJ) (fun aGH=>go ((NS .u64 t.1 7),aGH)))))))
 else up (gd ((0:Int)≤(IntKind.wrap .u8 t.1)∧(IntKind.wrap .u8 t.1)≤255) (lt (UInt8.ofNat (IntKind.wrap .u8 t.1).toNat) (fun Q8=>lt [Q8] (fun GA=>gd (t.2.length+GA.length≤4294967296) (lt (t.2++GA) K)))))) :
 Ok (iter B ((v:Int),c)) Q:=by
 have hlen:=aFt 10 v (by decide) (by omega)
 refine iN (I:=fun t => ∃ u:Nat,t.1=u∧u < 18446744073709551616∧t.2++vu u=c++vu v) (μ:=fun t=>t.1.toNat) ?_ ⟨v,rfl,hv,rfl⟩
 rintro ⟨v',c'⟩ ⟨u,hu,hu2,hcc⟩
 dsimp only at hu hcc
 subst hu
 have hl2:=congrArg List.length hcc
 simp only [List.length_append] at hl2
 rw [hB]
 dsimp only
 simp only [cF,gA,cQ,cV,kJ]
 refine ⟨fun h => ?_,fun h => ?_⟩
 ·
  have h' : ¬ u < 128:=by omega
  have e1:wA .u64 (u:Int) 127=((u % 128:Nat):Int):=by
    have:=aLS (x:=u) (y:=127) hu2 (by decide)
    rw [aLJ] at this; exact this
  have e2:J8 .u8 (IntKind.wrap .u8 (wA .u64 (u:Int) 127)) 128=((u % 128+128:Nat):Int):=by
    rw [e1,wU8 (by omega)]
    have:=a1J (x:=u % 128) (y:=128) (by omega) (by decide)
    rw [a0J (by omega)] at this; exact this
  have e3:NS .u64 (u:Int) 7=((u / 128:Nat):Int):=aUW u 7 (by decide)
  rw [e2,e3]
  rw [aCC h'] at hcc hl2
  simp only [List.length_cons] at hl2
  refine ⟨⟨by omega,by omega⟩,by simp; omega,⟨u / 128,rfl,by omega,?_⟩,by omega⟩
  rw [← hcc,Int.toNat_natCast]; simp
 have h':u < 128:=by omega
 have e1:IntKind.wrap .u8 (u:Int)=u:=wU8 (by omega)
 rw [e1,Int.toNat_natCast]
 rw [aFu h'] at hcc hl2
 rw [hcc]
 exact ⟨⟨by omega,by omega⟩,by simp at hl2 ⊢; omega,hK⟩
end Go.S
end

section
namespace Go.S
open Go
def dU (b:List UInt8) (p:Nat):Nat→Nat→Nat→Int×Nat×Nat
  | 0,_,_=>(2,0,0)
  | f+1,i,v=>match b[p+i]? with
    | none=>(3,0,0)
    | some c =>
      if (i=9∧1 < c.toNat)∨(0 < i∧c.toNat=0) then (2,0,0)
      else if c.toNat < 128 then (0,v+c.toNat % 128*2 ^ (7*i),p+i+1)
      else dU b p f (i+1) (v+c.toNat % 128*2 ^ (7*i))
theorem a0O {i:Nat} (h:i≤8):2 ^ (7*i)≤72057594037927936:=by
 have:=Nat.pow_le_pow_right (n:=2) (by decide) (show 7*i≤56 by omega)
 simpa using this
theorem aE1 {c:UInt8} {i v:Nat} (hi:i≤9) (hv:v < 2 ^ (7*i)) (hc:i=9→c.toNat≤1):v+c.toNat % 128*2 ^ (7*i) < 18446744073709551616∧v+c.toNat % 128*2 ^ (7*i) < 2 ^ (7*(i+1)) ∧
 c.toNat % 128*2 ^ (7*i) < 18446744073709551616∧v < 18446744073709551616:=by
 have hm:c.toNat % 128≤127:=by omega
 have hp:2 ^ (7*(i+1))=128*2 ^ (7*i):=by rw [show 7*(i+1)=7+7*i by omega,Nat.pow_add]
 have hmul:c.toNat % 128*2 ^ (7*i)≤127*2 ^ (7*i):=Nat.mul_le_mul hm (Nat.le_refl _)
 rw [hp]
 by_cases h9:i=9
 ·
  subst h9
  have h1:=hc rfl
  have h2:c.toNat % 128≤1:=by omega
  have h3:c.toNat % 128*2 ^ (7*9)≤1*2 ^ (7*9):=Nat.mul_le_mul h2 (Nat.le_refl _)
  have e:2 ^ (7*9)=9223372036854775808:=by decide
  rw [e] at *
  omega
 have:=a0O (i:=i) (by omega)
 generalize 2 ^ (7*i)=P at *
 omega
theorem aN6 {c:UInt8} {i v:Nat} (hi:i≤9) (hv:v < 2 ^ (7*i)) (hc:i=9→c.toNat≤1) :
 J8 .u64 (v:Int) (O4 .u64 (IntKind.wrap .u64 (wA .u8 (c.toNat:Int) 127)) (7*(i:Int)))=((v+c.toNat % 128*2 ^ (7*i):Nat):Int):=by
 obtain ⟨h1,_,h3,h4⟩:=aE1 hi hv hc
 have hb:=c.toNat_lt
 have e1:=aZ0 (x:=c.toNat) (y:=127) (by omega) (by decide)
 rw [aLJ] at e1
 rw [show (127:Int)=((127:Nat):Int) from rfl,e1,aEV (by omega)]
 rw [show (7*(i:Int))=((7*i:Nat):Int) by omega,aUV _ _ (by omega) h3,aZ1 h4 h3,aPC hv]
theorem N1 {b:List UInt8} {p f i v:Nat} {c:UInt8} (h:b[p+i]? = some c):dU b p (f+1) i v=if (i=9∧1 < c.toNat)∨(0 < i∧c.toNat=0) then (2,0,0) else if c.toNat < 128 then (0,v+c.toNat % 128*2 ^ (7*i),p+i+1) else dU b p f (i+1) (v+c.toNat % 128*2 ^ (7*i)):=by
 rw [dU,h]
theorem XF (b:List UInt8) (p:Nat) : ∀ (f i v:Nat),i+f=10→v < 2 ^ (7*i)→(dU b p f i v).1=0→(dU b p f i v).2.1 < 18446744073709551616∧p < (dU b p f i v).2.2∧(dU b p f i v).2.2≤b.length
  | 0,i,v,_,_,h=>by simp [dU] at h
  | f+1,i,v,hf,hv,h=>by
    cases hc:b[p+i]? with
    | none=>rw [dU,hc] at h; cases h
    | some c =>
      rw [N1 hc] at h ⊢
      split at h
      . cases h
      . next hn =>
        have hc9:i=9→c.toNat≤1:=fun e=>by
          rcases Nat.lt_or_ge 1 c.toNat with q | q
          . exact absurd (.inl ⟨e,q⟩) hn
          . exact q
        obtain ⟨a1,a2,_,_⟩:=aE1 (i:=i) (v:=v) (c:=c) (by omega) hv hc9
        rw [if_neg hn]
        split
        . have:=aEy hc
          exact ⟨a1,by dsimp only; omega,by dsimp only; omega⟩
        . next h128 =>
          rw [if_neg h128] at h
          exact XF b p f (i+1) _ (by omega) a2 h
theorem aLX (b:List UInt8) (p:Nat) : ∀ (f i v:Nat),(dU b p f i v).1=0∨(dU b p f i v).1=2∨(dU b p f i v).1=3
  | 0,_,_ => .inr (.inl rfl)
  | f+1,i,v=>by
    cases hc:b[p+i]? with
    | none=>rw [dU,hc]; exact .inr (.inr rfl)
    | some c =>
      rw [N1 hc]
      split
      . exact .inr (.inl rfl)
      . split
        . exact .inl rfl
        . exact aLX b p f (i+1) _
structure DS where
  at_:Nat
  bad:Option (Nat×Int)
def aQE:List UInt8:=[98,121,116,101]
def RS:Option (Nat×Int)→jR
  | none => .nil
  | some (p,e) => .fault aQE p (.no e)
def cP (b:List UInt8) (s:DS):cE:=⟨b,s.at_,RS s.bad⟩
def Dok (b:List UInt8) (s:DS):Prop:=s.at_≤b.length∧match s.bad with
  | none=>True
  | some (p,e)=>p≤b.length∧(e=2∨e=3)
def aEU (u:Nat):Int:=if u % 2=0 then ((u / 2:Nat):Int) else -((u / 2:Nat):Int) - 1
def A4 (b:List UInt8) (s:DS):Int×DS:=match s.bad with
  | some _=>(0,s)
  | none=>if (dU b s.at_ 10 0 0).1=0 then (aEU (dU b s.at_ 10 0 0).2.1,⟨(dU b s.at_ 10 0 0).2.2,none⟩) else (0,⟨s.at_,some (s.at_,(dU b s.at_ 10 0 0).1)⟩)
theorem aUX {b:List UInt8} {s:DS} (h:Dok b s):Dok b (A4 b s).2∧dV (A4 b s).1:=by
 unfold A4
 cases hs:s.bad with
 | some q=>exact ⟨h,by dsimp only; exact ⟨by omega,by omega⟩⟩
 | none =>
   dsimp only
   split
   . next h0 =>
     have hb:=XF b s.at_ 10 0 0 rfl (by decide) h0
     refine ⟨⟨hb.2.2,trivial⟩,?_⟩
     unfold aEU dV
     split <;> omega
   . next h0 =>
     have he:=aLX b s.at_ 10 0 0
     refine ⟨⟨h.1,h.1,?_⟩,by dsimp only; exact ⟨by omega,by omega⟩⟩
     rcases he with q | q
     . exact absurd q h0
     . exact q
theorem aU3 {d:cE} {p:Nat} (hp:d.at_=p) (h1:p≤d.b.length) (hl:d.b.length≤1000000000) :
 Sh.wC d=some (if (dU d.b p 10 0 0).1=0 then (((dU d.b p 10 0 0).2.1:Int),0,⟨d.b,((dU d.b p 10 0 0).2.2:Int),d.err⟩) else (0,(dU d.b p 10 0 0).1,⟨d.b,d.at_,d.err⟩)):=by
 apply Ok.eq
 unfold Sh.wC
 refine iN (I:=fun t=>0≤t.2∧t.2≤9 ∧ ∃ v:Nat,t.1=v∧v < 2 ^ (7*t.2.toNat)∧dU d.b p (10 - t.2.toNat) t.2.toNat v=dU d.b p 10 0 0) (μ:=fun t=>(10 - t.2).toNat) ?_ ⟨by simp,by simp,0,rfl,by decide,rfl⟩
 rintro ⟨x,i⟩ ⟨i0,i9,v,hx,hv,hd⟩
 dsimp only at i0 i9 hx hv hd ⊢
 subst hx
 rw [hp]
 simp only [cF,gA,kC,cQ,cV,kJ,bD,q9]
 rw [show 10 - i.toNat=(9 - i.toNat)+1 by omega] at hd
 refine ⟨fun _=>⟨⟨by omega,by omega⟩,fun hs => ?_,fun hs=>⟨⟨by omega,by omega⟩,by omega,?_⟩⟩,fun h=>by omega⟩
 ·
  have hn:d.b[p+i.toNat]? = none:=List.getElem?_eq_none (by omega)
  rw [dU,hn] at hd
  rw [← hd]; rfl
 obtain ⟨c,hc⟩:=wS (l:=d.b) (i:=(p:Int)+i) (by omega) (by omega)
 have hc':d.b[p+i.toNat]? = some c:=by rw [show p+i.toNat=((p:Int)+i).toNat by omega]; exact hc
 rw [N1 hc'] at hd
 refine ⟨c,hc,?_⟩
 have bad:((i.toNat=9∧1 < c.toNat)∨(0 < i.toNat∧c.toNat=0))→((0:Int),(2:Int),(⟨d.b,(p:Int),d.err⟩:cE))=if (dU d.b p 10 0 0).1=0 then (((dU d.b p 10 0 0).2.1:Int),0,⟨d.b,((dU d.b p 10 0 0).2.2:Int),d.err⟩) else (0,(dU d.b p 10 0 0).1,⟨d.b,(p:Int),d.err⟩):=fun q=>by
   rw [if_pos q] at hd
   rw [← hd]; rfl
 refine gK (fun _ => ¬ ((i.toNat=9∧1 < c.toNat)∨(0 < i.toNat∧c.toNat=0))) ?_ ?_
 ·
  intro _ hn
  rw [if_neg hn] at hd
  have hc9:i.toNat=9→c.toNat≤1:=fun e=>by
    rcases Nat.lt_or_ge 1 c.toNat with q | q
    . exact absurd (.inl ⟨e,q⟩) hn
    . exact q
  have ea:=aN6 (c:=c) (i:=i.toNat) (by omega) hv hc9
  have hea:=aE1 (c:=c) (i:=i.toNat) (by omega) hv hc9
  rw [show ((i.toNat:Nat):Int)=i by omega] at ea
  simp only [cF,gA,cQ,kJ,bD]
  rw [ea]
  refine ⟨⟨by omega,by omega⟩,by omega,fun h128=>⟨⟨by omega,by omega⟩,⟨by omega,by omega⟩,?_⟩,fun h128 => ?_⟩
  ·
   rw [if_pos (by omega)] at hd
   rw [← hd]
   simp
   omega
  rw [if_neg (by omega)] at hd
  have h9:i.toNat≠9:=fun e=>by have:=hc9 e; omega
  refine ⟨⟨by omega,by omega⟩,⟨by omega,by omega,_,rfl,?_,?_⟩,by omega⟩
  ·
   rw [show (i+1).toNat=i.toNat+1 by omega]; exact hea.2.1
  rw [show (i+1).toNat=i.toNat+1 by omega,show 10 - (i.toNat+1)=9 - i.toNat by omega]; exact hd
 intro K hK
 simp only [cF,gA,bD]
 refine ⟨fun h9=>⟨fun h1=>bad (.inl ⟨by omega,by omega⟩),fun h1=>⟨fun h0=>⟨fun hz=>bad (.inr ⟨by omega,by omega⟩),fun hz=>hK () ?_⟩,fun h0=>by omega⟩⟩,fun h9=>⟨fun h0=>⟨fun hz=>bad (.inr ⟨by omega,by omega⟩),fun hz=>hK () ?_⟩,fun h0=>hK () ?_⟩⟩ <;> omega
theorem aZ2 {x:Nat} (hx:x < 9223372036854775808):GV .i64 (x:Int) 0=x∧GV .i64 (x:Int) (-1) = -(x:Int) - 1:=by
 have w : ∀ n:Int,-9223372036854775808≤n∧n≤9223372036854775807→IntKind.wrap .i64 n=n:=fun n h=>IntWalk.i64_in _ h
 constructor
 ·
  unfold GV
  have h:(BitVec.ofInt IntKind.i64.bits (x:Int) ^^^ BitVec.ofInt IntKind.i64.bits 0).toNat=x:=by
    show (BitVec.ofInt 64 (x:Int) ^^^ BitVec.ofInt 64 0).toNat=x
    rw [show BitVec.ofInt 64 0=0#64 from rfl,BitVec.xor_zero,BitVec.ofInt_natCast,BitVec.toNat_ofNat,Nat.mod_eq_of_lt (by omega)]
  rw [h]
  exact w _ ⟨by omega,by omega⟩
 unfold GV
 have h:(BitVec.ofInt IntKind.i64.bits (x:Int) ^^^ BitVec.ofInt IntKind.i64.bits (-1)).toNat=18446744073709551615 - x:=by
   show (BitVec.ofInt 64 (x:Int) ^^^ BitVec.ofInt 64 (-1)).toNat=_
   rw [show BitVec.ofInt 64 (-1)=BitVec.allOnes 64 by decide,BitVec.xor_allOnes,BitVec.toNat_not,BitVec.ofInt_natCast,BitVec.toNat_ofNat,Nat.mod_eq_of_lt (by omega)]
 rw [h]
 simp only [IntKind.wrap,IntKind.bits,IntKind.signed]
 simp
 omega
theorem aPi {u:Nat} (hu:u < 18446744073709551616):GV .i64 (IntKind.wrap .i64 (NS .u64 (u:Int) 1)) (IntKind.wrap .i64 (0 - (IntKind.wrap .i64 (wA .u64 (u:Int) 1))))=aEU u:=by
 have e1:NS .u64 (u:Int) 1=((u / 2:Nat):Int):=aUW u 1 (by decide)
 have e2:wA .u64 (u:Int) 1=((u % 2:Nat):Int):=by
   have:=aLS (x:=u) (y:=1) hu (by decide)
   rw [a1G] at this; exact this
 have w : ∀ n:Int,-9223372036854775808≤n∧n≤9223372036854775807→IntKind.wrap .i64 n=n:=fun n h=>IntWalk.i64_in _ h
 have hb:=aZ2 (x:=u / 2) (by omega)
 rw [e1,e2,w _ ⟨by omega,by omega⟩,w ((u % 2:Nat):Int) ⟨by omega,by omega⟩,w _ ⟨by omega,by omega⟩]
 unfold aEU
 by_cases h:u % 2=0
 ·
  rw [if_pos h,h]; exact hb.1
 rw [if_neg h,show u % 2=1 by omega]; exact hb.2
theorem aAY {b:List UInt8} {s:DS} (h:Dok b s) (hl:b.length≤1000000000):Sh.fN (cP b s)=some ((A4 b s).1,cP b (A4 b s).2):=by
 apply Ok.eq
 unfold Sh.fN A4
 cases hs:s.bad with
 | some q =>
   obtain ⟨p,e⟩:=q
   have e1:(cP b s).err.isNil=false:=by simp [cP,hs,RS,jR.isNil]
   rw [e1,if_neg (by simp),bD]
 | none =>
   have e1:(cP b s).err.isNil=true:=by simp [cP,hs,RS,jR.isNil]
   rw [e1,if_pos rfl,aU3 (d:=cP b s) (p:=s.at_) rfl h.1 hl,Option.bind_some]
   have hbd:(cP b s).b=b:=rfl
   rw [hbd]
   by_cases h0:(dU b s.at_ 10 0 0).1=0
   . have hb:=XF b s.at_ 10 0 0 rfl (by decide) h0
     rw [if_pos h0,if_pos h0,if_pos rfl,bD]
     dsimp only
     rw [aPi hb.1]
     simp [cP,hs]
   . rw [if_neg h0,if_neg h0,if_neg h0]
     unfold Sh.q8
     simp only [kC,bD]
     simp [cP,RS,aQE]
end Go.S
end

section
namespace Go.S
open Go
def aBr (b:List UInt8) (s:DS):List UInt8×DS:=match (A4 b s).2.bad with
  | some _=>([],(A4 b s).2)
  | none =>
    if (A4 b s).1 < 0 then ([],⟨(A4 b s).2.at_,some (s.at_,2)⟩)
    else if (b.length:Int) - (A4 b s).2.at_ < (A4 b s).1 then ([],⟨(A4 b s).2.at_,some (s.at_,3)⟩)
    else ((b.drop (A4 b s).2.at_).take (A4 b s).1.toNat,⟨(A4 b s).2.at_+(A4 b s).1.toNat,none⟩)
theorem aHS {b:List UInt8} {s:DS} (h:Dok b s) (hl:b.length≤1000000000):Sh.iD (cP b s)=some ((aBr b s).1,cP b (aBr b s).2):=by
 apply Ok.eq
 unfold Sh.iD
 have h1:=aUX h
 rw [aAY h hl,Option.bind_some]
 unfold aBr
 generalize hr:A4 b s=r at *
 obtain ⟨n,s'⟩:=r
 dsimp only at h1 ⊢
 have hp:=h1.1.1
 cases hs:s'.bad with
 | some q =>
   obtain ⟨p,e⟩:=q
   have e1:(cP b s').err.isNil=false:=by simp [cP,hs,RS,jR.isNil]
   rw [e1,if_neg (by simp),bD]
 | none =>
   have e1:(cP b s').err.isNil=true:=by simp [cP,hs,RS,jR.isNil]
   rw [e1,if_pos rfl]
   have hb:(cP b s').b=b:=rfl
   have ha:(cP b s').at_=s'.at_:=rfl
   have ha0:(cP b s).at_=s.at_:=rfl
   have he:(cP b s').err = .nil:=by simp [cP,hs,RS]
   unfold Sh.q8
   simp only [cF,bD,cQ,cV,kC,hb,ha,ha0,he]
   refine ⟨fun h0 => ?_,fun h0=>⟨⟨by omega,by omega⟩,fun h2 => ?_,fun h2=>⟨⟨by omega,by omega⟩,⟨by omega,by omega,by omega⟩,⟨by omega,by omega⟩,?_⟩⟩⟩
   . rw [if_pos h0]; rfl
   . rw [if_neg h0,if_pos h2]; rfl
   . rw [if_neg h0,if_neg h2]
     rw [show ((s'.at_:Int)+n).toNat - (s'.at_:Int).toNat=n.toNat by omega,Int.toNat_natCast]
     simp [cP,RS]
     omega
def aKS (b:List UInt8) (s:DS):Int:=match s.bad with
  | some _=>0
  | none=>(b.length:Int) - s.at_
theorem aSt {b:List UInt8} {s:DS} (h:Dok b s) (hl:b.length≤1000000000):Sh.wB (cP b s)=some (aKS b s):=by
 apply Ok.eq
 unfold Sh.wB aKS
 have hp:=h.1
 cases hs:s.bad with
 | some q =>
   have e1:(cP b s).err.isNil=false:=by obtain ⟨p,e⟩:=q; simp [cP,hs,RS,jR.isNil]
   rw [e1,if_neg (by simp),bD]
 | none =>
   have e1:(cP b s).err.isNil=true:=by simp [cP,hs,RS,jR.isNil]
   rw [e1,if_pos rfl]
   simp only [cQ,bD]
   exact ⟨⟨by simp [cP]; omega,by simp [cP]; omega⟩,rfl⟩
theorem aQN : ∀ (f i v u:Nat) (pre suf b:List UInt8) (p:Nat),i+f=10→b=pre++vu u++suf→pre.length=p+i→v < 2 ^ (7*i)→(0 < i→0 < u)→v+u*2 ^ (7*i) < 18446744073709551616 →
    dU b p f i v=(0,v+u*2 ^ (7*i),p+i+(vu u).length)
  | 0,i,v,u,pre,suf,b,p,hf,hb,hp,hv,hu,hlt=>by
    have hi:i=10:=by omega
    subst hi
    have hu':=hu (by omega)
    have e:(2:Nat) ^ (7*10)=1180591620717411303424:=by decide
    rw [e] at hlt
    omega
  | f+1,i,v,u,pre,suf,b,p,hf,hb,hp,hv,hu,hlt=>by
    have e9:(2:Nat) ^ (7*9)=9223372036854775808:=by decide
    by_cases h128:u < 128
    . have hc:b[p+i]? = some (UInt8.ofNat u):=by
        rw [hb,aFu h128,← hp]; simp
      have hn:(UInt8.ofNat u).toNat=u:=by simp [UInt8.toNat_ofNat']; omega
      rw [N1 hc,hn]
      have hno : ¬ ((i=9∧1 < u)∨(0 < i∧u=0)):=by
        rintro (⟨q1,q2⟩ | ⟨q1,q2⟩)
        . subst q1
          rw [e9] at hlt; omega
        . have:=hu q1; omega
      rw [if_neg hno,if_pos h128,Nat.mod_eq_of_lt h128,aFu h128]
      rfl
    . have hc:b[p+i]? = some (UInt8.ofNat (u % 128+128)):=by
        rw [hb,aCC h128,← hp]; simp
      have hn:(UInt8.ofNat (u % 128+128)).toNat=u % 128+128:=by simp [UInt8.toNat_ofNat']; omega
      rw [N1 hc,hn]
      have hi9:i≠9:=fun q=>by
        subst q
        rw [e9] at hlt; omega
      rw [if_neg (by omega),if_neg (by omega)]
      have hp2:2 ^ (7*(i+1))=2 ^ (7*i)*128:=by rw [show 7*(i+1)=7*i+7 by omega,Nat.pow_add]
      have hmod:(u % 128+128) % 128=u % 128:=by omega
      rw [hmod]
      have hdiv:u*2 ^ (7*i)=u % 128*2 ^ (7*i)+u / 128*2 ^ (7*(i+1)):=by
        rw [hp2,← Nat.mul_assoc,Nat.mul_right_comm,← Nat.add_mul]
        congr 1; omega
      have hml:u % 128*2 ^ (7*i)≤127*2 ^ (7*i):=Nat.mul_le_mul (by omega) (Nat.le_refl _)
      have ih:=aQN f (i+1) (v+u % 128*2 ^ (7*i)) (u / 128) (pre++[UInt8.ofNat (u % 128+128)]) suf b p (by omega) (by rw [hb,aCC h128]; simp) (by simp; omega) (by rw [hp2]; generalize 2 ^ (7*i)=P at *; omega) (fun _=>by omega) (by rw [hdiv] at hlt; omega)
      rw [ih,aCC h128,hdiv]
      simp only [List.length_cons]
      refine Prod.ext rfl (Prod.ext ?_ ?_)
      . dsimp only; omega
      . dsimp only; omega
theorem aPh {n:Int} (h:dV n):aEU (ZI n)=n:=by
 obtain ⟨h1,h2⟩:=h
 unfold aEU ZI
 split <;> split <;> omega
theorem aEM {n:Int} (h:dV n) (pre suf:List UInt8):A4 (pre++kU n++suf) ⟨pre.length,none⟩=(n,⟨pre.length+(kU n).length,none⟩):=by
 have hz:=aDI h
 have:=aQN 10 0 0 (ZI n) pre suf (pre++kU n++suf) pre.length rfl rfl rfl (by decide) (fun q=>by omega) (by omega)
 unfold A4
 dsimp only
 rw [this,if_pos rfl]
 simp only [Nat.mul_zero,Nat.pow_zero,Nat.mul_one,Nat.zero_add,Nat.add_zero,aPh h]
 rfl
theorem aKT {s:List UInt8} (hl:s.length≤1000000000) (pre suf:List UInt8):aBr (pre++pI s++suf) ⟨pre.length,none⟩=(s,⟨pre.length+(pI s).length,none⟩):=by
 have h:dV (s.length:Int):=⟨by omega,by omega⟩
 have:=aEM h pre (s++suf)
 have e:pre++pI s++suf=pre++kU s.length++(s++suf):=by simp [pI]
 unfold aBr
 rw [e,this]
 dsimp only
 rw [if_neg (by omega),if_neg (by simp; omega)]
 have hd:(pre++kU s.length++(s++suf)).drop (pre.length+(kU s.length).length)=s++suf:=by
   rw [← List.length_append,List.drop_left]
 rw [hd]
 simp [pI]
 omega
end Go.S
end

section
namespace Go.S
open Go
def Eat (b:List UInt8) (s s':DS) (xs:List UInt8):Prop:=s.bad=none∧s'.bad=none∧s'.at_=s.at_+xs.length∧b.drop s.at_=xs++b.drop s'.at_
theorem Eat.refl {b:List UInt8} {s:DS} (h:s.bad=none):Eat b s s []:=⟨h,h,rfl,rfl⟩
theorem Eat.trans {b:List UInt8} {s s1 s2:DS} {xs ys:List UInt8} (h:Eat b s s1 xs) (g:Eat b s1 s2 ys):Eat b s s2 (xs++ys):=by
 obtain ⟨a1,a2,a3,a4⟩:=h
 obtain ⟨b1,b2,b3,b4⟩:=g
 exact ⟨a1,b2,by rw [b3,a3,List.length_append]; omega,by rw [a4,b4,List.append_assoc]⟩
theorem Eat.len {b:List UInt8} {s s':DS} {xs:List UInt8} (h:Eat b s s' xs) (g:Dok b s'):xs.length≤b.length:=by
 have:=h.2.2.1
 have:=g.1
 omega
end Go.S
end

section
namespace Go.S
open Go
def jT {α:Type} (enc:α→List UInt8) (l:List α):List UInt8:=kU l.length++l.flatMap enc
def vL {α:Type} (v:α→Prop) (l:List α):Prop:=l.length≤200000000 ∧ ∀ x∈l,v x
def pM (x:aZ):List UInt8:=pI x.path++(kU x.mode++pI x.data)
def vFi (x:aZ):Prop:=dV x.mode∧x.path.length≤200000000∧x.data.length≤200000000
def rZ (x:aQ):List UInt8:=pI x.path++(kU x.dJ++(kU x.mode++(pI x.data++(kU x.time++kU x.size))))
def vEn (x:aQ):Prop:=dV x.dJ∧dV x.mode∧dV x.time∧dV x.size∧x.path.length≤200000000∧x.data.length≤200000000
def vK (x:dI):List UInt8:=pI x.name++kU x.cB
def vRe (x:dI):Prop:=dV x.cB∧x.name.length≤200000000
def sB (x:cA):List UInt8:=pI x.verb++(kU x.cB++pI x.text)
def vSt (x:cA):Prop:=dV x.cB∧x.verb.length≤200000000∧x.text.length≤200000000
def CY (x:lV):List UInt8:=pI x.branch++kU x.cB
def vHe (x:lV):Prop:=dV x.cB∧x.branch.length≤200000000
def vM (x:eY):List UInt8:=kU x.base++(jT pM x.index++(jT pM x.work++pI x.text))
def vSh (x:eY):Prop:=dV x.base∧vL vFi x.index∧vL vFi x.work∧x.text.length≤200000000
def xD (x:mB):List UInt8:=pI x.kind++(kU x.other++(pI x.text++(jT sB x.mV++(jT sB x.todo++(kU x.made++(pI x.branch++(CY ⟨x.aG,x.aH⟩++(jT rZ x.index++jT pM x.work))))))))
def vSq (x:mB):Prop:=x.kind.length≤200000000∧dV x.other∧x.text.length≤200000000∧vL vSt x.mV∧vL vSt x.todo∧dV x.made∧x.branch.length≤200000000∧vHe ⟨x.aG,x.aH⟩∧vL vEn x.index∧vL vFi x.work
def MR (n:dN):mB:=⟨n.aW,n.aS,n.aV,n.aN,n.aT,n.aY,n.aM,n.aC,n.aE,n.aO,n.aU⟩
def sA (n:dN):List UInt8:=jT pM n.work++(jT rZ n.index++(jT vK n.refs++(CY ⟨n.aG,n.aH⟩++(xD (MR n)++jT vM n.bJ))))
def vNo (n:dN):Prop:=vL vFi n.work∧vL vEn n.index∧vL vRe n.refs∧vHe ⟨n.aG,n.aH⟩∧vSq (MR n)∧vL vSh n.bJ
def aQS (c:gF):List UInt8:=jT pM c.tree++(jT kU c.parents++(kU c.time++pI c.text))
def vCo (c:gF):Prop:=vL vFi c.tree∧vL dV c.parents∧dV c.time∧c.text.length≤200000000
def On (b:List UInt8) (s s':DS):Prop:=Dok b s'∧s.at_≤s'.at_∧(s'.bad=none→s.bad=none)
theorem On.trans {b:List UInt8} {s s1 s2:DS} (h:On b s s1) (g:On b s1 s2):On b s s2:=⟨g.1,Nat.le_trans h.2.1 g.2.1,fun e=>h.2.2 (g.2.2 e)⟩
theorem On.refl {b:List UInt8} {s:DS} (h:Dok b s):On b s s:=⟨h,Nat.le_refl _,id⟩
theorem aCE {α R:Type} {Q:R→Prop} (l:List α) (enc:α→List UInt8) (c:List UInt8) (B:Int×List UInt8→Option ((Int×List UInt8)⊕R)) (hT:c.length+(l.flatMap enc).length≤100000000)
 (hB : ∀ (i:Int) z s,0≤i→i < l.length→l[i.toNat]? = some z→z∈l→s.length+(enc z).length≤100000000→Ok (B (i,s)) (Nx (i+1,s++enc z)))
 (hE:Ok (B ((l.length:Int),c++l.flatMap enc)) (Up Q)):Ok (iter B (0,c)) Q:=by
 refine aDj l (fun c z=>c++enc z) c B (fun i z i0 hi hz s hs => ?_) (fun s hs=>by rw [OC] at hs; rw [hs]; exact hE)
 refine hB i z s i0 hi hz (List.mem_of_getElem? hz) ?_
 rw [OC] at hs
 have e1:l=l.take i.toNat++(z::l.drop (i.toNat+1)):=by
   obtain ⟨h1,h2⟩:=List.getElem?_eq_some_iff.1 hz
   have:=List.take_append_drop i.toNat l
   rw [List.drop_eq_getElem_cons h1,h2] at this
   exact this.symm
 rw [e1] at hT
 simp only [List.flatMap_append,List.flatMap_cons,List.length_append] at hT
 rw [hs,List.length_append]; omega
end Go.S
end

section
namespace Go.S
open Go
theorem GX (l:List aZ):Sh.kN l=some l:=by
 apply Ok.eq
 unfold Sh.kN
 rw [cQ]
 refine ⟨⟨by omega,by omega⟩,?_⟩
 rw [cV,bD,Int.toNat_natCast,List.take_length]
theorem ED (l:List aQ):Sh.jW l=some l:=by
 apply Ok.eq
 unfold Sh.jW
 rw [cQ]
 refine ⟨⟨by omega,by omega⟩,?_⟩
 rw [cV,bD,Int.toNat_natCast,List.take_length]
theorem IE (l:List cA):Sh.kY l=some l:=by
 apply Ok.eq
 unfold Sh.kY
 rw [cQ]
 refine ⟨⟨by omega,by omega⟩,?_⟩
 rw [cV,bD,Int.toNat_natCast,List.take_length]
theorem aDK (l:List Int):Sh.qM l=some l:=by
 apply Ok.eq
 unfold Sh.qM
 rw [cQ]
 refine ⟨⟨by omega,by omega⟩,?_⟩
 rw [cV,bD,Int.toNat_natCast,List.take_length]
end Go.S
end

section
namespace Go.S
open Go
theorem Eat.lt {b:List UInt8} {s s':DS} {xs:List UInt8} (h:Eat b s s' xs) (p:1≤xs.length):s.at_ < s'.at_:=by have:=h.2.2.1; omega
theorem aHP (l:List dI):Sh.kX l=some l:=by
 apply Ok.eq
 unfold Sh.kX
 rw [cQ]
 refine ⟨⟨by omega,by omega⟩,?_⟩
 rw [cV,bD,Int.toNat_natCast,List.take_length]
theorem aHQ (l:List eY):Sh.jX l=some l:=by
 apply Ok.eq
 unfold Sh.jX
 rw [cQ]
 refine ⟨⟨by omega,by omega⟩,?_⟩
 rw [cV,bD,Int.toNat_natCast,List.take_length]
end Go.S
end

section
namespace Go.S
open Go
theorem SL {e:dX} {l:List Int} (h : ∀ n∈l,dV n) (hl:e.eR.length+10*l.length≤4294967296) (hn:l.length≤100000000):Sh.fW e l=some ⟨e.eR++l.flatMap kU⟩:=by
 apply Ok.eq
 unfold Sh.fW
 have hb : ∀ k:Nat,k≤l.length→((l.take k).flatMap kU).length≤10*k:=fun k hk=>by
   induction k with
   | zero=>simp
   | succ k ih =>
     have hx:l[k]? = some l[k]:=List.getElem?_eq_getElem (by omega)
     have e:l.take (k+1)=l.take k++[l[k]]:=by rw [List.take_add_one,hx]; rfl
     have:=ih (by omega)
     have:=KA (h l[k] (List.getElem_mem _))
     rw [e,List.flatMap_append,List.length_append,List.flatMap_singleton]
     omega
 refine iN (I:=fun t=>0≤t.1∧t.1≤l.length∧t.2=e.eR++(l.take t.1.toNat).flatMap kU) (μ:=fun t=>(l.length - t.1).toNat) ?_ ⟨by simp,by simp,by simp⟩
 rintro ⟨i,c⟩ ⟨i0,i1,i2⟩
 dsimp only at i0 i1 i2 ⊢
 have hbi:=hb i.toNat (by omega)
 simp only [cF,gA,kC,bD,q9]
 refine ⟨fun hi => ?_,fun hi => ?_⟩
 ·
  obtain ⟨z,hz⟩:=wS (l:=l) i0 hi
  have hzI:=h z (List.mem_of_getElem? hz)
  refine ⟨i0,z,hz,?_⟩
  rw [aPk hzI]
  refine aOz (aDI hzI) (by rw [i2,List.length_append]; omega) (K:=fun aGR=>gd (dV (i+1)) (go ((i+1),aGR))) ?_ _ (fun t=>rfl)
  simp only [cQ,kJ]
  refine ⟨⟨by omega,by omega⟩,⟨by omega,by omega,?_⟩,by omega⟩
  rw [vW i0 hz,List.flatMap_append,i2]; simp [kU]
 rw [i2,show i.toNat=l.length by omega,List.take_length]
theorem aHT {e:dX} {s:List UInt8} (hl:e.eR.length+s.length+20≤4294967296):Sh.iE e [s]=some ⟨e.eR++pI s⟩:=by
 apply Ok.eq
 unfold Sh.iE
 have hI:dV (s.length:Int):=⟨by omega,by omega⟩
 have hle:=KA hI
 refine iN (I:=fun t=>(t.1=0∧t.2=e.eR)∨(t.1=1∧t.2=e.eR++pI s)) (μ:=fun t=>(1 - t.1).toNat) ?_ (.inl ⟨rfl,rfl⟩)
 rintro ⟨i,c⟩ h
 dsimp only at h ⊢
 rcases h with ⟨rfl,rfl⟩ | ⟨rfl,rfl⟩
 ·
  rw [if_pos (by simp)]
  simp only [kC,cQ,cV,kJ,q9]
  refine ⟨by omega,s,rfl,?_⟩
  have he:=SL (e:=⟨e.eR⟩) (l:=[(s.length:Int)]) (fun n hn=>by rw [List.mem_singleton.1 hn]; exact hI) (by simp; omega) (by simp)
  rw [List.flatMap_singleton] at he
  refine Ok.of he ⟨by simp; omega,⟨by decide,by decide⟩,.inr ⟨rfl,?_⟩,by decide⟩
  simp [pI]
 rw [if_neg (by simp),gA,bD]
theorem wI {c:List UInt8} {n:Int} (h:dV n) (hc:c.length≤300000000):Sh.fW ⟨c⟩ [n]=some ⟨c++kU n⟩:=by
 have:=SL (e:=⟨c⟩) (l:=[n]) (fun m hm=>by rw [List.mem_singleton.1 hm]; exact h) (by simp; omega) (by simp)
 rwa [List.flatMap_singleton] at this
theorem wT {c s:List UInt8} (hc:c.length≤300000000) (hs:s.length≤300000000):Sh.iE ⟨c⟩ [s]=some ⟨c++pI s⟩:=aHT (e:=⟨c⟩) (by dsimp only; omega)
theorem aMq {c:List UInt8} {l:List aZ} (hv:vL vFi l) (hT:c.length+(jT pM l).length≤100000000):Sh.nV ⟨c⟩ l=some ⟨c++jT pM l⟩:=by
 apply Ok.eq
 unfold Sh.nV
 unfold jT at hT ⊢
 rw [List.length_append] at hT
 have hn:=hv.1
 rw [cV,wI ⟨by omega,by omega⟩ (by omega),Option.bind_some]
 try dsimp only
 refine aCE l pM (c++kU l.length) _ (by rw [List.length_append]; omega) ?_ ?_
 ·
  intro i z s i0 hi hz hm hs
  obtain ⟨v1,v2,v3⟩:=hv.2 z hm
  unfold pM at hs ⊢
  simp only [List.length_append] at hs
  try dsimp only
  rw [if_pos hi,eU i0 hz,Option.bind_some]
  rw [cV,wT (by first | omega | (simp only [List.length_append]; omega)) (by omega),Option.bind_some]
  try dsimp only
  rw [cV,wI v1 (by first | omega | (simp only [List.length_append]; omega)),Option.bind_some]
  try dsimp only
  rw [cV,wT (by first | omega | (simp only [List.length_append]; omega)) (by omega),Option.bind_some]
  try dsimp only
  refine oR ⟨by omega,by omega⟩ ?_
  simp only [List.append_assoc]
 try dsimp only
 rw [if_neg (by omega)]
 exact jC (bD.2 (by simp only [List.append_assoc]))
theorem wI2 {c:List UInt8} {m n:Int} (h:dV m) (g:dV n) (hc:c.length≤300000000):Sh.fW ⟨c⟩ [m,n]=some ⟨c++(kU m++kU n)⟩:=by
 have:=SL (e:=⟨c⟩) (l:=[m,n]) (fun k hk=>by
   rcases List.mem_cons.1 hk with e | e
   . rw [e]; exact h
   . rw [List.mem_singleton.1 e]; exact g) (by simp; omega) (by simp)
 simpa using this
theorem aZQ {c:List UInt8} {l:List aQ} (hv:vL vEn l) (hT:c.length+(jT rZ l).length≤100000000):Sh.nX ⟨c⟩ l=some ⟨c++jT rZ l⟩:=by
 apply Ok.eq
 unfold Sh.nX
 unfold jT at hT ⊢
 rw [List.length_append] at hT
 have hn:=hv.1
 rw [cV,wI ⟨by omega,by omega⟩ (by omega),Option.bind_some]
 try dsimp only
 refine aCE l rZ (c++kU l.length) _ (by rw [List.length_append]; omega) ?_ ?_
 ·
  intro i z s i0 hi hz hm hs
  obtain ⟨v1,v2,v3,v4,v5,v6⟩:=hv.2 z hm
  unfold rZ at hs ⊢
  simp only [List.length_append] at hs
  try dsimp only
  rw [if_pos hi,eU i0 hz,Option.bind_some]
  rw [cV,wT (by first | omega | (simp only [List.length_append]; omega)) (by omega),Option.bind_some]
  try dsimp only
  rw [cV,wI2 v1 v2 (by first | omega | (simp only [List.length_append]; omega)),Option.bind_some]
  try dsimp only
  rw [cV,wT (by first | omega | (simp only [List.length_append]; omega)) (by omega),Option.bind_some]
  try dsimp only
  rw [cV,wI2 v3 v4 (by first | omega | (simp only [List.length_append]; omega)),Option.bind_some]
  try dsimp only
  refine oR ⟨by omega,by omega⟩ ?_
  simp only [List.append_assoc]
 try dsimp only
 rw [if_neg (by omega)]
 exact jC (bD.2 (by simp only [List.append_assoc]))
theorem aZS {c:List UInt8} {l:List cA} (hv:vL vSt l) (hT:c.length+(jT sB l).length≤100000000):Sh.pG ⟨c⟩ l=some ⟨c++jT sB l⟩:=by
 apply Ok.eq
 unfold Sh.pG
 unfold jT at hT ⊢
 rw [List.length_append] at hT
 have hn:=hv.1
 rw [cV,wI ⟨by omega,by omega⟩ (by omega),Option.bind_some]
 try dsimp only
 refine aCE l sB (c++kU l.length) _ (by rw [List.length_append]; omega) ?_ ?_
 ·
  intro i z s i0 hi hz hm hs
  obtain ⟨v1,v2,v3⟩:=hv.2 z hm
  unfold sB at hs ⊢
  simp only [List.length_append] at hs
  try dsimp only
  rw [if_pos hi,eU i0 hz,Option.bind_some]
  rw [cV,wT (by first | omega | (simp only [List.length_append]; omega)) (by omega),Option.bind_some]
  try dsimp only
  rw [cV,wI v1 (by first | omega | (simp only [List.length_append]; omega)),Option.bind_some]
  try dsimp only
  rw [cV,wT (by first | omega | (simp only [List.length_append]; omega)) (by omega),Option.bind_some]
  try dsimp only
  refine oR ⟨by omega,by omega⟩ ?_
  simp only [List.append_assoc]
 try dsimp only
 rw [if_neg (by omega)]
 exact jC (bD.2 (by simp only [List.append_assoc]))
theorem aZR {c:List UInt8} {x:lV} (hv:vHe x) (hT:c.length+(CY x).length≤100000000):Sh.qB ⟨c⟩ x=some ⟨c++CY x⟩:=by
 apply Ok.eq
 unfold Sh.qB
 unfold CY at hT ⊢
 simp only [List.length_append] at hT
 obtain ⟨v1,v2⟩:=hv
 rw [cV,wT (by first | omega | (simp only [List.length_append]; omega)) (by omega),Option.bind_some]
 try dsimp only
 rw [cV,wI v1 (by first | omega | (simp only [List.length_append]; omega)),Option.bind_some]
 try dsimp only
 rw [bD]
 simp only [List.append_assoc]
theorem a1a {c:List UInt8} {x:mB} (hv:vSq x) (hT:c.length+(xD x).length≤100000000):Sh.tT ⟨c⟩ x=some ⟨c++xD x⟩:=by
 apply Ok.eq
 unfold Sh.tT
 unfold xD at hT ⊢
 simp only [List.length_append] at hT
 obtain ⟨v1,v2,v3,v4,v5,v6,v7,v8,v9,v10⟩:=hv
 rw [cV,wT (by first | omega | (simp only [List.length_append]; omega)) (by omega),Option.bind_some]
 try dsimp only
 rw [cV,wI v2 (by first | omega | (simp only [List.length_append]; omega)),Option.bind_some]
 try dsimp only
 rw [cV,wT (by first | omega | (simp only [List.length_append]; omega)) (by omega),Option.bind_some]
 try dsimp only
 rw [aZS v4 (by first | omega | (simp only [List.length_append]; omega)),Option.bind_some]
 try dsimp only
 rw [aZS v5 (by first | omega | (simp only [List.length_append]; omega)),Option.bind_some]
 try dsimp only
 rw [cV,wI v6 (by first | omega | (simp only [List.length_append]; omega)),Option.bind_some]
 try dsimp only
 rw [cV,wT (by first | omega | (simp only [List.length_append]; omega)) (by omega),Option.bind_some]
 try dsimp only
 rw [aZR v8 (by first | omega | (simp only [List.length_append]; omega)),Option.bind_some]
 try dsimp only
 rw [aZQ v9 (by first | omega | (simp only [List.length_append]; omega)),Option.bind_some]
 try dsimp only
 rw [aMq v10 (by first | omega | (simp only [List.length_append]; omega)),Option.bind_some]
 try dsimp only
 rw [bD]
 simp only [List.append_assoc]
theorem a19 {c:List UInt8} {x:dN} (hv:vNo x) (hT:c.length+(sA x).length≤100000000):Sh.q5 ⟨c⟩ x=some ⟨c++sA x⟩:=by
 apply Ok.eq
 unfold Sh.q5
 unfold sA at hT ⊢
 simp only [List.length_append] at hT
 obtain ⟨v1,v2,v3,v4,v5,v6⟩:=hv
 have hr:=v3.1
 have hs6:=v6.1
 rw [aMq v1 (by omega),Option.bind_some]
 rw [aZQ v2 (by simp only [List.length_append]; omega),Option.bind_some]
 rw [show jT vK x.refs=kU x.refs.length++x.refs.flatMap vK from rfl,show jT vM x.bJ=kU x.bJ.length++x.bJ.flatMap vM from rfl] at *
 simp only [List.length_append] at hT
 rw [cV,wI ⟨by omega,by omega⟩ (by simp only [List.length_append]; omega),Option.bind_some]
 try dsimp only
 refine aCE x.refs vK _ _ (by simp only [List.length_append]; omega) ?_ ?_
 ·
  intro i z s i0 hi hz hm hs
  obtain ⟨z1,z2⟩:=v3.2 z hm
  unfold vK at hs ⊢
  simp only [List.length_append] at hs
  try dsimp only
  rw [if_pos hi,eU i0 hz,Option.bind_some]
  rw [cV,wT (by omega) (by omega),Option.bind_some]
  try dsimp only
  rw [cV,wI z1 (by simp only [List.length_append]; omega),Option.bind_some]
  try dsimp only
  refine oR ⟨by omega,by omega⟩ ?_
  simp only [List.append_assoc]
 try dsimp only
 rw [if_neg (by omega)]
 refine jC ?_
 rw [aZR (x:=⟨x.aG,x.aH⟩) v4 (by simp only [List.length_append]; omega),Option.bind_some]
 rw [a1a (x:=⟨x.aW,x.aS,x.aV,x.aN,x.aT,x.aY,x.aM,x.aC,x.aE,x.aO,x.aU⟩) v5 (by
   have e:xD (MR x)=xD ⟨x.aW,x.aS,x.aV,x.aN,x.aT,x.aY,x.aM,x.aC,x.aE,x.aO,x.aU⟩:=rfl
   rw [← e]
   simp only [List.length_append]; omega),Option.bind_some]
 rw [cV,wI ⟨by omega,by omega⟩ (by
   have e:xD (MR x)=xD ⟨x.aW,x.aS,x.aV,x.aN,x.aT,x.aY,x.aM,x.aC,x.aE,x.aO,x.aU⟩:=rfl
   rw [← e]
   simp only [List.length_append]; omega),Option.bind_some]
 try dsimp only
 refine aCE x.bJ vM _ _ (by
   have e:xD (MR x)=xD ⟨x.aW,x.aS,x.aV,x.aN,x.aT,x.aY,x.aM,x.aC,x.aE,x.aO,x.aU⟩:=rfl
   rw [← e]
   simp only [List.length_append]; omega) ?_ ?_
 ·
  intro i z s i0 hi hz hm hs
  obtain ⟨z1,z2,z3,z4⟩:=v6.2 z hm
  unfold vM at hs ⊢
  simp only [List.length_append] at hs
  try dsimp only
  rw [if_pos hi,eU i0 hz,Option.bind_some]
  rw [cV,wI z1 (by omega),Option.bind_some]
  try dsimp only
  rw [aMq z2 (by simp only [List.length_append]; omega),Option.bind_some]
  rw [aMq z3 (by simp only [List.length_append]; omega),Option.bind_some]
  rw [cV,wT (by simp only [List.length_append]; omega) (by omega),Option.bind_some]
  try dsimp only
  refine oR ⟨by omega,by omega⟩ ?_
  simp only [List.append_assoc]
 try dsimp only
 rw [if_neg (by omega)]
 refine jC (bD.2 ?_)
 simp only [List.append_assoc]
 rfl
end Go.S
end

section
namespace Go.S
open Go
theorem TM {b:List UInt8} (h:b.length≤4294967296):Sh.mN b=some b:=by
 apply Ok.eq
 unfold Sh.mN
 rw [cV,cQ]
 refine ⟨by simpa using h,?_⟩
 rw [cV,bD]; rfl
theorem aHO (b:List UInt8):Sh.o4 b=some b:=by
 apply Ok.eq
 unfold Sh.o4
 rw [cQ]
 refine ⟨⟨by omega,by omega⟩,?_⟩
 rw [cV,bD,Int.toNat_natCast,List.take_length]
theorem a0E {b:List UInt8} (hb:b.length≤100000000):Sh.GD b=some (cP b ⟨0,none⟩):=by
 unfold Sh.GD
 rw [TM (by omega),Option.bind_some]; rfl
theorem aIO {n:dN} (hv:vNo n) (hT:(sA n).length≤100000000):Sh.vJ n=some (sA n):=by
 unfold Sh.vJ
 rw [a19 (c:=[]) hv (by simpa using hT),Option.bind_some]
 unfold Sh.uS
 dsimp only
 rw [List.nil_append,TM (by omega),Option.bind_some,aHO]; rfl
end Go.S
end

section
namespace Go.S
open Go
def CV (b:List UInt8) (p:Nat) (xs:List UInt8):Prop := ∃ pre suf,b=pre++xs++suf∧pre.length=p
theorem CV.fst {b:List UInt8} {p:Nat} {xs ys:List UInt8} (h:CV b p (xs++ys)):CV b p xs:=by
 obtain ⟨pre,suf,e,l⟩:=h
 exact ⟨pre,ys++suf,by rw [e]; simp,l⟩
theorem CV.snd {b:List UInt8} {p:Nat} {xs ys:List UInt8} (h:CV b p (xs++ys)):CV b (p+xs.length) ys:=by
 obtain ⟨pre,suf,e,l⟩:=h
 exact ⟨pre++xs,suf,by rw [e]; simp,by simp [l]⟩
theorem RJ {b:List UInt8} {p:Nat} {n:Int} (h:dV n) (hl:b.length≤100000000) (a:CV b p (kU n)):Sh.fN ⟨b,(p:Int),.nil⟩=some (n,⟨b,((p+(kU n).length:Nat):Int),.nil⟩):=by
 obtain ⟨pre,suf,e,rfl⟩:=a
 have hd:Dok b ⟨pre.length,none⟩:=⟨by rw [e]; simp,trivial⟩
 have h1:=aAY hd (by omega)
 rw [e,aEM h pre suf,← e] at h1
 exact h1
theorem ZJ {b:List UInt8} {p:Nat} {s:List UInt8} (hs:s.length≤200000000) (hl:b.length≤100000000) (a:CV b p (pI s)):Sh.iD ⟨b,(p:Int),.nil⟩=some (s,⟨b,((p+(pI s).length:Nat):Int),.nil⟩):=by
 obtain ⟨pre,suf,e,rfl⟩:=a
 have hd:Dok b ⟨pre.length,none⟩:=⟨by rw [e]; simp,trivial⟩
 have h1:=aHS hd (by omega)
 rw [e,aKT (by omega) pre suf,← e] at h1
 exact h1
theorem aJU {α:Type} {l:List α} {k:Nat} {z:α} (hz:l[k]? = some z):l=l.take k++z::l.drop (k+1):=by
 obtain ⟨h,e⟩:=List.getElem?_eq_some_iff.1 hz
 rw [← e,List.getElem_cons_drop,List.take_append_drop]
theorem WH {α:Type} {b:List UInt8} {p:Nat} {enc:α→List UInt8} {l:List α} (h:CV b p (l.flatMap enc)) {k:Nat} {z:α} (hz:l[k]? = some z):CV b (p+((l.take k).flatMap enc).length) (enc z):=by
 have h2:l.flatMap enc=(l.take k).flatMap enc++(enc z++(l.drop (k+1)).flatMap enc):=by
   conv=>lhs; rw [aJU hz]
   rw [List.flatMap_append,List.flatMap_cons]
 rw [h2] at h
 exact h.snd.fst
theorem aHZ {α:Type} {l:List α} {k:Nat} {z:α} (hz:l[k]? = some z):l.take (k+1)=l.take k++[z]:=by rw [List.take_add_one,hz]; rfl
theorem aW7 {α:Type} {enc:α→List UInt8} {l:List α} {k:Nat} {z:α} (hz:l[k]? = some z):((l.take (k+1)).flatMap enc).length=((l.take k).flatMap enc).length+(enc z).length:=by
 rw [aHZ hz,List.flatMap_append,List.flatMap_singleton,List.length_append]
theorem N8 {α T R:Type} (l:List α) (enc:α→List UInt8) (p:Nat) (pk:Int→Nat→List α→T) (ix:T→Int) (hix : ∀ i q m,ix (pk i q m)=i) (B:T→Option (T⊕R)) {Q:R→Prop}
 (hB : ∀ (k:Nat) z,l[k]? = some z→Ok (B (pk k (p+((l.take k).flatMap enc).length) (l.take k))) (Nx (pk ((k:Int)+1) (p+((l.take k).flatMap enc).length+(enc z).length) (l.take k++[z]))))
 (hE:Ok (B (pk l.length (p+(l.flatMap enc).length) l)) (Up Q)):Ok (iter B (pk 0 p [])) Q:=by
 refine iN (I:=fun t => ∃ k:Nat,k≤l.length∧t=pk k (p+((l.take k).flatMap enc).length) (l.take k)) (μ:=fun t=>(l.length - ix t).toNat) ?_ ⟨0,Nat.zero_le _,by simp⟩
 rintro t ⟨k,hk,rfl⟩
 by_cases hi:k < l.length
 ·
  obtain ⟨z,hz⟩ : ∃ z,l[k]? = some z:=⟨_,List.getElem?_eq_getElem hi⟩
  refine (hB k z hz).mono ?_
  rintro y hy
  cases hy
  refine ⟨⟨k+1,by omega,?_⟩,?_⟩
  ·
   rw [aW7 hz,aHZ hz,Nat.add_assoc]; rfl
  rw [hix,hix]; omega
 have e:k=l.length:=by omega
 subst e
 rw [List.take_length]
 refine hE.mono ?_
 rintro y ⟨r,rfl,hr⟩
 exact hr
theorem aZc {b:List UInt8} {p:Nat} {z:aZ} (hz:vFi z) (hb:b.length≤100000000) (a:CV b p (pM z)) {e:Bool} {l:List aZ} (hl:l.length≤200000000):Sh.rH l ⟨e⟩ ⟨b,(p:Int),.nil⟩=some (l++[z],⟨b,((p+(pM z).length:Nat):Int),.nil⟩):=by
 apply Ok.eq
 obtain ⟨r1,r2,r3⟩:=hz
 have hp:p+(pM z).length=p+(pI z.path).length+(kU z.mode).length+(pI z.data).length:=by simp only [pM,List.length_append,Nat.add_assoc]
 rw [hp]
 unfold pM at a
 unfold Sh.rH
 rw [ZJ (by omega) hb a.fst,Option.bind_some]
 rw [RJ r1 hb a.snd.fst,Option.bind_some]
 rw [ZJ (by omega) hb a.snd.snd,Option.bind_some]
 exact cV.2 (cQ.2 ⟨by simp; omega,cV.2 (bD.2 rfl)⟩)
theorem aZ6 {b:List UInt8} {p:Nat} {z:aQ} (hz:vEn z) (hb:b.length≤100000000) (a:CV b p (rZ z)) {e:Bool} {l:List aQ} (hl:l.length≤200000000):Sh.oO l ⟨e⟩ ⟨b,(p:Int),.nil⟩=some (l++[z],⟨b,((p+(rZ z).length:Nat):Int),.nil⟩):=by
 apply Ok.eq
 obtain ⟨r1,r2,r3,r4,r5,r6⟩:=hz
 have hp:p+(rZ z).length=p+(pI z.path).length+(kU z.dJ).length+(kU z.mode).length+(pI z.data).length+(kU z.time).length+(kU z.size).length:=by simp only [rZ,List.length_append,Nat.add_assoc]
 rw [hp]
 unfold rZ at a
 unfold Sh.oO
 rw [ZJ (by omega) hb a.fst,Option.bind_some]
 rw [RJ r1 hb a.snd.fst,Option.bind_some]
 rw [RJ r2 hb a.snd.snd.fst,Option.bind_some]
 rw [ZJ (by omega) hb a.snd.snd.snd.fst,Option.bind_some]
 rw [RJ r3 hb a.snd.snd.snd.snd.fst,Option.bind_some]
 rw [RJ r4 hb a.snd.snd.snd.snd.snd,Option.bind_some]
 exact cV.2 (cQ.2 ⟨by simp; omega,cV.2 (bD.2 rfl)⟩)
theorem a0m {b:List UInt8} {p:Nat} {z:cA} (hz:vSt z) (hb:b.length≤100000000) (a:CV b p (sB z)) {e:Bool} {l:List cA} (hl:l.length≤200000000):Sh.p6 l ⟨e⟩ ⟨b,(p:Int),.nil⟩=some (l++[z],⟨b,((p+(sB z).length:Nat):Int),.nil⟩):=by
 apply Ok.eq
 obtain ⟨r1,r2,r3⟩:=hz
 have hp:p+(sB z).length=p+(pI z.verb).length+(kU z.cB).length+(pI z.text).length:=by simp only [sB,List.length_append,Nat.add_assoc]
 rw [hp]
 unfold sB at a
 unfold Sh.p6
 rw [ZJ (by omega) hb a.fst,Option.bind_some]
 rw [RJ r1 hb a.snd.fst,Option.bind_some]
 rw [ZJ (by omega) hb a.snd.snd,Option.bind_some]
 exact cV.2 (cQ.2 ⟨by simp; omega,cV.2 (bD.2 rfl)⟩)
theorem aW6 {b:List UInt8} {p:Nat} {l:List aZ} (hv:vL vFi l) (hb:b.length≤100000000) (a:CV b p (jT pM l)) {e:Bool}:Sh.sR ⟨e⟩ ⟨b,(p:Int),.nil⟩ []=some (⟨b,((p+(jT pM l).length:Nat):Int),.nil⟩,⟨e⟩,l):=by
 apply Ok.eq
 have hv1:=hv.1
 have n1:dV (l.length:Int):=⟨by omega,by omega⟩
 have a1:=a.fst
 have a2:=a.snd
 have hp:p+(jT pM l).length=p+(kU (l.length:Int)).length+(l.flatMap pM).length:=by simp only [jT,List.length_append,Nat.add_assoc]
 rw [hp]
 unfold Sh.sR
 rw [RJ n1 hb a1,Option.bind_some]
 refine gK (fun c=>c=e) ?_ ?_
 ·
  rintro c rfl
  refine N8 l pM (p+(kU (l.length:Int)).length) (fun (i:Int) (q:Nat) (m:List aZ)=>(i,b,(q:Int),jR.nil,m)) (fun t=>t.1) (fun _ _ _=>rfl) _ ?_ ?_
  ·
   intro k z hz
   have hk:=(List.getElem?_eq_some_iff.1 hz).1
   dsimp only
   rw [if_pos (by omega)]
   unfold Sh.jG
   rw [Option.bind_some,if_pos (show jR.nil.isNil=true from rfl),aZc (hv.2 z (List.mem_of_getElem? hz)) hb (WH a2 hz) (by rw [List.length_take]; omega),Option.bind_some]
   exact cQ.2 ⟨⟨by omega,by omega⟩,XZ rfl⟩
  dsimp only
  rw [if_neg (by omega)]
  exact jC (bD.2 rfl)
 intro K hK
 simp only [cF]
 refine ⟨fun q=>hK _ q.symm,fun q=>hK _ ?_⟩
 rw [Bool.eq_false_iff.2 q]
 exact decide_eq_false (by omega)
theorem ZV {b:List UInt8} {p:Nat} {l:List aZ} (hv:vL vFi l) (hb:b.length≤100000000) (a:CV b p (jT pM l)) {e:Bool}:Sh.nU ⟨e⟩ ⟨b,(p:Int),.nil⟩=some (l,⟨b,((p+(jT pM l).length:Nat):Int),.nil⟩,⟨e⟩):=by
 unfold Sh.nU
 rw [aW6 hv hb a,Option.bind_some]
 dsimp only
 rw [GX,Option.bind_some]
theorem aVV {b:List UInt8} {p:Nat} {l:List aQ} (hv:vL vEn l) (hb:b.length≤100000000) (a:CV b p (jT rZ l)) {e:Bool}:Sh.pY ⟨e⟩ ⟨b,(p:Int),.nil⟩ []=some (⟨b,((p+(jT rZ l).length:Nat):Int),.nil⟩,⟨e⟩,l):=by
 apply Ok.eq
 have hv1:=hv.1
 have n1:dV (l.length:Int):=⟨by omega,by omega⟩
 have a1:=a.fst
 have a2:=a.snd
 have hp:p+(jT rZ l).length=p+(kU (l.length:Int)).length+(l.flatMap rZ).length:=by simp only [jT,List.length_append,Nat.add_assoc]
 rw [hp]
 unfold Sh.pY
 rw [RJ n1 hb a1,Option.bind_some]
 refine gK (fun c=>c=e) ?_ ?_
 ·
  rintro c rfl
  refine N8 l rZ (p+(kU (l.length:Int)).length) (fun (i:Int) (q:Nat) (m:List aQ)=>(i,b,(q:Int),jR.nil,m)) (fun t=>t.1) (fun _ _ _=>rfl) _ ?_ ?_
  ·
   intro k z hz
   have hk:=(List.getElem?_eq_some_iff.1 hz).1
   dsimp only
   rw [if_pos (by omega)]
   unfold Sh.jG
   rw [Option.bind_some,if_pos (show jR.nil.isNil=true from rfl),aZ6 (hv.2 z (List.mem_of_getElem? hz)) hb (WH a2 hz) (by rw [List.length_take]; omega),Option.bind_some]
   exact cQ.2 ⟨⟨by omega,by omega⟩,XZ rfl⟩
  dsimp only
  rw [if_neg (by omega)]
  exact jC (bD.2 rfl)
 intro K hK
 simp only [cF]
 refine ⟨fun q=>hK _ q.symm,fun q=>hK _ ?_⟩
 rw [Bool.eq_false_iff.2 q]
 exact decide_eq_false (by omega)
theorem aLY {b:List UInt8} {p:Nat} {l:List aQ} (hv:vL vEn l) (hb:b.length≤100000000) (a:CV b p (jT rZ l)) {e:Bool}:Sh.nW ⟨e⟩ ⟨b,(p:Int),.nil⟩=some (l,⟨b,((p+(jT rZ l).length:Nat):Int),.nil⟩,⟨e⟩):=by
 unfold Sh.nW
 rw [aVV hv hb a,Option.bind_some]
 dsimp only
 rw [ED,Option.bind_some]
theorem aYP {b:List UInt8} {p:Nat} {l:List cA} (hv:vL vSt l) (hb:b.length≤100000000) (a:CV b p (jT sB l)) {e:Bool}:Sh.p4 ⟨e⟩ ⟨b,(p:Int),.nil⟩ []=some (⟨b,((p+(jT sB l).length:Nat):Int),.nil⟩,⟨e⟩,l):=by
 apply Ok.eq
 have hv1:=hv.1
 have n1:dV (l.length:Int):=⟨by omega,by omega⟩
 have a1:=a.fst
 have a2:=a.snd
 have hp:p+(jT sB l).length=p+(kU (l.length:Int)).length+(l.flatMap sB).length:=by simp only [jT,List.length_append,Nat.add_assoc]
 rw [hp]
 unfold Sh.p4
 rw [RJ n1 hb a1,Option.bind_some]
 refine gK (fun c=>c=e) ?_ ?_
 ·
  rintro c rfl
  refine N8 l sB (p+(kU (l.length:Int)).length) (fun (i:Int) (q:Nat) (m:List cA)=>(i,b,(q:Int),jR.nil,m)) (fun t=>t.1) (fun _ _ _=>rfl) _ ?_ ?_
  ·
   intro k z hz
   have hk:=(List.getElem?_eq_some_iff.1 hz).1
   dsimp only
   rw [if_pos (by omega)]
   unfold Sh.jG
   rw [Option.bind_some,if_pos (show jR.nil.isNil=true from rfl),a0m (hv.2 z (List.mem_of_getElem? hz)) hb (WH a2 hz) (by rw [List.length_take]; omega),Option.bind_some]
   exact cQ.2 ⟨⟨by omega,by omega⟩,XZ rfl⟩
  dsimp only
  rw [if_neg (by omega)]
  exact jC (bD.2 rfl)
 intro K hK
 simp only [cF]
 refine ⟨fun q=>hK _ q.symm,fun q=>hK _ ?_⟩
 rw [Bool.eq_false_iff.2 q]
 exact decide_eq_false (by omega)
theorem aMo {b:List UInt8} {p:Nat} {l:List cA} (hv:vL vSt l) (hb:b.length≤100000000) (a:CV b p (jT sB l)) {e:Bool}:Sh.pF ⟨e⟩ ⟨b,(p:Int),.nil⟩=some (l,⟨b,((p+(jT sB l).length:Nat):Int),.nil⟩,⟨e⟩):=by
 unfold Sh.pF
 rw [aYP hv hb a,Option.bind_some]
 dsimp only
 rw [IE,Option.bind_some]
end Go.S
end

section
namespace Go.S
open Go
theorem aSN {b:List UInt8} {p:Nat} {z:lV} (hz:vHe z) (hb:b.length≤100000000) (a:CV b p (CY z)) {e:Bool}:Sh.qA ⟨e⟩ ⟨b,(p:Int),.nil⟩=some (z,⟨b,((p+(CY z).length:Nat):Int),.nil⟩):=by
 obtain ⟨r1,r2⟩:=hz
 have hp:p+(CY z).length=p+(pI z.branch).length+(kU z.cB).length:=by simp only [CY,List.length_append,Nat.add_assoc]
 rw [hp]
 unfold CY at a
 unfold Sh.qA
 rw [ZJ (by omega) hb a.fst,Option.bind_some]
 rw [RJ r1 hb a.snd,Option.bind_some]
theorem a0Z {b:List UInt8} {p:Nat} {z:dI} (hz:vRe z) (hb:b.length≤100000000) (a:CV b p (vK z)) {e:Bool} {r:dN} (hl:r.refs.length≤200000000):Sh.rF r ⟨e⟩ ⟨b,(p:Int),.nil⟩=some ({ r with refs:=r.refs++[z]},⟨b,((p+(vK z).length:Nat):Int),.nil⟩):=by
 apply Ok.eq
 obtain ⟨r1,r2⟩:=hz
 have hp:p+(vK z).length=p+(pI z.name).length+(kU z.cB).length:=by simp only [vK,List.length_append,Nat.add_assoc]
 rw [hp]
 unfold vK at a
 unfold Sh.rF
 rw [ZJ (by omega) hb a.fst,Option.bind_some]
 rw [RJ r1 hb a.snd,Option.bind_some]
 exact cV.2 (cQ.2 ⟨by simp; omega,cV.2 (bD.2 rfl)⟩)
theorem aXt {b:List UInt8} {p:Nat} {l:List dI} (hv:vL vRe l) (hb:b.length≤100000000) (a:CV b p (jT vK l)) {e:Bool} {r:dN} (hr:r.refs=[]):Sh.pZ ⟨e⟩ ⟨b,(p:Int),.nil⟩ r=some (⟨b,((p+(jT vK l).length:Nat):Int),.nil⟩,⟨e⟩,{ r with refs:=l }):=by
 apply Ok.eq
 have hv1:=hv.1
 have n1:dV (l.length:Int):=⟨by omega,by omega⟩
 have a1:=a.fst
 have a2:=a.snd
 have hp:p+(jT vK l).length=p+(kU (l.length:Int)).length+(l.flatMap vK).length:=by simp only [jT,List.length_append,Nat.add_assoc]
 rw [hp]
 unfold Sh.pZ
 rw [RJ n1 hb a1,Option.bind_some,hr]
 refine gK (fun c=>c=e) ?_ ?_
 ·
  rintro c rfl
  refine N8 l vK (p+(kU (l.length:Int)).length) (fun (i:Int) (q:Nat) (m:List dI)=>(i,b,(q:Int),jR.nil,r.work,r.index,m,r.aG,r.aH,r.aW,r.aS,r.aV,r.aN,r.aT,r.aY,r.aM,r.aC,r.aE,r.aO,r.aU,r.bJ)) (fun t=>t.1) (fun _ _ _=>rfl) _ ?_ ?_
  ·
   intro k z hz
   have hk:=(List.getElem?_eq_some_iff.1 hz).1
   dsimp only
   rw [if_pos (by omega)]
   unfold Sh.jG
   rw [Option.bind_some,if_pos (show jR.nil.isNil=true from rfl),a0Z (hv.2 z (List.mem_of_getElem? hz)) hb (WH a2 hz) (by dsimp only; rw [List.length_take]; omega),Option.bind_some]
   exact cQ.2 ⟨⟨by omega,by omega⟩,XZ rfl⟩
  dsimp only
  rw [if_neg (by omega)]
  exact jC (bD.2 rfl)
 intro K hK
 simp only [cF]
 refine ⟨fun q=>hK _ q.symm,fun q=>hK _ ?_⟩
 rw [Bool.eq_false_iff.2 q]
 exact decide_eq_false (by omega)
theorem a0j {b:List UInt8} {p:Nat} {z:eY} (hz:vSh z) (hb:b.length≤100000000) (a:CV b p (vM z)) {e:Bool} {r:dN} (hl:r.bJ.length≤200000000):Sh.rG r ⟨e⟩ ⟨b,(p:Int),.nil⟩=some ({ r with bJ:=r.bJ++[z]},⟨b,((p+(vM z).length:Nat):Int),.nil⟩,⟨e⟩):=by
 apply Ok.eq
 obtain ⟨r1,r2,r3,r4⟩:=hz
 have hp:p+(vM z).length=p+(kU z.base).length+(jT pM z.index).length+(jT pM z.work).length+(pI z.text).length:=by simp only [vM,List.length_append,Nat.add_assoc]
 rw [hp]
 unfold vM at a
 unfold Sh.rG
 rw [RJ r1 hb a.fst,Option.bind_some]
 rw [ZV r2 hb a.snd.fst,Option.bind_some]
 rw [ZV r3 hb a.snd.snd.fst,Option.bind_some]
 rw [ZJ (by omega) hb a.snd.snd.snd,Option.bind_some]
 exact cV.2 (cQ.2 ⟨by simp; omega,cV.2 (bD.2 rfl)⟩)
theorem aYL {b:List UInt8} {p:Nat} {l:List eY} (hv:vL vSh l) (hb:b.length≤100000000) (a:CV b p (jT vM l)) {e:Bool} {r:dN} (hr:r.bJ=[]):Sh.p5 ⟨e⟩ ⟨b,(p:Int),.nil⟩ r=some (⟨b,((p+(jT vM l).length:Nat):Int),.nil⟩,⟨e⟩,{ r with bJ:=l }):=by
 apply Ok.eq
 have hv1:=hv.1
 have n1:dV (l.length:Int):=⟨by omega,by omega⟩
 have a1:=a.fst
 have a2:=a.snd
 have hp:p+(jT vM l).length=p+(kU (l.length:Int)).length+(l.flatMap vM).length:=by simp only [jT,List.length_append,Nat.add_assoc]
 rw [hp]
 unfold Sh.p5
 rw [RJ n1 hb a1,Option.bind_some,hr]
 refine gK (fun c=>c=e) ?_ ?_
 ·
  rintro c rfl
  refine N8 l vM (p+(kU (l.length:Int)).length) (fun (i:Int) (q:Nat) (m:List eY)=>(i,b,(q:Int),jR.nil,c,r.work,r.index,r.refs,r.aG,r.aH,r.aW,r.aS,r.aV,r.aN,r.aT,r.aY,r.aM,r.aC,r.aE,r.aO,r.aU,m)) (fun t=>t.1) (fun _ _ _=>rfl) _ ?_ ?_
  ·
   intro k z hz
   have hk:=(List.getElem?_eq_some_iff.1 hz).1
   dsimp only
   rw [if_pos (by omega)]
   unfold Sh.jG
   rw [Option.bind_some,if_pos (show jR.nil.isNil=true from rfl),a0j (hv.2 z (List.mem_of_getElem? hz)) hb (WH a2 hz) (by dsimp only; rw [List.length_take]; omega),Option.bind_some]
   exact cQ.2 ⟨⟨by omega,by omega⟩,XZ rfl⟩
  dsimp only
  rw [if_neg (by omega)]
  exact jC (bD.2 rfl)
 intro K hK
 simp only [cF]
 refine ⟨fun q=>hK _ q.symm,fun q=>hK _ ?_⟩
 rw [Bool.eq_false_iff.2 q]
 exact decide_eq_false (by omega)
theorem a0l {b:List UInt8} {p:Nat} {z:mB} (hz:vSq z) (hb:b.length≤100000000) (a:CV b p (xD z)) {e:Bool}:Sh.tN ⟨e⟩ ⟨b,(p:Int),.nil⟩=some (z,⟨b,((p+(xD z).length:Nat):Int),.nil⟩,⟨e⟩):=by
 obtain ⟨r1,r2,r3,r4,r5,r6,r7,r8,r9,ra⟩:=hz
 have hp:p+(xD z).length=p+(pI z.kind).length+(kU z.other).length+(pI z.text).length+(jT sB z.mV).length+(jT sB z.todo).length+(kU z.made).length+(pI z.branch).length+(CY ⟨z.aG,z.aH⟩).length+(jT rZ z.index).length+(jT pM z.work).length:=by simp only [xD,List.length_append,Nat.add_assoc]
 rw [hp]
 unfold xD at a
 unfold Sh.tN
 rw [ZJ (by omega) hb a.fst,Option.bind_some]
 try dsimp only
 rw [RJ r2 hb a.snd.fst,Option.bind_some]
 try dsimp only
 rw [ZJ (by omega) hb a.snd.snd.fst,Option.bind_some]
 try dsimp only
 rw [aMo r4 hb a.snd.snd.snd.fst,Option.bind_some]
 try dsimp only
 rw [aMo r5 hb a.snd.snd.snd.snd.fst,Option.bind_some]
 try dsimp only
 rw [RJ r6 hb a.snd.snd.snd.snd.snd.fst,Option.bind_some]
 try dsimp only
 rw [ZJ (by omega) hb a.snd.snd.snd.snd.snd.snd.fst,Option.bind_some]
 try dsimp only
 rw [aSN r8 hb a.snd.snd.snd.snd.snd.snd.snd.fst,Option.bind_some]
 try dsimp only
 rw [aLY r9 hb a.snd.snd.snd.snd.snd.snd.snd.snd.fst,Option.bind_some]
 try dsimp only
 rw [ZV ra hb a.snd.snd.snd.snd.snd.snd.snd.snd.snd,Option.bind_some]
 try dsimp only
 try rfl
theorem a0A {b:List UInt8} {p:Nat} {z:dN} (hz:vNo z) (hb:b.length≤100000000) (a:CV b p (sA z)) {e:Bool}:Sh.o6 ⟨e⟩ ⟨b,(p:Int),.nil⟩=some (z,⟨b,((p+(sA z).length:Nat):Int),.nil⟩,⟨e⟩):=by
 obtain ⟨r1,r2,r3,r4,r5,r6⟩:=hz
 have hp:p+(sA z).length=p+(jT pM z.work).length+(jT rZ z.index).length+(jT vK z.refs).length+(CY ⟨z.aG,z.aH⟩).length+(xD (MR z)).length+(jT vM z.bJ).length:=by simp only [sA,List.length_append,Nat.add_assoc]
 rw [hp]
 unfold sA at a
 unfold Sh.o6
 rw [ZV r1 hb a.fst,Option.bind_some]
 try dsimp only
 rw [aLY r2 hb a.snd.fst,Option.bind_some]
 try dsimp only
 rw [aXt r3 hb a.snd.snd.fst rfl,Option.bind_some]
 try dsimp only
 rw [aSN r4 hb a.snd.snd.snd.fst,Option.bind_some]
 try dsimp only
 rw [a0l r5 hb a.snd.snd.snd.snd.fst,Option.bind_some]
 try dsimp only
 rw [aYL r6 hb a.snd.snd.snd.snd.snd rfl,Option.bind_some]
 try dsimp only
 rw [aHP,Option.bind_some]
 try dsimp only
 rw [aHQ,Option.bind_some]
 try dsimp only
 try rfl
theorem aVU {b:List UInt8} (hb:b.length≤100000000):Sh.qZ ⟨false⟩ ⟨b,((b.length:Nat):Int),.nil⟩=some .nil:=by
 apply Ok.eq
 unfold Sh.qZ Sh.jG
 rw [Option.bind_some,if_pos (show jR.nil.isNil=true from rfl)]
 refine gK (fun x=>x=false) ?_ ?_
 ·
  rintro x rfl
  rw [if_neg (by simp)]
  exact bD.2 rfl
 intro K hK
 rw [if_neg (by simp)]
 have hd:Dok b ⟨b.length,none⟩:=⟨Nat.le_refl _,trivial⟩
 have hle:=aSt hd (by omega)
 have e:cP b ⟨b.length,none⟩=⟨b,((b.length:Nat):Int),.nil⟩:=rfl
 rw [e] at hle
 rw [hle,Option.bind_some]
 refine hK _ ?_
 simp [aKS]
theorem aU1 (b:List UInt8):CV b 0 b:=⟨[],[],by simp,rfl⟩
theorem aK1 {n:dN} (hv:vNo n) (hb:(sA n).length≤100000000):Sh.qF (sA n)=some (n,.nil):=by
 apply Ok.eq
 unfold Sh.qF
 refine cQ.2 ⟨by omega,cV.2 ?_⟩
 have hn:=a0A hv hb (aU1 (sA n)) (e:=false)
 rw [Nat.zero_add] at hn
 rw [a0E hb,Option.bind_some]
 show Ok ((Sh.o6 ⟨false⟩ ⟨sA n,((0:Nat):Int),.nil⟩).bind _) _
 rw [hn,Option.bind_some]
 dsimp only
 rw [aVU hb,Option.bind_some,if_pos (show jR.nil.isNil=true from rfl)]
 exact bD.2 rfl
end Go.S
end

section
namespace Go.S
open Go
theorem a1U {a b:List aZ} (ha:a.length≤200000000):Sp (Sh.kF a b) (a=b):=by
 unfold Sh.kF
 refine (YG (fun z:aZ=>(z.path,z.mode,z.data)) (fun z:aZ=>(z.path,z.mode,z.data)) a b _ (fun i x y i0 hi hx hy => ?_) ?_).iff (map_eq_iff ?_)
 ·
  rw [if_pos hi,eU i0 hx,Option.bind_some,eU i0 hy,Option.bind_some]
  refine cF.2 ⟨fun h=>cQ.2 ⟨⟨by omega,by omega⟩,kJ.2 (.inl ⟨?_,rfl⟩)⟩,fun h=>gA.2 (bD.2 (.inr ⟨fun q=>h ?_,rfl⟩))⟩
  ·
   simp only [Prod.mk.injEq]; exact h
  simp only [Prod.mk.injEq] at q; exact q
 ·
  rw [if_neg (by omega)]; exact jC (bD.2 rfl)
 intro x y q; simp only [Prod.mk.injEq] at q; cases x; cases y; simp_all
theorem a0W {a b:List aZ} (ha:a.length≤200000000):Sp (Sh.pJ a b) (a=b):=by unfold Sh.pJ; exact aUZ (a1U ha)
theorem aZJ {a b:List cA} (ha:a.length≤200000000):Sp (Sh.jF a b) (a=b):=by
 unfold Sh.jF
 refine (YG (fun z:cA=>(z.verb,z.cB,z.text)) (fun z:cA=>(z.verb,z.cB,z.text)) a b _ (fun i x y i0 hi hx hy => ?_) ?_).iff (map_eq_iff ?_)
 ·
  rw [if_pos hi,eU i0 hx,Option.bind_some,eU i0 hy,Option.bind_some]
  refine cF.2 ⟨fun h=>cQ.2 ⟨⟨by omega,by omega⟩,kJ.2 (.inl ⟨?_,rfl⟩)⟩,fun h=>gA.2 (bD.2 (.inr ⟨fun q=>h ?_,rfl⟩))⟩
  ·
   simp only [Prod.mk.injEq]; exact h
  simp only [Prod.mk.injEq] at q; exact q
 ·
  rw [if_neg (by omega)]; exact jC (bD.2 rfl)
 intro x y q; simp only [Prod.mk.injEq] at q; cases x; cases y; simp_all
def k4 (z:aQ):List UInt8×Int×Int×List UInt8:=(z.path,z.dJ,z.mode,z.data)
def e4 (z:fD):List UInt8×Int×Int×List UInt8:=(z.path,z.dJ,z.mode,z.data)
theorem a0Q (x y:aQ):Sp (Sh.zT x y) (k4 x=k4 y):=by
 unfold Sh.zT k4
 simp only [Prod.mk.injEq]
 refine RV (fun h1 => ?_) (fun h=>I6 fun q=>h q.1)
 refine RV (fun h2 => ?_) (fun h=>I6 fun q=>h q.2.1)
 refine RV (fun h3 => ?_) (fun h=>I6 fun q=>h q.2.2.1)
 exact a1Z ⟨fun h=>⟨h1,h2,h3,h⟩,fun h=>h.2.2.2⟩
theorem a1T {a b:List aQ} (ha:a.length≤200000000):Sp (Sh.eT a b) (a.map k4=b.map k4):=by
 unfold Sh.eT
 refine YG k4 k4 a b _ (fun i x y i0 hi hx hy => ?_) ?_
 ·
  rw [if_pos hi,eU i0 hx,Option.bind_some,eU i0 hy,Option.bind_some]
  obtain ⟨r,hr,hh⟩:=(a0Q x y).get
  rw [hr,Option.bind_some]
  cases r with
  | true=>exact cF.2 ⟨fun q=>(by cases q),fun _=>cQ.2 ⟨⟨by omega,by omega⟩,kJ.2 (.inl ⟨hh.1 rfl,rfl⟩)⟩⟩
  | false=>exact cF.2 ⟨fun _=>gA.2 (bD.2 (.inr ⟨fun q=>(by cases hh.2 q),rfl⟩)),fun q=>absurd rfl q⟩
 rw [if_neg (by omega)]; exact jC (bD.2 rfl)
theorem aTn {a b:List aQ} (ha:a.length≤200000000):Sp (Sh.AO a b) (a.map k4=b.map k4):=by unfold Sh.AO; exact aUZ (a1T ha)
def aPm (a b:mB):Prop:=a.kind=b.kind∧a.other=b.other∧a.text=b.text∧a.mV=b.mV∧a.todo=b.todo∧a.made=b.made∧a.branch=b.branch∧(a.aG=b.aG∧a.aH=b.aH)∧a.index.map k4=b.index.map k4∧a.work=b.work
theorem sM {a b:mB} (h:vSq a):Sp (Sh.yC a b) (aPm a b):=by
 unfold Sh.yC aPm
 obtain ⟨_,_,_,v4,v5,_,_,_,v9,va⟩:=h
 refine RV (fun h1 => ?_) (fun h=>I6 fun q=>h q.1)
 refine RV (fun h2 => ?_) (fun h=>I6 fun q=>h q.2.1)
 refine RV (fun h3 => ?_) (fun h=>I6 fun q=>h q.2.2.1)
 refine aMl (aZJ (by have:=v4.1; omega)) (fun h4 => ?_) (fun h=>I6 fun q=>h q.2.2.2.1)
 rw [if_pos rfl]
 refine aMl (aZJ (by have:=v5.1; omega)) (fun h5 => ?_) (fun h=>I6 fun q=>h q.2.2.2.2.1)
 rw [if_pos rfl]
 refine RV (fun h6 => ?_) (fun h=>I6 fun q=>h q.2.2.2.2.2.1)
 refine RV (fun h7 => ?_) (fun h=>I6 fun q=>h q.2.2.2.2.2.2.1)
 refine RV (fun h8 => ?_) (fun h=>I6 fun q=>h q.2.2.2.2.2.2.2.1)
 refine aMl (aTn (by have:=v9.1; omega)) (fun h9 => ?_) (fun h=>I6 fun q=>h q.2.2.2.2.2.2.2.2.1)
 rw [if_pos rfl]
 exact aUZ ((a0W (by have:=va.1; omega)).iff ⟨fun h=>⟨h1,h2,h3,h4,h5,h6,h7,h8,h9,h⟩,fun h=>h.2.2.2.2.2.2.2.2.2⟩)
def tU (z:aZ):eC:=⟨z.path,z.mode,z.data⟩
def CJ (z:aQ):fD:=⟨z.path,z.dJ,z.mode,z.data,z.time,z.size⟩
def zH (z:dI):kP:=⟨z.name,z.cB⟩
def YP (z:cA):iC:=⟨z.verb,z.cB,z.text⟩
def AH (z:eY):oW:=⟨z.base,z.index.map tU,z.work.map tU,z.text⟩
def aER (n:dN):oA:=⟨n.work.map tU,n.index.map CJ,n.refs.map zH,n.aG,n.aH,n.aW,n.aS,n.aV,n.aN.map YP,n.aT.map YP,n.aY,n.aM,n.aC,n.aE,n.aO.map CJ,n.aU.map tU,n.bJ.map AH⟩
theorem aBY {l:List aZ} (h:l.length≤200000000):Sh.F0 l=some (l.map tU):=by
 apply Ok.eq
 unfold Sh.F0
 refine BO l tU _ (fun i z i0 hi hz s hs => ?_) ?_
 ·
  dsimp only
  rw [if_pos hi]
  simp only [eU i0 hz,Option.bind_some]
  exact cV.2 (cQ.2 ⟨by simp; omega,cV.2 (oR ⟨by omega,by omega⟩ rfl)⟩)
 dsimp only
 rw [if_neg (by omega)]
 exact jC (bD.2 rfl)
theorem aTF {l:List aQ} (h:l.length≤200000000):Sh.QV l=some (l.map CJ):=by
 apply Ok.eq
 unfold Sh.QV
 refine BO l CJ _ (fun i z i0 hi hz s hs => ?_) ?_
 ·
  dsimp only
  rw [if_pos hi]
  simp only [eU i0 hz,Option.bind_some]
  exact cV.2 (cQ.2 ⟨by simp; omega,cV.2 (oR ⟨by omega,by omega⟩ rfl)⟩)
 dsimp only
 rw [if_neg (by omega)]
 exact jC (bD.2 rfl)
theorem a0F {l:List dI} (h:l.length≤200000000):Sh.KO l=some (l.map zH):=by
 apply Ok.eq
 unfold Sh.KO
 refine BO l zH _ (fun i z i0 hi hz s hs => ?_) ?_
 ·
  dsimp only
  rw [if_pos hi]
  simp only [eU i0 hz,Option.bind_some]
  exact cV.2 (cQ.2 ⟨by simp; omega,cV.2 (oR ⟨by omega,by omega⟩ rfl)⟩)
 dsimp only
 rw [if_neg (by omega)]
 exact jC (bD.2 rfl)
theorem aTI {l:List cA} (h:l.length≤200000000):Sh.QW l=some (l.map YP):=by
 apply Ok.eq
 unfold Sh.QW
 refine BO l YP _ (fun i z i0 hi hz s hs => ?_) ?_
 ·
  dsimp only
  rw [if_pos hi]
  simp only [eU i0 hz,Option.bind_some]
  exact cV.2 (cQ.2 ⟨by simp; omega,cV.2 (oR ⟨by omega,by omega⟩ rfl)⟩)
 dsimp only
 rw [if_neg (by omega)]
 exact jC (bD.2 rfl)
theorem a0G {l:List eY} (h:vL vSh l):Sh.G7 l=some (l.map AH):=by
 apply Ok.eq
 have hl:=h.1
 unfold Sh.G7
 refine BO l AH _ (fun i z i0 hi hz s hs => ?_) ?_
 ·
  obtain ⟨_,w1,w2,_⟩:=h.2 z (List.mem_of_getElem? hz)
  dsimp only
  rw [if_pos hi]
  simp only [eU i0 hz,Option.bind_some]
  rw [aBY w1.1,Option.bind_some,aBY w2.1,Option.bind_some]
  exact cV.2 (cQ.2 ⟨by simp; omega,cV.2 (oR ⟨by omega,by omega⟩ rfl)⟩)
 dsimp only
 rw [if_neg (by omega)]
 exact jC (bD.2 rfl)
theorem aM2 {n:dN} (h:vNo n):Sh.EM n=some (aER n):=by
 obtain ⟨v1,v2,v3,_,⟨_,_,_,v4,v5,_,_,_,v6,v7⟩,v8⟩:=h
 unfold Sh.EM
 dsimp only [MR] at *
 rw [aBY v1.1,Option.bind_some,aTF v2.1,Option.bind_some,a0F v3.1,Option.bind_some,a0G v8,Option.bind_some,aTI v4.1,Option.bind_some,aTI v5.1,Option.bind_some,aTF v6.1,Option.bind_some,aBY v7.1,Option.bind_some]
 rfl
end Go.S
end

section
namespace Go.S
open Go
set_option maxRecDepth 100000 in
theorem aSs:Sh.ML=some true:=by decide +kernel
end Go.S
end

section
set_option linter.unusedVariables false
namespace Go.S
open Go Go.V
theorem tl {s:List UInt8} (h:Bk.bk s≤2000000):(pI s).length≤12*Bk.bk s:=by
 rw [DU] at *
 have:=KA (n:=((s.length:Nat):Int)) ⟨by omega,by omega⟩
 rw [pI,List.length_append]; omega
theorem il {n:Int} (h:dV n):(kU n).length≤12*Bk.bk n:=by
 have:=KA h
 rw [kR]; omega
theorem ll {α:Type} [Bk α] {enc:α→List UInt8} {l:List α} (hb:Bk.bk l≤2000000) (hp : ∀ x:α,1≤Bk.bk x) (h : ∀ x∈l,Bk.bk x≤2000000→(enc x).length≤12*Bk.bk x):(jT enc l).length≤12*Bk.bk l:=by
 have h0:=FP hp l
 have h1:=KA (n:=((l.length:Nat):Int)) ⟨by omega,by omega⟩
 have key : ∀ m:List α,(∀ x∈m,(enc x).length≤12*Bk.bk x)→(m.flatMap enc).length≤12*(m.map Bk.bk).sum:=by
   intro m
   induction m with
   | nil=>intro _; simp
   | cons y r ih =>
     intro g
     simp only [List.flatMap_cons,List.length_append,List.map_cons,List.sum_cons]
     have:=g y (List.mem_cons_self ..)
     have:=ih fun x hx=>g x (List.mem_cons_of_mem _ hx)
     omega
 have h2:=key l fun x hx=>h x hx (by have:=FQ hx; omega)
 rw [GW] at *
 rw [jT,List.length_append]; omega
theorem vl {α:Type} [Bk α] {v:α→Prop} {l:List α} (hb:Bk.bk l≤2000000) (hp : ∀ x:α,1≤Bk.bk x) (h : ∀ x∈l,Bk.bk x≤2000000→v x):vL v l:=by
 have h0:=FP hp l
 exact ⟨by omega,fun x hx=>h x hx (by have:=FQ hx; omega)⟩
theorem tv {s:List UInt8} (h:Bk.bk s≤2000000):s.length≤200000000:=by rw [DU] at h; omega
theorem E8 (n:Int):1≤Bk.bk n:=Nat.le_refl 1
theorem aX9 {α:Type} [Bk α] (l:List α):1≤Bk.bk l:=by rw [GW]; omega
theorem aLU (x:aZ):Bk.bk x=Bk.bk x.path+Bk.bk x.mode+Bk.bk x.data:=rfl
theorem aTM (x:aZ):1≤Bk.bk x:=by have:=aLU x; have:=E8 x.mode; omega
theorem aZL {x:aZ} (r:Rp.rp x) (b:Bk.bk x≤2000000):vFi x∧(pM x).length≤12*Bk.bk x:=by
 have h:=aLU x
 refine ⟨⟨r,tv (by omega),tv (by omega)⟩,?_⟩
 have h1:=tl (s:=x.path) (by omega)
 have h2:=il (n:=x.mode) r
 have h3:=tl (s:=x.data) (by omega)
 simp only [pM,List.length_append]; omega
theorem aPv (x:aQ):Bk.bk x=Bk.bk x.path+Bk.bk x.dJ+Bk.bk x.mode+Bk.bk x.data+Bk.bk x.time+Bk.bk x.size:=rfl
theorem aTL (x:aQ):1≤Bk.bk x:=by have:=aPv x; have:=E8 x.mode; omega
theorem aZK {x:aQ} (r:Rp.rp x) (b:Bk.bk x≤2000000):vEn x∧(rZ x).length≤12*Bk.bk x:=by
 have h:=aPv x
 obtain ⟨r1,r2,r3,r4⟩:=r
 refine ⟨⟨r1,r2,r3,r4,tv (by omega),tv (by omega)⟩,?_⟩
 have h1:=tl (s:=x.path) (by omega)
 have h2:=il r1
 have h3:=il r2
 have h4:=tl (s:=x.data) (by omega)
 have h5:=il r3
 have h6:=il r4
 simp only [rZ,List.length_append]; omega
theorem aPy (x:dI):Bk.bk x=Bk.bk x.name+Bk.bk x.cB:=rfl
theorem aTO (x:dI):1≤Bk.bk x:=by have:=aPy x; have:=E8 x.cB; omega
theorem aZN {x:dI} (r:Rp.rp x) (b:Bk.bk x≤2000000):vRe x∧(vK x).length≤12*Bk.bk x:=by
 have h:=aPy x
 refine ⟨⟨r,tv (by omega)⟩,?_⟩
 have h1:=tl (s:=x.name) (by omega)
 have h2:=il (n:=x.cB) r
 simp only [vK,List.length_append]; omega
theorem aYx (x:cA):Bk.bk x=Bk.bk x.verb+Bk.bk x.cB+Bk.bk x.text:=rfl
theorem aZH (x:cA):1≤Bk.bk x:=by have:=aYx x; have:=E8 x.cB; omega
theorem aZP {x:cA} (r:Rp.rp x) (b:Bk.bk x≤2000000):vSt x∧(sB x).length≤12*Bk.bk x:=by
 have h:=aYx x
 refine ⟨⟨r,tv (by omega),tv (by omega)⟩,?_⟩
 have h1:=tl (s:=x.verb) (by omega)
 have h2:=il (n:=x.cB) r
 have h3:=tl (s:=x.text) (by omega)
 simp only [sB,List.length_append]; omega
theorem aCB {l:List aZ} (r : ∀ x∈l,Rp.rp x) (b:Bk.bk l≤2000000):vL vFi l∧(jT pM l).length≤12*Bk.bk l:=⟨vl b aTM fun x hx hb=>(aZL (r x hx) hb).1,ll b aTM fun x hx hb=>(aZL (r x hx) hb).2⟩
theorem aU6 {l:List aQ} (r : ∀ x∈l,Rp.rp x) (b:Bk.bk l≤2000000):vL vEn l∧(jT rZ l).length≤12*Bk.bk l:=⟨vl b aTL fun x hx hb=>(aZK (r x hx) hb).1,ll b aTL fun x hx hb=>(aZK (r x hx) hb).2⟩
theorem a0p {l:List dI} (r : ∀ x∈l,Rp.rp x) (b:Bk.bk l≤2000000):vL vRe l∧(jT vK l).length≤12*Bk.bk l:=⟨vl b aTO fun x hx hb=>(aZN (r x hx) hb).1,ll b aTO fun x hx hb=>(aZN (r x hx) hb).2⟩
theorem aU7 {l:List cA} (r : ∀ x∈l,Rp.rp x) (b:Bk.bk l≤2000000):vL vSt l∧(jT sB l).length≤12*Bk.bk l:=⟨vl b aZH fun x hx hb=>(aZP (r x hx) hb).1,ll b aZH fun x hx hb=>(aZP (r x hx) hb).2⟩
theorem a0o {l:List Int} (r : ∀ x∈l,dV x) (b:Bk.bk l≤2000000):vL dV l∧(jT kU l).length≤12*Bk.bk l:=⟨vl b E8 fun x hx _=>r x hx,ll b E8 fun x hx _=>il (r x hx)⟩
theorem aPz (x:eY):Bk.bk x=Bk.bk x.base+Bk.bk x.index+Bk.bk x.work+Bk.bk x.text:=rfl
theorem aM7 (x:eY):1≤Bk.bk x:=by have:=aPz x; have:=E8 x.base; omega
theorem aZO {x:eY} (r:Rp.rp x) (b:Bk.bk x≤2000000):vSh x∧(vM x).length≤12*Bk.bk x:=by
 have h:=aPz x
 obtain ⟨r1,r2,r3⟩:=r
 have h1:=il r1
 have h2:=aCB (l:=x.index) r2 (by omega)
 have h3:=aCB (l:=x.work) r3 (by omega)
 have h4:=tl (s:=x.text) (by omega)
 refine ⟨⟨r1,h2.1,h3.1,tv (by omega)⟩,?_⟩
 have:=h2.2
 have:=h3.2
 simp only [vM,List.length_append]; omega
theorem a0q {l:List eY} (r : ∀ x∈l,Rp.rp x) (b:Bk.bk l≤2000000):vL vSh l∧(jT vM l).length≤12*Bk.bk l:=⟨vl b aM7 fun x hx hb=>(aZO (r x hx) hb).1,ll b aM7 fun x hx hb=>(aZO (r x hx) hb).2⟩
theorem aPw (x:dN):Bk.bk x=Bk.bk x.work+Bk.bk x.index+Bk.bk x.refs+Bk.bk x.aG+Bk.bk x.aH+Bk.bk x.aW+Bk.bk x.aS+Bk.bk x.aV+Bk.bk x.aN+Bk.bk x.aT+Bk.bk x.aY+Bk.bk x.aM+Bk.bk x.aC+Bk.bk x.aE+Bk.bk x.aO+Bk.bk x.aU+Bk.bk x.bJ:=rfl
theorem aZG (x:dN):1≤Bk.bk x:=by have:=aPw x; have:=E8 x.aH; omega
theorem aZM {x:dN} (r:Rp.rp x) (b:Bk.bk x≤2000000):vNo x∧(sA x).length≤12*Bk.bk x:=by
 have h:=aPw x
 obtain ⟨r1,r2,r3,r4,r5,r6,r7,r8,r9,ra,rb,rc⟩:=r
 have h1:=aCB (l:=x.work) r1 (by omega)
 have h2:=aU6 (l:=x.index) r2 (by omega)
 have h3:=a0p (l:=x.refs) r3 (by omega)
 have h4:=tl (s:=x.aG) (by omega)
 have h5:=il r4
 have h6:=tl (s:=x.aW) (by omega)
 have h7:=il r5
 have h8:=tl (s:=x.aV) (by omega)
 have h9:=aU7 (l:=x.aN) r6 (by omega)
 have ha:=aU7 (l:=x.aT) r7 (by omega)
 have hb:=il r8
 have hc:=tl (s:=x.aM) (by omega)
 have hd:=tl (s:=x.aC) (by omega)
 have he:=il r9
 have hf:=aU6 (l:=x.aO) ra (by omega)
 have hg:=aCB (l:=x.aU) rb (by omega)
 have hh:=a0q (l:=x.bJ) rc (by omega)
 refine ⟨⟨h1.1,h2.1,h3.1,⟨r4,tv (s:=x.aG) (by omega)⟩,⟨tv (s:=x.aW) (by omega),r5,tv (s:=x.aV) (by omega),h9.1,ha.1,r8,tv (s:=x.aM) (by omega),⟨r9,tv (s:=x.aC) (by omega)⟩,hf.1,hg.1⟩,hh.1⟩,?_⟩
 have:=h1.2; have:=h2.2; have:=h3.2; have:=h9.2; have:=ha.2; have:=hf.2; have:=hg.2; have:=hh.2
 simp only [sA,xD,CY,MR,List.length_append]; omega
theorem T9 {l:List aZ} (h:l.length≤200000000):Ok (Sh.BM l) (fun _=>True):=by
 unfold Sh.BM
 refine cF.2 ⟨fun _=>bD.2 trivial,fun _ => ?_⟩
 refine iN (I:=fun i=>0≤i) (μ:=fun i=>(l.length - i).toNat) ?_ (by decide)
 intro i i0
 refine cF.2 ⟨fun hi => ?_,fun _=>gA.2 (bD.2 trivial)⟩
 obtain ⟨z,hz⟩:=oI i0 hi
 refine gK (fun _=>True) (fun c _=>cF.2 ⟨fun _=>gA.2 (bD.2 trivial),fun _=>cQ.2 ⟨⟨by omega,by omega⟩,kJ.2 ⟨show (0:Int)≤i+1 by omega,by omega⟩⟩⟩) (fun K hK => ?_)
 rw [eU i0 hz,Option.bind_some]
 refine cF.2 ⟨fun _=>hK _ trivial,fun _ => ?_⟩
 rw [Option.bind_some]
 exact hK _ trivial
theorem aLZ {l:List aQ} (h:l.length≤200000000):Ok (Sh.KM l) (fun _=>True):=by
 unfold Sh.KM
 refine cF.2 ⟨fun _=>bD.2 trivial,fun _ => ?_⟩
 refine iN (I:=fun i=>0≤i) (μ:=fun i=>(l.length - i).toNat) ?_ (by decide)
 intro i i0
 refine cF.2 ⟨fun hi => ?_,fun _=>gA.2 (bD.2 trivial)⟩
 obtain ⟨z,hz⟩:=oI i0 hi
 refine gK (fun _=>True) (fun c _=>cF.2 ⟨fun _=>gA.2 (bD.2 trivial),fun _=>cQ.2 ⟨⟨by omega,by omega⟩,kJ.2 ⟨show (0:Int)≤i+1 by omega,by omega⟩⟩⟩) (fun K hK => ?_)
 rw [eU i0 hz,Option.bind_some]
 refine cF.2 ⟨fun _=>hK _ trivial,fun _ => ?_⟩
 rw [Option.bind_some]
 exact hK _ trivial
theorem tot {α β:Type} {o:Option α} {f:α→Option β} {Q:β→Prop} (h:Ok o (fun _=>True)) (g : ∀ x,Ok (f x) Q):Ok (o.bind f) Q:=kC.2 (h.mono fun x _=>g x)
theorem aEw {n:dN} (h:vNo n):Ok (Sh.xN n) (fun _=>True):=by
 obtain ⟨v1,v2,v3,_,⟨_,_,_,v4,v5,_,_,_,v6,v7⟩,v8⟩:=h
 dsimp only [MR] at *
 unfold Sh.xN
 refine gK (fun _=>True) (fun c _ => ?_) (fun K hK => ?_)
 ·
  refine cF.2 ⟨fun _=>bD.2 trivial,fun _ => ?_⟩
  refine iN (I:=fun i=>0≤i) (μ:=fun i=>(n.bJ.length - i).toNat) ?_ (by decide)
  intro i i0
  refine cF.2 ⟨fun hi => ?_,fun _=>gA.2 (bD.2 trivial)⟩
  obtain ⟨z,hz⟩:=oI i0 hi
  obtain ⟨_,w1,w2,_⟩:=v8.2 z (List.mem_of_getElem? hz)
  have hl:=v8.1
  refine gK (fun _=>True) (fun c _=>cF.2 ⟨fun _=>gA.2 (bD.2 trivial),fun _=>cQ.2 ⟨⟨by omega,by omega⟩,kJ.2 ⟨show (0:Int)≤i+1 by omega,by omega⟩⟩⟩) (fun K hK => ?_)
  rw [eU i0 hz,Option.bind_some]
  refine tot (T9 w1.1) fun x=>cF.2 ⟨fun _=>hK _ trivial,fun _ => ?_⟩
  rw [Option.bind_some]
  exact tot (T9 w2.1) fun x=>hK _ trivial
 refine tot (T9 v1.1) fun x=>cF.2 ⟨fun _=>hK _ trivial,fun _ => ?_⟩
 refine tot (aLZ v2.1) fun x=>cF.2 ⟨fun _=>hK _ trivial,fun _ => ?_⟩
 refine cF.2 ⟨fun _=>hK _ trivial,fun _ => ?_⟩
 refine cF.2 ⟨fun _=>hK _ trivial,fun _ => ?_⟩
 refine tot (T9 v7.1) fun x=>cF.2 ⟨fun _=>hK _ trivial,fun _ => ?_⟩
 refine tot (aLZ v6.1) fun x=>cF.2 ⟨fun _=>hK _ trivial,fun _ => ?_⟩
 refine cF.2 ⟨fun _=>hK _ trivial,fun _ => ?_⟩
 exact cF.2 ⟨fun _=>hK _ trivial,fun _=>hK _ trivial⟩
end Go.S
end

section
set_option linter.unusedVariables false
namespace Go.S
open Go Go.V
def nk (n:dN):=(n.work,n.index.map k4,n.refs,(n.aG,n.aH),(n.aW,n.aS,n.aV,n.aN,n.aT,n.aY,n.aM,(n.aC,n.aE),n.aO.map k4,n.aU),n.bJ)
def gNo (n:dN):Prop:=vNo n∧(sA n).length≤100000000
noncomputable def kk (s:List UInt8):=nk ((Sh.qF s).getD (⟨[],[],[],[],0,[],0,[],[],[],0,[],[],0,[],[],[]⟩,.nil)).1
structure gPl (p:dM):Prop where
  now:gNo ⟨p.cJ,p.bV,p.bB,p.aR,p.bA,p.cI,p.dB,p.dP,p.bW,p.cG,p.dK,p.cY,p.bU,p.bS,p.bX,p.cH,p.bL⟩
  co:vL vCo p.aK
  bl:p.back.length≤100000000
  back : ∀ x∈p.back,gNo x
  fl:p.hO.length≤100000000
  hO : ∀ x∈p.hO,gNo x
  time:dV p.time
def FK (p:dM):dN:=⟨p.cJ,p.bV,p.bB,p.aR,p.bA,p.cI,p.dB,p.dP,p.bW,p.cG,p.dK,p.cY,p.bU,p.bS,p.bX,p.cH,p.bL⟩
def IG (p:dM):eP:=⟨p.cJ,p.bV,p.bB,p.aR,p.bA,p.cI,p.dB,p.dP,p.bW,p.cG,p.dK,p.cY,p.bU,p.bS,p.bX,p.cH,p.bL,p.aK,p.back.map sA,p.hO.map sA,p.time⟩
def vE (c:gF):rU:=⟨c.tree.map tU,c.parents,c.time,c.text⟩
def DO (p:dM):oX:=⟨p.cJ.map tU,p.bV.map CJ,p.bB.map zH,p.aR,p.bA,p.cI,p.dB,p.dP,p.bW.map YP,p.cG.map YP,p.dK,p.cY,p.bU,p.bS,p.bX.map CJ,p.cH.map tU,p.bL.map AH,p.aK.map vE,p.back.map aER,p.hO.map aER,p.time⟩
def aYr (a b:dM):Prop:=nk (FK a)=nk (FK b)∧a.aK=b.aK∧a.time=b.time∧a.back.map nk=b.back.map nk∧a.hO.map nk=b.hO.map nk
theorem a0n {p:dM} (h:gPl p):Sh.UW p=some (IG p):=by
 apply Ok.eq
 have hbl:=h.bl
 have hfl:=h.fl
 unfold Sh.UW
 refine XX p.back sA _ (fun i z i0 hi hz s hs => ?_) ?_
 ·
  have hg:=h.back z (List.mem_of_getElem? hz)
  dsimp only
  rw [if_pos hi,eU i0 hz,Option.bind_some,aIO hg.1 hg.2,Option.bind_some]
  exact cV.2 (cQ.2 ⟨by simp; omega,cV.2 (oR ⟨by omega,by omega⟩ rfl)⟩)
 dsimp only
 rw [if_neg (by omega)]
 refine jC ?_
 refine XX p.hO sA _ (fun i z i0 hi hz s hs => ?_) ?_
 ·
  have hg:=h.hO z (List.mem_of_getElem? hz)
  dsimp only
  rw [if_pos hi,eU i0 hz,Option.bind_some,aIO hg.1 hg.2,Option.bind_some]
  exact cV.2 (cQ.2 ⟨by simp; omega,cV.2 (oR ⟨by omega,by omega⟩ rfl)⟩)
 dsimp only
 rw [if_neg (by omega)]
 exact jC (bD.2 rfl)
theorem aIQ {l:List dN} (hl:l.length≤100000000) (h : ∀ x∈l,gNo x):Sh.GM (l.map sA)=some (l.map aER,true):=by
 apply Ok.eq
 unfold Sh.GM
 refine BO l aER _ (fun i z i0 hi hz s hs => ?_) ?_
 ·
  have hg:=h z (List.mem_of_getElem? hz)
  dsimp only
  rw [if_pos (by rw [List.length_map]; exact hi),eU i0 (rM sA hz),Option.bind_some,aK1 hg.1 hg.2,Option.bind_some,if_pos (show jR.nil.isNil=true from rfl),aM2 hg.1,Option.bind_some]
  exact cV.2 (cQ.2 ⟨by simp; omega,cV.2 (oR ⟨by omega,by omega⟩ rfl)⟩)
 dsimp only
 rw [if_neg (by rw [List.length_map]; omega)]
 exact jC (bD.2 rfl)
theorem aPB {p:dM} (h:gPl p):Sh.UU (IG p)=some (DO p,true):=by
 apply Ok.eq
 have hcl:=h.co.1
 unfold Sh.UU
 have hn:Sh.EM (FK p)=some (aER (FK p)):=aM2 h.now.1
 show Ok ((Sh.EM (FK p)).bind _) _
 rw [hn,Option.bind_some]
 refine XX p.aK vE _ (fun i z i0 hi hz s hs => ?_) ?_
 ·
  obtain ⟨v1,_,_,_⟩:=h.co.2 z (List.mem_of_getElem? hz)
  dsimp only [IG]
  refine cF.2 ⟨fun _ => ?_,fun q=>absurd hi q⟩
  rw [eU i0 hz,Option.bind_some,aBY v1.1,Option.bind_some]
  exact cV.2 (cQ.2 ⟨by simp; omega,cV.2 (oR ⟨by omega,by omega⟩ rfl)⟩)
 dsimp only [IG]
 refine cF.2 ⟨fun q=>absurd q (by omega),fun _ => ?_⟩
 rw [aIQ h.bl h.back,Option.bind_some,aIQ h.fl h.hO,Option.bind_some]
 exact jC (bD.2 rfl)
theorem aW5 {p:dM} (h:gPl p):Ok (Sh.OL p) (fun _=>True):=by
 have hbl:=h.bl
 have hfl:=h.fl
 have hcl:=h.co.1
 unfold Sh.OL
 refine gK (fun _=>True) (fun c _ => ?_) (fun K hK => ?_)
 ·
  refine cF.2 ⟨fun _=>bD.2 trivial,fun _ => ?_⟩
  refine iN (I:=fun i=>0≤i) (μ:=fun i=>(p.aK.length - i).toNat) ?_ (by decide)
  intro i i0
  refine cF.2 ⟨fun hi => ?_,fun _=>gA.2 ?_⟩
  ·
   obtain ⟨z,hz⟩:=oI i0 hi
   obtain ⟨v1,_,_,_⟩:=h.co.2 z (List.mem_of_getElem? hz)
   refine gK (fun _=>True) (fun c _=>cF.2 ⟨fun _=>gA.2 (bD.2 trivial),fun _=>cQ.2 ⟨⟨by omega,by omega⟩,kJ.2 ⟨show (0:Int)≤i+1 by omega,by omega⟩⟩⟩) (fun K hK => ?_)
   rw [eU i0 hz,Option.bind_some]
   refine tot (T9 v1.1) fun x=>cF.2 ⟨fun _=>hK _ trivial,fun _ => ?_⟩
   rw [Option.bind_some]
   refine cF.2 ⟨fun _=>hK _ trivial,fun _ => ?_⟩
   rw [Option.bind_some]
   exact hK _ trivial
  refine iN (I:=fun i=>0≤i) (μ:=fun i=>(p.back.length - i).toNat) ?_ (by decide)
  intro i i0
  refine cF.2 ⟨fun hi => ?_,fun _=>gA.2 ?_⟩
  ·
   obtain ⟨z,hz⟩:=oI i0 hi
   rw [eU i0 hz,Option.bind_some]
   exact tot (aEw (h.back z (List.mem_of_getElem? hz)).1) fun x=>cF.2 ⟨fun _=>gA.2 (bD.2 trivial),fun _=>cQ.2 ⟨⟨by omega,by omega⟩,kJ.2 ⟨show (0:Int)≤i+1 by omega,by omega⟩⟩⟩
  refine iN (I:=fun i=>0≤i) (μ:=fun i=>(p.hO.length - i).toNat) ?_ (by decide)
  intro i i0
  refine cF.2 ⟨fun hi => ?_,fun _=>gA.2 (bD.2 trivial)⟩
  obtain ⟨z,hz⟩:=oI i0 hi
  rw [eU i0 hz,Option.bind_some]
  exact tot (aEw (h.hO z (List.mem_of_getElem? hz)).1) fun x=>cF.2 ⟨fun _=>gA.2 (bD.2 trivial),fun _=>cQ.2 ⟨⟨by omega,by omega⟩,kJ.2 ⟨show (0:Int)≤i+1 by omega,by omega⟩⟩⟩
 refine tot (aEw (n:=FK p) h.now.1) fun x=>cF.2 ⟨fun _=>hK _ trivial,fun _ => ?_⟩
 refine cF.2 ⟨fun _=>hK _ trivial,fun _ => ?_⟩
 exact cF.2 ⟨fun _=>hK _ trivial,fun _=>hK _ trivial⟩
theorem aPu (x:gF):Bk.bk x=Bk.bk x.tree+Bk.bk x.parents+Bk.bk x.time+Bk.bk x.text:=rfl
theorem a1R (x:gF):1≤Bk.bk x:=by have:=aPu x; have:=E8 x.time; omega
theorem a16 {x:gF} (r:Rp.rp x) (b:Bk.bk x≤2000000):vCo x∧(aQS x).length≤12*Bk.bk x:=by
 have h:=aPu x
 obtain ⟨r1,r2,r3⟩:=r
 have h1:=aCB (l:=x.tree) r1 (by omega)
 have h2:=a0o (l:=x.parents) r2 (by omega)
 have h3:=il r3
 have h4:=tl (s:=x.text) (by omega)
 refine ⟨⟨h1.1,h2.1,r3,tv (by omega)⟩,?_⟩
 have:=h1.2; have:=h2.2
 simp only [aQS,List.length_append]; omega
theorem aRb {x:dN} (r:Rp.rp x) (b:Bk.bk x≤2000000):gNo x:=⟨(aZM r b).1,by have:=(aZM r b).2; omega⟩
theorem aPx (p:dM):Bk.bk p=Bk.bk (FK p)+Bk.bk p.aK+Bk.bk p.back+Bk.bk p.hO+Bk.bk p.time:=rfl
theorem aUG {p:dM} (r:Rp.rp p):Rp.rp (FK p):=⟨r.1,r.2.1,r.2.2.1,r.2.2.2.1,r.2.2.2.2.1,r.2.2.2.2.2.1,r.2.2.2.2.2.2.1,r.2.2.2.2.2.2.2.1,r.2.2.2.2.2.2.2.2.1,r.2.2.2.2.2.2.2.2.2.1,r.2.2.2.2.2.2.2.2.2.2.1,r.2.2.2.2.2.2.2.2.2.2.2.1⟩
theorem aUH {p:dM} (r:Rp.rp p):(∀ z∈p.aK,Rp.rp z)∧(∀ z∈p.back,Rp.rp z)∧(∀ z∈p.hO,Rp.rp z)∧dV p.time:=r.2.2.2.2.2.2.2.2.2.2.2.2
theorem aTQ {n a b c d e k:Nat} (h:n=a+b+c+d+e) (hn:n≤k):a≤k∧b≤k∧c≤k∧d≤k:=by omega
theorem aLx {l b:Nat} (h:l+1≤b) (hb:b≤2000000):l≤100000000:=by omega
theorem mem_of {x b k:Nat} (h:x+1≤b) (hb:b≤k):x≤k:=by omega
theorem a1N {p:dM} (r:Rp.rp p) (b:Bk.bk p≤2000000):gPl p :=
  have h:=aTQ (aPx p) b
  have hr:=aUH r
  ⟨aRb (aUG r) h.1,vl h.2.1 a1R fun x hx hb=>(a16 (hr.1 x hx) hb).1,aLx (FP aZG p.back) h.2.2.1,fun x hx=>aRb (hr.2.1 x hx) (mem_of (FQ hx) h.2.2.1),aLx (FP aZG p.hO) h.2.2.2,fun x hx=>aRb (hr.2.2.1 x hx) (mem_of (FQ hx) h.2.2.2),hr.2.2.2⟩
end Go.S
end

section
set_option linter.unusedVariables false
namespace Go.S
open Go Go.V
def w1 (x:aZ):Nat:=16+x.path.length+x.data.length
def w2 (x:aQ):Nat:=16+x.path.length+x.data.length
def w3 (x:dI):Nat:=16+x.name.length
def w4 (x:cA):Nat:=16+x.verb.length+x.text.length
def wFi (l:List aZ):Nat:=(l.map w1).sum
def wEn (l:List aQ):Nat:=(l.map w2).sum
def w5 (x:eY):Nat:=16+x.text.length+wFi x.index+wFi x.work
def w6 (x:gF):Nat:=16+x.text.length+wFi x.tree
def gW (n:dN):Nat:=wFi n.work+wEn n.index+(n.refs.map w3).sum+(n.aG.length+n.aW.length+n.aV.length+n.aM.length+n.aC.length)+((n.aN.map w4).sum+(n.aT.map w4).sum)+wEn n.aO+wFi n.aU+(n.bJ.map w5).sum
end Go.S
end

section
set_option linter.unusedVariables false
namespace Go.S
open Go Go.V
noncomputable def uR (t:List UInt8):dN×jR:=(Sh.qF t).getD (⟨[],[],[],[],0,[],0,[],[],[],0,[],[],0,[],[],[]⟩,.nil)
noncomputable def w7 (t:List UInt8):Nat:=16+gW (uR t).1
def w8 (t:List UInt8):Nat:=16+16*t.length
end Go.S
end

section
set_option linter.unusedVariables false
namespace Go.S
open Go Go.V
theorem aNh {l:List Int} (h:l.length≤4000000000):Sh.pX l=some l:=by
 apply Ok.eq
 unfold Sh.pX
 rw [cV,cQ]
 refine ⟨by simp; omega,?_⟩
 rw [cV,bD]; rfl
theorem aQI (l:List (List Int)):Sh.l5 l=some l:=by
 apply Ok.eq
 unfold Sh.l5
 rw [cQ]
 refine ⟨⟨by omega,by omega⟩,?_⟩
 rw [cV,bD,Int.toNat_natCast,List.take_length]
theorem aOn {s:eP} (hc:vL vCo s.aK):Sh.CB s=some (s.aK.map (·.parents)):=by
 have hl:=hc.1
 apply Ok.eq
 unfold Sh.CB
 refine BO s.aK (·.parents) _ (fun i z i0 hi hz o ho => ?_) ?_
 ·
  obtain ⟨_,u2,_,_⟩:=hc.2 z (List.mem_of_getElem? hz)
  have m2:=u2.1
  dsimp only
  rw [if_pos hi,eU i0 hz,Option.bind_some,aNh (by omega),Option.bind_some,aDK,Option.bind_some]
  exact cV.2 (cQ.2 ⟨by simp; omega,cV.2 (oR ⟨by omega,by omega⟩ rfl)⟩)
 dsimp only
 rw [if_neg (by omega),aQI,Option.bind_some]
 exact jC (bD.2 rfl)
theorem aYr.refl (p:dM):aYr p p:=⟨rfl,rfl,rfl,rfl,rfl⟩
end Go.S
end

section
namespace Go.S
open Go
def Fst {α:Type} (p:α→Bool) (l:List α) (r:Int):Prop:=(r = -1 ∧ ∀ z∈l,p z=false) ∨ ∃ k:Nat,r=k∧k < l.length∧(∀ z∈l.take k,p z=false) ∧ ∃ z,l[k]? = some z∧p z=true
theorem aFW {α:Type} (p:α→Bool) (l:List α) (hb:l.length≤1000000000) (F:α→Option Bool) (hF : ∀ z∈l,F z=some (p z)) (B:Int→Option (Int⊕Int))
 (hB : ∀ i,B i=if i < (l.length:Int) then (at_ l i).bind (fun z=>(F z).bind (fun y=>if y=true then up (some i) else gd (dV (i+1)) (go (i+1)))) else up (some (-1))):Ok (iter B 0) (Fst p l):=by
 refine iN (I:=fun i=>0≤i∧i≤l.length ∧ ∀ z∈l.take i.toNat,p z=false) (μ:=fun i=>(l.length - i).toNat) ?_ ⟨by omega,by omega,by simp⟩
 rintro i ⟨h0,h1,h2⟩
 rw [hB]
 simp only [cF,gA,kC,bD,q9]
 refine ⟨fun h => ?_,fun h => ?_⟩
 ·
  obtain ⟨z,hz⟩:=wS h0 h
  refine ⟨h0,z,hz,?_⟩
  rw [hF z (List.mem_of_getElem? hz),bD]
  simp only [cF,gA,cQ,kJ,bD]
  refine ⟨fun hp => .inr ⟨i.toNat,by omega,by omega,h2,z,hz,hp⟩,fun hp=>⟨⟨by omega,by omega⟩,⟨by omega,by omega,fun y hy => ?_⟩,by omega⟩⟩
  rw [vW h0 hz] at hy
  rcases List.mem_append.1 hy with q | q
  ·
   exact h2 y q
  rw [List.mem_singleton.1 q]; simpa using hp
 rw [List.take_of_length_le (by omega)] at h2
 exact .inl ⟨rfl,h2⟩
theorem aAg {α:Type} {p:α→Bool} {l:List α} {r:Int} (h:Fst p l r):decide (0≤r)=l.any p:=by
 rcases h with ⟨rfl,h⟩ | ⟨k,rfl,hk,_,z,hz,hp⟩
 ·
  have:l.any p=false:=List.any_eq_false.2 fun z hz=>by simp [h z hz]
  rw [this]; rfl
 have:l.any p=true:=List.any_eq_true.2 ⟨z,List.mem_of_getElem? hz,hp⟩
 rw [this]; simp
end Go.S
end

section
namespace Go.S
open Go
def wN (c:UInt8):List UInt8→List (List UInt8)
  | []=>[[]]
  | x::r=>if x=c then []::wN c r else match wN c r with
    | []=>[[x]]
    | y::l=>(x::y)::l
theorem aYM (c:UInt8) : ∀ s,wN c s≠[]
  | []=>by simp [wN]
  | x::r=>by
    unfold wN
    split
    . simp
    . split <;> simp
theorem WB (c:UInt8) : ∀ s,(wN c s).length=s.count c+1
  | []=>by simp [wN]
  | x::r=>by
    have ih:=WB c r
    unfold wN
    by_cases h:x=c
    . simp [h,ih]
    . rw [if_neg h,List.count_cons_of_ne (by simpa using h)]
      cases hq:wN c r with
      | nil=>exact absurd hq (aYM c r)
      | cons y l=>rw [hq] at ih; simpa using ih
theorem aMn {c:UInt8} : ∀ {s:List UInt8},c∉s→wN c s=[s]
  | [],_=>rfl
  | x::r,h=>by
    have hx:x≠c:=fun e=>h (by simp [e])
    rw [wN,if_neg hx,aMn fun e=>h (List.mem_cons_of_mem _ e)]
theorem aMm {c:UInt8} : ∀ {a:List UInt8} (b:List UInt8),c∉a→wN c (a++c::b)=a::wN c b
  | [],b,_=>by simp [wN]
  | x::a,b,h=>by
    have hx:x≠c:=fun e=>h (by simp [e])
    rw [List.cons_append,wN,if_neg hx,aMm b fun e=>h (List.mem_cons_of_mem _ e)]
theorem aEP (c x:UInt8) : ∀ s,∃ l y,wN c s=l++[y]∧wN c (s++[x])=if x=c then l++[y,[]] else l++[y++[x]]
  | []=>⟨[],[],rfl,by by_cases h:x=c <;> simp [wN,h]⟩
  | z::r=>by
    obtain ⟨l,y,h1,h2⟩:=aEP c x r
    by_cases hz:z=c
    . refine ⟨[]::l,y,by simp [wN,hz,h1],?_⟩
      rw [List.cons_append,wN,if_pos hz,h2]
      split <;> rfl
    . cases l with
      | nil =>
        refine ⟨[],z::y,by simp [wN,hz,h1],?_⟩
        rw [List.cons_append,wN,if_neg hz,h2]
        by_cases hx:x=c <;> simp [hx]
      | cons a l =>
        refine ⟨(z::a)::l,y,by simp [wN,hz,h1],?_⟩
        rw [List.cons_append,wN,if_neg hz,h2]
        by_cases hx:x=c <;> simp [hx]
theorem aSq {c:UInt8} : ∀ {a:List UInt8} (b:List UInt8),c∉a→Lib.indexByte (a++c::b) c=a.length
  | [],b,_=>by simp [Lib.indexByte]
  | x::a,b,h=>by
    have hx:(x==c)=false:=by simpa using fun e:x=c=>h (by simp [e])
    rw [List.cons_append,Lib.indexByte,hx,aSq b fun e=>h (List.mem_cons_of_mem _ e)]
    simp
theorem aKW {c:UInt8} {s:List UInt8} (h:c∈s) : ∃ a b,s=a++c::b∧c∉a:=by
 induction s with
 | nil=>cases h
 | cons x r ih =>
   by_cases hx:x=c
   . exact ⟨[],r,by simp [hx],by simp⟩
   . rcases List.mem_cons.1 h with q | q
     . exact absurd q.symm hx
     . obtain ⟨a,b,e,hn⟩:=ih q
       exact ⟨x::a,b,by simp [e],by simp [hn,Ne.symm hx]⟩
theorem aHM (c:UInt8):(c.toNat:Int).toNat.toUInt8=c:=by simp
theorem aXU (s:List UInt8) (c:UInt8):ixB s (c.toNat:Int)=Lib.indexByte s c:=by unfold ixB; rw [aHM]
theorem aOv (s:List UInt8) (c:UInt8):Sh.mH s [c]=some (Lib.indexByte s c):=by
 apply Ok.eq
 unfold Sh.mH
 simp only [aBZ,cF,kC,bD,q9]
 refine ⟨fun h=>by simp at h,fun _=>⟨fun h => ?_,fun _=>⟨fun _=>⟨by omega,c,rfl,?_⟩,fun h=>by simp at h⟩⟩⟩
 ·
  have:s=[c]:=by simpa using (of_decide_eq_true h).symm
  rw [this]; simp [Lib.indexByte]
 unfold Sh.mR
 rw [aXU]; exact Ok.of rfl rfl
theorem aKV (s:List UInt8) (c:UInt8):Sh.vD s [c]=some (Lib.indexByte s c):=by
 unfold Sh.vD
 rw [aOv]; rfl
theorem aNi (s:List UInt8) (c:UInt8):Sh.yD s [c]=some (s.count c:Int):=by
 apply Ok.eq
 unfold Sh.yD
 rw [if_neg (by simp),if_pos (by simp)]
 simp only [kC,q9,bD]
 refine ⟨by omega,c,rfl,?_⟩
 unfold aLW Lib.countByte
 rw [aHM]
theorem aPa {s:List UInt8} (c:UInt8) (hs:s.length≤1000000000):Sh.yE s [c]=some (wN c s):=by
 apply Ok.eq
 unfold Sh.yE Sh.wY
 rw [kC]
 have hc:s.count c≤s.length:=List.count_le_length
 simp only [aNi,aBZ,cF,kC,cQ,cV,bD,q9]
 refine ⟨fun h=>by omega,fun _=>⟨fun h=>by simp at h,fun _=>⟨fun _ => ?_,fun h=>by omega⟩⟩⟩
 have hm:(min ((s.count c:Int)+1) ((s.length:Int)+1))=(s.count c:Int)+1:=by omega
 rw [hm]
 refine ⟨⟨by omega,by omega⟩,⟨by omega,by omega⟩,⟨by omega,by omega⟩,⟨by omega,by omega⟩,?_⟩
 refine iN (I:=fun t=>0≤t.2.2∧t.2.2+t.1.count c=s.count c∧t.2.1.length=s.count c+1∧t.2.1.take t.2.2.toNat++wN c t.1=wN c s∧t.1.length≤s.length) (μ:=fun t=>t.1.length) ?_ ⟨by simp,by simp,by simp,by simp,by simp⟩
 rintro ⟨x,l,i⟩ ⟨i0,i1,i2,i3,i4⟩
 dsimp only at i0 i1 i2 i3 i4 ⊢
 have fin:c∉x→Ok (((at_ l i).bind fun aN0=>lt (l.set i.toNat x) fun W5=>gd (dV (i+1)) (gd ((0:Int)≤(i+1)∧(i+1)≤(W5.length:Int)) (lt (W5.take (i+1).toNat) fun aG2=>some aG2)))) (fun a=>a=wN c s):=fun hx=>by
   rw [aMn hx] at i3
   rw [List.count_eq_zero_of_not_mem hx] at i1
   simp only [kC,cQ,cV,bD,q9]
   obtain ⟨z,hz⟩:=wS (l:=l) i0 (by omega)
   refine ⟨i0,z,hz,⟨by omega,by omega⟩,⟨by omega,by rw [List.length_set]; omega⟩,?_⟩
   rw [← i3,show (i+1).toNat=i.toNat+1 by omega,List.take_add_one,List.getElem?_set,if_pos rfl,if_pos (aEy hz),List.take_set_of_le (Nat.le_refl _)]
   simp
 simp only [aBZ,cF,gA,kC,cQ,cV,kJ,bD,q9,aKV] at fin ⊢
 refine ⟨fun hi => ?_,fun hi => ?_⟩
 ·
  have hmem:c∈x:=List.count_pos_iff.1 (by omega)
  obtain ⟨a,b,e,ha⟩:=aKW hmem
  subst e
  rw [aSq b ha]
  have hl:(a++c::b).length=a.length+b.length+1:=by simp; omega
  have hcb:(a++c::b).count c=b.count c+1:=by simp [List.count_eq_zero_of_not_mem ha]
  obtain ⟨z,hz⟩:=wS (l:=l) i0 (by omega)
  refine ⟨fun h=>by omega,fun _=>⟨⟨by omega,by omega⟩,⟨by omega,by omega⟩,i0,z,hz,⟨by simp; omega,by simp; omega⟩,⟨by simp; omega,by simp; omega⟩,⟨by omega,by omega⟩,⟨by omega,?_,by simpa using i2,?_,?_⟩,?_⟩⟩
  ·
   simp only [List.length_cons,List.length_nil]
   rw [show ((a.length:Int)+((0+1:Nat):Int)).toNat=a.length+1 by omega]
   have:(a++c::b).drop (a.length+1)=b:=by simp
   rw [this]; omega
  ·
   simp only [List.length_cons,List.length_nil]
   rw [show ((a.length:Int)+((0+1:Nat):Int)).toNat=a.length+1 by omega,show ((a.length:Int)+0).toNat=a.length by omega]
   have e1:(a++c::b).drop (a.length+1)=b:=by simp
   have e2:(a++c::b).take a.length=a:=by simp
   rw [e1,e2,← i3,aMm b ha,show (i+1).toNat=i.toNat+1 by omega,List.take_add_one,List.getElem?_set,if_pos rfl,if_pos (aEy hz),List.take_set_of_le (Nat.le_refl _)]
   simp
  ·
   simp; omega
  simp; omega
 exact fin fun hm=>by have:=List.count_pos_iff.2 hm; omega
theorem Q6 (c:UInt8) : ∀ (s:List UInt8),∀ y∈wN c s,y.length≤s.length
  | [],y,h=>by simp [wN] at h; simp [h]
  | x::r,y,h=>by
    have ih:=Q6 c r
    unfold wN at h
    split at h
    . rcases List.mem_cons.1 h with q | q
      . simp [q]
      . have:=ih y q; simp; omega
    . split at h
      . have:=List.mem_singleton.1 h; simp [this]
      . next a l hq =>
        rcases List.mem_cons.1 h with q | q
        . have:=ih a (by rw [hq]; simp); simp [q]; omega
        . have:=ih y (by rw [hq]; simp [q]); simp; omega
end Go.S
end

section
namespace Go.S
open Go
def JH (n:Nat):Bool:=decide (97≤n∧n≤122)||decide (48≤n∧n≤57)||decide (n=46)||decide (n=45)||decide (n=95)
theorem aDk : ∀ i:Fin 256,Sh.HD ((i.val:Nat):Int)=some (JH i.val)∧Sh.OZ ((i.val:Nat):Int)=some (JH i.val):=by decide +kernel
theorem aSJ (z:UInt8):Sh.HD (z.toNat:Int)=some (JH z.toNat):=(aDk ⟨z.toNat,z.toNat_lt⟩).1
theorem aP6 (z:UInt8):Sh.OZ (z.toNat:Int)=some (JH z.toNat):=(aDk ⟨z.toNat,z.toNat_lt⟩).2
def HC (s:List UInt8):Bool := !(decide (s=[])||decide (s=[46])||decide (s=[46,46]))&&s.all fun z=>JH z.toNat
theorem GC {α:Type} (p:α→Bool) (l:List α) (z:α):(l++[z]).all p=(l.all p&&p z):=by simp
theorem all_false {α:Type} {p:α→Bool} {l:List α} {z:α} (hz:z∈l) (h:p z=false):l.all p=false:=by
 cases hq:l.all p with
 | false=>rfl
 | true=>rw [List.all_eq_true.1 hq z hz] at h; cases h
theorem aTR {s:List UInt8} (hs:s.length≤1000000000):Sh.HE s=some (HC s):=by
 apply Ok.eq
 unfold Sh.HE HC
 refine gK (fun q=>q=(decide (s=[])||decide (s=[46])||decide (s=[46,46]))) ?_ ?_
 ·
  rintro q rfl
  generalize (decide (s=[])||decide (s=[46])||decide (s=[46,46]))=q
  simp only [cF,bD,cQ,cV]
  refine ⟨fun h=>by rw [h]; rfl,fun h=>⟨by omega,?_⟩⟩
  have hq:q=false:=by simpa using h
  subst hq
  rw [Bool.not_false,Bool.true_and]
  refine iN (I:=fun i=>0≤i∧i≤s.length∧(s.take i.toNat).all (fun z=>JH z.toNat)=true) (μ:=fun i=>(s.length - i).toNat) ?_ ⟨by omega,by omega,by simp⟩
  rintro i ⟨i0,i1,i2⟩
  simp only [cF,gA,kC,cQ,kJ,bD,q9,aSJ]
  refine ⟨fun hi => ?_,fun hi => ?_⟩
  ·
   obtain ⟨z,hz⟩:=wS (l:=s) i0 hi
   refine ⟨i0,z,hz,fun hb => ?_,fun hg=>⟨⟨by omega,by omega⟩,⟨by omega,by omega,?_⟩,by omega⟩⟩
   ·
    exact (all_false (p:=fun z:UInt8=>JH z.toNat) (List.mem_of_getElem? hz) (by simpa using hb)).symm
   rw [vW i0 hz,GC,i2]; simpa using hg
  rw [← i2,show i.toNat=s.length by omega,List.take_length]
 intro K hK
 simp only [cF]
 refine ⟨fun h=>hK _ (by simp [h]),fun h1=>⟨fun h=>hK _ (by simp [h]),fun h2=>hK _ (by simp [h1,h2])⟩⟩
def rK (p:List UInt8):Int:=if 64 < p.length then 4 else if (wN 47 p).all HC then 0 else 5
theorem aB2 (p:List UInt8):Sh.AQ p=some (rK p):=by
 apply Ok.eq
 unfold Sh.AQ rK
 simp only [cF,bD]
 refine ⟨fun h=>by rw [if_pos (by omega)],fun h => ?_⟩
 rw [if_neg (by omega),aPa 47 (by omega),Option.bind_some]
 have hpart:=Q6 47 p
 have hlen:=WB 47 p
 have hcnt:p.count 47≤p.length:=List.count_le_length
 generalize wN 47 p=L at *
 refine iN (I:=fun i=>0≤i∧i≤L.length∧(L.take i.toNat).all HC=true) (μ:=fun i=>(L.length - i).toNat) ?_ ⟨by omega,by omega,by simp⟩
 rintro i ⟨i0,i1,i2⟩
 simp only [cF,gA,kC,cQ,kJ,bD,q9]
 refine ⟨fun hi => ?_,fun hi => ?_⟩
 ·
  obtain ⟨z,hz⟩:=wS (l:=L) i0 hi
  have:=hpart z (List.mem_of_getElem? hz)
  refine ⟨i0,z,hz,Ok.of (aTR (by omega)) ⟨fun hb => ?_,fun hg=>⟨⟨by omega,by omega⟩,⟨by omega,by omega,?_⟩,by omega⟩⟩⟩
  ·
   rw [all_false (List.mem_of_getElem? hz) (by simpa using hb)]; rfl
  rw [vW i0 hz,GC,i2]; simpa using hg
 rw [show i.toNat=L.length by omega,List.take_length] at i2
 rw [i2]; rfl
theorem aPD {s:List UInt8} (hne:s≠[]) (hs:s.length≤4000000):Sh.K5 s=some (wN 47 s):=by
 apply Ok.eq
 unfold Sh.K5
 rw [if_neg hne,cV]
 refine iN (I:=fun t=>0≤t.2∧t.2≤s.length∧t.1=wN 47 (s.take t.2.toNat)) (μ:=fun t=>(s.length - t.2).toNat) ?_ ⟨by simp,by simp,by simp [wN]⟩
 rintro ⟨o,i⟩ ⟨i0,i1,i2⟩
 dsimp only at i0 i1 i2 ⊢
 simp only [aBZ,cF,gA,kC,cQ,cV,kJ,bD,q9]
 refine ⟨fun hi => ?_,fun hi => ?_⟩
 ·
  obtain ⟨z,hz⟩:=wS (l:=s) i0 hi
  obtain ⟨l,y,h1,h2⟩:=aEP 47 z (s.take i.toNat)
  rw [← vW i0 hz] at h2
  rw [← i2] at h1
  have hlen:o.length≤s.length+1:=by
    rw [i2,WB]
    have:(s.take i.toNat).count 47≤(s.take i.toNat).length:=List.count_le_length
    rw [List.length_take] at this; omega
  subst h1
  have hl1:(l++[y]).length=l.length+1:=by simp
  refine ⟨i0,z,hz,fun hb => ?_,fun hb => ?_⟩
  ·
   have hz10:z=47:=(aAO (n:=47) (by decide)).1 hb
   refine ⟨by simp; omega,⟨by omega,by omega⟩,⟨by omega,by omega,?_⟩,by omega⟩
   rw [h2,if_pos hz10]; simp
  have hz10 : ¬ z=47:=fun e=>hb ((aAO (n:=47) (by decide)).2 e)
  have hyl:y.length≤s.length:=by
    have:=Q6 47 (s.take i.toNat) y (by rw [← i2]; simp)
    rw [List.length_take] at this; omega
  rw [aPp]
  refine ⟨⟨by omega,by omega⟩,⟨by omega,by omega⟩,by omega,y,rfl,⟨by omega,by omega⟩,⟨i0,by omega,by omega⟩,?_⟩
  rw [a1P i0 hz]
  refine ⟨by simp; omega,by omega,y,rfl,⟨by omega,by omega⟩,⟨by omega,by omega,?_⟩,by omega⟩
  rw [h2,if_neg hz10,show ((((l++[y]).length:Int) - 1).toNat)=l.length by simp]
  simp
 rw [i2,show i.toNat=s.length by omega,List.take_length]
theorem ZD (p:List UInt8):Sh.DI p=some (rK p):=by
 apply Ok.eq
 unfold Sh.DI rK
 simp only [cF,bD]
 refine ⟨fun h=>by rw [if_pos (by omega)],fun h => ?_⟩
 rw [if_neg (by omega)]
 by_cases hne:p=[]
 ·
  subst hne; exact Ok.of (a:=(5:Int)) rfl rfl
 rw [aPD hne (by omega),Option.bind_some]
 have hpart:=Q6 47 p
 have hlen:=WB 47 p
 have hcnt:p.count 47≤p.length:=List.count_le_length
 generalize wN 47 p=L at *
 rw [if_neg (by omega)]
 refine iN (I:=fun i=>0≤i∧i≤L.length∧(L.take i.toNat).all HC=true) (μ:=fun i=>(L.length - i).toNat) ?_ ⟨by omega,by omega,by simp⟩
 rintro i ⟨i0,i1,i2⟩
 simp only [cF,gA,bD]
 refine ⟨fun hi => ?_,fun hi => ?_⟩
 ·
  obtain ⟨s,hs⟩:=wS (l:=L) i0 hi
  have hsl:=hpart s (List.mem_of_getElem? hs)
  refine gK (fun _=>HC s=true) ?_ ?_
  ·
   intro _ hg
   simp only [cQ,kJ]
   refine ⟨⟨by omega,by omega⟩,⟨by omega,by omega,?_⟩,by omega⟩
   rw [vW i0 hs,GC,i2,hg]; rfl
  intro K hK
  have bad:HC s=false→(5:Int)=if L.all HC=true then 0 else 5:=fun q=>by rw [all_false (List.mem_of_getElem? hs) q]; rfl
  refine gK (fun q=>q=(decide (s=[])||decide (s=[46])||decide (s=[46,46]))) ?_ ?_
  ·
   intro q hq
   simp only [cF,gA,bD]
   refine ⟨fun h=>bad (by unfold HC; rw [← hq,h]; rfl),fun h => ?_⟩
   have hq':q=false:=by simpa using h
   have hP:HC s=s.all fun z=>JH z.toNat:=by unfold HC; rw [← hq,hq']; simp
   refine iN (I:=fun k=>0≤k∧k≤s.length∧(s.take k.toNat).all (fun z=>JH z.toNat)=true) (μ:=fun k=>(s.length - k).toNat) ?_ ⟨by omega,by omega,by simp⟩
   rintro k ⟨k0,k1,k2⟩
   simp only [cF,gA,kC,cQ,kJ,bD,q9,aP6]
   refine ⟨i0,s,hs,fun hk => ?_,fun hk=>hK () ?_⟩
   ·
    obtain ⟨z,hz⟩:=wS (l:=s) k0 hk
    refine ⟨i0,s,hs,k0,z,hz,fun hb=>bad ?_,fun hg=>⟨⟨by omega,by omega⟩,⟨by omega,by omega,?_⟩,by omega⟩⟩
    ·
     rw [hP]; exact all_false (p:=fun z:UInt8=>JH z.toNat) (List.mem_of_getElem? hz) (by simpa using hb)
    rw [vW k0 hz,GC,k2]; simpa using hg
   rw [hP,← k2,show k.toNat=s.length by omega,List.take_length]
  intro K2 hK2
  simp only [cF,kC,q9]
  refine ⟨i0,s,hs,fun h=>hK2 _ (by simp [h]),fun h1=>⟨i0,s,hs,fun h=>hK2 _ (by simp [h]),fun h2=>⟨i0,s,hs,hK2 _ (by simp [h1,h2])⟩⟩⟩
 rw [show i.toNat=L.length by omega,List.take_length] at i2
 rw [i2]; rfl
def Q9 (p d:List UInt8):Bool:=if d=[] then !decide (p=[]) else decide (d.length+1 < p.length∧p.take (d.length+1)=d++[47])
theorem aET {p d:List UInt8} (hd:d.length≤1000000000):Sh.AS p d=some (Q9 p d):=by
 apply Ok.eq
 unfold Sh.AS Q9 Sh.vV Sh.mQ
 simp only [cF,bD,cQ,cV,kC]
 refine ⟨fun h=>by rw [if_pos h],fun h=>⟨⟨by omega,by omega⟩,fun hl=>⟨by simp; omega,?_⟩,fun hl => ?_⟩⟩
 ·
  rw [if_neg h]
  refine ⟨fun hp=>⟨⟨by omega,by simpa using hp⟩,?_⟩,fun hp => ?_⟩
  ·
   simp only [List.length_append,List.length_singleton]
   rw [show (((d.length+1:Nat)):Int).toNat=d.length+1 by omega]
   exact decide_eq_decide.2 ⟨fun q=>⟨by omega,q⟩,fun q=>q.2⟩
  simp at hp; omega
 rw [if_neg h]
 symm; exact decide_eq_false (by omega)
theorem aBk {p d:List UInt8} (hd:d.length≤1000000000):Sh.GR p d=some (Q9 p d):=by
 apply Ok.eq
 unfold Sh.GR Q9
 simp only [cF,bD,cQ,cV,kC,q9]
 refine ⟨fun h=>by rw [if_pos h],fun h=>⟨⟨by omega,by omega⟩,fun hl=>⟨⟨by omega,by omega⟩,fun ht => ?_,fun ht => ?_⟩,fun hl => ?_⟩⟩
 ·
  rw [if_neg h]
  rw [Int.toNat_natCast] at ht
  obtain ⟨z,hz⟩:=wS (l:=p) (i:=d.length) (by omega) (by omega)
  refine ⟨by omega,z,hz,?_⟩
  rw [Int.toNat_natCast] at hz
  rw [List.take_add_one,ht,hz]
  refine decide_eq_decide.2 ⟨fun q=>⟨by omega,?_⟩,fun q => ?_⟩
  ·
   have:z=47:=(aAO (n:=47) (by decide)).1 q
   rw [this]; rfl
  have:=q.2
  simp at this
  rw [this]; rfl
 ·
  rw [if_neg h]
  rw [Int.toNat_natCast] at ht
  symm
  refine decide_eq_false fun q=>ht ?_
  have:=congrArg (List.take d.length) q.2
  rw [List.take_take,Nat.min_eq_left (by omega),List.take_left] at this
  exact this
 rw [if_neg h]
 symm; exact decide_eq_false (by omega)
def qR (a b:List UInt8):Bool:=decide (a≠[])&&decide (b≠[])&&(Q9 a b||Q9 b a)
theorem aD2 {a b:List UInt8} (ha:a.length≤1000000000) (hb:b.length≤1000000000):Sh.AR a b=some (qR a b):=by
 apply Ok.eq
 unfold Sh.AR qR
 simp only [cF,bD,kC,aET ha,aET hb]
 refine ⟨fun h=>by simp [h],fun h=>⟨fun h2=>by simp [h2],fun h2=>⟨fun h3=>by simp [h,h2,h3],fun h3=>by simp [h,h2,h3]⟩⟩⟩
theorem aBh {a b:List UInt8} (ha:a.length≤1000000000) (hb:b.length≤1000000000):Sh.A3 a b=some (qR a b):=by
 apply Ok.eq
 unfold Sh.A3 qR
 simp only [cF,bD,kC,aBk ha,aBk hb]
 refine ⟨fun h=>by simp [h],fun h=>⟨fun h2=>by simp [h2],fun h2=>⟨fun h3=>by simp [h,h2,h3],fun h3=>by simp [h,h2,h3]⟩⟩⟩
end Go.S
end

section
namespace Go.S
open Go
set_option maxRecDepth 100000
theorem aXc (a b:List UInt8):Sh.qE a b=some (if a < b then -1 else if b < a then 1 else 0):=by
 unfold Sh.qE Sh.lH Sh.cmp_isNaN_string
 simp only [Option.bind_some,decide_true,Bool.not_true,Bool.false_eq_true,if_false,Go.Proofs.bytesLess_eq,decide_eq_true_eq]
 by_cases h1:a < b
 ·
  simp [h1]
 simp only [h1,if_false,decide_false,Bool.false_or]
 by_cases h2:a=b
 ·
  subst h2; simp [List.lt_irrefl]
 have h3:b < a:=by
   by_cases q:b < a
   . exact q
   . exact absurd (List.le_antisymm (List.not_lt.1 q) (List.not_lt.1 h1)) h2
 simp [h2,h3]
def R (l:List aZ):Prop:=l.Pairwise (fun a b=>a.path < b.path)
theorem R.sub {l l':List aZ} (h:R l) (s:l'.Sublist l):R l':=List.Pairwise.sublist s h
theorem R.uniq {l:List aZ} (h:R l) {a b:aZ} (ha:a∈l) (hb:b∈l) (e:a.path=b.path):a=b:=by
 obtain ⟨i,hi⟩:=List.getElem?_of_mem ha
 obtain ⟨j,hj⟩:=List.getElem?_of_mem hb
 obtain ⟨hi1,hi2⟩:=List.getElem?_eq_some_iff.1 hi
 obtain ⟨hj1,hj2⟩:=List.getElem?_eq_some_iff.1 hj
 rcases Nat.lt_trichotomy i j with q | q | q
 ·
  have:=List.pairwise_iff_getElem.1 h i j hi1 hj1 q
  rw [hi2,hj2,e] at this
  exact absurd this (List.lt_irrefl _)
 ·
  subst q; rw [← hi2,← hj2]
 have:=List.pairwise_iff_getElem.1 h j i hj1 hi1 q
 rw [hi2,hj2,e] at this
 exact absurd this (List.lt_irrefl _)
theorem R.ext {l l':List aZ} (h:R l) (h':R l') (m : ∀ z,z∈l↔z∈l'):l=l':=by
 have nd : ∀ {l:List aZ},R l→l.Nodup:=fun {l} h=>by
   unfold R at h
   exact List.Pairwise.imp (fun {a b} (q:a.path < b.path) (e:a=b)=>List.lt_irrefl b.path (e▸q)) h
 refine List.Perm.eq_of_pairwise (le:=fun a b=>a.path≤b.path) (fun a b ha hb h1 h2=>h.uniq ha ((m b).2 hb) (List.le_antisymm h1 h2)) (h.imp fun q=>List.le_of_lt q) (h'.imp fun q=>List.le_of_lt q) ((List.perm_ext_iff_of_nodup (nd h) (nd h')).2 m)
structure At (x:List aZ) (p:List UInt8) (i:Int):Prop where
  i0:0≤i
  i1:i≤x.length
  lo : ∀ f∈x.take i.toNat,f.path < p
  hi : ∀ f∈x.drop i.toNat,¬ f.path < p
theorem R.aQQ {x:List aZ} (h:R x) {i:Nat} {z:aZ} (hz:x[i]? = some z) : ∀ f∈x.drop (i+1),z.path < f.path:=fun f hf=>by
  obtain ⟨j,hj⟩:=List.getElem?_of_mem hf
  rw [List.getElem?_drop] at hj
  obtain ⟨a1,a2⟩:=List.getElem?_eq_some_iff.1 hj
  obtain ⟨b1,b2⟩:=List.getElem?_eq_some_iff.1 hz
  have:=List.pairwise_iff_getElem.1 h i (i+1+j) b1 a1 (by omega)
  rwa [a2,b2] at this
theorem Y5 {α:Type} {x:List α} {i:Nat} {z:α} (hz:x[i]? = some z):x.drop i=z::x.drop (i+1):=by
 obtain ⟨b1,b2⟩:=List.getElem?_eq_some_iff.1 hz
 rw [List.drop_eq_getElem_cons b1,b2]
theorem At.none {x:List aZ} {p:List UInt8} {i:Int} (h:R x) (a:At x p i) (hn : ¬ ∃ z,x[i.toNat]? = some z∧z.path=p) : ∀ z∈x,z.path≠p:=fun z hz e=>by
  rw [← List.take_append_drop i.toNat x] at hz
  rcases List.mem_append.1 hz with q | q
  . exact List.lt_irrefl p (e▸a.lo z q)
  . obtain ⟨y,hy⟩ : ∃ y,x[i.toNat]? = some y:=by
      cases hq:x[i.toNat]? with
      | some y=>exact ⟨y,rfl⟩
      | none =>
        have:=List.getElem?_eq_none_iff.1 hq
        rw [List.drop_of_length_le this] at q; cases q
    have hyp:y.path≠p:=fun e'=>hn ⟨y,hy,e'⟩
    rw [Y5 hy] at q
    rcases List.mem_cons.1 q with q | q
    . rw [q] at e; exact hyp e
    . have h1:=h.aQQ hy z q
      rw [e] at h1
      have h2:=a.hi y (by rw [Y5 hy]; exact List.mem_cons_self ..)
      exact h2 h1
end Go.S
end

section
namespace Go.S
open Go
def vF (f:aZ):Prop:=rK f.path=0∧(f.mode=1∨f.mode=2)∧f.data.length≤4096
structure aJ7 (x:List aZ):Prop where
  v : ∀ f∈x,vF f
  r:R x
  c:x.Pairwise (fun a b=>qR a.path b.path=false)
theorem aJ7.sub {l l':List aZ} (h:aJ7 l) (s:l'.Sublist l):aJ7 l':=⟨fun f hf=>h.v f (s.subset hf),h.r.sub s,List.Pairwise.sublist s h.c⟩
theorem aZd (l:List aZ) (f:aZ) (hb:l.length≤1000000000) (hl : ∀ z∈l,z.path.length≤1000000000) (hf:f.path.length≤1000000000):Ok (Sh.iS l f) (fun b=>b=l.any fun y=>qR y.path f.path):=by
 unfold Sh.iS Sh.kZ
 rw [kC]
 refine (aFW (fun y=>qR y.path f.path) l hb (fun y=>Sh.sC y f) (fun y hy => ?_) _ fun i=>rfl).mono fun r hr => ?_
 ·
  unfold Sh.sC
  rw [aD2 (hl y hy) hf]; rfl
 rw [bD,aAg hr]
end Go.S
end

section
namespace Go.S
open Go
end Go.S
end

section
namespace Go.S
open Go
end Go.S
end

section
namespace Go.S
open Go
def toF (f:aZ):eC:=⟨f.path,f.mode,f.data⟩
end Go.S
end

section
namespace Go.S
open Go
def lt2 (a b:aQ):Prop:=a.path < b.path∨a.path=b.path∧a.dJ < b.dJ
def bf (a b:aQ):Bool:=Op.bytesLess a.path b.path||(decide (a.path=b.path)&&decide (a.dJ < b.dJ))
theorem aLV (a b:aQ):bf a b=true↔lt2 a b:=by
 unfold bf lt2
 simp [Go.Proofs.bytesLess_eq]
theorem aTS (a b:List UInt8):Sh.qE a b=some (if a < b then -1 else if b < a then 1 else 0):=by
 unfold Sh.qE Sh.lH Sh.cmp_isNaN_string
 simp only [Option.bind_some,decide_true,Bool.not_true,Bool.false_eq_true,if_false,Go.Proofs.bytesLess_eq,decide_eq_true_eq]
 by_cases h1:a < b
 ·
  simp [h1]
 simp only [h1,if_false,decide_false,Bool.false_or]
 by_cases h2:a=b
 ·
  subst h2; simp [List.lt_irrefl]
 have h3:b < a:=by
   by_cases q:b < a
   . exact q
   . exact absurd (List.le_antisymm (List.not_lt.1 q) (List.not_lt.1 h1)) h2
 simp [h2,h3]
theorem aSk (a b:Int):Sh.uQ a b=some (if a < b then -1 else if b < a then 1 else 0):=by
 unfold Sh.uQ Sh.cmp_isNaN_int
 simp only [Option.bind_some,decide_true,Bool.not_true,Bool.false_eq_true,if_false]
 split
 ·
  rfl
 split <;> rfl
theorem a0K (a b:Int):Sh.EE [a,b]=some (if a=0 then b else a):=by
 apply Ok.eq
 unfold Sh.EE
 refine iN (I:=fun i=>i=0∨a=0∧(i=1∨b=0∧i=2)) (μ:=fun i=>(2 - i).toNat) ?_ (.inl rfl)
 intro i hi
 simp only [cF,gA,kC,cQ,kJ,bD,q9,List.length_cons,List.length_nil]
 rcases hi with rfl | ⟨ha,rfl | ⟨hb,rfl⟩⟩
 ·
  refine ⟨fun _=>⟨by omega,a,rfl,fun h=>⟨⟨by omega,by omega⟩,.inr ⟨h,.inl rfl⟩,by omega⟩,fun h=>by rw [if_neg h]⟩,fun h=>absurd (by omega) h⟩
 ·
  refine ⟨fun _=>⟨by omega,b,rfl,fun h=>⟨⟨by omega,by omega⟩,.inr ⟨ha,.inr ⟨h,rfl⟩⟩,by omega⟩,fun h=>by rw [if_pos ha]⟩,fun h=>absurd (by omega) h⟩
 refine ⟨fun h=>absurd h (by omega),fun _=>by rw [if_pos ha,hb]⟩
theorem aZ3 (a b:aQ) : ∃ n,Sh.xL a b=some n∧(n < 0↔lt2 a b):=by
 unfold Sh.xL
 rw [aTS,Option.bind_some,aSk,Option.bind_some]
 simp only [lt]
 rw [a0K]
 refine ⟨_,rfl,?_⟩
 unfold lt2
 by_cases h1:a.path < b.path
 ·
  simp [h1]
 by_cases h2:b.path < a.path
 ·
  have:a.path≠b.path:=fun e=>List.lt_irrefl _ (e▸h2)
  simp [h1,h2,this]
 have he:a.path=b.path:=List.le_antisymm (List.not_lt.1 h2) (List.not_lt.1 h1)
 have hi : ¬ b.path < b.path:=List.lt_irrefl _
 simp only [he,hi,if_false,if_true,false_or,true_and]
 by_cases h3:a.dJ < b.dJ
 ·
  simp [h3]
 simp only [h3,if_false,iff_false]
 split <;> omega
end Go.S
end

section
namespace Go.S
open Go
def S5 (x:aQ):fD:=⟨x.path,x.dJ,x.mode,x.data,x.time,x.size⟩
end Go.S
end

section
namespace Go.S
open Go
theorem aK6 (x e:aQ):Sh.uZ x e=some (decide (x.path=e.path∧(x.dJ=0∨e.dJ=0))):=by
 unfold Sh.uZ Sh.DZ
 by_cases h1:x.path=e.path
 ·
  by_cases h2:x.dJ=0 <;> simp [h1,h2]
 simp [h1]
end Go.S
end

section
namespace Go.S
open Go
theorem aZe (l:List aQ) (e:aQ) (hb:l.length≤1000000000) (hl : ∀ z∈l,z.path.length≤1000000000) (he:e.path.length≤1000000000):Ok (Sh.gP l e) (fun b=>b=l.any fun y=>qR y.path e.path):=by
 unfold Sh.gP Sh.jM
 rw [kC]
 refine (aFW (fun y=>qR y.path e.path) l hb (fun y=>Sh.xM y e) (fun y hy => ?_) _ fun i=>rfl).mono fun r hr => ?_
 ·
  unfold Sh.xM
  rw [aD2 (hl y hy) he]; rfl
 rw [bD,aAg hr]
theorem aZf (l:List aQ) (e:aQ) (hb:l.length≤1000000000):Ok (Sh.hU l e) (fun b=>b=l.any fun y=>decide (y.path=e.path∧(y.dJ=0∨e.dJ=0))):=by
 unfold Sh.hU Sh.j6
 rw [kC]
 refine (aFW (fun y=>decide (y.path=e.path∧(y.dJ=0∨e.dJ=0))) l hb (fun y=>Sh.uZ y e) (fun y hy=>aK6 y e) _ fun i=>rfl).mono fun r hr => ?_
 rw [bD,aAg hr]
end Go.S
end

section
namespace Go.S
open Go
def I3 (x:List aZ) (i:Int) (z:aZ):Bool:=match x[(i - 1).toNat]? with
  | some y=>decide (0 < i) && !decide (y.path < z.path)
  | none=>false
def pP (z:aZ):Int:=if rK z.path=0 then (if z.mode=1∨z.mode=2 then (if 4096 < z.data.length then 4 else 0) else 1) else rK z.path
def codeF (x:List aZ) (i:Int) (z:aZ):Int:=if pP z=0 then (if I3 x i z=true then 6 else if ((x.take i.toNat).any fun y=>qR y.path z.path)=true then 11 else 0) else pP z
theorem aIy {x:List aZ} {i:Int} {y z:aZ} (h:0 < i) (hy:x[(i - 1).toNat]? = some y):I3 x i z = !decide (y.path < z.path):=by
 unfold I3; rw [hy]; simp [h]
theorem aEI {x:List aZ} {i:Int} {z:aZ} (h : ¬ 0 < i):I3 x i z=false:=by
 unfold I3
 split
 ·
  simp [h]
 rfl
theorem a0N (a b:List UInt8):Ok (Sh.qE a b) fun n=>decide (0≤n) = !decide (a < b):=by
 refine ⟨_,aXc a b,?_⟩
 by_cases h1:a < b
 ·
  simp [h1]
 by_cases h2:b < a <;> simp [h1,h2]
theorem aYW {x:List aZ} (hb:x.length≤4000000) (hl : ∀ z∈x,z.path.length≤1000000000) {i:Int} (i0:0≤i) (hi:i < x.length) {z:aZ} (hz:x[i.toNat]? = some z):Ok (Sh.uU x i) fun e=>e=codeF x i z:=by
 unfold Sh.uU
 have hzm:=List.mem_of_getElem? hz
 rw [eU i0 hz,Option.bind_some,aB2,Option.bind_some]
 have e0 : ∀ v:Int,(rK z.path=0→v=codeF x i z)→(¬ rK z.path=0→v=rK z.path)→v=codeF x i z:=fun v h1 h2=>by
   by_cases h:rK z.path=0
   . exact h1 h
   . rw [h2 h]
     unfold codeF pP
     rw [if_neg h,if_neg h]
 rw [cF]
 refine ⟨fun hc => ?_,fun hc=>bD.2 (e0 _ (fun h=>absurd h hc) fun _=>rfl)⟩
 refine gK (fun b=>b = !decide (z.mode=1∨z.mode=2)) ?_ ?_
 ·
  rintro b rfl
  by_cases hm:z.mode=1∨z.mode=2
  ·
   rw [if_neg (by simp [hm]),cF]
   refine ⟨fun hd=>bD.2 ?_,fun hd => ?_⟩
   ·
    have hcf:pP z=4:=by
      unfold pP
      rw [if_pos hc,if_pos hm,if_pos (show 4096 < z.data.length by omega)]
    unfold codeF
    rw [hcf,if_neg (show ¬ (4:Int)=0 by omega)]
   have hcf:pP z=0:=by
     unfold pP
     rw [if_pos hc,if_pos hm,if_neg (by omega)]
   refine gK (fun b=>b=I3 x i z) ?_ ?_
   ·
    rintro b rfl
    unfold codeF
    rw [if_pos hcf]
    cases ho:I3 x i z with
    | true=>rw [if_pos rfl]; exact bD.2 (by rw [if_pos rfl])
    | false =>
      rw [if_neg (by simp),if_neg (by simp)]
      refine cQ.2 ⟨⟨i0,by omega⟩,cV.2 (kC.2 ((aZd (x.take i.toNat) z (by rw [List.length_take]; omega) (fun y hy=>hl y (List.mem_of_mem_take hy)) (hl z hzm)).mono fun v hv => ?_))⟩
      rw [hv,cF]
      exact ⟨fun q=>bD.2 (by rw [if_pos q]),fun q=>bD.2 (by rw [if_neg q])⟩
   intro K hK
   rw [cF]
   refine ⟨fun hp=>cQ.2 ⟨⟨by omega,by omega⟩,?_⟩,fun hp=>hK _ (aEI hp).symm⟩
   obtain ⟨y,hy⟩:=oI (l:=x) (i:=i - 1) (by omega) (by omega)
   rw [eU (by omega) hy,Option.bind_some]
   refine kC.2 ((a0N y.path z.path).mono fun n hn=>hK _ ?_)
   rw [hn,aIy hp hy]
  rw [if_pos (by simp [hm])]
  refine bD.2 ?_
  have hcf:pP z=1:=by
    unfold pP
    rw [if_pos hc,if_neg hm]
  unfold codeF
  rw [hcf,if_neg (show ¬ (1:Int)=0 by omega)]
 intro K hK
 rw [cF]
 exact ⟨fun h=>hK _ (by simp [h]),fun h=>hK _ (by simp [h])⟩
def aHW (w:List UInt8):Option (Int×Int)→jR
  | none=>jR.nil
  | some (k,c)=>jR.fault w k (jR.no c)
def aEX (w:List UInt8):Option (Int×Int)→bZ
  | none=>⟨[],0⟩
  | some (k,c)=>⟨[⟨w,k⟩],c⟩
def XA {α:Type} (x:List α) (code:Int→α→Int) (r:Option (Int×Int)):Prop :=
  (r=none ∧ ∀ (k:Nat) z,x[k]? = some z→code k z=0) ∨ ∃ (k:Nat) (z:α),r=some ((k:Int),code k z)∧x[k]? = some z∧code k z≠0 ∧ ∀ (j:Nat) y,j < k→x[j]? = some y→code j y=0
theorem XA.uniq {α:Type} {x:List α} {code:Int→α→Int} {r r':Option (Int×Int)} (h:XA x code r) (h':XA x code r'):r=r':=by
 rcases h with ⟨rfl,h⟩ | ⟨k,z,rfl,hz,hc,hj⟩
 ·
  rcases h' with ⟨rfl,_⟩ | ⟨k,z,rfl,hz,hc,_⟩
  ·
   rfl
  exact absurd (h k z hz) hc
 rcases h' with ⟨rfl,h'⟩ | ⟨k',z',rfl,hz',hc',hj'⟩
 ·
  exact absurd (h' k z hz) hc
 rcases Nat.lt_trichotomy k k' with q | q | q
 ·
  exact absurd (hj' k z q hz) hc
 ·
  subst q; rw [hz] at hz'; cases hz'; rfl
 exact absurd (hj k' z' q hz') hc'
theorem XA.loop {α R:Type} {x:List α} (code:Int→α→Int) (B:Int→Option (Int⊕R)) (out:Option (Int×Int)→R)
 (hB : ∀ (i:Int) z,0≤i→i < x.length→x[i.toNat]? = some z→Ok (B i) fun y=>(code i z=0∧y = .inl (i+1))∨(code i z≠0∧y = .inr (out (some (i,code i z)))))
 (hE:B (x.length:Int)=up (some (out none))):Ok (iter B 0) fun e => ∃ r,XA x code r∧e=out r:=by
 refine iN (I:=fun i=>0≤i∧i≤x.length ∧ ∀ (j:Nat) y,(j:Int) < i→x[j]? = some y→code j y=0) (μ:=fun i=>(x.length - i).toNat) ?_ ⟨by omega,by omega,fun j y h=>by omega⟩
 rintro i ⟨i0,i1,i2⟩
 by_cases hi:i < x.length
 ·
  obtain ⟨z,hz⟩:=oI i0 hi
  have ei:((i.toNat:Nat):Int)=i:=by omega
  refine (hB i z i0 hi hz).mono ?_
  rintro y (⟨hc,rfl⟩ | ⟨hc,rfl⟩)
  ·
   refine ⟨⟨by omega,by omega,fun j y hj hy => ?_⟩,by omega⟩
   by_cases q:(j:Int) < i
   ·
    exact i2 j y q hy
   have:j=i.toNat:=by omega
   subst this
   rw [hz] at hy; cases hy
   rw [ei]; exact hc
  refine ⟨_,.inr ⟨i.toNat,z,?_,hz,?_,fun j y hj hy=>i2 j y (by omega) hy⟩,rfl⟩
  ·
   rw [ei]
  rw [ei]; exact hc
 have e:i=x.length:=by omega
 subst e
 rw [hE]
 refine gA.2 (bD.2 ⟨none,.inl ⟨rfl,fun k z hz=>i2 k z ?_ hz⟩,rfl⟩)
 have:=(List.getElem?_eq_some_iff.1 hz).1
 omega
theorem aVR {x:List aZ} (hb:x.length≤4000000) (hl : ∀ z∈x,z.path.length≤1000000000) (h64:x.length≤64):Ok (Sh.jB x) fun e => ∃ r,XA x (codeF x) r∧e=aHW [102,105,108,101] r:=by
 unfold Sh.jB
 rw [if_neg (by omega)]
 refine XA.loop (codeF x) _ (aHW [102,105,108,101]) ?_ ?_
 ·
  intro i z i0 hi hz
  rw [if_pos hi]
  refine kC.2 ((aYW hb hl i0 hi hz).mono fun e he => ?_)
  subst he
  rw [cF]
  exact ⟨fun q=>cQ.2 ⟨⟨by omega,by omega⟩,kJ.2 (.inl ⟨q,rfl⟩)⟩,fun q=>gA.2 (bD.2 (.inr ⟨q,rfl⟩))⟩
 rw [if_neg (by omega)]; rfl
theorem aTz (f:aZ):Sh.DH (⟨f.path,f.mode,f.data⟩:eC)=some (pP f):=by
 have hm:Sh.AY f.mode=some (decide (f.mode=1∨f.mode=2)):=by
   unfold Sh.AY
   by_cases h:f.mode=1 <;> simp [h]
 unfold Sh.DH pP
 rw [ZD,Option.bind_some]
 by_cases hc:rK f.path=0
 ·
  rw [if_pos hc,if_pos hc]
  dsimp only
  rw [hm,Option.bind_some]
  by_cases q:f.mode=1∨f.mode=2
  ·
   rw [if_neg (by simp [q]),if_pos q]
   by_cases d:4096 < f.data.length
   ·
    rw [if_pos (by omega),if_pos d]
   rw [if_neg (by omega),if_neg d]
  rw [if_pos (by simp [q]),if_neg q]
 rw [if_neg hc,if_neg hc]
theorem aUA {x:List aZ} (hl : ∀ z∈x,z.path.length≤4000000) (h64:x.length≤64):Ok (Sh.lX (x.map toF)) fun w => ∃ r,XA x (codeF x) r∧w=aEX [102,105,108,101] r:=by
 unfold Sh.lX
 have hlen:(x.map toF).length=x.length:=List.length_map ..
 simp only [hlen]
 rw [if_neg (by omega)]
 refine XA.loop (codeF x) _ (aEX [102,105,108,101]) ?_ ?_
 ·
  intro i z i0 hi hz
  have hzm:=List.mem_of_getElem? hz
  have hzp:=hl z hzm
  rw [if_pos hi,eU i0 (rM toF hz),Option.bind_some]
  show Ok ((Sh.DH (⟨z.path,z.mode,z.data⟩:eC)).bind _) _
  rw [aTz z,Option.bind_some]
  refine gK (fun e=>e=if pP z=0 then (if I3 x i z=true then 6 else 0) else pP z) ?_ ?_
  ·
   rintro e rfl
   refine gK (fun e=>e=codeF x i z) ?_ ?_
   ·
    rintro e rfl
    rw [cF]
    refine ⟨fun q=>cQ.2 ⟨⟨by omega,by omega⟩,kJ.2 (.inl ⟨q,rfl⟩)⟩,fun q => ?_⟩
    have ea:Sh.sN [102,105,108,101] i (codeF x i z)=some ⟨[⟨[102,105,108,101],i⟩],codeF x i z⟩:=rfl
    rw [ea,Option.bind_some]
    exact gA.2 (bD.2 (.inr ⟨q,rfl⟩))
   intro K hK
   generalize he0:(if pP z=0 then (if I3 x i z=true then 6 else 0) else pP z)=e0
   by_cases h0:e0=0
   ·
    subst h0
    have hcf:pP z=0∧I3 x i z=false:=by
      by_cases q:pP z=0
      . rw [if_pos q] at he0
        cases ho:I3 x i z with
        | false=>exact ⟨q,rfl⟩
        | true=>rw [ho,if_pos rfl] at he0; omega
      . rw [if_neg q] at he0; exact absurd he0 q
    refine iN (I:=fun t=>0≤t.2∧t.2≤i∧((t.1=0 ∧ ∀ y∈x.take t.2.toNat,qR y.path z.path=false)∨(t.1=11∧(x.take i.toNat).any (fun y=>qR y.path z.path)=true))) (μ:=fun t=>(i - t.2).toNat) ?_ ⟨by dsimp only; omega,by dsimp only; omega,.inl ⟨rfl,by simp⟩⟩
    rintro ⟨e,k⟩ ⟨k0,k1,hk2⟩
    dsimp only at k0 k1 hk2 ⊢
    by_cases hk:k < i
    ·
     rw [if_pos hk]
     rcases hk2 with ⟨rfl,hk2⟩ | ⟨rfl,hk2⟩
     ·
      obtain ⟨w,hw⟩:=oI (l:=x) k0 (by omega)
      have hwm:=List.mem_of_getElem? hw
      have hwp:=hl w hwm
      have hcl:Sh.A3 (toF w).path (toF z).path=some (qR w.path z.path):=aBh (a:=w.path) (by omega) (by show z.path.length≤_; omega)
      rw [if_pos rfl]
      refine gK (fun e=>(e=0∧qR w.path z.path=false)∨(e=11∧qR w.path z.path=true)) ?_ ?_
      ·
       rintro e he
       refine cQ.2 ⟨⟨by omega,by omega⟩,kJ.2 ⟨⟨by dsimp only; omega,by dsimp only; omega,?_⟩,by dsimp only; omega⟩⟩
       rcases he with ⟨rfl,hq⟩ | ⟨rfl,hq⟩
       ·
        refine .inl ⟨rfl,fun v hv => ?_⟩
        rw [xJ k0 hw] at hv
        rcases List.mem_append.1 hv with q | q
        ·
         exact hk2 v q
        rw [List.mem_singleton.1 q]; exact hq
       refine .inr ⟨rfl,List.any_eq_true.2 ⟨w,?_,hq⟩⟩
       exact List.mem_of_getElem? (i:=k.toNat) (by rw [List.getElem?_take,if_pos (by omega)]; exact hw)
      intro K2 hK2
      rw [eU k0 (rM toF hw),Option.bind_some,Option.bind_some,hcl,Option.bind_some,cF]
      exact ⟨fun q=>hK2 _ (.inr ⟨rfl,q⟩),fun q=>hK2 _ (.inl ⟨rfl,by simpa using q⟩)⟩
     rw [if_neg (by omega)]
     refine gA.2 (hK _ ?_)
     unfold codeF
     rw [if_pos hcf.1,hcf.2,if_neg (by simp),if_pos hk2]
    have ek:k=i:=by omega
    subst ek
    rw [if_neg hk]
    refine gA.2 (hK _ ?_)
    unfold codeF
    rw [if_pos hcf.1,hcf.2,if_neg (by simp)]
    rcases hk2 with ⟨rfl,hk2⟩ | ⟨rfl,hk2⟩
    ·
     rw [if_neg (by simp; exact fun y hy=>by simpa using hk2 y hy)]
    rw [if_pos hk2]
   refine iN (I:=fun t=>t.1=e0∧t.2=0) (μ:=fun _=>0) ?_ ⟨rfl,rfl⟩
   rintro ⟨e,k⟩ ⟨he,hk⟩
   dsimp only at he hk ⊢
   subst he hk
   have hcd:e=codeF x i z:=by
     unfold codeF
     by_cases q:pP z=0
     . rw [if_pos q] at he0 ⊢
       cases ho:I3 x i z with
       | false=>rw [ho,if_neg (by simp)] at he0; exact absurd he0.symm h0
       | true=>rw [ho,if_pos rfl] at he0; rw [if_pos rfl,he0]
     . rw [if_neg q] at he0 ⊢; exact he0.symm
   rw [cF]
   refine ⟨fun _ => ?_,fun _=>gA.2 (hK _ hcd)⟩
   rw [if_neg h0]
   exact gA.2 (hK _ hcd)
  intro K hK
  refine gK (fun b=>b=(decide (pP z=0)&&I3 x i z)) ?_ ?_
  ·
   rintro b rfl
   rw [cF]
   refine ⟨fun q=>hK _ ?_,fun q=>hK _ ?_⟩
   ·
    simp only [Bool.and_eq_true,decide_eq_true_eq] at q
    rw [if_pos q.1,if_pos q.2]
   by_cases c:pP z=0
   ·
    have:I3 x i z=false:=by simpa [c] using q
    rw [if_pos c,this,if_neg (by simp)]; exact c
   rw [if_neg c]
  intro K2 hK2
  by_cases c:pP z=0
  ·
   rw [if_pos c]
   by_cases hp:0 < i
   ·
    obtain ⟨w,hw⟩:=oI (l:=x) (i:=i - 1) (by omega) (by omega)
    rw [if_pos hp]
    refine cQ.2 ⟨⟨by omega,by omega⟩,?_⟩
    rw [eU (by omega) (rM toF hw),Option.bind_some,Option.bind_some]
    refine hK2 _ ?_
    rw [aIy hp hw]
    show (!Op.bytesLess w.path z.path)=_
    rw [Go.Proofs.bytesLess_eq,decide_eq_true c,Bool.true_and]
   rw [if_neg hp]; exact hK2 _ (by rw [aEI hp]; simp)
  rw [if_neg c]; exact hK2 _ (by simp [c])
 rw [if_neg (by omega)]; rfl
end Go.S
end

section
namespace Go.S
open Go
def RT (x:List aQ) (i:Int) (z:aQ):Bool:=match x[(i - 1).toNat]? with
  | some y=>decide (0 < i) && !bf y z
  | none=>false
def NM (z:aQ):Prop:=0≤z.dJ∧z.dJ≤3∧(z.mode=1∨z.mode=2)∧0≤z.time∧0≤z.size
instance (z:aQ):Decidable (NM z):=inferInstanceAs (Decidable (_∧_))
def rJ (z:aQ):Int:=if rK z.path=0 then (if NM z then (if 4096 < z.data.length then 4 else 0) else 1) else rK z.path
def bsd (z y:aQ):Bool:=decide (y.path=z.path∧(y.dJ=0∨z.dJ=0))
def s5 (x:List aQ) (i:Int) (z:aQ):Int:=if rJ z=0 then (if (RT x i z||(x.take i.toNat).any (bsd z))=true then 6 else if ((x.take i.toNat).any fun y=>qR y.path z.path)=true then 11 else 0) else rJ z
theorem aEH {x:List aQ} {i:Int} {y z:aQ} (h:0 < i) (hy:x[(i - 1).toNat]? = some y):RT x i z = !bf y z:=by
 unfold RT; rw [hy]; simp [h]
theorem aB0 {x:List aQ} {i:Int} {z:aQ} (h : ¬ 0 < i):RT x i z=false:=by
 unfold RT
 split
 ·
  simp [h]
 rfl
theorem aYX {x:List aQ} (hb:x.length≤4000000) (hl : ∀ z∈x,z.path.length≤1000000000) {i:Int} (i0:0≤i) (hi:i < x.length) {z:aQ} (hz:x[i.toNat]? = some z):Ok (Sh.BJ x i) fun e=>e=s5 x i z:=by
 unfold Sh.BJ
 have hzm:=List.mem_of_getElem? hz
 rw [eU i0 hz,Option.bind_some,aB2,Option.bind_some,cF]
 refine ⟨fun hc => ?_,fun hc=>bD.2 ?_⟩
 ·
  refine gK (fun b=>b = !decide (NM z)) ?_ ?_
  ·
   rintro b rfl
   by_cases hm:NM z
   ·
    rw [if_neg (by simp [hm]),cF]
    refine ⟨fun hd=>bD.2 ?_,fun hd => ?_⟩
    ·
     have hcf:rJ z=4:=by unfold rJ; rw [if_pos hc,if_pos hm,if_pos (show 4096 < z.data.length by omega)]
     unfold s5; rw [hcf,if_neg (show ¬ (4:Int)=0 by omega)]
    have hcf:rJ z=0:=by unfold rJ; rw [if_pos hc,if_pos hm,if_neg (by omega)]
    refine gK (fun b=>b=(RT x i z||(x.take i.toNat).any (bsd z))) ?_ ?_
    ·
     rintro b rfl
     unfold s5
     rw [if_pos hcf,cF]
     refine ⟨fun q=>bD.2 (by rw [if_pos q]),fun q=>cQ.2 ⟨⟨i0,by omega⟩,cV.2 (kC.2 ((aZe (x.take i.toNat) z (by rw [List.length_take]; omega) (fun y hy=>hl y (List.mem_of_mem_take hy)) (hl z hzm)).mono fun v hv => ?_))⟩⟩
     rw [if_neg q,hv,cF]
     exact ⟨fun q2=>bD.2 (by rw [if_pos q2]),fun q2=>bD.2 (by rw [if_neg q2])⟩
    intro K hK
    refine gK (fun b=>b=RT x i z) ?_ ?_
    ·
     rintro b rfl
     rw [cF]
     refine ⟨fun q=>hK _ (by rw [q,Bool.true_or]),fun q=>cQ.2 ⟨⟨i0,by omega⟩,cV.2 (kC.2 ((aZf (x.take i.toNat) z (by rw [List.length_take]; omega)).mono fun v hv=>hK _ ?_))⟩⟩
     rw [hv,show RT x i z=false by simpa using q,Bool.false_or]; rfl
    intro K2 hK2
    rw [cF]
    refine ⟨fun hp=>cQ.2 ⟨⟨by omega,by omega⟩,?_⟩,fun hp=>hK2 _ (aB0 hp).symm⟩
    obtain ⟨y,hy⟩:=oI (l:=x) (i:=i - 1) (by omega) (by omega)
    rw [eU (by omega) hy,Option.bind_some]
    obtain ⟨n,hn,hn2⟩:=aZ3 y z
    rw [hn,Option.bind_some]
    refine hK2 _ ?_
    rw [aEH hp hy]
    cases hb:bf y z with
    | true=>have:=hn2.2 ((aLV y z).1 hb); simp; omega
    | false => have : ¬ n < 0:=fun h=>by rw [(aLV y z).2 (hn2.1 h)] at hb; cases hb
               simp; omega
   rw [if_pos (by simp [hm])]
   refine bD.2 ?_
   have hcf:rJ z=1:=by unfold rJ; rw [if_pos hc,if_neg hm]
   unfold s5; rw [hcf,if_neg (show ¬ (1:Int)=0 by omega)]
  intro K hK
  have no : ¬ NM z→Ok (K true) _:=fun h=>hK _ (by simp [h])
  have yes:0≤z.dJ→z.dJ≤3→(z.mode=1∨z.mode=2)→0≤z.time→Ok (K (decide (z.size < 0))) _:=fun a b c d=>hK _ (by
    by_cases e:z.size < 0
    . rw [decide_eq_true e,decide_eq_false (fun h:NM z=>absurd h.2.2.2.2 (by omega))]; rfl
    . rw [decide_eq_false e,decide_eq_true (show NM z from ⟨a,b,c,d,by omega⟩)]; rfl)
  simp only [cF]
  exact ⟨fun q=>no fun h=>absurd h.1 (by omega),fun h1=>⟨fun q=>no fun h=>absurd h.2.1 (by omega),fun h2=>⟨fun hm=>⟨fun q=>no fun h=>absurd h.2.2.2.1 (by omega),fun h3=>yes (by omega) (by omega) (.inl hm) (by omega)⟩,fun hm1=>⟨fun hm=>⟨fun q=>no fun h=>absurd h.2.2.2.1 (by omega),fun h3=>yes (by omega) (by omega) (.inr hm) (by omega)⟩,fun hm2=>no fun h=>by rcases h.2.2.1 with k | k; exact hm1 k; exact hm2 k⟩⟩⟩⟩
 have hcf:rJ z=rK z.path:=by unfold rJ; rw [if_neg hc]
 unfold s5; rw [hcf,if_neg hc]
def aHV:List UInt8:=[101,110,116,114,121]
theorem aVS {x:List aQ} (hb:x.length≤4000000) (hl : ∀ z∈x,z.path.length≤1000000000) (h256:x.length≤256):Ok (Sh.rO x) fun e => ∃ r,XA x (s5 x) r∧e=aHW aHV r:=by
 unfold Sh.rO
 rw [if_neg (by omega)]
 refine XA.loop (s5 x) _ (aHW aHV) ?_ ?_
 ·
  intro i z i0 hi hz
  rw [if_pos hi]
  refine kC.2 ((aYX hb hl i0 hi hz).mono fun e he => ?_)
  subst he
  rw [cF]
  exact ⟨fun q=>cQ.2 ⟨⟨by omega,by omega⟩,kJ.2 (.inl ⟨q,rfl⟩)⟩,fun q=>gA.2 (bD.2 (.inr ⟨q,rfl⟩))⟩
 rw [if_neg (by omega)]; rfl
end Go.S
end

section
namespace Go.S
open Go
theorem aUF (m:Int):Sh.AY m=some (decide (m=1∨m=2)):=by
 unfold Sh.AY
 by_cases h:m=1 <;> simp [h]
theorem aEQ {α:Type} {x:List α} {i k:Int} {w:α} (h:(x.take i.toNat)[k.toNat]? = some w):x[k.toNat]? = some w:=by
 rw [List.getElem?_take] at h
 split at h
 ·
  exact h
 cases h
theorem aLL {α:Type} {p:α→Bool} {l:List α} {k:Nat} {w:α} (h:l[k]? = some w) (hp:p w=true):l.any p=true:=List.any_eq_true.2 ⟨w,List.mem_of_getElem? h,hp⟩
theorem aLK {α:Type} {p:α→Bool} {l:List α} (h : ∀ y∈l,p y=false):l.any p=false:=List.any_eq_false.2 fun y hy=>by rw [h y hy]; simp
theorem aUD {x:List aQ} (hb:x.length≤4000000) (hl : ∀ z∈x,z.path.length≤4000000) {i:Int} (i0:0≤i) (hi:i < x.length) {z:aQ} (hz:x[i.toNat]? = some z):Ok (Sh.HQ (x.map S5) i) fun e=>e=s5 x i z:=by
 unfold Sh.HQ
 have hzm:=List.mem_of_getElem? hz
 have hlen:((x.take i.toNat).length:Int)=i:=by rw [List.length_take]; omega
 rw [eU i0 (rM S5 hz),Option.bind_some]
 show Ok ((Sh.DI z.path).bind _) _
 rw [ZD,Option.bind_some,cF]
 refine ⟨fun hc => ?_,fun hc=>bD.2 ?_⟩
 ·
  refine gK (fun b=>b = !decide (NM z)) ?_ ?_
  ·
   rintro b rfl
   by_cases hm:NM z
   ·
    rw [if_neg (by simp [hm]),cF]
    refine ⟨fun hd=>bD.2 ?_,fun hd => ?_⟩
    ·
     have hd':(4096:Int) < (z.data.length:Int):=hd
     have hcf:rJ z=4:=by unfold rJ; rw [if_pos hc,if_pos hm,if_pos (show 4096 < z.data.length by omega)]
     unfold s5; rw [hcf,if_neg (show ¬ (4:Int)=0 by omega)]
    have hd' : ¬ (4096:Int) < (z.data.length:Int):=hd
    have hcf:rJ z=0:=by unfold rJ; rw [if_pos hc,if_pos hm,if_neg (by omega)]
    refine gK (fun b=>b=RT x i z) ?_ ?_
    ·
     rintro b rfl
     cases ho:RT x i z with
     | true =>
       rw [if_pos rfl]
       refine bD.2 ?_
       unfold s5; rw [if_pos hcf,ho,Bool.true_or,if_pos rfl]
     | false =>
       rw [if_neg (by simp)]
       refine aL4 (x.take i.toNat) (fun y=>bsd z y=false) _ ?_ ?_
       . intro k w k0 hk hw _
         rw [hlen] at hk
         have hw':=aEQ hw
         rw [if_pos hk]
         refine gK (fun b=>b=bsd z w) ?_ ?_
         . rintro b rfl
           rw [cF]
           refine ⟨fun q=>gA.2 (bD.2 (.inr ⟨6,rfl,?_⟩)),fun q=>cQ.2 ⟨⟨by omega,by omega⟩,kJ.2 (.inl ⟨rfl,by simpa using q⟩)⟩⟩
           unfold s5
           rw [if_pos hcf,aLL hw q,Bool.or_true,if_pos rfl]
         . intro K hK
           rw [eU k0 (rM S5 hw'),Option.bind_some,cF]
           refine ⟨fun e1 => ?_,fun e1=>hK _ ?_⟩
           . have e1':w.path=z.path:=e1
             rw [Option.bind_some,cF]
             refine ⟨fun e2=>hK _ ?_,fun e2=>hK _ ?_⟩
             . have e2':w.dJ=0:=e2
               simp [bsd,e1',e2']
             . have e2' : ¬ w.dJ=0:=e2
               show decide (z.dJ=0)=_
               simp [bsd,e1',e2']
           . have e1' : ¬ w.path=z.path:=e1
             simp [bsd,e1']
       . intro hno
         rw [hlen,if_neg (by omega)]
         have hno':=aLK hno
         refine jC ?_
         refine aL4 (x.take i.toNat) (fun y=>qR y.path z.path=false) _ ?_ ?_
         . intro k w k0 hk hw _
           rw [hlen] at hk
           have hw':=aEQ hw
           have hwm:=List.mem_of_getElem? hw'
           have hcl:Sh.A3 (S5 w).path (S5 z).path=some (qR w.path z.path):=aBh (a:=w.path) (by have:=hl w hwm; omega) (by have:=hl z hzm; show z.path.length≤_; omega)
           rw [if_pos hk,eU k0 (rM S5 hw'),Option.bind_some,hcl,Option.bind_some,cF]
           refine ⟨fun q=>gA.2 (bD.2 (.inr ⟨11,rfl,?_⟩)),fun q=>cQ.2 ⟨⟨by omega,by omega⟩,kJ.2 (.inl ⟨rfl,by simpa using q⟩)⟩⟩
           unfold s5
           rw [if_pos hcf,ho,hno',if_neg (by simp),if_pos (aLL (p:=fun y:aQ=>qR y.path z.path) hw q)]
         . intro hn2
           rw [hlen,if_neg (by omega)]
           refine jC (bD.2 ?_)
           unfold s5
           rw [if_pos hcf,ho,hno',if_neg (by simp),aLK (p:=fun y:aQ=>qR y.path z.path) hn2,if_neg (by simp)]
    intro K hK
    rw [cF]
    refine ⟨fun hp=>cQ.2 ⟨⟨by omega,by omega⟩,?_⟩,fun hp=>hK _ (aB0 hp).symm⟩
    obtain ⟨y,hy⟩:=oI (l:=x) (i:=i - 1) (by omega) (by omega)
    have hoy:=aEH (z:=z) hp hy
    rw [eU (by omega) (rM S5 hy),Option.bind_some]
    show Ok (if (!(Op.bytesLess y.path z.path||decide (y.path=z.path)))=true then K true else gd (dV (i - 1)) ((some (S5 y)).bind fun w=>if w.path=z.path then gd (dV (i - 1)) ((some (S5 y)).bind fun v=>K (decide (z.dJ≤v.dJ))) else K false)) _
    rw [cF]
    refine ⟨fun q=>hK _ ?_,fun q=>cQ.2 ⟨⟨by omega,by omega⟩,?_⟩⟩
    ·
     rw [hoy]
     unfold bf
     simp only [Bool.not_eq_true',Bool.or_eq_false_iff] at q
     rw [q.1,q.2]; rfl
    rw [Option.bind_some,cF]
    refine ⟨fun e=>cQ.2 ⟨⟨by omega,by omega⟩,?_⟩,fun e=>hK _ ?_⟩
    ·
     rw [Option.bind_some]
     have e':y.path=z.path:=e
     refine hK _ ?_
     rw [hoy]
     unfold bf
     rw [e',Go.Proofs.bytesLess_eq,decide_eq_false (List.lt_irrefl _)]
     show decide (z.dJ≤y.dJ)=_
     by_cases h:y.dJ < z.dJ
     ·
      simp [h]
     simp [h]; omega
    have e' : ¬ y.path=z.path:=e
    rw [hoy]
    unfold bf
    rw [decide_eq_false e',Bool.or_false] at q
    rw [decide_eq_false e',Bool.false_and,Bool.or_false]
    simpa using q
   rw [if_pos (by simp [hm])]
   refine bD.2 ?_
   have hcf:rJ z=1:=by unfold rJ; rw [if_pos hc,if_neg hm]
   unfold s5; rw [hcf,if_neg (show ¬ (1:Int)=0 by omega)]
  intro K hK
  have no : ¬ NM z→Ok (K true) _:=fun h=>hK _ (by simp [h])
  rw [aUF,Option.bind_some]
  rw [cF]
  refine ⟨fun (q:z.dJ < 0)=>no fun h=>absurd h.1 (by omega),fun (h1 : ¬ z.dJ < 0) => ?_⟩
  rw [cF]
  refine ⟨fun (q:3 < z.dJ)=>no fun h=>absurd h.2.1 (by omega),fun (h2 : ¬ 3 < z.dJ) => ?_⟩
  rw [cF]
  refine ⟨fun q=>no fun h => ?_,fun h3 => ?_⟩
  ·
   have : ¬ ((S5 z).mode=1∨(S5 z).mode=2):=by simpa using q
   exact this h.2.2.1
  have h3':z.mode=1∨z.mode=2:=by
    by_cases k:(S5 z).mode=1∨(S5 z).mode=2
    . exact k
    . exact absurd (by rw [decide_eq_false k]; rfl) h3
  rw [cF]
  refine ⟨fun (q:z.time < 0)=>no fun h=>absurd h.2.2.2.1 (by omega),fun (h4 : ¬ z.time < 0)=>hK _ ?_⟩
  show decide (z.size < 0)=_
  by_cases e:z.size < 0
  ·
   rw [decide_eq_true e,decide_eq_false (fun h:NM z=>absurd h.2.2.2.2 (by omega))]; rfl
  rw [decide_eq_false e,decide_eq_true (show NM z from ⟨by omega,by omega,h3',by omega,by omega⟩)]; rfl
 have hcf:rJ z=rK z.path:=by unfold rJ; rw [if_neg hc]
 unfold s5; rw [hcf,if_neg hc]
theorem aUB {x:List aQ} (hb:x.length≤4000000) (hl : ∀ z∈x,z.path.length≤4000000) (h256:x.length≤256):Ok (Sh.mZ (x.map S5)) fun w => ∃ r,XA x (s5 x) r∧w=aEX aHV r:=by
 unfold Sh.mZ
 have hlen:(x.map S5).length=x.length:=List.length_map ..
 simp only [hlen]
 rw [if_neg (by omega)]
 refine XA.loop (s5 x) _ (aEX aHV) ?_ ?_
 ·
  intro i z i0 hi hz
  rw [if_pos hi]
  refine kC.2 ((aUD hb hl i0 hi hz).mono fun e he => ?_)
  subst he
  rw [cF]
  refine ⟨fun q=>cQ.2 ⟨⟨by omega,by omega⟩,kJ.2 (.inl ⟨q,rfl⟩)⟩,fun q => ?_⟩
  have ea:Sh.sN [101,110,116,114,121] i (s5 x i z)=some ⟨[⟨aHV,i⟩],s5 x i z⟩:=rfl
  rw [ea,Option.bind_some]
  exact gA.2 (bD.2 (.inr ⟨q,rfl⟩))
 rw [if_neg (by omega)]; rfl
end Go.S
end

section
namespace Go.S
open Go
def HA (z:UInt8):Bool:=(decide (97≤z.toNat)&&decide (z.toNat≤122))||(decide (48≤z.toNat)&&decide (z.toNat≤57))||decide (z.toNat=45)
def MM (s:List UInt8):Bool:=match s with | []=>false | z::_=>decide (97≤z.toNat)&&decide (z.toNat≤122)
def vP (s:List UInt8):Bool:=decide (s.length≤32)&&MM s&&s.all HA
theorem ZC (s:List UInt8):Sh.AZ s=some (vP s):=by
 apply Ok.eq
 unfold Sh.AZ
 refine gK (fun x=>x = !(decide (s.length≤32)&&MM s)) ?_ ?_
 ·
  intro x hx
  simp only [cF,bD]
  refine ⟨fun h => ?_,fun h => ?_⟩
  ·
   rw [hx] at h
   unfold vP
   have:(decide (s.length≤32)&&MM s)=false:=by rwa [Bool.not_eq_true'] at h
   rw [this]; rfl
  have hf:(decide (s.length≤32)&&MM s)=true:=by rw [hx] at h; simpa using h
  have hl:s.length≤32:=by
    have:=(Bool.and_eq_true _ _).mp hf
    exact of_decide_eq_true this.1
  unfold vP
  rw [hf,Bool.true_and]
  refine iN (I:=fun i=>0≤i∧i≤s.length∧(s.take i.toNat).all HA=true) (μ:=fun i=>(s.length - i).toNat) ?_ ⟨by omega,by omega,by simp⟩
  rintro i ⟨i0,i1,i2⟩
  simp only [cF,gA,bD]
  refine ⟨fun hi => ?_,fun hi => ?_⟩
  ·
   obtain ⟨z,hz⟩:=wS (l:=s) i0 hi
   refine gK (fun b=>b = !HA z) ?_ ?_
   ·
    intro b hb
    simp only [cF,gA,cQ,kJ,bD]
    refine ⟨fun q => ?_,fun q=>⟨⟨by omega,by omega⟩,⟨by omega,by omega,?_⟩,by omega⟩⟩
    ·
     have hzf:HA z=false:=by rw [hb] at q; simpa using q
     exact (all_false (List.mem_of_getElem? hz) hzf).symm
    have hzt:HA z=true:=by rw [hb] at q; simpa using q
    rw [vW i0 hz,GC,i2,hzt]; rfl
   intro K hK
   rw [kC,q9]
   refine ⟨i0,z,hz,?_⟩
   simp only [cF,kC,q9]
   refine ⟨fun a=>⟨i0,z,hz,fun b=>⟨i0,z,hz,hK _ ?_⟩,fun b=>⟨i0,z,hz,fun d=>⟨i0,z,hz,hK _ ?_⟩,fun d=>hK _ ?_⟩⟩,fun a=>⟨i0,z,hz,fun a2=>⟨i0,z,hz,fun b=>⟨i0,z,hz,hK _ ?_⟩,fun b=>⟨i0,z,hz,fun d=>⟨i0,z,hz,hK _ ?_⟩,fun d=>hK _ ?_⟩⟩,fun a2=>hK _ ?_⟩⟩
   all_goals (unfold HA; rw [Bool.eq_iff_iff]; simp; omega)
  rw [List.take_of_length_le (by omega)] at i2
  exact i2.symm
 intro K hK
 cases s with
 | nil=>simp only [cF]; exact ⟨fun _=>hK _ rfl,fun h=>absurd (by simp) h⟩
 | cons z r =>
   simp only [cF,kC,q9]
   refine ⟨fun h=>absurd h (by simp; omega),fun _=>⟨fun h=>hK _ ?_,fun h=>⟨by omega,z,rfl,fun a=>hK _ ?_,fun a=>⟨by omega,z,rfl,hK _ ?_⟩⟩⟩⟩
   all_goals (simp only [MM]; rw [Bool.eq_iff_iff]; simp at *; omega)
def az (z:UInt8):Bool:=decide (97≤z.toNat)&&decide (z.toNat≤122)
theorem aPq {z:UInt8} (h:az z=true):HA z=true:=by unfold az at h; unfold HA; rw [h]; rfl
theorem aDv {s:List UInt8} (hs:s.length≤1000000000):Sh.xO s=some (vP s):=by
 apply Ok.eq
 unfold Sh.xO
 simp only [cQ,cV]
 refine ⟨by omega,?_⟩
 refine iN (I:=fun i=>0≤i∧i≤s.length∧(s.take i.toNat).all HA=true∧(0 < i→MM s=true)) (μ:=fun i=>(s.length - i).toNat) ?_ ⟨by omega,by omega,by simp,fun h=>absurd h (by omega)⟩
 rintro i ⟨i0,i1,i2,i3⟩
 simp only [cF,gA,bD]
 refine ⟨fun hi => ?_,fun hi => ?_⟩
 ·
  obtain ⟨z,hz⟩:=wS (l:=s) i0 hi
  rw [kC,q9]
  refine ⟨i0,z,hz,?_⟩
  refine gK (fun b=>b = !(if i=0 then az z else HA z)) ?_ ?_
  ·
   intro b hb
   simp only [cF,gA,cQ,kJ,bD]
   refine ⟨fun q => ?_,fun q=>⟨⟨by omega,by omega⟩,⟨by omega,by omega,?_,fun _ => ?_⟩,by omega⟩⟩
   ·
    rw [hb,Bool.not_eq_true'] at q
    unfold vP
    by_cases h0:i=0
    ·
     rw [if_pos h0] at q
     subst h0
     cases s with
     | nil=>cases hz
     | cons y r =>
       obtain rfl:y=z:=by simpa using hz
       have:MM (y::r)=false:=q
       rw [this,Bool.and_false]; rfl
    rw [if_neg h0] at q
    rw [all_false (List.mem_of_getElem? hz) q,Bool.and_false]
   ·
    have q':(if i=0 then az z else HA z)=true:=by rw [hb] at q; simpa using q
    have hzt:HA z=true:=by
      by_cases h0:i=0
      . rw [if_pos h0] at q'; exact aPq q'
      . rw [if_neg h0] at q'; exact q'
    rw [vW i0 hz,GC,i2,hzt]; rfl
   have q':(if i=0 then az z else HA z)=true:=by rw [hb] at q; simpa using q
   by_cases h0:i=0
   ·
    rw [if_pos h0] at q'
    subst h0
    cases s with
    | nil=>cases hz
    | cons y r =>
      obtain rfl:y=z:=by simpa using hz
      exact q'
   exact i3 (by omega)
  intro K hK
  simp only [cF]
  refine ⟨fun a=>⟨fun b=>hK _ ?_,fun b=>⟨fun d=>hK _ ?_,fun d=>⟨fun e=>hK _ ?_,fun e=>hK _ ?_⟩⟩⟩,fun a=>⟨fun a2=>⟨fun b=>hK _ ?_,fun b=>⟨fun d=>hK _ ?_,fun d=>⟨fun e=>hK _ ?_,fun e=>hK _ ?_⟩⟩⟩,fun a2=>hK _ ?_⟩⟩
  all_goals first
    | (rw [if_pos b]; unfold az; rw [Bool.eq_iff_iff]; simp; omega)
    | (rw [if_neg b]; unfold HA; rw [Bool.eq_iff_iff]; simp; omega)
    | (split <;> (first | unfold az | unfold HA) <;> rw [Bool.eq_iff_iff] <;> simp <;> omega)
 rw [List.take_of_length_le (by omega)] at i2
 unfold vP
 rw [i2,Bool.and_true]
 refine ⟨fun h => ?_,fun h => ?_⟩
 ·
  rw [i3 (by omega),Bool.and_true]; exact decide_eq_decide.2 (by omega)
 cases s with
 | nil=>rfl
 | cons y r=>exact absurd (by simp; omega) h
end Go.S
end

section
set_option linter.unusedVariables false
namespace Go.S
open Go Go.V
def LH (w:bZ):Prop:=0≤w.err∧w.err≤14∧Pok w.parts∧w.parts.length≤2∧(w.err=0→w=⟨[],0⟩)
theorem aEW:LH ⟨[],0⟩:=⟨by decide,by decide,(fun p h=>by cases h),by show 0≤2; omega,fun _=>rfl⟩
theorem aCF {c:Int} (h0:1≤c) (h1:c≤14):LH ⟨[],c⟩:=⟨by dsimp only; omega,h1,(fun p h=>by cases h),by show 0≤2; omega,fun h=>by dsimp only at h; omega⟩
theorem TL (p:List UInt8):0≤rK p∧rK p≤14:=by
 unfold rK
 repeat' split
 all_goals omega
theorem aJi (x:List aZ) (k:Int) (z:aZ):0≤codeF x k z∧codeF x k z≤14:=by
 have hp:=TL z.path
 unfold codeF pP
 repeat' split
 all_goals omega
theorem aJj (x:List aQ) (k:Int) (z:aQ):0≤s5 x k z∧s5 x k z≤14:=by
 have hp:=TL z.path
 unfold s5 rJ
 repeat' split
 all_goals omega
theorem aYz (s:List UInt8) {r:Option (Int×Int)} (h : ∀ p c,r=some (p,c)→1≤c):aHW s r=zU (aEX s r):=by
 cases r with
 | none=>rfl
 | some q =>
   have:=h q.1 q.2 rfl
   show jR.fault s q.1 (.no q.2)=zU ⟨[⟨s,q.1⟩],q.2⟩
   unfold zU
   rw [if_neg (by dsimp only; omega)]
   rfl
theorem aMr {s:List UInt8} (hs:s.length≤1000) {r:Option (Int×Int)} (h : ∀ p c,r=some (p,c)→0≤p∧p≤9223372036854775807∧1≤c∧c≤14):LH (aEX s r):=by
 cases r with
 | none=>exact aEW
 | some q =>
   obtain ⟨h1,h2,h3,h4⟩:=h q.1 q.2 rfl
   refine ⟨by show 0≤q.2; omega,h4,fun p hp => ?_,by show 1≤2; omega,fun e => ?_⟩
   . cases List.mem_singleton.1 hp
     exact ⟨hs,h1,h2⟩
   . have:q.2=0:=e
     omega
noncomputable def oE (x:List aZ):bZ:=(Sh.lX (x.map tU)).getD ⟨[],0⟩
noncomputable def ZA (x:List aQ):bZ:=(Sh.mZ (x.map CJ)).getD ⟨[],0⟩
theorem rX {x:List aZ} (hb:x.length≤4000000) (hl : ∀ z∈x,z.path.length≤4000000):Sh.jB x=some (zU (oE x))∧Sh.lX (x.map tU)=some (oE x)∧LH (oE x):=by
 suffices h : ∃ w,Sh.jB x=some (zU w)∧Sh.lX (x.map tU)=some w∧LH w by
   obtain ⟨w,h1,h2,h3⟩:=h
   have e:oE x=w:=by unfold oE; rw [h2]; rfl
   rw [e]; exact ⟨h1,h2,h3⟩
 by_cases h:x.length≤64
 ·
  obtain ⟨e,he,r,hr,rfl⟩:=aVR hb (fun z hz=>by have:=hl z hz; omega) h
  obtain ⟨w,hw,r',hr',rfl⟩:=aUA hl h
  cases hr.uniq hr'
  have hk : ∀ p c,r=some (p,c)→0≤p∧p≤9223372036854775807∧1≤c∧c≤14:=by
    rintro p c rfl
    rcases hr with ⟨q,_⟩ | ⟨k,z,q,hz,hc,_⟩
    . cases q
    . cases q
      have h1:=aJi x k z
      have h2:=(List.getElem?_eq_some_iff.1 hz).1
      omega
  exact ⟨_,by rw [he,aYz _ fun p c q=>(hk p c q).2.2.1],hw,aMr (by decide) hk⟩
 refine ⟨⟨[⟨[102,105,108,101],64⟩],4⟩,?_,?_,aMr (s:=[102,105,108,101]) (r:=some (64,4)) (by decide) (by rintro p c ⟨⟩; omega)⟩
 ·
  unfold Sh.jB
  rw [if_pos (by omega)]; rfl
 unfold Sh.lX
 rw [if_pos (by rw [List.length_map]; omega)]; rfl
theorem aAU {x:List aQ} (hb:x.length≤4000000) (hl : ∀ z∈x,z.path.length≤4000000):Sh.rO x=some (zU (ZA x))∧Sh.mZ (x.map CJ)=some (ZA x)∧LH (ZA x):=by
 suffices h : ∃ w,Sh.rO x=some (zU w)∧Sh.mZ (x.map CJ)=some w∧LH w by
   obtain ⟨w,h1,h2,h3⟩:=h
   have e:ZA x=w:=by unfold ZA; rw [h2]; rfl
   rw [e]; exact ⟨h1,h2,h3⟩
 by_cases h:x.length≤256
 ·
  obtain ⟨e,he,r,hr,rfl⟩:=aVS hb (fun z hz=>by have:=hl z hz; omega) h
  obtain ⟨w,hw,r',hr',rfl⟩:=aUB hb hl h
  cases hr.uniq hr'
  have hk : ∀ p c,r=some (p,c)→0≤p∧p≤9223372036854775807∧1≤c∧c≤14:=by
    rintro p c rfl
    rcases hr with ⟨q,_⟩ | ⟨k,z,q,hz,hc,_⟩
    . cases q
    . cases q
      have h1:=aJj x k z
      have h2:=(List.getElem?_eq_some_iff.1 hz).1
      omega
  exact ⟨_,by rw [he,aYz _ fun p c q=>(hk p c q).2.2.1],hw,aMr (by decide) hk⟩
 refine ⟨⟨[⟨[101,110,116,114,121],256⟩],4⟩,?_,?_,aMr (s:=[101,110,116,114,121]) (r:=some (256,4)) (by decide) (by rintro p c ⟨⟩; omega)⟩
 ·
  unfold Sh.rO
  rw [if_pos (by omega)]; rfl
 unfold Sh.mZ
 rw [if_pos (by rw [List.length_map]; omega)]; rfl
theorem EO {w:bZ}:(zU w).isNil=true↔w.err=0:=by
 unfold zU
 by_cases h:w.err=0
 ·
  rw [if_pos h]; exact ⟨fun _=>h,fun _=>rfl⟩
 rw [if_neg h,(QZ w.parts w.err).1]
 exact ⟨fun q=>(by cases q),fun q=>absurd q h⟩
def fw {α:Type} (f:Int→α→bZ):Int→List α→bZ
  | _,[]=>⟨[],0⟩
  | k,x::r=>if (f k x).err=0 then fw f (k+1) r else f k x
theorem aAh {α:Type} (f:Int→α→bZ) : ∀ (l:List α) (k:Int) (n:Nat),(∀ (j:Nat) y,j < n→l[j]? = some y→(f (k+j) y).err=0)→fw f k l=fw f (k+n) (l.drop n)
  | [],k,n,_=>by rw [List.drop_nil]; rfl
  | x::r,k,0,_=>by simp
  | x::r,k,n+1,h=>by
    have h0:=h 0 x (by omega) rfl
    rw [show k+((0:Nat):Int)=k by omega] at h0
    rw [fw,if_pos h0,aAh f r (k+1) n fun j y hj hy=>by
      have:=h (j+1) y (by omega) hy
      rwa [show k+((j+1:Nat):Int)=k+1+(j:Int) by omega] at this]
    rw [List.drop_succ_cons,show k+1+(n:Int)=k+((n+1:Nat):Int) by omega]
theorem aD5 {α β R:Type} {Q:R→Prop} (f:Int→α→bZ) (l:List α) (b0:β) (B:Int×β→Option ((Int×β)⊕R))
 (h0 : ∀ (i:Int) z b,0≤i→i < l.length→l[i.toNat]? = some z→z∈l→(f i z).err=0→Ok (B (i,b)) (fun y => ∃ b',y = .inl (i+1,b')))
 (h1 : ∀ (i:Int) z b,0≤i→i < l.length→l[i.toNat]? = some z→z∈l→(f i z).err≠0→fw f 0 l=f i z→Ok (B (i,b)) (Up Q))
 (hE : ∀ b,(∀ (j:Nat) y,l[j]? = some y→(f j y).err=0)→fw f 0 l=⟨[],0⟩→Ok (B ((l.length:Int),b)) (Up Q)):Ok (iter B (0,b0)) Q:=by
 refine iN (I:=fun t=>0≤t.1∧t.1≤l.length ∧ ∀ (j:Nat) y,(j:Int) < t.1→l[j]? = some y→(f j y).err=0) (μ:=fun t=>(l.length - t.1).toNat) ?_ ⟨by dsimp only; omega,by dsimp only; omega,fun j y h=>by dsimp only at h; omega⟩
 rintro ⟨i,b⟩ ⟨i0,i1,i2⟩
 dsimp only at i0 i1 i2 ⊢
 have hd:=aAh f l 0 i.toNat fun j y hj hy=>by rw [Int.zero_add]; exact i2 j y (by omega) hy
 rw [show (0:Int)+(i.toNat:Int)=i by omega] at hd
 by_cases hi:i < l.length
 ·
  obtain ⟨z,hz⟩:=oI i0 hi
  have hzm:=List.mem_of_getElem? hz
  have hc:l.drop i.toNat=z::l.drop (i.toNat+1):=by
    obtain ⟨q,e⟩:=List.getElem?_eq_some_iff.1 hz
    rw [List.drop_eq_getElem_cons q,e]
  by_cases hf:(f i z).err=0
  ·
   refine (h0 i z b i0 hi hz hzm hf).mono ?_
   rintro y ⟨b',rfl⟩
   refine ⟨⟨by dsimp only; omega,by dsimp only; omega,fun j y hj hy => ?_⟩,by dsimp only; omega⟩
   dsimp only at hj
   by_cases q:(j:Int) < i
   ·
    exact i2 j y q hy
   have:j=i.toNat:=by omega
   subst this
   rw [hz] at hy; cases hy
   rw [show ((i.toNat:Nat):Int)=i by omega]; exact hf
  refine (h1 i z b i0 hi hz hzm hf (by rw [hd,hc,fw,if_neg hf])).mono ?_
  rintro y ⟨r,rfl,hr⟩
  exact hr
 have e:i=l.length:=by omega
 subst e
 refine (hE b (fun j y hy=>i2 j y (by have:=(List.getElem?_eq_some_iff.1 hy).1; omega) hy) (by rw [hd,List.drop_of_length_le (by omega)]; rfl)).mono ?_
 rintro y ⟨r,rfl,hr⟩
 exact hr
theorem C0 {α R:Type} {Q:R→Prop} (f:Int→α→bZ) (l:List α) (B:Int→Option (Int⊕R))
 (h0 : ∀ (i:Int) z,0≤i→i < l.length→l[i.toNat]? = some z→z∈l→(f i z).err=0→Ok (B i) (Nx (i+1)))
 (h1 : ∀ (i:Int) z,0≤i→i < l.length→l[i.toNat]? = some z→z∈l→(f i z).err≠0→fw f 0 l=f i z→Ok (B i) (Up Q))
 (hE:(∀ (j:Nat) y,l[j]? = some y→(f j y).err=0)→fw f 0 l=⟨[],0⟩→Ok (B (l.length:Int)) (Up Q)):Ok (iter B 0) Q:=by
 refine iN (I:=fun t=>0≤t∧t≤l.length ∧ ∀ (j:Nat) y,(j:Int) < t→l[j]? = some y→(f j y).err=0) (μ:=fun t=>(l.length - t).toNat) ?_ ⟨by omega,by omega,fun j y h=>by omega⟩
 rintro i ⟨i0,i1,i2⟩
 have hd:=aAh f l 0 i.toNat fun j y hj hy=>by rw [Int.zero_add]; exact i2 j y (by omega) hy
 rw [show (0:Int)+(i.toNat:Int)=i by omega] at hd
 by_cases hi:i < l.length
 ·
  obtain ⟨z,hz⟩:=oI i0 hi
  have hzm:=List.mem_of_getElem? hz
  have hc:l.drop i.toNat=z::l.drop (i.toNat+1):=by
    obtain ⟨q,e⟩:=List.getElem?_eq_some_iff.1 hz
    rw [List.drop_eq_getElem_cons q,e]
  by_cases hf:(f i z).err=0
  ·
   refine (h0 i z i0 hi hz hzm hf).mono ?_
   rintro y hy
   cases hy
   refine ⟨⟨by omega,by omega,fun j y hj hy => ?_⟩,by omega⟩
   by_cases q:(j:Int) < i
   ·
    exact i2 j y q hy
   have:j=i.toNat:=by omega
   subst this
   rw [hz] at hy; cases hy
   rw [show ((i.toNat:Nat):Int)=i by omega]; exact hf
  refine (h1 i z i0 hi hz hzm hf (by rw [hd,hc,fw,if_neg hf])).mono ?_
  rintro y ⟨r,rfl,hr⟩
  exact hr
 have e:i=l.length:=by omega
 subst e
 refine (hE (fun j y hy=>i2 j y (by have:=(List.getElem?_eq_some_iff.1 hy).1; omega) hy) (by rw [hd,List.drop_of_length_le (by omega)]; rfl)).mono ?_
 rintro y ⟨r,rfl,hr⟩
 exact hr
theorem aAi {α:Type} {f:Int→α→bZ} : ∀ {l:List α} {k:Int},(∀ j,∀ x∈l,LH (f j x))→LH (fw f k l)
  | [],_,_=>aEW
  | x::r,k,h=>by
    rw [fw]
    split
    . exact aAi fun j y hy=>h j y (List.mem_cons_of_mem _ hy)
    . exact h k x (List.mem_cons_self ..)
end Go.S
end

section
set_option linter.unusedVariables false
namespace Go.S
open Go Go.V
theorem a1K (a b:List UInt8) : ∃ v,Sh.lH a b=some v∧(0≤v ↔ ¬ a < b):=by
 unfold Sh.lH Sh.cmp_isNaN_string
 rw [Option.bind_some,Option.bind_some,if_neg (by simp),if_neg (by simp),Go.Proofs.bytesLess_eq]
 by_cases h:a < b
 ·
  rw [if_pos (by simp [h])]
  exact ⟨_,rfl,by simp [h]⟩
 rw [if_neg (by simp [h])]
 by_cases g:a=b
 ·
  rw [if_neg (by simp [g])]
  exact ⟨_,rfl,by simp [h]⟩
 rw [if_pos (by simp [h,g])]
 exact ⟨_,rfl,by simp [h]⟩
theorem aZz {a b c:List UInt8} (h:a < b) (g:b < c):a < c:=by
 haveI:Trans (fun a b:UInt8=>a < b) (fun a b=>a < b) (fun a b=>a < b):=⟨fun h g=>UInt8.lt_trans h g⟩
 exact List.lt_trans h g
def aFl:List UInt8:=[115,116,97,116,101]
theorem a0D {c:Int} (h:c≠0):zU ⟨[],c⟩ = .no c:=by unfold zU; rw [if_neg h]; rfl
def RU (l:List dI) (i:Int) (z:dI):Bool:=match l[(i - 1).toNat]? with
  | some y=>decide (0 < i) && !decide (y.name < z.name)
  | none=>false
def zA (n:Int) (l:List dI) (i:Int) (z:dI):bZ:=if vP z.name=true then (if RU l i z=true then ⟨[],6⟩ else if z.cB < 1∨n < z.cB then ⟨[],1⟩ else ⟨[],0⟩) else ⟨[],5⟩
theorem X0 {x:List dI} {i:Int} {y z:dI} (h:0 < i) (hy:x[(i - 1).toNat]? = some y):RU x i z = !decide (y.name < z.name):=by
 unfold RU; rw [hy]; simp [h]
theorem aB1 {x:List dI} {i:Int} {z:dI} (h : ¬ 0 < i):RU x i z=false:=by
 unfold RU
 split
 ·
  simp [h]
 rfl
theorem aFG (s:eP) (c:Int):Sh.vU s c=some (!decide (c < 1∨(s.aK.length:Int) < c)):=by
 unfold Sh.vU
 by_cases h:1≤c
 ·
  rw [if_pos h]
  congr 1
  by_cases g:c≤(s.aK.length:Int)
  ·
   rw [decide_eq_true g,decide_eq_false (by omega)]; rfl
  rw [decide_eq_false g,decide_eq_true (by omega)]; rfl
 rw [if_neg h,decide_eq_true (by omega)]; rfl
theorem aXa {s:eP} (hl:s.bB.length≤4000000) (hn : ∀ z∈s.bB,z.name.length≤4000000):Sh.A7 s=some (fw (zA s.aK.length s.bB) 0 s.bB).err:=by
  apply Ok.eq
  unfold Sh.A7
  have step : ∀ (i:Int) z,0≤i→i < s.bB.length→s.bB[i.toNat]? = some z→z∈s.bB → ∀ {Q:(Int⊕Int)→Prop},((zA s.aK.length s.bB i z).err=0→Q (.inl (i+1)))→((zA s.aK.length s.bB i z).err≠0→Q (.inr (zA s.aK.length s.bB i z).err)) →
      Ok (if i < (s.bB.length:Int) then ((at_ s.bB i).bind (fun yJ =>
 (Sh.xO yJ.name).bind (fun H8 =>
 if (!H8)=true then (up (some 5))
 else (jn (fun (JU:Bool) =>
 if JU=true then (up (some 6))
 else ((Sh.vU s yJ.cB).bind (fun WX =>
 if (!WX)=true then (up (some 1))
 else (gd (dV (i+1)) (
 go (i+1)))))) (fun k7=>if 0 < i then (gd (dV (i - 1)) (
 (at_ s.bB (i - 1)).bind (fun aDH =>
 (Sh.lH aDH.name yJ.name).bind (fun CN =>
 k7 (decide (0≤CN))))))
 else (k7 false))))))
 else (up (some 0))) Q:=fun i z i0 hi hz hm Q q0 q1=>by
    rw [if_pos hi,eU i0 hz,Option.bind_some,aDv (by have:=hn z hm; omega),Option.bind_some]
    have er:zA s.aK.length s.bB i z=if vP z.name=true then (if RU s.bB i z=true then ⟨[],6⟩ else if z.cB < 1∨(s.aK.length:Int) < z.cB then ⟨[],1⟩ else ⟨[],0⟩) else ⟨[],5⟩:=rfl
    rw [er] at q0 q1
    cases hg:vP z.name with
    | false =>
      rw [hg,if_neg (by simp)] at q0 q1
      exact cF.2 ⟨fun _=>gA.2 (bD.2 (q1 (by decide))),fun q=>absurd rfl q⟩
    | true =>
      rw [hg,if_pos rfl] at q0 q1
      refine cF.2 ⟨fun q=>(by cases q),fun _ => ?_⟩
      refine gK (fun c=>c=RU s.bB i z) (fun c hc => ?_) (fun K hK => ?_)
      . subst hc
        cases ho:RU s.bB i z with
        | true =>
          rw [ho,if_pos rfl] at q0 q1
          exact cF.2 ⟨fun _=>gA.2 (bD.2 (q1 (by decide))),fun q=>absurd rfl q⟩
        | false =>
          rw [ho,if_neg (by simp)] at q0 q1
          rw [if_neg (by simp),aFG,Option.bind_some]
          by_cases hc:z.cB < 1∨(s.aK.length:Int) < z.cB
          . rw [if_pos hc] at q0 q1
            rw [if_pos (by simp [hc])]
            exact gA.2 (bD.2 (q1 (by decide)))
          . rw [if_neg hc] at q0 q1
            rw [if_neg (by simp [hc])]
            exact cQ.2 ⟨⟨by omega,by omega⟩,kJ.2 (q0 rfl)⟩
      . refine cF.2 ⟨fun hp=>cQ.2 ⟨⟨by omega,by omega⟩,?_⟩,fun hp=>hK _ (aB1 hp).symm⟩
        obtain ⟨y,hy⟩:=oI (l:=s.bB) (i:=i - 1) (by omega) (by omega)
        obtain ⟨v,hv,hv2⟩:=a1K y.name z.name
        rw [eU (by omega) hy,Option.bind_some,hv,Option.bind_some]
        refine hK _ ?_
        rw [X0 hp hy,decide_eq_decide.2 hv2,decide_not]
  refine C0 (zA s.aK.length s.bB) s.bB _ (fun i z i0 hi hz hm h => ?_) (fun i z i0 hi hz hm h e => ?_) (fun _ e => ?_)
  . exact step i z i0 hi hz hm (fun _=>rfl) (fun q=>absurd h q)
  . exact step i z i0 hi hz hm (fun q=>absurd q h) (fun _=>⟨_,rfl,by rw [e]⟩)
  . rw [if_neg (by omega),e]
    exact jC (bD.2 rfl)
def atC (l:List dI) (name:List UInt8):Int:=match l.find? (fun r=>decide (r.name=name)) with
  | some r=>r.cB
  | none=>0
theorem Y6 {α:Type} {p:α→Bool} : ∀ {l:List α} {k:Nat} {z:α},l[k]? = some z→p z=true→(∀ (j:Nat) y,j < k→l[j]? = some y→p y=false)→l.find? p=some z
  | [],_,_,h,_,_=>by simp at h
  | x::r,0,z,h,hp,_=>by
    simp at h; subst h
    rw [List.find?_cons,hp]
  | x::r,k+1,z,h,hp,hj=>by
    have h0:=hj 0 x (by omega) rfl
    rw [List.find?_cons,h0]
    exact Y6 (l:=r) h hp fun j y q hy=>hj (j+1) y (by omega) hy
theorem a1Q {l:List dI} (hl:l.length≤4000000) (name:List UInt8):Sh.LB l name=some (atC l name):=by
 apply Ok.eq
 unfold Sh.LB
 have h:Ok (Sh.jN l name) (fun i=>(i = -1∧l.find? (fun r=>decide (r.name=name))=none) ∨ ∃ (k:Nat) (z:dI),i=(k:Int)∧l[k]? = some z∧l.find? (fun r=>decide (r.name=name))=some z):=by
   unfold Sh.jN
   refine iN (I:=fun i=>0≤i∧i≤l.length ∧ ∀ (j:Nat) y,(j:Int) < i→l[j]? = some y→decide (y.name=name)=false) (μ:=fun i=>(l.length - i).toNat) ?_ ⟨by omega,by omega,fun j y h=>by omega⟩
   rintro i ⟨i0,i1,i2⟩
   by_cases hi:i < l.length
   . obtain ⟨z,hz⟩:=oI i0 hi
     unfold Sh.I7
     rw [if_pos hi,eU i0 hz,Option.bind_some,Option.bind_some]
     by_cases e:z.name=name
     . rw [if_pos (by simp [e])]
       exact gA.2 (bD.2 (.inr ⟨i.toNat,z,by omega,hz,Y6 hz (by simp [e]) fun j y q hy=>i2 j y (by omega) hy⟩))
     . rw [if_neg (by simp [e])]
       refine cQ.2 ⟨⟨by omega,by omega⟩,kJ.2 ⟨⟨by omega,by omega,fun j y q hy => ?_⟩,by omega⟩⟩
       by_cases q2:(j:Int) < i
       . exact i2 j y q2 hy
       . have:j=i.toNat:=by omega
         subst this
         rw [hz] at hy; cases hy
         simp [e]
   . rw [if_neg hi]
     refine gA.2 (bD.2 (.inl ⟨rfl,List.find?_eq_none.2 fun y hy => ?_⟩))
     obtain ⟨j,hj⟩:=List.getElem?_of_mem hy
     rw [i2 j y (by have:=(List.getElem?_eq_some_iff.1 hj).1; omega) hj]
     simp
 refine kC.2 (h.mono ?_)
 rintro i (⟨rfl,e⟩ | ⟨k,z,rfl,hz,e⟩)
 ·
  rw [if_pos (by omega)]
  exact bD.2 (by unfold atC; rw [e])
 rw [if_neg (by omega),eU (by omega) (by rw [Int.toNat_natCast]; exact hz),Option.bind_some]
 exact bD.2 (by unfold atC; rw [e])
def C7 (n:Int) (refs:List dI) (hb:List UInt8) (hc:Int):Int:=if hb=[] then (if hc < 1∨n < hc then 1 else 0) else if vP hb=true then (if hc=atC refs hb then 0 else 1) else 5
theorem aX8 {s:eP} (hl:s.bB.length≤4000000) (hn:s.aR.length≤4000000):Sh.A6 s=some (C7 s.aK.length s.bB s.aR s.bA):=by
 apply Ok.eq
 unfold Sh.A6 C7
 by_cases hb:s.aR=[]
 ·
  simp only [hb,if_true]
  rw [aFG]
  refine gK (fun c=>c=decide (s.bA < 1∨(s.aK.length:Int) < s.bA)) (fun c hc => ?_) (fun K hK => ?_)
  ·
   subst hc
   by_cases g:s.bA < 1∨(s.aK.length:Int) < s.bA
   ·
    rw [if_pos (by simp [g]),if_pos g]; exact bD.2 rfl
   rw [if_neg (by simp [g]),if_neg g]; exact bD.2 rfl
  rw [Option.bind_some]
  exact hK _ (by simp)
 rw [if_neg hb]
 refine gK (fun c=>c=false) (fun c hc => ?_) (fun K hK => ?_)
 ·
  subst hc
  rw [if_neg (by simp),if_neg hb,aDv (by omega),Option.bind_some]
  cases hg:vP s.aR with
  | false=>rw [if_pos (by simp),if_neg (by simp)]; exact bD.2 rfl
  | true =>
    rw [if_neg (by simp),if_pos rfl,a1Q hl,Option.bind_some]
    by_cases e:s.bA=atC s.bB s.aR
    . rw [if_pos e,if_pos e]; exact bD.2 rfl
    . rw [if_neg e,if_neg e]; exact bD.2 rfl
 rw [if_neg hb]
 exact hK _ rfl
def XN (i:Int) (l:List Int):bZ:=if 2 < l.length∨(l.any fun x=>decide (x < 1∨i < x))=true then ⟨[],1⟩ else if l.length=2∧l[0]? = l[1]? then ⟨[],6⟩ else ⟨[],0⟩
def grC (g:List (List Int)):Int:=if 1024 < g.length then 4 else (fw XN 0 g).err
theorem aIz {l:List Int} (hl:l.length≤200000000) (i:Int) (i0:0≤i):Sh.l6 l (i+1)=some (l.any fun x=>decide (x < 1∨i < x)):=by
 apply Ok.eq
 unfold Sh.l6
 have h:Ok (Sh.nP l (i+1)) (fun v=>decide (0≤v)=l.any fun x=>decide (x < 1∨i < x)):=by
   unfold Sh.nP
   refine iN (I:=fun k=>0≤k∧k≤l.length∧((l.take k.toNat).any fun x=>decide (x < 1∨i < x))=false) (μ:=fun k=>(l.length - k).toNat) ?_ ⟨by omega,by omega,by simp⟩
   rintro k ⟨k0,k1,k2⟩
   by_cases hk:k < l.length
   . obtain ⟨z,hz⟩:=oI k0 hk
     have e1:Sh.xK z (i+1)=some (decide (z < 1∨i < z)):=by
       unfold Sh.xK
       by_cases h1:z < 1
       . rw [if_pos h1]; simp [h1]
       . rw [if_neg h1]
         congr 1
         by_cases h2:i < z
         . simp [h2]; omega
         . simp [h1,h2]; omega
     rw [if_pos hk,eU k0 hz,Option.bind_some,e1,Option.bind_some]
     by_cases e:z < 1∨i < z
     . rw [if_pos (by simp [e])]
       refine gA.2 (bD.2 ?_)
       show decide (0≤k)=_
       rw [decide_eq_true k0]
       exact (List.any_eq_true.2 ⟨z,List.mem_of_getElem? hz,by simp [e]⟩).symm
     . rw [if_neg (by simp [e])]
       refine cQ.2 ⟨⟨by omega,by omega⟩,kJ.2 ⟨⟨by omega,by omega,?_⟩,by omega⟩⟩
       rw [xJ k0 hz,List.any_append,k2]
       simp
       omega
   . rw [List.take_of_length_le (by omega)] at k2
     rw [if_neg hk,k2]
     exact gA.2 (bD.2 rfl)
 exact kC.2 (h.mono fun v hv=>bD.2 hv)
theorem aEJ {l:List Int} (hl:l.length≤200000000) (i:Int) (i0:0≤i):Sh.BI (i+1) l=some (XN i l).err:=by
 apply Ok.eq
 unfold Sh.BI XN
 refine gK (fun c=>c=decide (2 < l.length∨(l.any fun x=>decide (x < 1∨i < x))=true)) (fun c hc => ?_) (fun K hK => ?_)
 ·
  subst hc
  by_cases h1:2 < l.length∨(l.any fun x=>decide (x < 1∨i < x))=true
  ·
   rw [if_pos (by simp only [decide_eq_true_eq]; exact h1),if_pos h1]; exact bD.2 rfl
  rw [if_neg (by simp only [decide_eq_true_eq]; exact h1),if_neg h1]
  refine gK (fun c=>c=decide (l.length=2∧l[0]? = l[1]?)) (fun c hc => ?_) (fun K hK => ?_)
  ·
   subst hc
   by_cases h2:l.length=2∧l[0]? = l[1]?
   ·
    rw [if_pos (decide_eq_true h2),if_pos h2]; exact bD.2 rfl
   rw [if_neg (by simp only [decide_eq_true_eq]; exact h2),if_neg h2]; exact bD.2 rfl
  refine cF.2 ⟨fun h2 => ?_,fun h2=>hK _ (by symm; rw [decide_eq_false_iff_not]; intro q; omega)⟩
  obtain ⟨a,ha⟩:=oI (l:=l) (i:=0) (by omega) (by omega)
  obtain ⟨b,hb⟩:=oI (l:=l) (i:=1) (by omega) (by omega)
  rw [eU (by omega) ha,Option.bind_some,eU (by omega) hb,Option.bind_some]
  refine hK _ ?_
  have ha':l[0]? = some a:=ha
  have hb':l[1]? = some b:=hb
  rw [ha',hb',decide_eq_decide]
  exact ⟨fun e=>⟨by omega,by rw [e]⟩,fun e=>by have:=e.2; cases this; rfl⟩
 refine cF.2 ⟨fun h=>hK _ (by symm; rw [decide_eq_true_iff]; left; omega),fun h => ?_⟩
 rw [aIz hl i i0,Option.bind_some]
 refine hK _ ?_
 cases hv:(l.any fun x=>decide (x < 1∨i < x)) with
 | true=>simp
 | false=>symm; rw [decide_eq_false_iff_not]; rintro (q | q); omega; cases q
theorem aTN {g:List (List Int)} (hg:g.length≤200000000) (hl : ∀ l∈g,l.length≤200000000):Sh.sH g=some (grC g):=by
 apply Ok.eq
 unfold Sh.sH grC
 refine cF.2 ⟨fun h=>bD.2 (by rw [if_pos (by omega)]),fun h => ?_⟩
 rw [if_neg (by omega)]
 refine C0 XN g _ (fun i z i0 hi hz hm h0 => ?_) (fun i z i0 hi hz hm h0 e => ?_) (fun _ e => ?_)
 ·
  rw [if_pos hi,eU i0 hz,Option.bind_some]
  refine cQ.2 ⟨⟨by omega,by omega⟩,?_⟩
  rw [aEJ (hl z hm) i i0,Option.bind_some,if_pos h0]
  exact oR ⟨by omega,by omega⟩ rfl
 ·
  rw [if_pos hi,eU i0 hz,Option.bind_some]
  refine cQ.2 ⟨⟨by omega,by omega⟩,?_⟩
  rw [aEJ (hl z hm) i i0,Option.bind_some,if_neg h0]
  exact jC (bD.2 (by rw [e]))
 rw [if_neg (by omega),e]
 exact jC (bD.2 rfl)
theorem aTx {g:List (List Int)} (hg:g.length≤200000000) (hl : ∀ l∈g,l.length≤200000000):Sh.HR g=some (grC g):=by
  apply Ok.eq
  unfold Sh.HR grC
  refine cF.2 ⟨fun h=>bD.2 (by rw [if_pos (by omega)]),fun h => ?_⟩
  rw [if_neg (by omega)]
  have step : ∀ (i:Int) z,0≤i→i < g.length→g[i.toNat]? = some z→z∈g → ∀ {Q:(Int⊕Int)→Prop},((XN i z).err=0→Q (.inl (i+1)))→((XN i z).err≠0→Q (.inr (XN i z).err)) →
      Ok (if i < (g.length:Int) then (jn (fun (_:Unit) =>
 gd (dV (i+1)) (
 go (i+1))) (fun k2=>(at_ g i).bind (fun TB =>
 if 2 < (TB.length:Int) then (up (some 1))
 else (iter (fun (AP:Int) =>
 (at_ g i).bind (fun CO =>
 if AP < (CO.length:Int) then (jn (fun (JV:Bool) =>
 if JV=true then (up (up (some 1)))
 else (gd (dV (AP+1)) (
 go (AP+1)))) (fun k7=>(at_ g i).bind (fun TD =>
 (at_ TD AP).bind (fun aGm =>
 if aGm < 1 then (k7 true)
 else ((at_ g i).bind (fun NG =>
 (at_ NG AP).bind (fun W6 =>
 k7 (decide (i < W6)))))))))
 else (up (jn (fun (D9:Bool) =>
 if D9=true then (up (some 6))
 else (k2 ())) (fun k13=>(at_ g i).bind (fun RE =>
 if (RE.length:Int)=2 then ((at_ g i).bind (fun NI =>
 (at_ NI 0).bind (fun W8 =>
 (at_ g i).bind (fun NK =>
 (at_ NK 1).bind (fun W9 =>
 k13 (decide (W8=W9)))))))
 else (k13 false))))))) 0))))
 else (up (some 0))) Q:=fun i z i0 hi hz hm Q q0 q1=>by
    have hzl:=hl z hm
    have eg:XN i z=if 2 < z.length∨(z.any fun x=>decide (x < 1∨i < x))=true then ⟨[],1⟩ else if z.length=2∧z[0]? = z[1]? then ⟨[],6⟩ else ⟨[],0⟩:=rfl
    rw [eg] at q0 q1
    rw [if_pos hi]
    refine gK (fun _=>(XN i z).err=0) (fun _ hu=>cQ.2 ⟨⟨by omega,by omega⟩,kJ.2 (q0 (by rw [← eg]; exact hu))⟩) (fun K2 hK2 => ?_)
    rw [eU i0 hz,Option.bind_some]
    refine cF.2 ⟨fun h2 => ?_,fun h2 => ?_⟩
    . rw [if_pos (.inl (by omega))] at q0 q1
      exact gA.2 (bD.2 (q1 (by decide)))
    . refine iN (I:=fun k=>0≤k∧k≤z.length∧((z.take k.toNat).any fun x=>decide (x < 1∨i < x))=false) (μ:=fun k=>(z.length - k).toNat) ?_ ⟨by omega,by omega,by simp⟩
      rintro k ⟨k0,k1,k2⟩
      rw [Option.bind_some]
      by_cases hk:k < z.length
      . obtain ⟨x,hx⟩:=oI k0 hk
        rw [if_pos hk]
        refine gK (fun c=>c=decide (x < 1∨i < x)) (fun c hc => ?_) (fun K hK => ?_)
        . subst hc
          by_cases e:x < 1∨i < x
          . rw [if_pos (by simp [e])]
            have ha:(z.any fun x=>decide (x < 1∨i < x))=true:=List.any_eq_true.2 ⟨x,List.mem_of_getElem? hx,by simp [e]⟩
            rw [if_pos (.inr ha)] at q0 q1
            exact gA.2 (gA.2 (bD.2 (q1 (by decide))))
          . rw [if_neg (by simp [e])]
            refine cQ.2 ⟨⟨by omega,by omega⟩,kJ.2 ⟨⟨by omega,by omega,?_⟩,by omega⟩⟩
            rw [xJ k0 hx,List.any_append,k2]
            simp
            omega
        . rw [Option.bind_some,eU k0 hx,Option.bind_some]
          refine cF.2 ⟨fun h1=>hK _ (by simp [h1]),fun h1 => ?_⟩
          rw [Option.bind_some,eU k0 hx,Option.bind_some]
          exact hK _ (by simp [h1])
      . rw [List.take_of_length_le (by omega)] at k2
        rw [if_neg hk]
        refine gA.2 ?_
        have h3 : ¬ (2 < z.length∨(z.any fun x=>decide (x < 1∨i < x))=true):=by
          rintro (q | q)
          . omega
          . rw [k2] at q; cases q
        rw [if_neg h3] at q0 q1 eg
        refine gK (fun c=>c=decide (z.length=2∧z[0]? = z[1]?)) (fun c hc => ?_) (fun K hK => ?_)
        . subst hc
          by_cases h4:z.length=2∧z[0]? = z[1]?
          . rw [if_pos h4] at q0 q1
            rw [if_pos (decide_eq_true h4)]
            exact gA.2 (bD.2 (q1 (by decide)))
          . rw [if_neg (by simp only [decide_eq_true_eq]; exact h4)]
            rw [if_neg h4] at eg
            exact hK2 _ (by rw [eg])
        . rw [Option.bind_some]
          refine cF.2 ⟨fun h5 => ?_,fun h5=>hK _ (by symm; rw [decide_eq_false_iff_not]; intro q; omega)⟩
          obtain ⟨a,ha⟩:=oI (l:=z) (i:=0) (by omega) (by omega)
          obtain ⟨b,hb⟩:=oI (l:=z) (i:=1) (by omega) (by omega)
          rw [Option.bind_some,eU (by omega) ha,Option.bind_some,Option.bind_some,eU (by omega) hb,Option.bind_some]
          refine hK _ ?_
          have ha':z[0]? = some a:=ha
          have hb':z[1]? = some b:=hb
          rw [ha',hb',decide_eq_decide]
          exact ⟨fun e=>⟨by omega,by rw [e]⟩,fun e=>by have:=e.2; cases this; rfl⟩
  refine C0 XN g _ (fun i z i0 hi hz hm h0 => ?_) (fun i z i0 hi hz hm h0 e => ?_) (fun _ e => ?_)
  . exact step i z i0 hi hz hm (fun _=>rfl) (fun q=>absurd h0 q)
  . exact step i z i0 hi hz hm (fun q=>absurd q h0) (fun _=>⟨_,rfl,by rw [e]⟩)
  . rw [if_neg (by omega),e]
    exact jC (bD.2 rfl)
end Go.S
end

section
set_option linter.unusedVariables false
namespace Go.S
open Go Go.V
def I5 (l:List aZ):Prop:=l.length≤4000000 ∧ ∀ z∈l,z.path.length≤4000000
theorem WA {l:List aZ} (b:Bk.bk l≤2000000):I5 l:=by
 have h:=FP aTM l
 refine ⟨by omega,fun z hz => ?_⟩
 have h1:=FQ hz
 have h2:=aLU z
 have h3:=DU z.path
 omega
noncomputable def N0 (i:Int) (z:gF):bZ:=if (oE z.tree).err=0 then (if z.time < 0 then ⟨[],1⟩ else if 256 < z.text.length then ⟨[],4⟩ else ⟨[],0⟩) else oE z.tree
noncomputable def RR (l:List gF):bZ:=if grC (l.map (·.parents))=0 then fw N0 0 l else ⟨[],grC (l.map (·.parents))⟩
noncomputable def YH (n:Int) (i:Int) (z:eY):bZ:=if z.base < 1∨n < z.base then ⟨[],1⟩ else if (oE z.index).err=0 then oE z.work else oE z.index
theorem aKE {s:eP} (hc:vL vCo s.aK) (hr : ∀ z∈s.aK,I5 z.tree):Sh.vC s=some (zU (RR s.aK)):=by
  apply Ok.eq
  have hl:=hc.1
  unfold Sh.vC RR
  rw [aOn hc,Option.bind_some,aTN (by rw [List.length_map]; exact hl) (fun l h=>by
    obtain ⟨z,hz,rfl⟩:=List.mem_map.1 h
    exact (hc.2 z hz).2.1.1),Option.bind_some]
  refine cF.2 ⟨fun h => ?_,fun h=>bD.2 (by rw [if_neg h,a0D h])⟩
  rw [if_pos h]
  have step : ∀ (i:Int) z,0≤i→i < s.aK.length→s.aK[i.toNat]? = some z→z∈s.aK → ∀ {Q:(Int⊕jR)→Prop},((N0 i z).err=0→Q (.inl (i+1)))→((N0 i z).err≠0→Q (.inr (zU (N0 i z)))) →
      Ok (if i < (s.aK.length:Int) then ((at_ s.aK i).bind (fun vY =>
 (Sh.jB vY.tree).bind (fun DQ =>
 if DQ.isNil=true then (if vY.time < 0 then (up (some (jR.no 1)))
 else (if 256 < (vY.text.length:Int) then (up (some (jR.no 4)))
 else (gd (dV (i+1)) (
 go (i+1)))))
 else (up (some DQ)))))
 else (up (some jR.nil))) Q:=fun i z i0 hi hz hm Q q0 q1=>by
    have ec:N0 i z=if (oE z.tree).err=0 then (if z.time < 0 then ⟨[],1⟩ else if 256 < z.text.length then ⟨[],4⟩ else ⟨[],0⟩) else oE z.tree:=rfl
    rw [ec] at q0 q1
    rw [if_pos hi,eU i0 hz,Option.bind_some,(rX (hr z hm).1 (hr z hm).2).1,Option.bind_some]
    refine cF.2 ⟨fun h0 => ?_,fun h0 => ?_⟩
    . rw [EO] at h0
      rw [if_pos h0] at q0 q1
      refine cF.2 ⟨fun h1 => ?_,fun h1 => ?_⟩
      . rw [if_pos h1] at q0 q1
        exact gA.2 (bD.2 (q1 (by decide)))
      . rw [if_neg h1] at q0 q1
        refine cF.2 ⟨fun h2 => ?_,fun h2 => ?_⟩
        . rw [if_pos (by omega)] at q0 q1
          exact gA.2 (bD.2 (q1 (by decide)))
        . rw [if_neg (by omega)] at q0 q1
          exact cQ.2 ⟨⟨by omega,by omega⟩,kJ.2 (q0 rfl)⟩
    . rw [EO] at h0
      rw [if_neg h0] at q0 q1
      exact gA.2 (bD.2 (q1 h0))
  refine C0 N0 s.aK _ (fun i z i0 hi hz hm h => ?_) (fun i z i0 hi hz hm h e => ?_) (fun _ e => ?_)
  . exact step i z i0 hi hz hm (fun _=>rfl) (fun q=>absurd h q)
  . exact step i z i0 hi hz hm (fun q=>absurd q h) (fun _=>⟨_,rfl,by rw [e]⟩)
  . rw [if_neg (by omega),e]
    exact jC (bD.2 rfl)
theorem aTP {s:eP} (hl:s.bL.length≤200000000) (hr : ∀ z∈s.bL,I5 z.index∧I5 z.work):Sh.y4 s=some (zU (fw (YH s.aK.length) 0 s.bL)):=by
  apply Ok.eq
  unfold Sh.y4
  have step : ∀ (i:Int) z,0≤i→i < s.bL.length→s.bL[i.toNat]? = some z→z∈s.bL → ∀ {Q:(Int⊕jR)→Prop},((YH s.aK.length i z).err=0→Q (.inl (i+1)))→((YH s.aK.length i z).err≠0→Q (.inr (zU (YH s.aK.length i z)))) →
      Ok (if i < (s.bL.length:Int) then ((at_ s.bL i).bind (fun kL =>
 (Sh.vU s kL.base).bind (fun aCn =>
 if (!aCn)=true then (up (some (jR.no 1)))
 else ((Sh.jB kL.index).bind (fun zM =>
 if zM.isNil=true then ((Sh.jB kL.work).bind (fun Y1 =>
 if Y1.isNil=true then (gd (dV (i+1)) (
 go (i+1)))
 else (up (some Y1))))
 else (up (some zM)))))))
 else (up (some jR.nil))) Q:=fun i z i0 hi hz hm Q q0 q1=>by
    have ec:YH s.aK.length i z=if z.base < 1∨(s.aK.length:Int) < z.base then ⟨[],1⟩ else if (oE z.index).err=0 then oE z.work else oE z.index:=rfl
    rw [ec] at q0 q1
    obtain ⟨r1,r2⟩:=hr z hm
    rw [if_pos hi,eU i0 hz,Option.bind_some,aFG,Option.bind_some]
    by_cases hb:z.base < 1∨(s.aK.length:Int) < z.base
    . rw [if_pos hb] at q0 q1
      rw [if_pos (by simp [hb])]
      exact gA.2 (bD.2 (q1 (by decide)))
    . rw [if_neg hb] at q0 q1
      rw [if_neg (by simp [hb]),(rX r1.1 r1.2).1,Option.bind_some]
      refine cF.2 ⟨fun h0 => ?_,fun h0 => ?_⟩
      . rw [EO] at h0
        rw [if_pos h0] at q0 q1
        rw [(rX r2.1 r2.2).1,Option.bind_some]
        refine cF.2 ⟨fun h1 => ?_,fun h1 => ?_⟩
        . rw [EO] at h1
          exact cQ.2 ⟨⟨by omega,by omega⟩,kJ.2 (q0 h1)⟩
        . rw [EO] at h1
          exact gA.2 (bD.2 (q1 h1))
      . rw [EO] at h0
        rw [if_neg h0] at q0 q1
        exact gA.2 (bD.2 (q1 h0))
  refine C0 (YH s.aK.length) s.bL _ (fun i z i0 hi hz hm h => ?_) (fun i z i0 hi hz hm h e => ?_) (fun _ e => ?_)
  . exact step i z i0 hi hz hm (fun _=>rfl) (fun q=>absurd h q)
  . exact step i z i0 hi hz hm (fun q=>absurd q h) (fun _=>⟨_,rfl,by rw [e]⟩)
  . rw [if_neg (by omega),e]
    exact jC (bD.2 rfl)
noncomputable def wsP (p:dM):List bZ:=[oE p.cJ,ZA p.bV,⟨[],(fw (zA p.aK.length p.bB) 0 p.bB).err⟩,⟨[],C7 p.aK.length p.bB p.aR p.bA⟩,RR p.aK,fw (YH p.aK.length) 0 p.bL,⟨[],if p.time < 0 then 1 else 0⟩]
def F6 (k:Int) (w:bZ):bZ:=if w.err=0 then ⟨[],0⟩ else ⟨⟨aFl,k⟩::w.parts,w.err⟩
theorem O7 (k:Int) (w:bZ):(F6 k w).err=0↔w.err=0:=by
 unfold F6
 by_cases h:w.err=0
 ·
  rw [if_pos h]; exact ⟨fun _=>h,fun _=>rfl⟩
 rw [if_neg h]
theorem aX4 {k:Int} {w:bZ} (h:w.err≠0):zU (F6 k w) = .fault aFl k (zU w):=by
 unfold F6 zU
 rw [if_neg h,if_neg h,if_neg h]
 rfl
structure gCk (p:dM):Prop where
  g:gPl p
  work:I5 p.cJ
  idx:p.bV.length≤4000000 ∧ ∀ z∈p.bV,z.path.length≤4000000
  refs:p.bB.length≤4000000 ∧ ∀ z∈p.bB,z.name.length≤4000000
  hb:p.aR.length≤4000000
  co : ∀ z∈p.aK,I5 z.tree
  st:p.bL.length≤4000000 ∧ ∀ z∈p.bL,I5 z.index∧I5 z.work
theorem SV (c:Int):Sh.tY c=some (zU ⟨[],c⟩):=by
 unfold Sh.tY zU
 by_cases h:c=0
 ·
  rw [if_pos h,if_pos h]
 rw [if_neg h,if_neg h]; rfl
theorem aTK {p:dM} (h:gCk p):Sh.yZ (IG p)=some (zU (fw F6 0 (wsP p))):=by
  apply Ok.eq
  unfold Sh.yZ
  refine gK (fun c=>c=if p.time < 0 then 1 else 0) (fun c hc => ?_) (fun K hK => ?_)
  . subst hc
    rw [show Sh.jB (IG p).cJ=some (zU (oE p.cJ)) from (rX h.work.1 h.work.2).1,Option.bind_some,
      show Sh.rO (IG p).bV=some (zU (ZA p.bV)) from (aAU h.idx.1 h.idx.2).1,Option.bind_some,
      show Sh.A7 (IG p)=some (fw (zA p.aK.length p.bB) 0 p.bB).err from aXa (s:=IG p) h.refs.1 h.refs.2,Option.bind_some,SV,Option.bind_some,
      show Sh.A6 (IG p)=some (C7 p.aK.length p.bB p.aR p.bA) from aX8 (s:=IG p) h.refs.1 h.hb,Option.bind_some,SV,Option.bind_some,
      show Sh.vC (IG p)=some (zU (RR p.aK)) from aKE (s:=IG p) h.g.co h.co,Option.bind_some,
      show Sh.y4 (IG p)=some (zU (fw (YH p.aK.length) 0 p.bL)) from aTP (s:=IG p) (by have:=h.st.1; show p.bL.length≤_; omega) h.st.2,Option.bind_some,SV,Option.bind_some]
    refine cV.2 ?_
    have key : ∀ (ws:List bZ),ws.length≤1000→Ok (iter (fun (oD:Int) =>
 if oD < ((ws.map zU).length:Int) then ((at_ (ws.map zU) oD).bind (fun y9 =>
 if y9.isNil=true then (gd (dV (oD+1)) (
 go (oD+1)))
 else (up (some (jR.fault [115,116,97,116,101] oD y9)))))
 else (up (some jR.nil))) 0) (fun e=>e=zU (fw F6 0 ws)):=fun ws hw=>by
      refine C0 F6 ws _ (fun i z i0 hi hz hm h0 => ?_) (fun i z i0 hi hz hm h0 e => ?_) (fun _ e => ?_)
      . rw [if_pos (by rw [List.length_map]; exact hi),eU i0 (rM zU hz),Option.bind_some,if_pos (EO.2 ((O7 i z).1 h0))]
        exact oR ⟨by omega,by omega⟩ rfl
      . rw [if_pos (by rw [List.length_map]; exact hi),eU i0 (rM zU hz),Option.bind_some,if_neg (fun q=>h0 ((O7 i z).2 (EO.1 q)))]
        exact jC (bD.2 (by rw [e,aX4 (fun q=>h0 ((O7 i z).2 q))]; rfl))
      . rw [if_neg (by rw [List.length_map]; omega),e]
        exact jC (bD.2 rfl)
    exact key (wsP p) (by show 7≤1000; omega)
  . refine cF.2 ⟨fun q=>hK _ ?_,fun q=>hK _ ?_⟩
    . rw [if_pos (show p.time < 0 from q)]
    . rw [if_neg (show ¬ p.time < 0 from q)]
end Go.S
end

section
set_option linter.unusedVariables false
namespace Go.S
open Go Go.V
def Dif (l:List dI):Prop:=l.Pairwise (fun a b=>a.name≠b.name)
theorem aVT {n:Int} {l:List dI} (h : ∀ (j:Nat) y,l[j]? = some y→(zA n l j y).err=0):Dif l:=by
 have h1 : ∀ (j:Nat) y z,l[j]? = some y→l[j+1]? = some z→y.name < z.name:=fun j y z hy hz=>by
   have h2:=h (j+1) z hz
   unfold zA at h2
   cases hg:vP z.name with
   | false=>rw [hg,if_neg (by simp)] at h2; exact absurd h2 (by decide)
   | true =>
     rw [hg,if_pos rfl,X0 (y:=y) (by omega) (by rw [show (((j+1:Nat):Int) - 1).toNat=j by omega]; exact hy)] at h2
     by_cases q:y.name < z.name
     . exact q
     . rw [if_pos (by simp only [q,decide_false,Bool.not_false])] at h2
       exact absurd h2 (by decide)
 have h2 : ∀ (d j:Nat) y z,l[j]? = some y→l[j+1+d]? = some z→y.name < z.name:=by
   intro d
   induction d with
   | zero=>exact fun j y z hy hz=>h1 j y z hy hz
   | succ d ih =>
     intro j y z hy hz
     have hb:=(List.getElem?_eq_some_iff.1 hz).1
     obtain ⟨w,hw⟩ : ∃ w,l[j+1+d]? = some w:=⟨_,List.getElem?_eq_getElem (by omega)⟩
     exact aZz (ih j y w hy hw) (h1 (j+1+d) w z hw hz)
 refine List.pairwise_iff_getElem.2 fun i j hi hj hij => ?_
 have h3:=h2 (j - i - 1) i l[i] l[j] (List.getElem?_eq_getElem hi) (by rw [show i+1+(j - i - 1)=j by omega]; exact List.getElem?_eq_getElem hj)
 intro e
 rw [e] at h3
 exact absurd h3 (List.lt_irrefl _)
theorem aJY (name:List UInt8) : ∀ (l:List dI) (w:Int),Dif l→l.foldl (fun w r=>if r.name=name then r.cB else w) w=match l.find? (fun r=>decide (r.name=name)) with
    | some r=>r.cB
    | none=>w
  | [],w,_=>rfl
  | x::r,w,h=>by
    obtain ⟨hx,hr⟩:=List.pairwise_cons.1 h
    rw [List.foldl_cons,aJY name r _ hr,List.find?_cons]
    by_cases e:x.name=name
    . have hn:r.find? (fun r=>decide (r.name=name))=none:=List.find?_eq_none.2 fun y hy=>by
        have:=hx y hy
        simp only [decide_eq_true_eq]
        exact fun q=>this (by rw [e,q])
      rw [hn,if_pos e,decide_eq_true e]
    . rw [if_neg e,decide_eq_false e]
theorem aAI {k:Int} {w:bZ} (h:w.err≠0) (hl:w.parts.length≤1000):Sh.O0 [115,116,97,116,101] k w=some (F6 k w):=by
 apply Ok.eq
 unfold Sh.O0
 refine cV.2 (cQ.2 ⟨by simp; omega,cV.2 (bD.2 ?_)⟩)
 unfold F6
 rw [if_neg h]; rfl
theorem JD {k c:Int} (h:c≠0):Sh.sN [115,116,97,116,101] k c=some (F6 k ⟨[],c⟩):=by
 apply Ok.eq
 unfold Sh.sN
 refine cV.2 (bD.2 ?_)
 unfold F6
 rw [if_neg h]; rfl
theorem EG {ws:List bZ} {w:bZ} {k:Int} (h:w.err=0):fw F6 k (w::ws)=fw F6 (k+1) ws:=by
 rw [fw,if_pos ((O7 k w).2 h)]
theorem zO {ws:List bZ} {w:bZ} {k:Int} (h:w.err≠0):fw F6 k (w::ws)=F6 k w:=by
 rw [fw,if_neg (fun q=>h ((O7 k w).1 q))]
theorem aUC (n:Int) (l:List dI) (i:Int) (z:dI):LH (zA n l i z):=by
 unfold zA
 repeat' split
 all_goals first | exact aEW | exact aCF (by decide) (by decide)
theorem aWg (i:Int) (l:List Int):LH (XN i l):=by
 unfold XN
 repeat' split
 all_goals first | exact aEW | exact aCF (by decide) (by decide)
theorem WM {c:Int} (h0:0≤c) (h1:c≤14):LH ⟨[],c⟩:=by
 by_cases h:c=0
 ·
  subst h; exact aEW
 exact aCF (by omega) h1
theorem aHe (g:List (List Int)):0≤grC g∧grC g≤14:=by
 unfold grC
 split
 ·
  decide
 have h:LH (fw XN 0 g):=aAi fun j x _=>aWg j x
 exact ⟨h.1,h.2.1⟩
theorem aQJ {l:List gF} (h : ∀ z∈l,I5 z.tree):LH (RR l):=by
 unfold RR
 split
 ·
  refine aAi fun j z hz => ?_
  unfold N0
  repeat' split
  all_goals first | exact aEW | exact aCF (by decide) (by decide) | exact (rX (h z hz).1 (h z hz).2).2.2
 exact WM (aHe _).1 (aHe _).2
theorem aYN {n j:Int} {z:eY} (h:I5 z.index∧I5 z.work):LH (YH n j z):=by
 unfold YH
 repeat' split
 all_goals first | exact aCF (by decide) (by decide) | exact (rX h.1.1 h.1.2).2.2 | exact (rX h.2.1 h.2.2).2.2
theorem aAw (n:Int) (l:List dI) (b:List UInt8) (c:Int):0≤C7 n l b c∧C7 n l b c≤14:=by
 unfold C7
 repeat' split
 all_goals decide
theorem aMs {p:dM} (h:gCk p) : ∀ w∈wsP p,LH w:=by
 intro w hw
 unfold wsP at hw
 simp only [List.mem_cons,List.not_mem_nil,or_false] at hw
 rcases hw with rfl | rfl | rfl | rfl | rfl | rfl | rfl
 ·
  exact (rX h.work.1 h.work.2).2.2
 ·
  exact (aAU h.idx.1 h.idx.2).2.2
 ·
  have hf:LH (fw (zA p.aK.length p.bB) 0 p.bB):=aAi fun j z _=>aUC _ _ _ _
  exact WM hf.1 hf.2.1
 ·
  exact WM (aAw _ _ _ _).1 (aAw _ _ _ _).2
 ·
  exact aQJ h.co
 ·
  exact aAi fun j z hz=>aYN (h.st.2 z hz)
 refine WM ?_ ?_
 ·
  split <;> decide
 split <;> decide
theorem a1W {p:dM} (hc:p.aK.length≤200000000):Sh.HS (DO p)=some (p.aK.map (·.parents)):=by
 apply Ok.eq
 unfold Sh.HS
 refine BO p.aK (·.parents) _ (fun i z i0 hi hz o ho => ?_) ?_
 ·
  have hm:(DO p).aK[i.toNat]? = some (vE z):=rM vE (l:=p.aK) hz
  dsimp only
  refine cF.2 ⟨fun _ => ?_,fun q=>absurd (show i < (((p.aK.map vE).length:Nat):Int) by rw [List.length_map]; exact hi) q⟩
  rw [eU i0 hm,Option.bind_some]
  exact cV.2 (cQ.2 ⟨by simp; omega,cV.2 (oR ⟨by omega,by omega⟩ rfl)⟩)
 dsimp only
 refine cF.2 ⟨fun q=>absurd q (show ¬ ((p.aK.length:Int) < (((p.aK.map vE).length:Nat):Int)) by rw [List.length_map]; omega),fun _=>jC (bD.2 rfl)⟩
set_option maxHeartbeats 4000000 in
theorem aTy {p:dM} (h:gCk p):Sh.G8 (DO p)=some (fw F6 0 (wsP p)):=by
  have hg:=h.g
  have hcl:=hg.co.1
  have hrl:=h.refs.1
  have hsl:=h.st.1
  have hwk:=aMs h
  apply Ok.eq
  unfold Sh.G8
  obtain ⟨_,k0,o0⟩:=rX h.work.1 h.work.2
  obtain ⟨_,k1,o1⟩:=aAU h.idx.1 h.idx.2
  rw [show Sh.lX (DO p).iV=some (oE p.cJ) from k0,Option.bind_some]
  unfold wsP
  refine cF.2 ⟨fun e0 => ?_,fun e0 => ?_⟩
  . rw [EG e0,show Sh.mZ (DO p).iM=some (ZA p.bV) from k1,Option.bind_some]
    refine cF.2 ⟨fun e1 => ?_,fun e1 => ?_⟩
    . rw [EG e1]
      have hgood : ∀ (i:Int) z,0≤i→p.bB[i.toNat]? = some z→(DO p).fX[i.toNat]? = some (zH z):=fun i z i0 hz=>rM zH (l:=p.bB) hz
      have step : ∀ (i:Int) z,0≤i→i < p.bB.length→p.bB[i.toNat]? = some z → ∀ {K:Option (Int⊕bZ)} {Q:(Int⊕bZ)→Prop},((zA p.aK.length p.bB i z).err=0→Q (.inl (i+1)))→((zA p.aK.length p.bB i z).err≠0→Q (.inr (F6 2 (zA p.aK.length p.bB i z)))) →
          Ok (if i < ((DO p).fX.length:Int) then ((at_ (DO p).fX i).bind (fun oP =>
 (Sh.AZ oP.name).bind (fun Z4 =>
 if (!Z4)=true then ((Sh.sN [115,116,97,116,101] 2 5).bind (fun RB =>
 up (some ⟨RB.parts,RB.err⟩)))
 else (jn (fun (D7:Bool) =>
 if D7=true then ((Sh.sN [115,116,97,116,101] 2 6).bind (fun RC =>
 up (some ⟨RC.parts,RC.err⟩)))
 else (jn (fun (D8:Bool) =>
 if D8=true then ((Sh.sN [115,116,97,116,101] 2 1).bind (fun RD =>
 up (some ⟨RD.parts,RD.err⟩)))
 else (gd (dV (i+1)) (
 go (i+1)))) (fun k19=>if oP.cB < 1 then (k19 true)
 else (k19 (decide (((DO p).aK.length:Int) < oP.cB)))))) (fun k15=>if 0 < i then (gd (dV (i - 1)) (
 (at_ (DO p).fX (i - 1)).bind (fun W7 =>
 k15 (!Op.bytesLess W7.name oP.name))))
 else (k15 false))))))
 else K) Q:=fun i z i0 hi hz K Q q0 q1=>by
        have er:zA p.aK.length p.bB i z=if vP z.name=true then (if RU p.bB i z=true then ⟨[],6⟩ else if z.cB < 1∨(p.aK.length:Int) < z.cB then ⟨[],1⟩ else ⟨[],0⟩) else ⟨[],5⟩:=rfl
        have ecl:((DO p).aK.length:Int)=(p.aK.length:Int):=by show (((p.aK.map vE).length:Nat):Int)=_; rw [List.length_map]
        rw [er] at q0 q1
        refine cF.2 ⟨fun _ => ?_,fun q=>absurd (show i < (((p.bB.map zH).length:Nat):Int) by rw [List.length_map]; exact hi) q⟩
        rw [eU i0 (hgood i z i0 hz),Option.bind_some,ZC,Option.bind_some]
        dsimp only [zH]
        by_cases hgd:vP z.name=true
        . rw [if_pos hgd] at q0 q1
          refine cF.2 ⟨fun q=>(by rw [hgd] at q; cases q),fun _ => ?_⟩
          refine gK (fun c=>c=RU p.bB i z) (fun c hc => ?_) (fun K hK => ?_)
          . cases c with
            | true =>
              rw [if_pos hc.symm] at q0 q1
              rw [if_pos rfl,JD (by decide),Option.bind_some]
              exact gA.2 (bD.2 (q1 (by decide)))
            | false =>
              rw [if_neg (by rw [← hc]; decide)] at q0 q1
              rw [if_neg (by decide)]
              refine gK (fun c=>c=decide (z.cB < 1∨(p.aK.length:Int) < z.cB)) (fun c hc => ?_) (fun K hK => ?_)
              . subst hc
                by_cases hc:z.cB < 1∨(p.aK.length:Int) < z.cB
                . rw [if_pos hc] at q0 q1
                  rw [if_pos (decide_eq_true hc),JD (by decide),Option.bind_some]
                  exact gA.2 (bD.2 (q1 (by decide)))
                . rw [if_neg hc] at q0 q1
                  rw [if_neg (by simp only [decide_eq_true_eq]; exact hc)]
                  exact cQ.2 ⟨⟨by omega,by omega⟩,kJ.2 (q0 rfl)⟩
              . exact cF.2 ⟨fun h1=>hK _ (by simp [h1]),fun h1=>hK _ (decide_eq_decide.2 (by rw [ecl]; exact ⟨fun g => .inr g,fun g=>g.resolve_left h1⟩))⟩
          . refine cF.2 ⟨fun hp=>cQ.2 ⟨⟨by omega,by omega⟩,?_⟩,fun hp=>hK _ (aB1 hp).symm⟩
            obtain ⟨y,hy⟩:=oI (l:=p.bB) (i:=i - 1) (by omega) (by omega)
            rw [eU (by omega) (hgood (i - 1) y (by omega) hy),Option.bind_some]
            refine hK _ ?_
            rw [X0 hp hy,Go.Proofs.bytesLess_eq]
            rfl
        . rw [if_neg hgd] at q0 q1
          refine cF.2 ⟨fun _ => ?_,fun q=>absurd (by simp [hgd]) q⟩
          rw [JD (by decide),Option.bind_some]
          exact gA.2 (bD.2 (q1 (by decide)))
      have e2e : ∀ i z,(zA p.aK.length p.bB i z).err≠0→zA p.aK.length p.bB i z=⟨[],(zA p.aK.length p.bB i z).err⟩:=fun i z _=>by
        unfold zA
        repeat' split
        all_goals rfl
      refine C0 (zA p.aK.length p.bB) p.bB _ (fun i z i0 hi hz hm h0 => ?_) (fun i z i0 hi hz hm h0 e => ?_) (fun hall e => ?_)
      . exact step i z i0 hi hz (fun _=>rfl) (fun q=>absurd h0 q)
      . exact step i z i0 hi hz (fun q=>absurd q h0) (fun _=>⟨_,rfl,by rw [e,zO (by exact h0),← e2e i z h0]; rfl⟩)
      . rw [e]
        rw [EG (show (⟨[],(⟨[],0⟩:bZ).err⟩:bZ).err=0 from rfl)]
        refine cF.2 ⟨fun q=>absurd q (show ¬ ((p.bB.length:Int) < (((p.bB.map zH).length:Nat):Int)) by rw [List.length_map]; omega),fun _ => ?_⟩
        refine jC ?_
        have hdif:=aVT hall
        have hfold : ∀ name,p.bB.foldl (fun w r=>if r.name=name then r.cB else w) 0=atC p.bB name:=fun name=>aJY name p.bB 0 hdif
        have ecl:((DO p).aK.length:Int)=(p.aK.length:Int):=by show (((p.aK.map vE).length:Nat):Int)=_; rw [List.length_map]
        refine gK (fun c=>c=decide (p.aR≠[] ∧ ¬ vP p.aR=true)) (fun c hc => ?_) (fun K hK => ?_)
        . by_cases hb5:p.aR≠[] ∧ ¬ vP p.aR=true
          . have hH:C7 p.aK.length p.bB p.aR p.bA=5:=by unfold C7; rw [if_neg hb5.1,if_neg hb5.2]
            rw [decide_eq_true hb5] at hc
            rw [hc,if_pos rfl,JD (by decide),Option.bind_some,hH,zO (show (⟨[],5⟩:bZ).err≠0 from by decide)]
            exact bD.2 rfl
          . rw [decide_eq_false hb5] at hc
            rw [hc,if_neg (by decide)]
            refine aHb p.bB (fun w r=>if r.name=p.aR then r.cB else w) 0 _ (fun i z i0 hi hz s hs => ?_) (fun s hs => ?_)
            . dsimp only
              refine cF.2 ⟨fun _ => ?_,fun q=>absurd (show i < (((p.bB.map zH).length:Nat):Int) by rw [List.length_map]; exact hi) q⟩
              refine gK (fun w=>w=if z.name=p.aR then z.cB else s) (fun w hw => ?_) (fun K hK => ?_)
              . exact oR ⟨by omega,by omega⟩ (by rw [hw])
              . rw [eU i0 (hgood i z i0 hz),Option.bind_some,Option.bind_some]
                refine cF.2 ⟨fun q=>hK _ ?_,fun q=>hK _ ?_⟩
                . rw [if_pos (show z.name=p.aR from q)]; rfl
                . rw [if_neg (show ¬ z.name=p.aR from q)]
            . dsimp only
              rw [hfold] at hs
              subst hs
              refine cF.2 ⟨fun q=>absurd q (show ¬ ((p.bB.length:Int) < (((p.bB.map zH).length:Nat):Int)) by rw [List.length_map]; omega),fun _ => ?_⟩
              refine jC ?_
              refine gK (fun c=>c=decide (C7 p.aK.length p.bB p.aR p.bA=1)∧(C7 p.aK.length p.bB p.aR p.bA=1∨C7 p.aK.length p.bB p.aR p.bA=0)) (fun c hc => ?_) (fun K hK => ?_)
              . obtain ⟨hc,hH⟩:=hc
                rcases hH with hH | hH
                . rw [hH] at hc ⊢
                  rw [hc,if_pos (by decide),JD (by decide),Option.bind_some,zO (show (⟨[],1⟩:bZ).err≠0 from by decide)]
                  exact bD.2 rfl
                . rw [hH] at hc ⊢
                  rw [hc,if_neg (by decide),EG (show (⟨[],0⟩:bZ).err=0 from rfl),a1W hcl,Option.bind_some,aTx (by rw [List.length_map]; exact hcl) (fun l hl=>by
                    obtain ⟨z,hz,rfl⟩:=List.mem_map.1 hl
                    exact (hg.co.2 z hz).2.1.1),Option.bind_some]
                  refine cF.2 ⟨fun hgc => ?_,fun hgc => ?_⟩
                  . have hcw:RR p.aK=fw N0 0 p.aK:=by unfold RR; rw [if_pos hgc]
                    rw [hcw]
                    refine aD5 N0 p.aK _ _ (fun i z b i0 hi hz hm h0 => ?_) (fun i z b i0 hi hz hm h0 e => ?_) (fun b hall e => ?_)
                    . have hm2:(DO p).aK[i.toNat]? = some (vE z):=rM vE (l:=p.aK) hz
                      have er:N0 i z=if (oE z.tree).err=0 then (if z.time < 0 then ⟨[],1⟩ else if 256 < z.text.length then ⟨[],4⟩ else ⟨[],0⟩) else oE z.tree:=rfl
                      have hr1:Sh.lX (vE z).tree=some (oE z.tree):=(rX (h.co z hm).1 (h.co z hm).2).2.1
                      rw [er] at h0
                      dsimp only
                      refine cF.2 ⟨fun _ => ?_,fun q=>absurd (show i < (((p.aK.map vE).length:Nat):Int) by rw [List.length_map]; exact hi) q⟩
                      rw [eU i0 hm2,Option.bind_some,hr1,Option.bind_some]
                      by_cases a0:(oE z.tree).err=0
                      . rw [if_pos a0] at h0
                        rw [if_pos a0]
                        by_cases a1:z.time < 0
                        . rw [if_pos a1] at h0; exact absurd h0 (by decide)
                        . rw [if_neg a1] at h0
                          rw [if_neg (show ¬ (vE z).time < 0 from a1)]
                          by_cases a2:256 < z.text.length
                          . rw [if_pos a2] at h0; exact absurd h0 (by decide)
                          . rw [if_neg (show ¬ (256:Int) < ((vE z).text.length:Int) from by show ¬ (256:Int) < (z.text.length:Int); omega)]
                            exact cQ.2 ⟨⟨by omega,by omega⟩,kJ.2 ⟨_,rfl⟩⟩
                      . rw [if_neg a0] at h0; exact absurd h0 a0
                    . have hm2:(DO p).aK[i.toNat]? = some (vE z):=rM vE (l:=p.aK) hz
                      have er:N0 i z=if (oE z.tree).err=0 then (if z.time < 0 then ⟨[],1⟩ else if 256 < z.text.length then ⟨[],4⟩ else ⟨[],0⟩) else oE z.tree:=rfl
                      obtain ⟨_,hr1',ho1⟩:=rX (h.co z hm).1 (h.co z hm).2
                      have hr1:Sh.lX (vE z).tree=some (oE z.tree):=hr1'
                      rw [e,zO h0]
                      rw [er] at h0 ⊢
                      dsimp only
                      refine cF.2 ⟨fun _ => ?_,fun q=>absurd (show i < (((p.aK.map vE).length:Nat):Int) by rw [List.length_map]; exact hi) q⟩
                      rw [eU i0 hm2,Option.bind_some,hr1,Option.bind_some]
                      by_cases a0:(oE z.tree).err=0
                      . rw [if_pos a0] at h0 ⊢
                        rw [if_pos a0]
                        by_cases a1:z.time < 0
                        . rw [if_pos a1]
                          rw [if_pos (show (vE z).time < 0 from a1),JD (by decide),Option.bind_some]
                          exact jC (bD.2 rfl)
                        . rw [if_neg a1] at h0 ⊢
                          rw [if_neg (show ¬ (vE z).time < 0 from a1)]
                          by_cases a2:256 < z.text.length
                          . rw [if_pos a2]
                            rw [if_pos (show (256:Int) < ((vE z).text.length:Int) from by show (256:Int) < (z.text.length:Int); omega),JD (by decide),Option.bind_some]
                            exact jC (bD.2 rfl)
                          . rw [if_neg a2] at h0; exact absurd rfl h0
                      . rw [if_neg a0,if_neg a0,aAI a0 (by have:=ho1.2.2.2.1; omega),Option.bind_some]
                        exact jC (bD.2 rfl)
                    . rw [e,EG (show (⟨[],0⟩:bZ).err=0 from rfl)]
                      dsimp only
                      refine cF.2 ⟨fun q=>absurd q (show ¬ ((p.aK.length:Int) < (((p.aK.map vE).length:Nat):Int)) by rw [List.length_map]; omega),fun _ => ?_⟩
                      refine jC ?_
                      have hst : ∀ (i:Int) z,p.bL[i.toNat]? = some z→(DO p).iR[i.toNat]? = some (AH z):=fun i z hz=>rM AH (l:=p.bL) hz
                      refine aD5 (YH p.aK.length) p.bL _ _ (fun i z b i0 hi hz hm h0 => ?_) (fun i z b i0 hi hz hm h0 e => ?_) (fun b hall e => ?_)
                      . have er:YH p.aK.length i z=if z.base < 1∨(p.aK.length:Int) < z.base then ⟨[],1⟩ else if (oE z.index).err=0 then oE z.work else oE z.index:=rfl
                        obtain ⟨s1,s2⟩:=h.st.2 z hm
                        have hr1:Sh.lX (AH z).index=some (oE z.index):=(rX s1.1 s1.2).2.1
                        have hr2:Sh.lX (AH z).work=some (oE z.work):=(rX s2.1 s2.2).2.1
                        rw [er] at h0
                        dsimp only
                        refine cF.2 ⟨fun _ => ?_,fun q=>absurd (show i < (((p.bL.map AH).length:Nat):Int) by rw [List.length_map]; exact hi) q⟩
                        rw [eU i0 (hst i z hz),Option.bind_some]
                        by_cases hb:z.base < 1∨(p.aK.length:Int) < z.base
                        . rw [if_pos hb] at h0; exact absurd h0 (by decide)
                        . rw [if_neg hb] at h0
                          refine gK (fun c=>c=false) (fun c hc => ?_) (fun K hK => ?_)
                          . subst hc
                            rw [if_neg (by decide),hr1,Option.bind_some]
                            by_cases a0:(oE z.index).err=0
                            . rw [if_pos a0] at h0
                              refine gK (fun c=>c.2=0) (fun c hc => ?_) (fun K hK => ?_)
                              . obtain ⟨c0,c1⟩:=c
                                dsimp only at hc ⊢
                                rw [if_pos hc]
                                exact cQ.2 ⟨⟨by omega,by omega⟩,kJ.2 ⟨_,rfl⟩⟩
                              . rw [if_pos a0,hr2,Option.bind_some]
                                exact hK _ h0
                            . rw [if_neg a0] at h0; exact absurd h0 a0
                          . refine cF.2 ⟨fun q=>absurd (show z.base < 1 from q) (by omega),fun q=>hK _ ?_⟩
                            rw [decide_eq_false_iff_not,ecl]
                            show ¬ (p.aK.length:Int) < z.base
                            omega
                      . have er:YH p.aK.length i z=if z.base < 1∨(p.aK.length:Int) < z.base then ⟨[],1⟩ else if (oE z.index).err=0 then oE z.work else oE z.index:=rfl
                        obtain ⟨s1,s2⟩:=h.st.2 z hm
                        obtain ⟨_,hr1',ho1⟩:=rX s1.1 s1.2
                        obtain ⟨_,hr2',ho2⟩:=rX s2.1 s2.2
                        have hr1:Sh.lX (AH z).index=some (oE z.index):=hr1'
                        have hr2:Sh.lX (AH z).work=some (oE z.work):=hr2'
                        rw [e,zO h0]
                        rw [er] at h0 ⊢
                        dsimp only
                        refine cF.2 ⟨fun _ => ?_,fun q=>absurd (show i < (((p.bL.map AH).length:Nat):Int) by rw [List.length_map]; exact hi) q⟩
                        rw [eU i0 (hst i z hz),Option.bind_some]
                        refine gK (fun c=>c=decide (z.base < 1∨(p.aK.length:Int) < z.base)) (fun c hc => ?_) (fun K hK => ?_)
                        . by_cases hb:z.base < 1∨(p.aK.length:Int) < z.base
                          . rw [decide_eq_true hb] at hc
                            rw [hc,if_pos rfl,if_pos hb,JD (by decide),Option.bind_some]
                            exact jC (bD.2 rfl)
                          . rw [decide_eq_false hb] at hc
                            rw [if_neg hb] at h0 ⊢
                            rw [hc,if_neg (by decide),hr1,Option.bind_some]
                            by_cases a0:(oE z.index).err=0
                            . rw [if_pos a0] at h0 ⊢
                              refine gK (fun c=>c=((oE z.work).parts,(oE z.work).err)) (fun c hc => ?_) (fun K hK => ?_)
                              . subst hc
                                dsimp only
                                rw [if_neg h0,aAI h0 (by have:=ho2.2.2.2.1; omega),Option.bind_some]
                                exact jC (bD.2 rfl)
                              . rw [if_pos a0,hr2,Option.bind_some]
                                exact hK _ rfl
                            . rw [if_neg a0] at h0 ⊢
                              refine gK (fun c=>c=((oE z.index).parts,(oE z.index).err)) (fun c hc => ?_) (fun K hK => ?_)
                              . subst hc
                                dsimp only
                                rw [if_neg h0,aAI h0 (by have:=ho1.2.2.2.1; omega),Option.bind_some]
                                exact jC (bD.2 rfl)
                              . rw [if_neg a0]
                                exact hK _ rfl
                        . refine cF.2 ⟨fun q=>hK _ ?_,fun q=>hK _ ?_⟩
                          . symm; rw [decide_eq_true_iff]; exact .inl q
                          . rw [ecl,decide_eq_decide]
                            show (p.aK.length:Int) < z.base↔_
                            have q' : ¬ z.base < 1:=q
                            exact ⟨fun g => .inr g,fun g=>by omega⟩
                      . rw [e,EG (show (⟨[],0⟩:bZ).err=0 from rfl)]
                        dsimp only
                        refine cF.2 ⟨fun q=>absurd q (show ¬ ((p.bL.length:Int) < (((p.bL.map AH).length:Nat):Int)) by rw [List.length_map]; omega),fun _ => ?_⟩
                        refine jC ?_
                        refine cF.2 ⟨fun q => ?_,fun q => ?_⟩
                        . rw [JD (by decide),Option.bind_some,if_pos (show p.time < 0 from q),zO (show (⟨[],1⟩:bZ).err≠0 from by decide)]
                          exact bD.2 rfl
                        . rw [if_neg (show ¬ p.time < 0 from q),EG (show (⟨[],0⟩:bZ).err=0 from rfl)]
                          exact bD.2 rfl
                  . have hcw:RR p.aK=⟨[],grC (p.aK.map (·.parents))⟩:=by unfold RR; rw [if_neg hgc]
                    rw [hcw,JD hgc,Option.bind_some,zO (show (⟨[],grC (p.aK.map (·.parents))⟩:bZ).err≠0 from hgc)]
                    exact bD.2 rfl
              . have hE:C7 p.aK.length p.bB p.aR p.bA=if p.aR=[] then (if p.bA < 1∨(p.aK.length:Int) < p.bA then 1 else 0) else if vP p.aR=true then (if p.bA=atC p.bB p.aR then 0 else 1) else 5:=rfl
                show Ok (if p.aR=[] then (if p.aR=[] then (if p.bA < 1 then (K true) else (K (decide (((DO p).aK.length:Int) < p.bA)))) else (K false)) else (if p.bA=atC p.bB p.aR then (if p.aR=[] then (if p.bA < 1 then (K true) else (K (decide (((DO p).aK.length:Int) < p.bA)))) else (K false)) else (K true))) _
                rw [ecl]
                by_cases b0:p.aR=[]
                . refine cF.2 ⟨fun _=>cF.2 ⟨fun _ => ?_,fun q=>absurd b0 q⟩,fun q=>absurd b0 q⟩
                  refine cF.2 ⟨fun b1=>hK _ ?_,fun b1=>hK _ ?_⟩
                  . rw [hE,if_pos b0,if_pos (.inl b1)]; exact ⟨rfl,.inl rfl⟩
                  . by_cases b2:(p.aK.length:Int) < p.bA
                    . rw [hE,if_pos b0,if_pos (.inr b2),decide_eq_true b2]; exact ⟨rfl,.inl rfl⟩
                    . rw [hE,if_pos b0,if_neg (by omega),decide_eq_false b2]; exact ⟨rfl,.inr rfl⟩
                . have b3:vP p.aR=true:=Classical.byContradiction fun q=>hb5 ⟨b0,q⟩
                  refine cF.2 ⟨fun q=>absurd q b0,fun _ => ?_⟩
                  refine cF.2 ⟨fun b1=>cF.2 ⟨fun q=>absurd q b0,fun _=>hK _ ?_⟩,fun b1=>hK _ ?_⟩
                  . rw [hE,if_neg b0,if_pos b3,if_pos b1]; exact ⟨rfl,.inr rfl⟩
                  . rw [hE,if_neg b0,if_pos b3,if_neg b1]; exact ⟨rfl,.inl rfl⟩
        . show Ok (if p.aR=[] then (K false) else ((Sh.AZ p.aR).bind (fun W4=>K (!W4)))) _
          refine cF.2 ⟨fun b0=>hK _ (by simp [b0]),fun b0 => ?_⟩
          rw [ZC,Option.bind_some]
          exact hK _ (by cases vP p.aR <;> simp [b0])
    . rw [zO e1,aAI e1 (by have:=o1.2.2.2.1; omega),Option.bind_some]
      exact bD.2 rfl
  . rw [zO e0,aAI e0 (by have:=o0.2.2.2.1; omega),Option.bind_some]
    exact bD.2 rfl
end Go.S
end

section
set_option linter.unusedVariables false
namespace Go.S
open Go Go.V
def yS {α:Type} (ln:Int→α→List UInt8):Int→List α→List UInt8
  | _,[]=>[]
  | k,x::r=>ln k x++yS ln (k+1) r
theorem XW {α:Type} (ln:Int→α→List UInt8) (z:α) : ∀ (l:List α) (k:Int),yS ln k (l++[z])=yS ln k l++ln (k+l.length) z
  | [],k=>by simp [yS]
  | x::r,k=>by
    rw [List.cons_append,yS,yS,XW ln z r (k+1),List.append_assoc]
    congr 3
    simp only [List.length_cons]; omega
theorem aF4 {α:Type} (ln:Int→α→List UInt8) : ∀ (l:List α) (n:Nat) (k:Int),(yS ln k (l.take n)).length≤(yS ln k l).length
  | [],n,k=>by simp
  | x::r,0,k=>by simp [yS]
  | x::r,n+1,k=>by
    rw [List.take_succ_cons,yS,yS,List.length_append,List.length_append]
    have:=aF4 ln r n (k+1)
    omega
theorem aIM {α:Type} [Bk α] {ln:Int→α→List UInt8} : ∀ {l:List α} {k:Int},(∀ k,∀ z∈l,(ln k z).length≤128*Bk.bk z)→(yS ln k l).length≤128*(l.map Bk.bk).sum
  | [],k,_=>by simp [yS]
  | x::r,k,h=>by
    rw [yS,List.length_append,List.map_cons,List.sum_cons]
    have:=h k x (List.mem_cons_self ..)
    have:=aIM (ln:=ln) (l:=r) (k:=k+1) fun k z hz=>h k z (List.mem_cons_of_mem _ hz)
    omega
theorem J7 {α R:Type} {Q:R→Prop} (ln:Int→α→List UInt8) (l:List α) (t0:List UInt8) (B:Int×List UInt8→Option ((Int×List UInt8)⊕R)) (hT:t0.length+(yS ln 0 l).length≤1000000000)
 (hB : ∀ (i:Int) z s,0≤i→i < l.length→l[i.toNat]? = some z→z∈l→s.length+(ln i z).length≤1000000000→Ok (B (i,s)) (Nx (i+1,s++ln i z)))
 (hE:Ok (B ((l.length:Int),t0++yS ln 0 l)) (Up Q)):Ok (iter B (0,t0)) Q:=by
 refine iN (I:=fun t=>0≤t.1∧t.1≤l.length∧t.2=t0++yS ln 0 (l.take t.1.toNat)) (μ:=fun t=>(l.length - t.1).toNat) ?_ ⟨by dsimp only; omega,by dsimp only; omega,by simp [yS]⟩
 rintro ⟨i,s⟩ ⟨i0,i1,i2⟩
 dsimp only at i0 i1 i2 ⊢
 by_cases hi:i < l.length
 ·
  obtain ⟨z,hz⟩:=oI i0 hi
  have e:yS ln 0 (l.take (i+1).toNat)=yS ln 0 (l.take i.toNat)++ln i z:=by
    rw [xJ i0 hz,XW,List.length_take]
    congr 2
    omega
  have h1:=aF4 ln l (i+1).toNat 0
  rw [e,List.length_append] at h1
  refine (hB i z s i0 hi hz (List.mem_of_getElem? hz) (by rw [i2,List.length_append]; omega)).mono ?_
  rintro y hy
  cases hy
  refine ⟨⟨by dsimp only; omega,by dsimp only; omega,?_⟩,by dsimp only; omega⟩
  dsimp only
  rw [e,i2,List.append_assoc]
 have e:i=l.length:=by omega
 subst e
 rw [List.take_of_length_le (by omega)] at i2
 subst i2
 refine hE.mono ?_
 rintro y ⟨r,rfl,hr⟩
 exact hr
theorem NX {α R:Type} {Q:R→Prop} (ln:Int→α→List UInt8) (l:List α) (t0:List UInt8) (B:List UInt8×Int→Option ((List UInt8×Int)⊕R)) (hT:t0.length+(yS ln 0 l).length≤1000000000)
 (hB : ∀ (i:Int) z s,0≤i→i < l.length→l[i.toNat]? = some z→z∈l→s.length+(ln i z).length≤1000000000→Ok (B (s,i)) (Nx (s++ln i z,i+1)))
 (hE:Ok (B (t0++yS ln 0 l,(l.length:Int))) (Up Q)):Ok (iter B (t0,0)) Q:=by
 refine iN (I:=fun t=>0≤t.2∧t.2≤l.length∧t.1=t0++yS ln 0 (l.take t.2.toNat)) (μ:=fun t=>(l.length - t.2).toNat) ?_ ⟨by dsimp only; omega,by dsimp only; omega,by simp [yS]⟩
 rintro ⟨s,i⟩ ⟨i0,i1,i2⟩
 dsimp only at i0 i1 i2 ⊢
 by_cases hi:i < l.length
 ·
  obtain ⟨z,hz⟩:=oI i0 hi
  have e:yS ln 0 (l.take (i+1).toNat)=yS ln 0 (l.take i.toNat)++ln i z:=by
    rw [xJ i0 hz,XW,List.length_take]
    congr 2
    omega
  have h1:=aF4 ln l (i+1).toNat 0
  rw [e,List.length_append] at h1
  refine (hB i z s i0 hi hz (List.mem_of_getElem? hz) (by rw [i2,List.length_append]; omega)).mono ?_
  rintro y hy
  cases hy
  refine ⟨⟨by dsimp only; omega,by dsimp only; omega,?_⟩,by dsimp only; omega⟩
  dsimp only
  rw [e,i2,List.append_assoc]
 have e:i=l.length:=by omega
 subst e
 rw [List.take_of_length_le (by omega)] at i2
 subst i2
 refine hE.mono ?_
 rintro y ⟨r,rfl,hr⟩
 exact hr
theorem FR {x y:List UInt8} [i:Decidable (x.length+y.length≤9223372036854775807)] {R:Type} {K:List UInt8→Option R} {Q:R→Prop} (h:x.length+y.length≤9223372036854775807) (k:Ok (K (x++y)) Q):Ok (gd (x.length+y.length≤9223372036854775807) (lt (x++y) K)) Q:=cQ.2 ⟨h,cV.2 k⟩
theorem j2 (a b:List UInt8):rP [a,b] [32]=a++([32]++b):=by simp [rP,Lib.join]
theorem j3 (a b c:List UInt8):rP [a,b,c] [32]=a++([32]++(b++([32]++c))):=by simp [rP,Lib.join]
theorem j4 (a b c d:List UInt8):rP [a,b,c,d] [32]=a++([32]++(b++([32]++(c++([32]++d))))):=by simp [rP,Lib.join]
theorem j5 (a b c d e:List UInt8):rP [a,b,c,d,e] [32]=a++([32]++(b++([32]++(c++([32]++(d++([32]++e))))))):=by simp [rP,Lib.join]
theorem F7 {l:List (List UInt8)} {acc x:List UInt8} (e:rP l [32]=x) (hl:l.length≤100) (h:acc.length+x.length≤1000000001):Sh.l9 l acc=some (acc++(x++[10])):=by
 apply Ok.eq
 unfold Sh.l9
 rw [e]
 exact cQ.2 ⟨⟨by omega,by omega⟩,cV.2 (cQ.2 ⟨by simp only [List.length_cons,List.length_nil]; omega,cV.2 (cQ.2 ⟨by simp only [List.length_append,List.length_cons,List.length_nil]; omega,cV.2 (bD.2 rfl)⟩)⟩)⟩
def lnR (_:Int) (z:dI):List UInt8:=[114,101,102]++([32]++(z.name++([32]++fI z.cB)))++[10]
def lnF (_:Int) (z:aZ):List UInt8:=[119,111,114,107]++([32]++(z.path++([32]++(fI z.mode++([32]++fI (z.data.length:Int))))))++[10]
def lnE (_:Int) (z:aQ):List UInt8:=[105,110,100,101,120]++([32]++(z.path++([32]++(fI z.dJ++([32]++(fI z.mode++([32]++fI (z.data.length:Int))))))))++[10]
def HB (l:List Int):List UInt8:=rP (l.map fI) [32]
def lnC (i:Int) (z:gF):List UInt8:=[99,111,109,109,105,116]++([32]++((fI (i+1)++[58])++([32]++((HB z.parents++[58])++([32]++((fI (z.tree.length:Int)++[58])++([32]++z.text)))))))++[10]
def lnS (i:Int) (_:eY):List UInt8:=[115,116,97,115,104]++([32]++fI i)++[10]
theorem aJy (l:List (List UInt8)) (x:List UInt8) (h:l≠[]):rP (l++[x]) [32]=rP l [32]++([32]++x):=by
 cases l with
 | nil=>exact absurd rfl h
 | cons a r =>
   show Lib.join (a::(r++[x])) [32]=Lib.join (a::r) [32]++_
   rw [Lib.join_cons,Lib.join_cons]
   simp [Lib.joinTail]
theorem XY {l:List Int}:(HB l).length≤22*l.length:=by
 unfold HB
 cases l with
 | nil=>simp [rP,Lib.join]
 | cons a r =>
   show (Lib.join (fI a::r.map fI) [32]).length≤_
   rw [Lib.join_cons,List.length_append]
   have key : ∀ r:List Int,(Lib.joinTail [32] (r.map fI)).length≤22*r.length:=by
     intro r
     induction r with
     | nil=>simp [Lib.joinTail]
     | cons b s ih =>
       have e:Lib.joinTail [32] ((b::s).map fI)=([32]++fI b)++Lib.joinTail [32] (s.map fI):=by simp [Lib.joinTail]
       have:=j9 b
       rw [e,List.length_append,List.length_append,List.length_cons,List.length_nil,List.length_cons]
       omega
   have:=key r
   have:=j9 a
   rw [List.length_cons]
   omega
theorem aXr {l:List Int} (hl:l.length≤10000000) (hr : ∀ z∈l,dV z):Sh.BN l=some (HB l):=by
 apply Ok.eq
 unfold Sh.BN
 refine iN (I:=fun t=>0≤t.2∧t.2≤l.length∧t.1=HB (l.take t.2.toNat)) (μ:=fun t=>(l.length - t.2).toNat) ?_ ⟨by dsimp only; omega,by dsimp only; omega,by simp [HB,rP,Lib.join]⟩
 rintro ⟨s,i⟩ ⟨i0,i1,i2⟩
 dsimp only at i0 i1 i2 ⊢
 by_cases hi:i < l.length
 ·
  obtain ⟨z,hz⟩:=oI i0 hi
  have hs:=XY (l:=l.take i.toNat)
  rw [← i2,List.length_take] at hs
  have hd:=j9 z
  rw [if_pos hi]
  refine gK (fun c=>c=if 0 < i then s++[32] else s) (fun c hc => ?_) (fun K hK => ?_)
  ·
   have hcl:c.length≤s.length+1:=by
     rw [hc]; split
     . simp
     . omega
   rw [eU i0 hz,Option.bind_some,nC (hr z (List.mem_of_getElem? hz)),Option.bind_some]
   refine FR (by omega) (cQ.2 ⟨⟨by omega,by omega⟩,kJ.2 ⟨⟨by dsimp only; omega,by dsimp only; omega,?_⟩,by dsimp only; omega⟩⟩)
   dsimp only
   rw [hc,xJ i0 hz]
   unfold HB
   rw [List.map_append]
   by_cases h0:0 < i
   ·
    have hne:(l.take i.toNat).map fI≠[]:=fun q=>by
      have:=congrArg List.length q
      simp at this
      rcases this with q | q
      . omega
      . rw [q] at hi; simp at hi; omega
    rw [if_pos h0,List.map_cons,List.map_nil,aJy _ _ hne,i2,List.append_assoc]
    rfl
   have e:i=0:=by omega
   subst e
   have es:s=[]:=by rw [i2]; simp [HB,rP,Lib.join]
   rw [if_neg h0,es]
   simp [rP,Lib.join]
  refine cF.2 ⟨fun h=>FR (x:=s) (y:=[32]) (by show s.length+1≤9223372036854775807; omega) (hK _ (by rw [if_pos h])),fun h=>hK _ (by rw [if_neg h])⟩
 rw [if_neg hi]
 refine gA.2 (bD.2 ?_)
 rw [i2,List.take_of_length_le (by omega)]
def UE (p:dM):List UInt8:=[104,101,97,100]++([32]++(if p.aR=[] then [35]++fI p.bA else p.aR))++[10]
def sqS (p:dM):List UInt8:=if p.cI=[] then [] else [115,101,113]++([32]++p.cI)++[10]
def unS (p:dM):List UInt8:=[117,110,100,111]++([32]++(fI (p.back.length:Int)++([32]++([114,101,100,111]++([32]++fI (p.hO.length:Int))))))++[10]
def HX (p:dM):List UInt8:=((((((UE p++yS lnR 0 p.bB)++sqS p)++yS lnF 0 p.cJ)++yS lnE 0 p.bV)++yS lnC 0 p.aK)++yS lnS 0 p.bL)++unS p
structure gTx (p:dM):Prop where
  g:gPl p
  n:(HX p).length≤900000000
  par : ∀ z∈p.aK,z.parents.length≤10000000
theorem aXb {p:dM} (h:gTx p):Sh.A5 (IG p)=some (HX p):=by
 obtain ⟨hg,hn,hpar⟩:=h
 obtain ⟨⟨v1,v2,v3,⟨vh,_⟩,_,v8⟩,_⟩:=hg.now
 dsimp only at v1 v2 v3 vh v8
 have hc:=hg.co
 have l1:=v1.1; have l2:=v2.1; have l3:=v3.1; have l8:=v8.1; have lc:=hc.1; have lb:=hg.bl; have lf:=hg.fl
 unfold HX at hn
 simp only [List.length_append] at hn
 apply Ok.eq
 unfold Sh.A5
 refine gK (fun a=>a=UE p) (fun a ha => ?_) (fun K hK => ?_)
 ·
  subst ha
  refine J7 lnR p.bB (UE p) _ (by omega) (fun i z s i0 hi hz hm hs => ?_) ?_
  ·
   dsimp only
   refine cF.2 ⟨fun _ => ?_,fun q=>absurd hi q⟩
   rw [show at_ (IG p).bB i=some z from eU i0 hz,Option.bind_some]
   simp only [lnR,List.length_append,List.length_cons,List.length_nil] at hs
   refine cQ.2 ⟨(v3.2 z hm).1,cV.2 ?_⟩
   rw [F7 (j3 _ _ _) (by simp) (by simp only [List.length_append,List.length_cons,List.length_nil]; omega),Option.bind_some]
   exact oR ⟨by omega,by omega⟩ rfl
  dsimp only
  refine cF.2 ⟨fun q=>absurd q (show ¬ ((p.bB.length:Int) < (p.bB.length:Int)) by omega),fun _=>jC ?_⟩
  refine gK (fun a=>a=(UE p++yS lnR 0 p.bB)++sqS p) (fun a ha => ?_) (fun K hK => ?_)
  ·
   subst ha
   refine J7 lnF p.cJ _ _ (by simp only [List.length_append]; omega) (fun i z s i0 hi hz hm hs => ?_) ?_
   ·
    dsimp only
    refine cF.2 ⟨fun _ => ?_,fun q=>absurd hi q⟩
    rw [show at_ (IG p).cJ i=some z from eU i0 hz,Option.bind_some]
    simp only [lnF,List.length_append,List.length_cons,List.length_nil] at hs
    have hd:=(v1.2 z hm).2.2
    refine cQ.2 ⟨(v1.2 z hm).1,cQ.2 ⟨⟨by omega,by omega⟩,cV.2 ?_⟩⟩
    rw [F7 (j4 _ _ _ _) (by simp) (by simp only [List.length_append,List.length_cons,List.length_nil]; omega),Option.bind_some]
    exact oR ⟨by omega,by omega⟩ rfl
   dsimp only
   refine cF.2 ⟨fun q=>absurd q (show ¬ ((p.cJ.length:Int) < (p.cJ.length:Int)) by omega),fun _=>jC ?_⟩
   refine J7 lnE p.bV _ _ (by simp only [List.length_append]; omega) (fun i z s i0 hi hz hm hs => ?_) ?_
   ·
    dsimp only
    refine cF.2 ⟨fun _ => ?_,fun q=>absurd hi q⟩
    rw [show at_ (IG p).bV i=some z from eU i0 hz,Option.bind_some]
    simp only [lnE,List.length_append,List.length_cons,List.length_nil] at hs
    obtain ⟨u1,u2,_,_,_,hd⟩:=v2.2 z hm
    refine cQ.2 ⟨u1,cQ.2 ⟨u2,cQ.2 ⟨⟨by omega,by omega⟩,cV.2 ?_⟩⟩⟩
    rw [F7 (j5 _ _ _ _ _) (by simp) (by simp only [List.length_append,List.length_cons,List.length_nil]; omega),Option.bind_some]
    exact oR ⟨by omega,by omega⟩ rfl
   dsimp only
   refine cF.2 ⟨fun q=>absurd q (show ¬ ((p.bV.length:Int) < (p.bV.length:Int)) by omega),fun _=>jC ?_⟩
   refine J7 lnC p.aK _ _ (by simp only [List.length_append]; omega) (fun i z s i0 hi hz hm hs => ?_) ?_
   ·
    dsimp only
    refine cF.2 ⟨fun _ => ?_,fun q=>absurd hi q⟩
    rw [show at_ (IG p).aK i=some z from eU i0 hz,Option.bind_some]
    simp only [lnC,List.length_append,List.length_cons,List.length_nil] at hs
    obtain ⟨u1,u2,u3,u4⟩:=hc.2 z hm
    have m1:=u1.1; have m2:=hpar z hm
    refine BO z.parents fI _ (fun k x k0 hk hx o ho => ?_) ?_
    ·
     dsimp only
     rw [if_pos hk,eU k0 hx,Option.bind_some]
     exact cQ.2 ⟨u2.2 x (List.mem_of_getElem? hx),cV.2 (cQ.2 ⟨by simp; omega,cV.2 (oR ⟨by omega,by omega⟩ rfl)⟩)⟩
    dsimp only
    rw [if_neg (by omega)]
    have hnl:=XY (l:=z.parents)
    have en:rP (z.parents.map fI) [32]=HB z.parents:=rfl
    rw [en]
    refine jC (cQ.2 ⟨⟨by omega,by omega⟩,cQ.2 ⟨⟨by omega,by omega⟩,FR (x:=fI (i+1)) (y:=[58]) (by show (fI (i+1)).length+1≤9223372036854775807; omega) ?_⟩⟩)
    refine cQ.2 ⟨⟨by rw [List.length_map]; omega,by omega⟩,cV.2 (FR (x:=HB z.parents) (y:=[58]) (by show (HB z.parents).length+1≤9223372036854775807; omega) ?_)⟩
    refine cQ.2 ⟨⟨by omega,by omega⟩,FR (x:=fI (z.tree.length:Int)) (y:=[58]) (by show (fI (z.tree.length:Int)).length+1≤9223372036854775807; omega) (cV.2 ?_)⟩
    rw [F7 (j5 _ _ _ _ _) (by simp) (by simp only [List.length_append,List.length_cons,List.length_nil]; omega),Option.bind_some]
    exact oR ⟨by omega,by omega⟩ rfl
   dsimp only
   refine cF.2 ⟨fun q=>absurd q (show ¬ ((p.aK.length:Int) < (p.aK.length:Int)) by omega),fun _=>jC ?_⟩
   refine J7 lnS p.bL _ _ (by simp only [List.length_append]; omega) (fun i z s i0 hi hz hm hs => ?_) ?_
   ·
    dsimp only
    refine cF.2 ⟨fun _ => ?_,fun q=>absurd hi q⟩
    simp only [lnS,List.length_append,List.length_cons,List.length_nil] at hs
    refine cQ.2 ⟨⟨by omega,by omega⟩,cV.2 ?_⟩
    rw [F7 (j2 _ _) (by simp) (by simp only [List.length_append,List.length_cons,List.length_nil]; omega),Option.bind_some]
    exact oR ⟨by omega,by omega⟩ rfl
   dsimp only
   refine cF.2 ⟨fun q=>absurd q (show ¬ ((p.bL.length:Int) < (p.bL.length:Int)) by omega),fun _=>jC ?_⟩
   have e1:(IG p).gC.length=p.back.length:=List.length_map ..
   have e2:(IG p).fA.length=p.hO.length:=List.length_map ..
   rw [e1,e2]
   simp only [unS,List.length_append,List.length_cons,List.length_nil] at hn
   refine cQ.2 ⟨⟨by omega,by omega⟩,cQ.2 ⟨⟨by omega,by omega⟩,cV.2 ?_⟩⟩
   rw [F7 (j4 _ _ _ _) (by simp) (by simp only [List.length_append,List.length_cons,List.length_nil]; omega),Option.bind_some]
   exact bD.2 rfl
  have ek:sqS p=if p.cI=[] then [] else [115,101,113]++([32]++p.cI)++[10]:=rfl
  refine cF.2 ⟨fun q=>hK _ ?_,fun q=>cV.2 ?_⟩
  ·
   rw [ek,if_pos (show p.cI=[] from q),List.append_nil]
  rw [ek,if_neg (show ¬ p.cI=[] from q)] at hn
  simp only [List.length_append,List.length_cons,List.length_nil] at hn
  rw [F7 (j2 _ _) (by simp) (by simp only [List.length_append,List.length_cons,List.length_nil]; show _+_+(3+(1+p.cI.length))≤_; omega),Option.bind_some]
  exact hK _ (by rw [ek,if_neg (show ¬ p.cI=[] from q)]; rfl)
 have eh:UE p=[104,101,97,100]++([32]++(if p.aR=[] then [35]++fI p.bA else p.aR))++[10]:=rfl
 have hd:=j9 p.bA
 refine cF.2 ⟨fun q => ?_,fun q=>cV.2 ?_⟩
 ·
  refine cQ.2 ⟨vh,FR (x:=[35]) (y:=fI p.bA) (by show 1+(fI p.bA).length≤9223372036854775807; omega) (cV.2 ?_)⟩
  rw [F7 (j2 _ _) (by simp) (by simp only [List.length_append,List.length_cons,List.length_nil]; show 0+(4+(1+(1+(fI p.bA).length)))≤_; omega),Option.bind_some]
  exact hK _ (by rw [eh,if_pos (show p.aR=[] from q)]; rfl)
 rw [eh,if_neg (show ¬ p.aR=[] from q)] at hn
 simp only [List.length_append,List.length_cons,List.length_nil] at hn
 rw [F7 (j2 _ _) (by simp) (by simp only [List.length_append,List.length_cons,List.length_nil]; show 0+(4+(1+p.aR.length))≤_; omega),Option.bind_some]
 exact hK _ (by rw [eh,if_neg (show ¬ p.aR=[] from q)]; rfl)
end Go.S
end

section
set_option linter.unusedVariables false
namespace Go.S
open Go Go.V
theorem aXs {p:dM} (h:gTx p):Sh.KN (DO p)=some (HX p):=by
 obtain ⟨hg,hn,hpar⟩:=h
 obtain ⟨⟨v1,v2,v3,⟨vh,_⟩,_,v8⟩,_⟩:=hg.now
 dsimp only at v1 v2 v3 vh v8
 have hc:=hg.co
 have l1:=v1.1; have l2:=v2.1; have l3:=v3.1; have l8:=v8.1; have lc:=hc.1; have lb:=hg.bl; have lf:=hg.fl
 unfold HX at hn
 simp only [List.length_append] at hn
 apply Ok.eq
 unfold Sh.KN
 have ehd:(UE p).length=4+(1+(if p.aR=[] then [35]++fI p.bA else p.aR).length)+1:=by unfold UE; simp only [List.length_append,List.length_cons,List.length_nil]
 have hdi:=j9 p.bA
 have hbl:p.aR.length≤900000000:=by
   by_cases q:p.aR=[]
   . rw [q]; exact Nat.zero_le _
   . rw [if_neg q] at ehd; omega
 refine FR (x:=[104,101,97,100,32]) (y:=p.aR) (by show 5+p.aR.length≤9223372036854775807; omega) ?_
 refine gK (fun a=>a++[10]=UE p) (fun a ha => ?_) (fun K hK => ?_)
 ·
  have hal:=congrArg List.length ha
  simp only [List.length_append,List.length_cons,List.length_nil] at hal
  refine FR (x:=a) (y:=[10]) (by show a.length+1≤9223372036854775807; omega) ?_
  rw [ha]
  refine NX lnR p.bB (UE p) _ (by omega) (fun i z s i0 hi hz hm hs => ?_) ?_
  ·
   have hz':at_ (DO p).fX i=some (zH z):=eU i0 (rM zH (l:=p.bB) hz)
   dsimp only
   refine cF.2 ⟨fun _ => ?_,fun q=>absurd (show i < (((p.bB.map zH).length:Nat):Int) by rw [List.length_map]; exact hi) q⟩
   simp only [lnR,List.length_append,List.length_cons,List.length_nil] at hs
   rw [hz']
   dsimp only [zH]
   refine cQ.2 ⟨?_,cV.2 ?_⟩
   ·
    simp only [List.length_append,List.length_cons,List.length_nil]; omega
   rw [Option.bind_some]
   refine cQ.2 ⟨?_,cV.2 ?_⟩
   ·
    simp only [List.length_append,List.length_cons,List.length_nil]; omega
   refine cQ.2 ⟨?_,cV.2 ?_⟩
   ·
    simp only [List.length_append,List.length_cons,List.length_nil]; omega
   rw [Option.bind_some]
   rw [nC (v3.2 z hm).1,Option.bind_some]
   refine cQ.2 ⟨?_,cV.2 ?_⟩
   ·
    simp only [List.length_append,List.length_cons,List.length_nil]; omega
   refine cQ.2 ⟨?_,cV.2 ?_⟩
   ·
    simp only [List.length_append,List.length_cons,List.length_nil]; omega
   exact oR ⟨by omega,by omega⟩ (by simp only [lnR,List.append_assoc]; rfl)
  dsimp only
  refine cF.2 ⟨fun q=>absurd q (show ¬ ((p.bB.length:Int) < (((p.bB.map zH).length:Nat):Int)) by rw [List.length_map]; omega),fun _=>jC ?_⟩
  refine gK (fun a=>a=(UE p++yS lnR 0 p.bB)++sqS p) (fun a ha => ?_) (fun K hK => ?_)
  ·
   subst ha
   refine NX lnF p.cJ _ _ (by simp only [List.length_append]; omega) (fun i z s i0 hi hz hm hs => ?_) ?_
   ·
    have hz':at_ (DO p).iV i=some (tU z):=eU i0 (rM tU (l:=p.cJ) hz)
    dsimp only
    refine cF.2 ⟨fun _ => ?_,fun q=>absurd (show i < (((p.cJ.map tU).length:Nat):Int) by rw [List.length_map]; exact hi) q⟩
    simp only [lnF,List.length_append,List.length_cons,List.length_nil] at hs
    have hd:=(v1.2 z hm).2.2
    rw [hz']
    dsimp only [tU]
    refine cQ.2 ⟨?_,cV.2 ?_⟩
    ·
     simp only [List.length_append,List.length_cons,List.length_nil]; omega
    rw [Option.bind_some]
    refine cQ.2 ⟨?_,cV.2 ?_⟩
    ·
     simp only [List.length_append,List.length_cons,List.length_nil]; omega
    refine cQ.2 ⟨?_,cV.2 ?_⟩
    ·
     simp only [List.length_append,List.length_cons,List.length_nil]; omega
    rw [Option.bind_some]
    rw [nC (v1.2 z hm).1,Option.bind_some]
    refine cQ.2 ⟨?_,cV.2 ?_⟩
    ·
     simp only [List.length_append,List.length_cons,List.length_nil]; omega
    refine cQ.2 ⟨?_,cV.2 ?_⟩
    ·
     simp only [List.length_append,List.length_cons,List.length_nil]; omega
    rw [Option.bind_some]
    rw [nC (show dV (z.data.length:Int) from ⟨by omega,by omega⟩),Option.bind_some]
    refine cQ.2 ⟨?_,cV.2 ?_⟩
    ·
     simp only [List.length_append,List.length_cons,List.length_nil]; omega
    refine cQ.2 ⟨?_,cV.2 ?_⟩
    ·
     simp only [List.length_append,List.length_cons,List.length_nil]; omega
    exact oR ⟨by omega,by omega⟩ (by simp only [lnF,List.append_assoc]; rfl)
   dsimp only
   refine cF.2 ⟨fun q=>absurd q (show ¬ ((p.cJ.length:Int) < (((p.cJ.map tU).length:Nat):Int)) by rw [List.length_map]; omega),fun _=>jC ?_⟩
   refine NX lnE p.bV _ _ (by simp only [List.length_append]; omega) (fun i z s i0 hi hz hm hs => ?_) ?_
   ·
    have hz':at_ (DO p).iM i=some (CJ z):=eU i0 (rM CJ (l:=p.bV) hz)
    dsimp only
    refine cF.2 ⟨fun _ => ?_,fun q=>absurd (show i < (((p.bV.map CJ).length:Nat):Int) by rw [List.length_map]; exact hi) q⟩
    simp only [lnE,List.length_append,List.length_cons,List.length_nil] at hs
    obtain ⟨u1,u2,_,_,_,hd⟩:=v2.2 z hm
    rw [hz',Option.bind_some]
    dsimp only [CJ]
    refine cQ.2 ⟨?_,cV.2 ?_⟩
    ·
     simp only [List.length_append,List.length_cons,List.length_nil]; omega
    refine cQ.2 ⟨?_,cV.2 ?_⟩
    ·
     simp only [List.length_append,List.length_cons,List.length_nil]; omega
    refine cQ.2 ⟨?_,cV.2 ?_⟩
    ·
     simp only [List.length_append,List.length_cons,List.length_nil]; omega
    rw [nC u1,Option.bind_some]
    refine cQ.2 ⟨?_,cV.2 ?_⟩
    ·
     simp only [List.length_append,List.length_cons,List.length_nil]; omega
    refine cQ.2 ⟨?_,cV.2 ?_⟩
    ·
     simp only [List.length_append,List.length_cons,List.length_nil]; omega
    rw [nC u2,Option.bind_some]
    refine cQ.2 ⟨?_,cV.2 ?_⟩
    ·
     simp only [List.length_append,List.length_cons,List.length_nil]; omega
    refine cQ.2 ⟨?_,cV.2 ?_⟩
    ·
     simp only [List.length_append,List.length_cons,List.length_nil]; omega
    rw [nC (show dV (z.data.length:Int) from ⟨by omega,by omega⟩),Option.bind_some]
    refine cQ.2 ⟨?_,cV.2 ?_⟩
    ·
     simp only [List.length_append,List.length_cons,List.length_nil]; omega
    refine cQ.2 ⟨?_,cV.2 ?_⟩
    ·
     simp only [List.length_append,List.length_cons,List.length_nil]; omega
    exact oR ⟨by omega,by omega⟩ (by simp only [lnE,List.append_assoc]; rfl)
   dsimp only
   refine cF.2 ⟨fun q=>absurd q (show ¬ ((p.bV.length:Int) < (((p.bV.map CJ).length:Nat):Int)) by rw [List.length_map]; omega),fun _=>jC ?_⟩
   refine NX lnC p.aK _ _ (by simp only [List.length_append]; omega) (fun i z s i0 hi hz hm hs => ?_) ?_
   ·
    have hz':at_ (DO p).aK i=some (vE z):=eU i0 (rM vE (l:=p.aK) hz)
    dsimp only
    refine cF.2 ⟨fun _ => ?_,fun q=>absurd (show i < (((p.aK.map vE).length:Nat):Int) by rw [List.length_map]; exact hi) q⟩
    simp only [lnC,List.length_append,List.length_cons,List.length_nil] at hs
    obtain ⟨u1,u2,u3,u4⟩:=hc.2 z hm
    have m1:=u1.1; have m2:=hpar z hm
    rw [hz',Option.bind_some]
    dsimp only [vE]
    rw [List.length_map]
    refine cQ.2 ⟨?_,cV.2 ?_⟩
    ·
     simp only [List.length_append,List.length_cons,List.length_nil]; omega
    refine cQ.2 ⟨⟨by omega,by omega⟩,?_⟩
    rw [nC ⟨by omega,by omega⟩,Option.bind_some]
    refine cQ.2 ⟨?_,cV.2 ?_⟩
    ·
     simp only [List.length_append,List.length_cons,List.length_nil]; omega
    refine cQ.2 ⟨?_,cV.2 ?_⟩
    ·
     simp only [List.length_append,List.length_cons,List.length_nil]; omega
    rw [aXr m2 u2.2,Option.bind_some]
    refine cQ.2 ⟨?_,cV.2 ?_⟩
    ·
     simp only [List.length_append,List.length_cons,List.length_nil]; omega
    refine cQ.2 ⟨?_,cV.2 ?_⟩
    ·
     simp only [List.length_append,List.length_cons,List.length_nil]; omega
    rw [nC ⟨by omega,by omega⟩,Option.bind_some]
    refine cQ.2 ⟨?_,cV.2 ?_⟩
    ·
     simp only [List.length_append,List.length_cons,List.length_nil]; omega
    refine cQ.2 ⟨?_,cV.2 ?_⟩
    ·
     simp only [List.length_append,List.length_cons,List.length_nil]; omega
    refine cQ.2 ⟨?_,cV.2 ?_⟩
    ·
     simp only [List.length_append,List.length_cons,List.length_nil]; omega
    refine cQ.2 ⟨?_,cV.2 ?_⟩
    ·
     simp only [List.length_append,List.length_cons,List.length_nil]; omega
    exact oR ⟨by omega,by omega⟩ (by simp only [lnC,List.append_assoc]; rfl)
   dsimp only
   refine cF.2 ⟨fun q=>absurd q (show ¬ ((p.aK.length:Int) < (((p.aK.map vE).length:Nat):Int)) by rw [List.length_map]; omega),fun _=>jC ?_⟩
   refine NX lnS p.bL _ _ (by simp only [List.length_append]; omega) (fun i z s i0 hi hz hm hs => ?_) ?_
   ·
    dsimp only
    refine cF.2 ⟨fun _ => ?_,fun q=>absurd (show i < (((p.bL.map AH).length:Nat):Int) by rw [List.length_map]; exact hi) q⟩
    simp only [lnS,List.length_append,List.length_cons,List.length_nil] at hs
    refine cQ.2 ⟨?_,cV.2 ?_⟩
    ·
     simp only [List.length_append,List.length_cons,List.length_nil]; omega
    rw [nC ⟨by omega,by omega⟩,Option.bind_some]
    refine cQ.2 ⟨?_,cV.2 ?_⟩
    ·
     simp only [List.length_append,List.length_cons,List.length_nil]; omega
    refine cQ.2 ⟨?_,cV.2 ?_⟩
    ·
     simp only [List.length_append,List.length_cons,List.length_nil]; omega
    exact oR ⟨by omega,by omega⟩ (by simp only [lnS,List.append_assoc]; rfl)
   dsimp only
   refine cF.2 ⟨fun q=>absurd q (show ¬ ((p.bL.length:Int) < (((p.bL.map AH).length:Nat):Int)) by rw [List.length_map]; omega),fun _=>jC ?_⟩
   have e1:(DO p).back.length=p.back.length:=List.length_map ..
   have e2:(DO p).hO.length=p.hO.length:=List.length_map ..
   rw [e1,e2]
   have e3:=j9 (p.back.length:Int)
   have e4:=j9 (p.hO.length:Int)
   simp only [unS,List.length_append,List.length_cons,List.length_nil] at hn
   refine cQ.2 ⟨?_,cV.2 ?_⟩
   ·
    simp only [List.length_append,List.length_cons,List.length_nil]; omega
   rw [nC ⟨by omega,by omega⟩,Option.bind_some]
   refine cQ.2 ⟨?_,cV.2 ?_⟩
   ·
    simp only [List.length_append,List.length_cons,List.length_nil]; omega
   refine cQ.2 ⟨?_,cV.2 ?_⟩
   ·
    simp only [List.length_append,List.length_cons,List.length_nil]; omega
   rw [nC ⟨by omega,by omega⟩,Option.bind_some]
   refine cQ.2 ⟨?_,cV.2 ?_⟩
   ·
    simp only [List.length_append,List.length_cons,List.length_nil]; omega
   refine cQ.2 ⟨?_,cV.2 ?_⟩
   ·
    simp only [List.length_append,List.length_cons,List.length_nil]; omega
   exact bD.2 (by simp only [HX,unS,List.append_assoc]; rfl)
  have ek:sqS p=if p.cI=[] then [] else [115,101,113]++([32]++p.cI)++[10]:=rfl
  refine cF.2 ⟨fun q=>hK _ ?_,fun q => ?_⟩
  ·
   rw [ek,if_pos (show p.cI=[] from q),List.append_nil]
  have q' : ¬ p.cI=[]:=q
  rw [ek,if_neg q'] at hn
  simp only [List.length_append,List.length_cons,List.length_nil] at hn
  dsimp only [DO]
  refine cQ.2 ⟨?_,cV.2 ?_⟩
  ·
   simp only [List.length_append,List.length_cons,List.length_nil]; omega
  refine cQ.2 ⟨?_,cV.2 ?_⟩
  ·
   simp only [List.length_append,List.length_cons,List.length_nil]; omega
  refine cQ.2 ⟨?_,cV.2 ?_⟩
  ·
   simp only [List.length_append,List.length_cons,List.length_nil]; omega
  refine hK _ ?_
  rw [ek,if_neg q']
  simp only [List.append_assoc]; rfl
 refine cF.2 ⟨fun q => ?_,fun q=>hK _ ?_⟩
 ·
  rw [nC (show dV (DO p).eB from vh),Option.bind_some]
  refine FR (x:=[104,101,97,100,32,35]) (y:=fI p.bA) (by show 6+(fI p.bA).length≤9223372036854775807; omega) (hK _ ?_)
  unfold UE
  rw [if_pos (show p.aR=[] from q)]
  simp only [List.append_assoc]; rfl
 unfold UE
 rw [if_neg (show ¬ p.aR=[] from q)]
 simp only [List.append_assoc]; rfl
theorem lnl {α:Type} [Bk α] {ln:Int→α→List UInt8} {l:List α} (h : ∀ k,∀ z∈l,(ln k z).length≤128*Bk.bk z):(yS ln 0 l).length≤128*Bk.bk l:=by
 have:=aIM (k:=0) h
 rw [GW]; omega
theorem a0L {n a b c d e k:Nat} (h:n=a+b+c+d+e) (hn:n≤k):a+b≤k:=by omega
theorem a11 {bw bi br bs bn bc x1 x2 x3 x4 x5 x6 x7 x8:Nat} (hs:bw+bi+br+bs≤bn) (ht:bn+bc≤2000000) (a1:x1≤128*br) (a2:x2≤128*bw) (a3:x3≤128*bi) (a4:x4≤128*bc) (a5:x5≤128*bs) (a6:x6≤2000100) (a7:x7≤2000100) (a8:x8≤100):x6+x1+x7+x2+x3+x4+x5+x8≤900000000:=by omega
theorem a1M {p:dM} (r:Rp.rp p) (b:Bk.bk p≤2000000):gCk p∧gTx p:=by
 have hg:=a1N r b
 have h5:=aTQ (aPx p) b
 have hnb:=aPw (FK p)
 have bw:Bk.bk p.cJ≤Bk.bk (FK p):=by rw [hnb]; show _≤Bk.bk p.cJ+_+_+_+_+_+_+_+_+_+_+_+_+_+_+_+_; omega
 have bi:Bk.bk p.bV≤Bk.bk (FK p):=by rw [hnb]; show _≤_+Bk.bk p.bV+_+_+_+_+_+_+_+_+_+_+_+_+_+_+_; omega
 have br:Bk.bk p.bB≤Bk.bk (FK p):=by rw [hnb]; show _≤_+_+Bk.bk p.bB+_+_+_+_+_+_+_+_+_+_+_+_+_+_; omega
 have bh:Bk.bk p.aR≤Bk.bk (FK p):=by rw [hnb]; show _≤_+_+_+Bk.bk p.aR+_+_+_+_+_+_+_+_+_+_+_+_+_; omega
 have bk:Bk.bk p.cI≤Bk.bk (FK p):=by rw [hnb]; show _≤_+_+_+_+_+Bk.bk p.cI+_+_+_+_+_+_+_+_+_+_+_; omega
 have bs:Bk.bk p.bL≤Bk.bk (FK p):=by rw [hnb]; show _≤_+_+_+_+_+_+_+_+_+_+_+_+_+_+_+_+Bk.bk p.bL; omega
 have hsum:Bk.bk p.cJ+Bk.bk p.bV+Bk.bk p.bB+Bk.bk p.bL≤Bk.bk (FK p):=by rw [hnb]; show _≤Bk.bk p.cJ+Bk.bk p.bV+Bk.bk p.bB+_+_+_+_+_+_+_+_+_+_+_+_+_+Bk.bk p.bL; omega
 have htot:=a0L (aPx p) b
 obtain ⟨n1,n2,n3,n4⟩:=h5
 have hco : ∀ z∈p.aK,I5 z.tree∧z.parents.length≤10000000 ∧ ∀ k,(lnC k z).length≤128*Bk.bk z:=fun z hz=>by
   have m:=FQ hz
   have q:=aPu z
   have q1:=FP E8 z.parents
   have q2:=DU z.text
   have q3:=aX9 z.tree
   have q4:=E8 z.time
   refine ⟨WA (by omega),by omega,fun k => ?_⟩
   have:=j9 (k+1); have:=j9 (z.tree.length:Int); have:=XY (l:=z.parents)
   simp only [lnC,List.length_append,List.length_cons,List.length_nil]; omega
 have hst : ∀ z∈p.bL,(I5 z.index∧I5 z.work) ∧ ∀ k,(lnS k z).length≤128*Bk.bk z:=fun z hz=>by
   have m:=FQ hz
   have q:=aPz z
   have q1:=aM7 z
   refine ⟨⟨WA (by omega),WA (by omega)⟩,fun k => ?_⟩
   have:=j9 k
   simp only [lnS,List.length_append,List.length_cons,List.length_nil]; omega
 have hidx : ∀ z∈p.bV,z.path.length≤4000000 ∧ ∀ k,(lnE k z).length≤128*Bk.bk z:=fun z hz=>by
   have m:=FQ hz
   have q:=aPv z
   have q1:=DU z.path
   have q2:=E8 z.dJ
   refine ⟨by omega,fun k => ?_⟩
   have:=j9 z.dJ; have:=j9 z.mode; have:=j9 (z.data.length:Int)
   simp only [lnE,List.length_append,List.length_cons,List.length_nil]; omega
 have hre : ∀ z∈p.bB,z.name.length≤4000000 ∧ ∀ k,(lnR k z).length≤128*Bk.bk z:=fun z hz=>by
   have m:=FQ hz
   have q:=aPy z
   have q1:=DU z.name
   refine ⟨by omega,fun k => ?_⟩
   have:=j9 z.cB
   simp only [lnR,List.length_append,List.length_cons,List.length_nil]; omega
 have hfi : ∀ z∈p.cJ,∀ k,(lnF k z).length≤128*Bk.bk z:=fun z hz k=>by
   have q:=aLU z
   have q1:=DU z.path
   have:=j9 z.mode; have:=j9 (z.data.length:Int)
   simp only [lnF,List.length_append,List.length_cons,List.length_nil]; omega
 have lr:=FP aTO p.bB
 have li:=FP aTL p.bV
 have ls:=FP aM7 p.bL
 have hbs:=DU p.aR
 have hks:=DU p.cI
 refine ⟨⟨hg,WA (by omega),⟨by omega,fun z hz=>(hidx z hz).1⟩,⟨by omega,fun z hz=>(hre z hz).1⟩,by omega,fun z hz=>(hco z hz).1,⟨by omega,fun z hz=>(hst z hz).1⟩⟩,⟨hg,?_,fun z hz=>(hco z hz).2.1⟩⟩
 have a1:=lnl (ln:=lnR) (l:=p.bB) fun k z hz=>(hre z hz).2 k
 have a2:=lnl (ln:=lnF) (l:=p.cJ) fun k z hz=>hfi z hz k
 have a3:=lnl (ln:=lnE) (l:=p.bV) fun k z hz=>(hidx z hz).2 k
 have a4:=lnl (ln:=lnC) (l:=p.aK) fun k z hz=>(hco z hz).2.2 k
 have a5:=lnl (ln:=lnS) (l:=p.bL) fun k z hz=>(hst z hz).2 k
 have a6:(UE p).length≤2000100:=by
   unfold UE
   have:=j9 p.bA
   simp only [List.length_append,List.length_cons,List.length_nil]
   split
   . simp only [List.length_append,List.length_cons,List.length_nil]; omega
   . omega
 have a7:(sqS p).length≤2000100:=by
   unfold sqS
   split
   . simp
   . simp only [List.length_append,List.length_cons,List.length_nil]; omega
 have a8:(unS p).length≤100:=by
   unfold unS
   have:=j9 (p.back.length:Int); have:=j9 (p.hO.length:Int)
   simp only [List.length_append,List.length_cons,List.length_nil]; omega
 unfold HX
 simp only [List.length_append]
 exact a11 hsum htot a1 a2 a3 a4 a5 a6 a7 a8
theorem ZP (p:dM) (r:Rp.rp p) (b:Bk.bk p≤2000000):Sh.yR p=some true:=by
 obtain ⟨hk,ht⟩:=a1M r b
 have hg:=hk.g
 have hw:LH (fw F6 0 (wsP p))∨True := .inr trivial
 apply Ok.eq
 unfold Sh.yR
 rw [aSs,Option.bind_some,if_neg (by simp)]
 refine tot (aW5 hg) fun x=>cF.2 ⟨fun _=>bD.2 rfl,fun _ => ?_⟩
 rw [a0n hg,Option.bind_some,aPB hg,Option.bind_some,if_pos rfl,aTK hk,Option.bind_some]
 have hwr:=aTy hk
 rw [hwr,Option.bind_some]
 have hws:=aMs hk
 have hfin : ∀ (ws:List bZ) (k:Int),0≤k→k+ws.length≤1000→(∀ w∈ws,LH w)→0≤(fw F6 k ws).err∧(fw F6 k ws).err≤14∧Pok (fw F6 k ws).parts∧(fw F6 k ws).parts.length≤1000:=by
   intro ws
   induction ws with
   | nil=>intro k _ _ _; exact ⟨by show (0:Int)≤0; omega,by show (0:Int)≤14; omega,(fun p h=>by cases h),by show 0≤1000; omega⟩
   | cons w r ih =>
     intro k k0 k1 hw
     rw [List.length_cons] at k1
     obtain ⟨w1,w2,w3,w4,_⟩:=hw w (List.mem_cons_self ..)
     by_cases he:w.err=0
     . rw [EG he]
       exact ih (k+1) (by omega) (by omega) fun y hy=>hw y (List.mem_cons_of_mem _ hy)
     . rw [zO he]
       have es:F6 k w=⟨⟨aFl,k⟩::w.parts,w.err⟩:=by unfold F6; rw [if_neg he]
       rw [es]
       refine ⟨w1,w2,fun q hq => ?_,by show w.parts.length+1≤1000; omega⟩
       rcases List.mem_cons.1 hq with rfl | hq
       . exact ⟨by show 5≤1000; omega,k0,by show k≤9223372036854775807; omega⟩
       . exact w3 q hq
 obtain ⟨t1,t2,t3,t4⟩:=hfin (wsP p) 0 (by omega) (by show (0:Int)+((7:Nat):Int)≤1000; omega) hws
 rw [aPe t1 t2 t3 t4,Option.bind_some,if_pos rfl,aXb ht,Option.bind_some,aXs ht,Option.bind_some]
 exact bD.2 (decide_eq_true rfl)
end Go.S
end
