/- Part of the proofs of: a plan's folder, laid down by the journal, is on the disk as planned, and outlasts the power (any two trees, any keep) -/
import Derived.Test.YtedhnpjkoeblnaaGreatDoorLG
set_option linter.unusedVariables false
set_option linter.unusedSimpArgs false
set_option linter.unusedSectionVars false
section
namespace Go.S
open Go
def vu (u:Nat):List UInt8:=if u < 128 then [UInt8.ofNat u] else UInt8.ofNat (u % 128+128)::vu (u / 128)
termination_by u
decreasing_by omega
theorem aYr {u:Nat} (h:u < 128):vu u=[UInt8.ofNat u]:=by rw [vu,if_pos h]
theorem aYq {u:Nat} (h : ¬ u < 128):vu u=UInt8.ofNat (u % 128+128)::vu (u / 128):=by rw [vu,if_neg h]
theorem aK6 : ∀ (k u:Nat),1≤k→u < 128 ^ k→(vu u).length≤k
  | k,u,hk,h=>by
    by_cases h1:u < 128
    . rw [aYr h1]; simpa using hk
    . rw [aYq h1]
      match k,hk with
      | k+1,_ =>
        have hk1:1≤k:=by
          rcases Nat.eq_zero_or_pos k with q | q
          . subst q; simp at h; omega
          . exact q
        have:=aK6 k (u / 128) hk1 (by rw [Nat.pow_succ] at h; omega)
        simp; omega
  termination_by k=>k
def aNb (n:Int):Nat:=if 0≤n then (2*n).toNat else (-2*n - 1).toNat
def encI (n:Int):List UInt8:=vu (aNb n)
theorem aNc {n:Int} (h:fE n):aNb n < 18446744073709551616:=by
 obtain ⟨h1,h2⟩:=h
 unfold aNb
 split <;> omega
theorem KP {n:Int} (h:fE n):(encI n).length≤10:=aK6 10 _ (by decide) (by have:=aNc h; omega)
def aHv (s:List UInt8):List UInt8:=encI s.length++s
theorem aUS {n:Int} (h:fE n):PL .u64 (SV .u64 (IntKind.wrap .u64 n) 1) (IntKind.wrap .u64 (yX .i64 n 63))=(aNb n:Int):=by
 obtain ⟨h1,h2⟩:=h
 have hs:yX .i64 n 63=if 0≤n then 0 else -1:=by
   unfold yX
   show Int.fdiv n (2 ^ 63)=_
   rw [Int.fdiv_eq_ediv_of_nonneg _ (by decide)]
   split <;> omega
 unfold aNb
 rw [hs]
 by_cases h0:0≤n
 ·
  rw [if_pos h0,if_pos h0]
  obtain ⟨m,rfl⟩ : ∃ m:Nat,n=m:=⟨n.toNat,by omega⟩
  have e1:=a6V m 1 (by decide) (by omega)
  rw [aR1 (by omega)]
  rw [show ((1:Nat):Int)=1 from rfl] at e1
  rw [e1,show IntKind.wrap .u64 (0:Int)=((0:Nat):Int) from rfl,aPg (by omega) (by omega),Nat.xor_zero]
  omega
 rw [if_neg h0,if_neg h0]
 have e0:IntKind.wrap .u64 n=n+18446744073709551616:=by
   simp only [IntKind.wrap,IntKind.bits,IntKind.signed]
   simp
   omega
 have e1:SV .u64 (n+18446744073709551616) 1=2*n+18446744073709551616:=by
   unfold SV
   show IntKind.wrap .u64 ((n+18446744073709551616)*2 ^ 1)=_
   simp only [IntKind.wrap,IntKind.bits,IntKind.signed]
   simp
   omega
 have e2:IntKind.wrap .u64 (-1)=((18446744073709551615:Nat):Int):=by decide
 rw [e0,e1,e2]
 obtain ⟨m,hm⟩ : ∃ m:Nat,2*n+18446744073709551616=m:=⟨(2*n+18446744073709551616).toNat,by omega⟩
 rw [hm,aPg (by omega) (by omega)]
 have hx:m ^^^ 18446744073709551615=18446744073709551615 - m:=by
   have hb:(BitVec.ofNat 64 m ^^^ BitVec.allOnes 64) = ~~~ (BitVec.ofNat 64 m):=BitVec.xor_allOnes
   have:=congrArg BitVec.toNat hb
   rw [BitVec.toNat_xor,BitVec.toNat_not,BitVec.toNat_ofNat,Nat.mod_eq_of_lt (by omega),BitVec.toNat_allOnes] at this
   exact this
 rw [hx]
 omega
theorem aTQ {v:Nat} {c:List UInt8} {R:Type} (hv:v < 18446744073709551616) (hc:c.length+10≤4294967296) {K:List UInt8→Option R} {Q:R→Prop} (hK:Ok (K (c++vu v)) Q)
 (B:Int×List UInt8→Option ((Int×List UInt8)⊕R)) (hB : ∀ t,B t=if 128≤t.1 then (gd ((0:Int)≤(PK .u8 (IntKind.wrap .u8 (BH .u64 t.1 127)) 128)∧(PK .u8 (IntKind.wrap .u8 (BH .u64 t.1 127)) 128)≤255) (
 lt (UInt8.ofNat (PK .u8 (IntKind.wrap .u8 (BH .u64 t.1 127)) 128).toNat) (fun MI=>lt [MI] (fun JQ=>gd (t.2.length+JQ.length≤4294967296) (lt (t.2++JQ) (fun aC7=>go ((yX .u64 t.1 7),aC7)))))))
 else up (gd ((0:Int)≤(IntKind.wrap .u8 t.1)∧(IntKind.wrap .u8 t.1)≤255) (lt (UInt8.ofNat (IntKind.wrap .u8 t.1).toNat) (fun GV=>lt [GV] (fun N4=>gd (t.2.length+N4.length≤4294967296) (lt (t.2++N4) K)))))) :
 Ok (iter B ((v:Int),c)) Q:=by
 have hlen:=aK6 10 v (by decide) (by omega)
 refine kW (I:=fun t => ∃ u:Nat,t.1=u∧u < 18446744073709551616∧t.2++vu u=c++vu v) (μ:=fun t=>t.1.toNat) ?_ ⟨v,rfl,hv,rfl⟩
 rintro ⟨v',c'⟩ ⟨u,hu,hu2,hcc⟩
 dsimp only at hu hcc
 subst hu
 have hl2:=congrArg List.length hcc
 simp only [List.length_append] at hl2
 rw [hB]
 dsimp only
 simp only [iT,oG,fN,iU,oU]
 refine ⟨fun h => ?_,fun h => ?_⟩
 ·
  have h' : ¬ u < 128:=by omega
  have e1:BH .u64 (u:Int) 127=((u % 128:Nat):Int):=by
    have:=aZj (x:=u) (y:=127) hu2 (by decide)
    rw [aZf] at this; exact this
  have e2:PK .u8 (IntKind.wrap .u8 (BH .u64 (u:Int) 127)) 128=((u % 128+128:Nat):Int):=by
    rw [e1,wU8 (by omega)]
    have:=a6q (x:=u % 128) (y:=128) (by omega) (by decide)
    rw [a5e (by omega)] at this; exact this
  have e3:yX .u64 (u:Int) 7=((u / 128:Nat):Int):=a6W u 7 (by decide)
  rw [e2,e3]
  rw [aYq h'] at hcc hl2
  simp only [List.length_cons] at hl2
  refine ⟨⟨by omega,by omega⟩,by simp; omega,⟨u / 128,rfl,by omega,?_⟩,by omega⟩
  rw [← hcc,Int.toNat_natCast]; simp
 have h':u < 128:=by omega
 have e1:IntKind.wrap .u8 (u:Int)=u:=wU8 (by omega)
 rw [e1,Int.toNat_natCast]
 rw [aYr h'] at hcc hl2
 rw [hcc]
 exact ⟨⟨by omega,by omega⟩,by simp at hl2 ⊢; omega,hK⟩
theorem RN {e:pV} {l:List Int} (h : ∀ n∈l,fE n) (hl:e.b.length+10*l.length≤4294967296) (hn:l.length≤1000000):Sh.oL e l=some ⟨e.b++l.flatMap encI⟩:=by
 apply Ok.eq
 unfold Sh.oL
 have hb : ∀ k:Nat,k≤l.length→((l.take k).flatMap encI).length≤10*k:=fun k hk=>by
   induction k with
   | zero=>simp
   | succ k ih =>
     have hx:l[k]? = some l[k]:=List.getElem?_eq_getElem (by omega)
     have e:l.take (k+1)=l.take k++[l[k]]:=by rw [List.take_add_one,hx]; rfl
     have:=ih (by omega)
     have:=KP (h l[k] (List.getElem_mem _))
     rw [e,List.flatMap_append,List.length_append,List.flatMap_singleton]
     omega
 refine kW (I:=fun t=>0≤t.1∧t.1≤l.length∧t.2=e.b++(l.take t.1.toNat).flatMap encI) (μ:=fun t=>(l.length - t.1).toNat) ?_ ⟨by simp,by simp,by simp⟩
 rintro ⟨i,c⟩ ⟨i0,i1,i2⟩
 dsimp only at i0 i1 i2 ⊢
 have hbi:=hb i.toNat (by omega)
 simp only [iT,oG,gX,dG,s7]
 refine ⟨fun hi => ?_,fun hi => ?_⟩
 ·
  obtain ⟨z,hz⟩:=sZ (l:=l) i0 hi
  have hzI:=h z (List.mem_of_getElem? hz)
  refine ⟨i0,z,hz,?_⟩
  rw [aUS hzI]
  refine aTQ (aNc hzI) (by rw [i2,List.length_append]; omega) (K:=fun aC9=>gd (fE (i+1)) (go ((i+1),aC9))) ?_ _ (fun t=>rfl)
  simp only [fN,oU]
  refine ⟨⟨by omega,by omega⟩,⟨by omega,by omega,?_⟩,by omega⟩
  rw [uE i0 hz,List.flatMap_append,i2]; simp [encI]
 rw [i2,show i.toNat=l.length by omega,List.take_length]
theorem aLR {e:pV} {s:List UInt8} (hl:e.b.length+s.length+20≤4294967296):Sh.tN e [s]=some ⟨e.b++aHv s⟩:=by
 apply Ok.eq
 unfold Sh.tN
 have hI:fE (s.length:Int):=⟨by omega,by omega⟩
 have hle:=KP hI
 refine kW (I:=fun t=>(t.1=0∧t.2=e.b)∨(t.1=1∧t.2=e.b++aHv s)) (μ:=fun t=>(1 - t.1).toNat) ?_ (.inl ⟨rfl,rfl⟩)
 rintro ⟨i,c⟩ h
 dsimp only at h ⊢
 rcases h with ⟨rfl,rfl⟩ | ⟨rfl,rfl⟩
 ·
  rw [if_pos (by simp)]
  simp only [gX,fN,iU,oU,s7]
  refine ⟨by omega,s,rfl,?_⟩
  have he:=RN (e:=⟨e.b⟩) (l:=[(s.length:Int)]) (fun n hn=>by rw [List.mem_singleton.1 hn]; exact hI) (by simp; omega) (by simp)
  rw [List.flatMap_singleton] at he
  refine Ok.of he ⟨by simp; omega,⟨by decide,by decide⟩,.inr ⟨rfl,?_⟩,by decide⟩
  simp [aHv]
 rw [if_neg (by simp),oG,dG]
end Go.S
end

section
set_option linter.unusedSimpArgs false
namespace Go.S
open Go
abbrev dJ:aK:=[46,106]
def OJ (q:aK):Prop:=q=dJ∨(2 < q.length∧q.take 3=[46,106,47])
structure Jp (d:aK):Prop where
  h:d.take 3=[46,106,47]
  n:3 < d.length
  s : ∀ k:Nat,d[k]? = some 47→k=2
  l:d.length≤100
  c:wZ d=0
theorem aIs {p q:aK} (hq:q≠[]) (h:oN p q=true):p[q.length]? = some 47∧p.take q.length=q:=by
 unfold oN at h
 rw [if_neg hq] at h
 obtain ⟨h1,h2⟩:=of_decide_eq_true h
 constructor
 ·
  have:(p.take (q.length+1))[q.length]? = some 47:=by rw [h2]; simp
  rw [List.getElem?_take] at this
  split at this
  ·
   exact this
  cases this
 have:=congrArg (List.take q.length) h2
 rw [List.take_take,Nat.min_eq_left (by omega),List.take_left] at this
 exact this
theorem aCt {d q:aK} (hd:Jp d) (hq : ¬ OJ q∨Jp q):j6 d q=false:=by
 unfold j6
 have key:q≠[]→(oN d q||oN q d)=false:=fun hne=>by
   have h1:oN d q=false:=by
     cases hu:oN d q with
     | false=>rfl
     | true =>
       obtain ⟨a,b⟩:=aIs hne hu
       have h2:=hd.s _ a
       rcases hq with hq | hq
       . refine absurd (Or.inl ?_) hq
         rw [← b,h2]
         have:=congrArg (List.take 2) hd.h
         rw [List.take_take] at this
         exact this
       . have:=hq.n; omega
   have h2:oN q d=false:=by
     cases hu:oN q d with
     | false=>rfl
     | true =>
       obtain ⟨a,b⟩:=aIs (fun e=>by have:=hd.n; rw [e] at this; exact absurd this (by decide)) hu
       have hn:=hd.n
       rcases hq with hq | hq
       . refine absurd (Or.inr ⟨?_,?_⟩) hq
         . have:=(List.getElem?_eq_some_iff.1 a).1; omega
         . have:=congrArg (List.take 3) b
           rw [List.take_take,Nat.min_eq_left (by omega),hd.h] at this
           exact this
       . have:=hq.s _ a; omega
   rw [h1,h2]; rfl
 by_cases hne:q=[]
 ·
  simp [hne]
 rw [key hne,Bool.and_false]
theorem aCs {p:aK} (hp : ¬ OJ p):j6 p dJ=false:=by
 unfold j6
 by_cases hne:p=[]
 ·
  simp [hne]
 have h1:oN p dJ=false:=by
   unfold oN
   rw [if_neg (by decide)]
   refine decide_eq_false fun h=>hp (.inr ⟨by have:=h.1; simp at this; omega,?_⟩)
   exact h.2
 have h2:oN dJ p=false:=by
   unfold oN
   rw [if_neg hne]
   refine decide_eq_false fun h=>hne (List.length_eq_zero_iff.1 ?_)
   have:=h.1
   simp at this
   omega
 rw [h1,h2]; simp
theorem aUQ {p:aK} (hp : ¬ OJ p):oN p dJ=false:=by
 unfold oN
 rw [if_neg (by decide)]
 refine decide_eq_false fun h=>hp (.inr ⟨by have:=h.1; simp at this; omega,?_⟩)
 exact h.2
def BR (i:Nat):aK:=[46,106,47,115]++U1 (i:Int)
def T5:aK:=[46,106,47,110,111,116,101]
theorem a2Q : ∀ i:Fin 64,(BR i.val).length≤100∧wZ (BR i.val)=0∧3 < (BR i.val).length∧(BR i.val).take 3=[46,106,47] ∧ ∀ k:Fin 100,(BR i.val)[k.val]? = some 47→k.val=2:=by decide +kernel
theorem aKK : ∀ i j:Fin 64,BR i.val=BR j.val→i=j:=by decide +kernel
theorem aXj : ∀ i:Fin 64,BR i.val≠T5:=by decide +kernel
theorem aAQ {i:Nat} (hi:i < 64):Jp (BR i):=by
 obtain ⟨h1,h2,h3,h4,h5⟩:=a2Q ⟨i,hi⟩
 refine ⟨h4,h3,fun k hk => ?_,h1,h2⟩
 have:=(List.getElem?_eq_some_iff.1 hk).1
 exact h5 ⟨k,by dsimp only at h1; omega⟩ hk
theorem aDR:Jp T5:=⟨by decide,by decide,fun k hk=>by
  have hl:=(List.getElem?_eq_some_iff.1 hk).1
  have hl:k < 7:=hl
  revert hk hl; revert k; decide,by decide,by decide +kernel⟩
theorem aQ4 {i:Int} (h0:0≤i) (h1:i < 64):Sh.AE dJ i=some (BR i.toNat):=by
 have hl:=aOb i
 apply Ok.eq
 unfold Sh.AE
 simp only [fN,iU,dG]
 refine ⟨by decide,⟨by omega,by omega⟩,by simp only [List.length_append,List.length_cons,List.length_nil]; omega,?_⟩
 unfold BR
 rw [show ((i.toNat:Nat):Int)=i by omega]
 rfl
theorem aHx:Sh.vO dJ=some 0:=by
 apply Ok.eq
 unfold Sh.vO
 rw [aAX,LR,Option.bind_some,if_pos (by decide +kernel)]
 dsimp only
 rw [if_neg (by decide)]
 exact dG.2 rfl
structure aCk (l:List eH):Prop where
  n:l.length≤60
  p : ∀ c∈l,wZ c.path=0 ∧ ¬ OJ c.path
  m : ∀ c∈l,c.gone=false→(c.mode=1∨c.mode=2)∧c.data.length≤65536
  u:l.Pairwise (fun a b=>a.path≠b.path)
theorem aSb {c:eH} (h1:wZ c.path=0) (h2 : ¬ OJ c.path):Sh.zR dJ c=some 0:=by
 have:=kL h1
 apply Ok.eq
 unfold Sh.zR
 rw [LR,Option.bind_some,if_pos h1]
 refine p7 (fun x=>x=false) (fun x hx=>by subst hx; rw [if_neg (by simp)]; exact dG.2 rfl) fun K hK => ?_
 rw [if_neg (fun e=>h2 (.inl e)),KO (by omega) (by decide),Option.bind_some]
 exact hK _ (aCs h2)
theorem a2I {c:eH} (hm:c.mode=1∨c.mode=2) (hd:c.data.length≤65536):Sh.DH c=some 0:=by
 apply Ok.eq
 unfold Sh.DH
 refine p7 (fun _=>True) (fun x _=>by rw [if_neg (by omega)]; exact dG.2 rfl) fun K hK => ?_
 exact iT.2 ⟨fun _=>hK _ trivial,fun h=>iT.2 ⟨fun _=>hK _ trivial,fun h'=>by rcases hm with e | e; exact absurd e h; exact absurd e h'⟩⟩
theorem aU5 {l:List eH} (h:aCk l):Sh.BP dJ l=some 0:=by
 have hn:=h.n
 apply Ok.eq
 unfold Sh.BP
 rw [aHx,Option.bind_some,if_pos rfl]
 refine kW (I:=fun t=>0≤t.2∧t.2≤l.length∧t.1.length≤t.2.toNat ∧ ∀ q,(nM t.1 q).getD false=true → ∃ c∈l.take t.2.toNat,c.path=q) (μ:=fun t=>(l.length - t.2).toNat) ?_ ⟨by dsimp only; omega,by dsimp only; omega,by simp,fun q hq=>by simp [nM,F8] at hq⟩
 rintro ⟨seen,i⟩ ⟨i0,i1,i2,i3⟩
 dsimp only at i0 i1 i2 i3 ⊢
 by_cases hi:i < l.length
 ·
  rw [if_pos hi]
  obtain ⟨z,hz⟩:=LI i0 hi
  have hmem:=List.mem_of_getElem? hz
  obtain ⟨hp1,hp2⟩:=h.p z hmem
  have hpl:=kL hp1
  rw [rI i0 hz,Option.bind_some,aSb hp1 hp2,Option.bind_some]
  have hns:(nM seen z.path).getD false=false:=by
    cases hq:(nM seen z.path).getD false with
    | false=>rfl
    | true =>
      obtain ⟨c,hc,he⟩:=i3 _ hq
      obtain ⟨j,hj⟩:=List.getElem?_of_mem hc
      rw [List.getElem?_take] at hj
      split at hj
      . next hlt =>
        have a1:=List.getElem?_eq_some_iff.1 hj
        have a2:=List.getElem?_eq_some_iff.1 hz
        have:=List.pairwise_iff_getElem.1 h.u j i.toNat a1.1 a2.1 hlt
        rw [a1.2,a2.2] at this
        exact absurd he this
      . cases hj
  refine p7 (fun x=>x=false) (fun x hx => ?_) fun K hK => ?_
  ·
   subst hx
   rw [if_neg (by simp)]
   refine p7 (fun e=>e=0) (fun e he => ?_) fun K hK => ?_
   ·
    subst he
    refine p7 (fun x=>x=false) (fun x hx => ?_) fun K hK => ?_
    ·
     subst hx
     rw [if_neg (by simp),if_pos rfl]
     simp only [fN,iU,oU]
     refine ⟨⟨by omega,by omega⟩,⟨by omega,by omega⟩,⟨by omega,by omega,by simp; omega,fun q hq => ?_⟩,by omega⟩
     rw [F2 i0 hz]
     by_cases e:z.path=q
     ·
      exact ⟨z,by simp,e⟩
     rw [wQ _ _ e] at hq
     obtain ⟨c,hc,hcq⟩:=i3 q hq
     exact ⟨c,List.mem_append_left _ hc,hcq⟩
    rw [if_pos rfl]
    exact hK _ (decide_eq_false (by omega))
   refine p7 (fun x=>x=(!z.gone)) (fun x hx => ?_) fun K' hK' => ?_
   ·
    subst hx
    refine iT.2 ⟨fun hg => ?_,fun _=>hK _ rfl⟩
    obtain ⟨a,b⟩:=h.m z hmem (by simpa using hg)
    rw [a2I a b,Option.bind_some]
    exact hK _ rfl
   rw [if_pos rfl]; exact hK' _ rfl
  rw [if_pos rfl]
  refine fN.2 ⟨by omega,OL ?_⟩
  exact hK _ hns
 rw [if_neg hi]
 exact oG.2 (dG.2 rfl)
def NoJ (l:Dk):Prop := ∀ q,On l q → ¬ OJ q
theorem a4y (l:List aK) (hb:l.length≤1000000000):Sh.kY l dJ=some (l.filter fun q => !(!oN q dJ)):=by
 have hF : ∀ z∈l,Sh.rP z dJ=some (!oN z dJ):=fun z _=>by
   unfold Sh.rP
   rw [YA (by decide)]; rfl
 have hix:Ok (Sh.kG l dJ) (Fst (fun z => !oN z dJ) l):=by
   unfold Sh.kG
   exact SB (fun z => !oN z dJ) l hb (fun z=>Sh.rP z dJ) hF _ fun i=>rfl
 unfold Sh.kY
 exact aE1 (fun z => !oN z dJ) l hb (fun z=>Sh.rP z dJ) hF _ hix _ fun t=>rfl
theorem aMV (l:Dk):(LN l).length≤l.length:=by
 have h:=EJ ((l.map (·.1)).filter fun a=>(nM l a).isSome)
 have h2:=List.length_filter_le (fun a=>(nM l a).isSome) (l.map (·.1))
 rw [List.length_map] at h2
 exact Nat.le_trans h h2
theorem aTS {β:Type} (l:List (aK×Option β)):(LN l).length≤l.length:=by
 have h:=EJ ((l.map (·.1)).filter fun a=>(nM l a).isSome)
 have h2:=List.length_filter_le (fun a=>(nM l a).isSome) (l.map (·.1))
 rw [List.length_map] at h2
 exact Nat.le_trans h h2
theorem aQ0 {n:Nat} {f:cB} (h:Fs n f) (hn:n≤1000000):Sh.x9 f=some (LN f.files,0):=by
 have:=h.fl
 apply Ok.eq
 unfold Sh.x9
 rw [if_neg (by rw [h.off]; simp)]
 refine fN.2 ⟨by omega,iU.2 ?_⟩
 rw [aAy,Option.bind_some]
 exact dG.2 rfl
theorem aXp {f:cB} (hj:NoJ f.files):(LN f.files).filter (fun q => !(!oN q dJ))=[]:=by
 refine List.filter_eq_nil_iff.2 fun q hq => ?_
 rw [aUQ (hj q ((U4 _ q).1 hq))]
 simp
theorem aXo {n:Nat} {f:cB} (h:Fs n f) (hn:n≤1000000) (hj:NoJ f.files):Sh.CG f dJ=some ([],0):=by
 have:=h.fl; have:=aMV f.files
 unfold Sh.CG
 rw [aQ0 h hn,Option.bind_some,if_pos rfl,a4y _ (by dsimp only; omega),aXp hj]
 rfl
theorem aG4 {n:Nat} {f:cB} (h:Fs n f) (hn:n≤1000000) (hj:NoJ f.files):Sh.tH f dJ=some 0:=by
 unfold Sh.tH Sh.HS
 rw [aHx,Option.bind_some,if_pos rfl,aXo h hn hj]
 rfl
end Go.S
end

section
set_option linter.unusedSimpArgs false
namespace Go.S
open Go
def Af (f:Dk) (l:List eH) (q:aK):Prop:=(∃ c∈l,c.path=q∧c.gone=false)∨(On f q ∧ ∀ c∈l,c.path≠q)
theorem a2X {ps:List aK} (hn:ps.length≤1000000) (hl : ∀ p∈ps,p.length≤1000) (h : ∀ p∈ps,∀ q∈ps,j6 p q=false) {R:Type} {o:Option Bool} {Q:Bool→Prop} (hE:Ok o Q) (B:Int→Option (Int⊕Bool))
 (hB : ∀ i,B i=if i < (ps.length:Int) then ((at_ ps i).bind (fun z=>gd ((0:Int)≤i∧i≤(ps.length:Int)) (lt (ps.take i.toNat) (fun y=>iter (fun (x:Int)=>if x < (y.length:Int) then ((at_ y x).bind (fun z2=>(Sh.pH z z2).bind (fun c=>if c=true then (none:Option (Int⊕(Int⊕Bool))) else (gd (fE (x+1)) (go (x+1)))))) else (up (gd (fE (i+1)) (go (i+1))))) 0)))) else up o):Ok (iter B 0) Q:=by
 refine aE4 ps (fun _=>True) B (fun i z i0 hi hz _ => ?_) (fun _ => ?_)
 ·
  rw [hB,if_pos hi,rI i0 hz,Option.bind_some]
  refine fN.2 ⟨⟨by omega,by omega⟩,iU.2 ?_⟩
  refine aE4 (ps.take i.toNat) (fun _=>True) _ (fun x w x0 hx hw _ => ?_) (fun _ => ?_)
  ·
   have hwm:w∈ps:=List.mem_of_mem_take (List.mem_of_getElem? hw)
   have hzm:z∈ps:=List.mem_of_getElem? hz
   have hlen:(ps.take i.toNat).length≤ps.length:=by rw [List.length_take]; omega
   rw [if_pos hx,rI x0 hw,Option.bind_some,KO (by have:=hl z hzm; omega) (by have:=hl w hwm; omega),Option.bind_some,h z hzm w hwm,if_neg (by simp)]
   exact fN.2 ⟨⟨by omega,by omega⟩,oU.2 (.inl ⟨rfl,trivial⟩)⟩
  rw [if_neg (by omega)]
  exact HJ (fN.2 ⟨⟨by omega,by omega⟩,oU.2 (.inl ⟨rfl,trivial⟩)⟩)
 rw [hB,if_neg (by omega)]
 exact HJ hE
theorem a3c {n:Nat} {f:cB} {l:List eH} (h:Fs n f) (hn:n≤900000) (hj:NoJ f.files) (hc:aCk l) (hcl : ∀ p q,Af f.files l p→Af f.files l q→j6 p q=false):Sh.DJ f dJ l=some true:=by
 have hfl:=h.fl; have hml:=aMV f.files; have hln:=hc.n
 have haj : ∀ q,Af f.files l q → ¬ OJ q∧q.length≤1000:=by
   rintro q (⟨c,hcm,rfl,_⟩ | ⟨ho,_⟩)
   . obtain ⟨a,b⟩:=hc.p c hcm
     exact ⟨b,by have:=kL a; omega⟩
   . exact ⟨hj q ho,h.ks q ho⟩
 apply Ok.eq
 unfold Sh.DJ
 refine fN.2 ⟨by decide,iU.2 ?_⟩
 rw [aQ0 h (by omega),Option.bind_some]
 dsimp only
 refine kW (I:=fun t=>0≤t.2∧t.2≤(LN f.files).length∧t.1.length≤t.2.toNat+1 ∧ ∀ q,(nM t.1 q).getD false=true→q=dJ∨On f.files q) (μ:=fun t=>((LN f.files).length - t.2).toNat) ?_ ⟨by dsimp only; omega,by dsimp only; omega,by simp,fun q hq => ?_⟩
 rotate_left
 ·
  by_cases e:dJ=q
  ·
   exact .inl e.symm
  rw [wQ _ _ e] at hq
  simp [nM,F8] at hq
 rintro ⟨t1,i⟩ ⟨i0,i1,i2,i3⟩
 dsimp only at i0 i1 i2 i3 ⊢
 by_cases hi:i < (LN f.files).length
 ·
  rw [if_pos hi]
  obtain ⟨z,hz⟩:=LI i0 hi
  have hon:On f.files z:=(U4 _ z).1 (List.mem_of_getElem? hz)
  have hzl:=h.ks z hon
  rw [rI i0 hz,Option.bind_some,YA (by decide),Option.bind_some]
  simp only [fN,iU,oU]
  refine ⟨⟨by omega,by omega⟩,⟨by omega,by omega⟩,⟨by omega,by omega,by simp; omega,fun q hq => ?_⟩,by omega⟩
  by_cases e:z=q
  ·
   exact .inr (e▸hon)
  rw [wQ _ _ e] at hq
  exact i3 q hq
 rw [if_neg hi]
 refine oG.2 ?_
 refine kW (I:=fun t=>0≤t.2∧t.2≤l.length∧t.1.length≤t1.length+t.2.toNat ∧ ∀ q,(nM t.1 q).getD false=true→q=dJ∨(On f.files q ∧ ∀ c∈l.take t.2.toNat,c.path≠q) ∨ ∃ c∈l.take t.2.toNat,c.path=q∧c.gone=false) (μ:=fun t=>(l.length - t.2).toNat) ?_ ⟨by dsimp only; omega,by dsimp only; omega,by dsimp only; omega,fun q hq=>(i3 q hq).imp id fun o => .inl ⟨o,by simp⟩⟩
 rintro ⟨t2,x⟩ ⟨x0,x1,x2,x3⟩
 dsimp only at x0 x1 x2 x3 ⊢
 by_cases hx:x < l.length
 ·
  rw [if_pos hx]
  obtain ⟨z,hz⟩:=LI x0 hx
  have hzl:=kL (hc.p z (List.mem_of_getElem? hz)).1
  rw [rI x0 hz,Option.bind_some]
  simp only [fN,iU,oU]
  refine ⟨⟨by omega,by omega⟩,⟨by omega,by omega⟩,⟨by omega,by omega,by simp; omega,fun q hq => ?_⟩,by omega⟩
  rw [F2 x0 hz]
  by_cases e:z.path=q
  ·
   subst e
   rw [HB] at hq
   exact .inr (.inr ⟨z,by simp,rfl,by simpa using hq⟩)
  rw [wQ _ _ e] at hq
  rcases x3 q hq with a | ⟨a,b⟩ | ⟨c,a,b⟩
  ·
   exact .inl a
  ·
   refine .inr (.inl ⟨a,fun c hcm => ?_⟩)
   rcases List.mem_append.1 hcm with q' | q'
   ·
    exact b c q'
   rw [List.mem_singleton.1 q']; exact e
  exact .inr (.inr ⟨c,List.mem_append_left _ a,b⟩)
 rw [if_neg hx]
 refine oG.2 (iU.2 ?_)
 rw [List.take_of_length_le (by omega)] at x3
 have hG : ∀ q,(nM t2 q).getD false=true→q=dJ∨Af f.files l q:=fun q hq=>by
   rcases x3 q hq with a | a | a
   . exact .inl a
   . exact .inr (.inr a)
   . exact .inr (.inl a)
 have hmt:=aTS t2
 refine aI5 (I:=fun t=>(∀ p∈t.1,p=dJ∨Af f.files l p)∧t.1.length+t.2.length≤(LN t2).length) (μ:=fun t=>t.2.length) (fun a b h1 h2=>h1.trans h2.symm) ?_ ⟨by simp,by simp⟩
 rintro ⟨ps,acc⟩ ⟨p1,p2⟩ o k2 hnx
 dsimp only at p1 p2 hnx ⊢
 rcases hnx with ⟨hk1,rfl,rfl⟩ | ⟨k,hk1,rfl,rfl⟩
 ·
  rw [if_neg (by simp)]
  refine oG.2 ?_
  have hcc : ∀ p∈ps,∀ q∈ps,j6 p q=false:=fun p hp q hq=>by
    rcases p1 p hp with rfl | a
    . rcases p1 q hq with rfl | b
      . exact aEA _
      . rw [UG]; exact aCs (haj q b).1
    . rcases p1 q hq with rfl | b
      . exact aCs (haj p a).1
      . exact hcl p q a b
  have hE:Ok ((Sh.gJ (LN f.files) dJ).bind fun y=>some (!y)) (fun b=>b=true):=by
    rw [aE0 _ _ (by omega),Option.bind_some]
    refine dG.2 ?_
    rw [decide_eq_false (fun hm=>hj dJ ((U4 _ _).1 hm) (.inl rfl))]; rfl
  exact a2X (R:=Bool) (by omega) (fun p hp=>(p1 p hp).elim (fun e=>by rw [e]; decide) fun a=>(haj p a).2) hcc hE _ fun i=>rfl
 have h0:0 < acc.length:=List.length_pos_of_mem hk1
 have hlen:(acc.erase k).length=acc.length - 1:=List.length_erase_of_mem hk1
 simp only [Option.isSome_some,if_true,Option.getD_some]
 refine iT.2 ⟨fun ht => ?_,fun _=>oU.2 ⟨⟨p1,by dsimp only; omega⟩,by dsimp only; omega⟩⟩
 simp only [fN,iU,oU,List.length_singleton,List.length_append]
 refine ⟨by omega,⟨fun p hp => ?_,by omega⟩,by omega⟩
 rcases List.mem_append.1 hp with q | q
 ·
  exact p1 p q
 rw [List.mem_singleton.1 q]; exact hG k ht
end Go.S
end

section
set_option linter.unusedSimpArgs false
set_option linter.unusedVariables false
namespace Go.S
open Go
structure Sg (V:aK→Option (Int×aK)) (l:List eH) (i:Nat) (k:Dk):Prop where
  a : ∀ q,(∀ j c,j < i→l[j]? = some c→c.gone=false→q≠BR j)→vw k q=V q
  b : ∀ j c,j < i→l[j]? = some c→c.gone=false→vw k (BR j)=some (c.mode,c.data)
theorem Sg.on {V:aK→Option (Int×aK)} {l:List eH} {i:Nat} {k:Dk} (h:Sg V l i k) {q:aK} (hq:On k q):V q≠none ∨ ∃ j c,j < i∧l[j]? = some c∧c.gone=false∧q=BR j:=by
 by_cases e : ∃ j c,j < i∧l[j]? = some c∧c.gone=false∧q=BR j
 ·
  exact .inr e
 left
 rw [← h.a q fun j c hj h1 h2 he=>e ⟨j,c,hj,h1,h2,he⟩]
 exact uG.1 hq
theorem aAP {d:aK} (h:Jp d):OJ d := .inr ⟨by have:=h.n; omega,h.h⟩
theorem aYm {n:Nat} {f:cB} {l:List eH} (h:Fs n f) (hn:n≤800000) (hj:NoJ f.files) (hc:aCk l) :
 Ok (Sh.BQ f dJ l) fun r=>r.1=0∧Fs (n+70) r.2 ∧ ∃ k,Sg (vw f.files) l l.length k∧(∀ q,q≠T5→vw r.2.files q=vw k q)∧vw r.2.files T5≠none:=by
 have hln:=hc.n
 have jpn : ∀ j,j < 64→Jp (BR j):=fun j hj=>aAQ hj
 have clashN : ∀ (k:Dk) (i:Nat),i≤60→Sg (vw f.files) l i k → ∀ d,Jp d → ∀ q,On k q→j6 d q=false:=fun k i hi hs d hd q hq=>by
   rcases hs.on hq with a | ⟨j,c,hj',_,_,rfl⟩
   . exact aCt hd (.inl (hj q (uG.2 a)))
   . exact aCt hd (.inr (jpn j (by omega)))
 unfold Sh.BQ
 refine iU.2 ?_
 rw [RN (by intro m hm; rw [List.mem_singleton.1 hm]; exact ⟨by omega,by omega⟩) (by simp) (by simp),Option.bind_some]
 have hi0:(encI (l.length:Int)).length≤10:=KP ⟨by omega,by omega⟩
 refine kW (I:=fun t=>0≤t.1∧t.1≤l.length∧t.2.1.length≤10+100*t.1.toNat∧Fs (n+t.1.toNat) ⟨f.kept,t.2.2.1,t.2.2.2.1,t.2.2.2.2.1,t.2.2.2.2.2.1,t.2.2.2.2.2.2.1,t.2.2.2.2.2.2.2.1,t.2.2.2.2.2.2.2.2.1,t.2.2.2.2.2.2.2.2.2.1,t.2.2.2.2.2.2.2.2.2.2.1,t.2.2.2.2.2.2.2.2.2.2.2⟩∧Sg (vw f.files) l t.1.toNat t.2.2.1) (μ:=fun t=>(l.length - t.1).toNat) ?_ ⟨by dsimp only; omega,by dsimp only; omega,by simpa using hi0,by dsimp only; exact h.mono (by omega),⟨fun q _=>rfl,fun j c hj=>by simp at hj⟩⟩
 rintro ⟨x,c0,c1,c2,c3,c4,c5,c6,c7,c8,c9,c10⟩ ⟨x0,x1,x2,x3,x4⟩
 dsimp only at x0 x1 x2 x3 x4 ⊢
 have hclash:=clashN c1 x.toNat (by omega) x4
 by_cases hx:x < l.length
 ·
  rw [if_pos hx]
  obtain ⟨z,hz⟩:=LI x0 hx
  have hzm:=List.mem_of_getElem? hz
  obtain ⟨hp1,hp2⟩:=hc.p z hzm
  have hzl:=kL hp1
  have hT:(aHv z.path).length≤74:=by
    unfold aHv
    have:(encI (z.path.length:Int)).length≤10:=KP ⟨by omega,by omega⟩
    rw [List.length_append]; omega
  rw [rI x0 hz,Option.bind_some]
  refine iU.2 ?_
  rw [aLR (by dsimp only; omega),Option.bind_some]
  have nxt : ∀ q:Nat,(c0++aHv z.path).length+q≤4294967296→True:=fun _ _=>trivial
  refine iT.2 ⟨fun hg => ?_,fun hg => ?_⟩
  ·
   refine iU.2 ?_
   rw [RN (by intro m hm; rw [List.mem_singleton.1 hm]; exact ⟨by omega,by omega⟩) (by simp only [List.length_append,List.length_singleton]; omega) (by simp),Option.bind_some]
   have h1:(encI 1).length≤10:=KP ⟨by omega,by omega⟩
   simp only [fN,oU]
   refine ⟨⟨by omega,by omega⟩,⟨by omega,by omega,by simp only [List.flatMap_cons,List.flatMap_nil,List.append_nil,List.length_append]; omega,x3.mono (by omega),⟨fun q hq=>x4.a q fun j c hj=>hq j c (by omega),fun j c hj hjc hgc => ?_⟩⟩,by omega⟩
   by_cases e:j=x.toNat
   ·
    subst e
    rw [hz] at hjc; cases hjc
    rw [hg] at hgc; cases hgc
   exact x4.b j c (by omega) hjc hgc
  have hg:z.gone=false:=by simpa using hg
  obtain ⟨hm1,hm2⟩:=hc.m z hzm hg
  refine iU.2 ?_
  rw [RN (by intro m hm; rw [List.mem_singleton.1 hm]; exact ⟨by omega,by omega⟩) (by simp only [List.length_append,List.length_singleton]; omega) (by simp),Option.bind_some]
  have h1:(encI 0).length≤10:=KP ⟨by omega,by omega⟩
  rw [aQ4 x0 (by omega),Option.bind_some]
  have hjp:=jpn x.toNat (by omega)
  refine gX.2 ((aIt x3 (by omega) hjp.c hm1 hm2 (fun q hq=>hclash _ hjp q hq)).mono fun r hr => ?_)
  rw [if_pos hr.z]
  simp only [fN,oU]
  have hk:=hr.k
  dsimp only at hk
  refine ⟨⟨by omega,by omega⟩,⟨by omega,by omega,by simp only [List.flatMap_cons,List.flatMap_nil,List.append_nil,List.length_append]; omega,?_,⟨fun q hq => ?_,fun j c hj hjc hgc => ?_⟩⟩,by omega⟩
  ·
   have:=hr.f
   rw [show n+(x+1).toNat=n+x.toNat+1 by omega]
   rw [← hk]; exact this
  ·
   rw [hr.v,if_neg (hq x.toNat z (by omega) hz hg)]
   exact x4.a q fun j c hj=>hq j c (by omega)
  rw [hr.v]
  by_cases e:j=x.toNat
  ·
   subst e
   rw [hz] at hjc; cases hjc
   rw [if_pos rfl]
  rw [if_neg fun e'=>e (by
    have:=aKK ⟨j,by omega⟩ ⟨x.toNat,by omega⟩ e'
    exact congrArg Fin.val this)]
  exact x4.b j c (by omega) hjc hgc
 rw [if_neg hx]
 have ex:x=l.length:=by omega
 subst ex
 refine oG.2 ?_
 rw [WJ x3,Option.bind_some,if_pos rfl]
 dsimp only
 refine fN.2 ⟨by decide,iU.2 ?_⟩
 unfold Sh.w6
 dsimp only
 rw [aJH (by omega),Option.bind_some,aU6]
 simp only [gX,dG]
 have hf:=x3.synced c1
 refine (aIt (p:=T5) (m:=1) (b:=c0) hf (by omega) aDR.c (.inl rfl) (by omega) (fun q hq=>hclash _ aDR q hq)).mono fun r hr => ?_
 rw [if_pos hr.z]
 have hk:=hr.k
 dsimp only at hk
 have hg:=hr.f
 rw [← hk,WJ (n:=n+l.length+1) (by rw [show n+l.length+1=n+((l.length:Nat):Int).toNat+1 by omega]; exact hg),Option.bind_some]
 refine dG.2 ⟨rfl,?_,c1,by rw [show ((l.length:Nat):Int).toNat=l.length by omega] at x4; exact x4,fun q e => ?_,?_⟩
 ·
  exact (Fs.synced (by rw [show n+((l.length:Nat):Int).toNat+1=n+l.length+1 by omega] at hg; exact hg) _).mono (by omega)
 ·
  rw [hr.v,if_neg e]
 rw [hr.v,if_pos rfl]; simp
end Go.S
end

section
set_option linter.unusedSimpArgs false
set_option linter.unusedVariables false
namespace Go.S
open Go
def Gn (V:aK→Option (Int×aK)) (l:List eH):Prop := ∀ c∈l,c.gone=true→V c.path≠none
structure Rm (V:aK→Option (Int×aK)) (l:List eH) (i:Nat) (k:Dk):Prop where
  a : ∀ q,(∀ c∈l.take i,c.gone=true→c.path≠q)→vw k q=V q
  b : ∀ c∈l.take i,c.gone=true→vw k c.path=none
structure Nm (V:aK→Option (Int×aK)) (l:List eH) (i:Nat) (k:Dk):Prop where
  a : ∀ q,(∀ c∈l.take i,c.gone=false→c.path≠q)→(∀ j c,j < i→l[j]? = some c→c.gone=false→q≠BR j)→vw k q=V q
  b : ∀ c∈l.take i,c.gone=false→vw k c.path=some (c.mode,c.data)
  c : ∀ j c,j < i→l[j]? = some c→c.gone=false→vw k (BR j)=none
theorem aXu {l:List eH} (h:l.Pairwise (fun a b=>a.path≠b.path)) {i:Nat} {z:eH} (hz:l[i]? = some z) : ∀ c∈l.take i,c.path≠z.path:=fun c hc=>by
  obtain ⟨j,hj⟩:=List.getElem?_of_mem hc
  rw [List.getElem?_take] at hj
  split at hj
  . next hlt =>
    have a1:=List.getElem?_eq_some_iff.1 hj
    have a2:=List.getElem?_eq_some_iff.1 hz
    have:=List.pairwise_iff_getElem.1 h j i a1.1 a2.1 hlt
    rwa [a1.2,a2.2] at this
  . cases hj
def Bf (V:aK→Option (Int×aK)) (l:List eH) (q:aK):Prop:=(∃ c∈l,c.path=q∧c.gone=false)∨(V q≠none ∧ ¬ OJ q ∧ ∀ c∈l,c.path≠q)
structure a6i (V:aK→Option (Int×aK)) (l:List eH) (k:Dk):Prop where
  a : ∀ q,(∀ c∈l,c.path≠q)→(∀ j c,l[j]? = some c→c.gone=false→q≠BR j)→vw k q=V q
  b : ∀ c∈l,vw k c.path=if c.gone=true then none else some (c.mode,c.data)
  c : ∀ j c,l[j]? = some c→c.gone=false→vw k (BR j)=none
theorem aSw {n:Nat} {f:cB} {l:List eH} {V:aK→Option (Int×aK)} (h:Fs n f) (hn:n≤800000) (hc:aCk l) (hV : ∀ q,vw f.files q=V q)
 (hs : ∀ j c,l[j]? = some c→c.gone=false→V (BR j)=some (c.mode,c.data)) (hJ : ∀ q,V q≠none→OJ q→Jp q) (hg:Gn V l) (hcl : ∀ p q,Bf V l p→Bf V l q→j6 p q=false) :
 Ok (Sh.zS f dJ l) fun r=>r.1=0∧Fs (n+200) r.2∧a6i V l r.2.files∧r.2.kept=r.2.files:=by
 have hln:=hc.n
 have npj : ∀ c∈l,∀ j,j < 64→c.path≠BR j:=fun c hcm j hj e=>(hc.p c hcm).2 (e▸aAP (aAQ hj))
 unfold Sh.zS
 refine kW (I:=fun t=>0≤t.1∧t.1≤l.length∧Fs (n+t.1.toNat) ⟨f.kept,t.2.1,t.2.2.1,t.2.2.2.1,t.2.2.2.2.1,t.2.2.2.2.2.1,t.2.2.2.2.2.2.1,t.2.2.2.2.2.2.2.1,t.2.2.2.2.2.2.2.2.1,t.2.2.2.2.2.2.2.2.2.1,t.2.2.2.2.2.2.2.2.2.2⟩∧Rm V l t.1.toNat t.2.1) (μ:=fun t=>(l.length - t.1).toNat) ?_ ⟨by dsimp only; omega,by dsimp only; omega,by dsimp only; exact h.mono (by omega),⟨fun q _=>hV q,fun c hcm=>by simp at hcm⟩⟩
 rintro ⟨x,c1,c2,c3,c4,c5,c6,c7,c8,c9,c10⟩ ⟨x0,x1,x3,x4⟩
 dsimp only at x0 x1 x3 x4 ⊢
 by_cases hx:x < l.length
 ·
  rw [if_pos hx]
  obtain ⟨z,hz⟩:=LI x0 hx
  have hzm:=List.mem_of_getElem? hz
  have hzl:=kL (hc.p z hzm).1
  rw [rI x0 hz,Option.bind_some]
  refine p7 (fun t=>t.1=false∧Fs (n+x.toNat+1) ⟨f.kept,t.2.1,t.2.2.1,t.2.2.2.1,t.2.2.2.2.1,t.2.2.2.2.2.1,t.2.2.2.2.2.2.1,t.2.2.2.2.2.2.2.1,t.2.2.2.2.2.2.2.2.1,t.2.2.2.2.2.2.2.2.2.1,t.2.2.2.2.2.2.2.2.2.2⟩∧Rm V l (x.toNat+1) t.2.1) ?_ fun K hK => ?_
  ·
   rintro ⟨b,d1,d2,d3,d4,d5,d6,d7,d8,d9,d10⟩ ⟨rfl,y1,y2⟩
   dsimp only at y1 y2 ⊢
   rw [if_neg (by simp)]
   simp only [fN,oU]
   refine ⟨⟨by omega,by omega⟩,⟨by omega,by omega,?_,?_⟩,by omega⟩
   ·
    rw [show n+(x+1).toNat=n+x.toNat+1 by omega]; exact y1
   rw [show (x+1).toNat=x.toNat+1 by omega]; exact y2
  have tk:l.take (x.toNat+1)=l.take x.toNat++[z]:=by rw [List.take_add_one,hz]; rfl
  refine iT.2 ⟨fun hgn => ?_,fun hgn=>hK _ ⟨rfl,x3.mono (by omega),⟨fun q hq=>x4.a q fun c hcm=>hq c (by rw [tk]; exact List.mem_append_left _ hcm),fun c hcm hcg => ?_⟩⟩⟩
  ·
   have hv:vw c1 z.path=V z.path:=x4.a _ fun c hcm _=>aXu hc.u hz c hcm
   refine gX.2 ((aG5 x3 (by omega) (p:=z.path) (by omega) (uG.2 (by dsimp only; rw [hv]; exact hg z hzm hgn))).mono fun r hr => ?_)
   have hk:=hr.k
   dsimp only at hk
   refine hK _ ⟨decide_eq_false (by rw [hr.z]; decide),by rw [← hk]; exact hr.f,⟨fun q hq => ?_,fun c hcm hcg => ?_⟩⟩
   ·
    dsimp only
    rw [hr.v,if_neg fun e=>hq z (by rw [tk]; simp) hgn e.symm]
    exact x4.a q fun c hcm=>hq c (by rw [tk]; exact List.mem_append_left _ hcm)
   dsimp only
   rw [hr.v]
   rw [tk] at hcm
   rcases List.mem_append.1 hcm with q | q
   ·
    by_cases e:c.path=z.path
    ·
     rw [if_pos e]
    rw [if_neg e]; exact x4.b c q hcg
   rw [List.mem_singleton.1 q,if_pos rfl]
  rw [tk] at hcm
  rcases List.mem_append.1 hcm with q | q
  ·
   exact x4.b c q hcg
  rw [List.mem_singleton.1 q] at hcg; exact absurd hcg hgn
 rw [if_neg hx]
 have ex:x=l.length:=by omega
 subst ex
 rw [show ((l.length:Nat):Int).toNat=l.length by omega] at x3 x4
 refine oG.2 ?_
 have hR : ∀ q,vw c1 q≠none→V q≠none ∧ ∀ c∈l,c.gone=true→c.path≠q:=fun q hq=>by
   have : ∀ c∈l,c.gone=true→c.path≠q:=fun c hcm hcg e=>hq (e▸x4.b c (by rw [List.take_length]; exact hcm) hcg)
   refine ⟨?_,this⟩
   rw [← x4.a q fun c hcm=>this c (List.mem_of_mem_take hcm)]
   exact hq
 have bz : ∀ {z:eH},z∈l→z.gone=false→Bf V l z.path:=fun hzm hzg => .inl ⟨_,hzm,rfl,hzg⟩
 refine kW (I:=fun t=>0≤t.1∧t.1≤l.length∧Fs (n+60+2*t.1.toNat) ⟨f.kept,t.2.1,t.2.2.1,t.2.2.2.1,t.2.2.2.2.1,t.2.2.2.2.2.1,t.2.2.2.2.2.2.1,t.2.2.2.2.2.2.2.1,t.2.2.2.2.2.2.2.2.1,t.2.2.2.2.2.2.2.2.2.1,t.2.2.2.2.2.2.2.2.2.2⟩∧Nm (vw c1) l t.1.toNat t.2.1) (μ:=fun t=>(l.length - t.1).toNat) ?_ ⟨by dsimp only; omega,by dsimp only; omega,by dsimp only; exact x3.mono (by omega),⟨fun q _ _=>rfl,fun c hcm=>by simp at hcm,fun j c hj=>by simp at hj⟩⟩
 rintro ⟨x,e1,e2,e3,e4,e5,e6,e7,e8,e9,e10⟩ ⟨y0,y1,y3,y4⟩
 dsimp only at y0 y1 y3 y4 ⊢
 by_cases hx:x < l.length
 ·
  rw [if_pos hx]
  obtain ⟨z,hz⟩:=LI y0 hx
  have hzm:=List.mem_of_getElem? hz
  obtain ⟨hp1,hp2⟩:=hc.p z hzm
  have hzl:=kL hp1
  have tk:l.take (x.toNat+1)=l.take x.toNat++[z]:=by rw [List.take_add_one,hz]; rfl
  rw [rI y0 hz,Option.bind_some]
  refine p7 (fun t=>t.1=false∧Fs (n+60+2*x.toNat+2) ⟨f.kept,t.2.1,t.2.2.1,t.2.2.2.1,t.2.2.2.2.1,t.2.2.2.2.2.1,t.2.2.2.2.2.2.1,t.2.2.2.2.2.2.2.1,t.2.2.2.2.2.2.2.2.1,t.2.2.2.2.2.2.2.2.2.1,t.2.2.2.2.2.2.2.2.2.2⟩∧Nm (vw c1) l (x.toNat+1) t.2.1) ?_ fun K hK => ?_
  ·
   rintro ⟨b,d1,d2,d3,d4,d5,d6,d7,d8,d9,d10⟩ ⟨rfl,w1,w2⟩
   dsimp only at w1 w2 ⊢
   rw [if_neg (by simp)]
   simp only [fN,oU]
   refine ⟨⟨by omega,by omega⟩,⟨by omega,by omega,?_,?_⟩,by omega⟩
   ·
    rw [show n+60+2*(x+1).toNat=n+60+2*x.toNat+2 by omega]; exact w1
   rw [show (x+1).toNat=x.toNat+1 by omega]; exact w2
  refine iT.2 ⟨fun hgn => ?_,fun hgn=>hK _ ⟨rfl,y3.mono (by omega),⟨fun q hq hq2=>y4.a q (fun c hcm=>hq c (by rw [tk]; exact List.mem_append_left _ hcm)) fun j c hj=>hq2 j c (by omega),fun c hcm hcg => ?_,fun j c hj hjc hcg => ?_⟩⟩⟩
  ·
   have hgn:z.gone=false:=by simpa using hgn
   have hjp:=aAQ (i:=x.toNat) (by omega)
   have hinj : ∀ j c,j < x.toNat→l[j]? = some c→c.gone=false→BR x.toNat≠BR j:=fun j c hj _ _ e=>by
     have:=congrArg Fin.val (aKK ⟨x.toNat,by omega⟩ ⟨j,by omega⟩ e)
     dsimp only at this
     omega
   have hv1:vw e1 (BR x.toNat)=some (z.mode,z.data):=by
     rw [y4.a _ (fun c hcm _=>npj c (List.mem_of_mem_take hcm) _ (by omega)) hinj,x4.a _ (fun c hcm _=>npj c (List.mem_of_mem_take hcm) _ (by omega))]
     exact hs _ z hz hgn
   rw [aQ4 y0 (by omega),Option.bind_some]
   refine gX.2 ((aOu y3 (by omega) (p:=BR x.toNat) (t:=z.path) (by have:=hjp.l; omega) hp1 (fun e=>npj z hzm _ (by omega) e.symm) (uG.2 (by dsimp only; rw [hv1]; simp)) (fun q hq hne => ?_)).mono fun r hr => ?_)
   ·
    dsimp only at hq
    have hq:=uG.1 hq
    by_cases k1 : ∃ c∈l.take x.toNat,c.gone=false∧c.path=q
    ·
     obtain ⟨c,hcm,hcg,rfl⟩:=k1
     exact hcl _ _ (bz hzm hgn) (bz (List.mem_of_mem_take hcm) hcg)
    by_cases k2 : ∃ j c,j < x.toNat∧l[j]? = some c∧c.gone=false∧q=BR j
    ·
     obtain ⟨j,c,a1,a2,a3,rfl⟩:=k2
     exact absurd (y4.c j c a1 a2 a3) hq
    rw [y4.a q (fun c hcm hcg e=>k1 ⟨c,hcm,hcg,e⟩) (fun j c a1 a2 a3 e=>k2 ⟨j,c,a1,a2,a3,e⟩)] at hq
    obtain ⟨hq1,hq2⟩:=hR q hq
    by_cases k3:OJ q
    ·
     rw [UG]; exact aCt (hJ q hq1 k3) (.inl hp2)
    by_cases k4 : ∃ c∈l,c.path=q
    ·
     obtain ⟨c,hcm,rfl⟩:=k4
     refine hcl _ _ (bz hzm hgn) (bz hcm ?_)
     cases hcg:c.gone with
     | false=>rfl
     | true=>exact absurd rfl (hq2 c hcm hcg)
    exact hcl _ _ (bz hzm hgn) (.inr ⟨hq1,k3,fun c hcm e=>k4 ⟨c,hcm,e⟩⟩)
   have hk:=hr.k
   dsimp only at hk
   refine hK _ ⟨decide_eq_false (by rw [hr.z]; decide),by rw [← hk]; exact hr.f,⟨fun q hq hq2 => ?_,fun c hcm hcg => ?_,fun j c hj hjc hcg => ?_⟩⟩
   ·
    dsimp only
    rw [hr.v,if_neg (hq2 x.toNat z (by omega) hz hgn),if_neg fun e=>hq z (by rw [tk]; simp) hgn e.symm]
    exact y4.a q (fun c hcm=>hq c (by rw [tk]; exact List.mem_append_left _ hcm)) fun j c hj=>hq2 j c (by omega)
   ·
    dsimp only
    rw [tk] at hcm
    rcases List.mem_append.1 hcm with q | q
    ·
     rw [hr.v,if_neg (npj c (List.mem_of_mem_take q) _ (by omega)),if_neg (aXu hc.u hz c q)]
     exact y4.b c q hcg
    rw [List.mem_singleton.1 q,hr.v,if_neg (npj z hzm _ (by omega)),if_pos rfl,hv1]
   dsimp only
   rw [hr.v]
   by_cases e:j=x.toNat
   ·
    subst e; rw [if_pos rfl]
   have hjx:BR j≠BR x.toNat:=fun e'=>e (by
     have:=congrArg Fin.val (aKK ⟨j,by omega⟩ ⟨x.toNat,by omega⟩ e')
     exact this)
   rw [if_neg hjx,if_neg fun e'=>npj z hzm j (by omega) e'.symm]
   exact y4.c j c (by omega) hjc hcg
  ·
   rw [tk] at hcm
   rcases List.mem_append.1 hcm with q | q
   ·
    exact y4.b c q hcg
   rw [List.mem_singleton.1 q] at hcg; rw [hcg] at hgn; simp at hgn
  by_cases e:j=x.toNat
  ·
   subst e
   rw [hz] at hjc; cases hjc
   rw [hcg] at hgn; simp at hgn
  exact y4.c j c (by omega) hjc hcg
 rw [if_neg hx]
 have ex:x=l.length:=by omega
 subst ex
 rw [show ((l.length:Nat):Int).toNat=l.length by omega] at y3 y4
 refine oG.2 ?_
 rw [WJ y3,Option.bind_some]
 refine dG.2 ⟨rfl,(y3.synced e1).mono (by omega),⟨fun q hq hq2 => ?_,fun c hcm => ?_,fun j c hjc hcg => ?_⟩,rfl⟩
 ·
  dsimp only
  rw [y4.a q (fun c hcm _=>hq c (List.mem_of_mem_take hcm)) fun j c _=>hq2 j c]
  exact x4.a q fun c hcm _=>hq c (List.mem_of_mem_take hcm)
 ·
  dsimp only
  cases hcg:c.gone with
  | false=>rw [if_neg (by simp)]; exact y4.b c (by rw [List.take_length]; exact hcm) hcg
  | true =>
    rw [if_pos rfl,y4.a c.path (fun c' hcm' hcg' e => ?_) fun j c' hj hjc' hcg'=>npj c hcm j (by omega)]
    . exact x4.b c (by rw [List.take_length]; exact hcm) hcg
    . obtain ⟨i1,h1⟩:=List.getElem?_of_mem (List.mem_of_mem_take hcm')
      obtain ⟨i2,h2⟩:=List.getElem?_of_mem hcm
      have a1:=List.getElem?_eq_some_iff.1 h1
      have a2:=List.getElem?_eq_some_iff.1 h2
      rcases Nat.lt_trichotomy i1 i2 with k | k | k
      . have:=List.pairwise_iff_getElem.1 hc.u i1 i2 a1.1 a2.1 k
        rw [a1.2,a2.2] at this; exact this e
      . subst k; rw [h1] at h2; cases h2; rw [hcg] at hcg'; cases hcg'
      . have:=List.pairwise_iff_getElem.1 hc.u i2 i1 a2.1 a1.1 k
        rw [a1.2,a2.2] at this; exact this e.symm
 dsimp only
 have hjl:=(List.getElem?_eq_some_iff.1 hjc).1
 exact y4.c j c hjl hjc hcg
end Go.S
end

section
set_option linter.unusedSimpArgs false
set_option linter.unusedVariables false
namespace Go.S
open Go
theorem a3X {n:Nat} {f:cB} (h:Fs n f) (hn:n≤800000) (hon:vw f.files T5≠none) (hj : ∀ q,vw f.files q≠none→q≠T5 → ¬ OJ q) :
 Ok (Sh.DI f dJ) fun r=>r.1=0∧Fs (n+1) r.2∧(∀ q,vw r.2.files q=if q=T5 then none else vw f.files q)∧r.2.kept=r.2.files∧r.2.pending=[]:=by
 unfold Sh.DI
 refine fN.2 ⟨by decide,iU.2 ?_⟩
 refine gX.2 ((aG5 (p:=T5) h (by omega) (by decide) (uG.2 hon)).mono fun r hr => ?_)
 rw [if_neg (by rw [hr.z]; decide)]
 have hk:=hr.k
 rw [← hk]
 have hf:=hr.f
 rw [WJ (n:=n+1) hf,Option.bind_some,if_pos rfl]
 dsimp only
 have hs:=hf.synced r.2.files
 have hNo:NoJ r.2.files:=fun q hq=>by
   have hq:=uG.1 hq
   rw [hr.v] at hq
   by_cases e:q=T5
   . rw [if_pos e] at hq; exact absurd rfl hq
   . rw [if_neg e] at hq; exact hj q hq e
 rw [aXo hs (by omega) hNo,Option.bind_some,if_pos rfl]
 dsimp only
 refine kW (I:=fun _=>True) (μ:=fun _=>0) (fun t _ => ?_) trivial
 rw [if_neg (by simp)]
 refine oG.2 ?_
 rw [WJ hs,Option.bind_some]
 exact dG.2 ⟨rfl,hs,hr.v,rfl,rfl⟩
theorem a6s {n:Nat} {f:cB} {l:List eH} (h:Fs n f) (hn:n≤500000) (hj:NoJ f.files) (hc:aCk l) (hg:Gn (vw f.files) l) (hcl : ∀ p q,Af f.files l p→Af f.files l q→j6 p q=false) :
 Ok (Sh.IM f dJ l) fun r=>r.1=0∧Fs (n+271) r.2∧NoJ r.2.files∧(∀ c∈l,vw r.2.files c.path=if c.gone=true then none else some (c.mode,c.data))∧(∀ q,(∀ c∈l,c.path≠q)→vw r.2.files q=vw f.files q)∧r.2.kept=r.2.files∧r.2.pending=[]:=by
 have hln:=hc.n
 have npj : ∀ c∈l,∀ j,j < 64→c.path≠BR j:=fun c hcm j hj e=>(hc.p c hcm).2 (e▸aAP (aAQ hj))
 have npt : ∀ c∈l,c.path≠T5:=fun c hcm e=>(hc.p c hcm).2 (e▸aAP aDR)
 have lt64 : ∀ {j:Nat} {c:eH},l[j]? = some c→j < 64:=fun hjc=>by
   have:=(List.getElem?_eq_some_iff.1 hjc).1; omega
 unfold Sh.IM
 rw [aU5 hc,Option.bind_some,if_pos rfl,aG4 h (by omega) hj,Option.bind_some,if_pos rfl,a3c h (by omega) hj hc hcl,Option.bind_some,if_neg (by simp)]
 refine gX.2 ((aYm h (by omega) hj hc).mono ?_)
 rintro r ⟨r1,r2,k,r3,r4,r5⟩
 rw [if_pos r1]
 have hV1 : ∀ q,vw r.2.files q≠none→q=T5∨(vw f.files q≠none) ∨ ∃ j c,l[j]? = some c∧c.gone=false∧q=BR j:=fun q hq=>by
   by_cases e:q=T5
   . exact .inl e
   . rw [r4 q e] at hq
     rcases r3.on (uG.2 hq) with a | ⟨j,c,_,a1,a2,a3⟩
     . exact .inr (.inl a)
     . exact .inr (.inr ⟨j,c,a1,a2,a3⟩)
 have hVo : ∀ q,¬ OJ q→vw r.2.files q=vw f.files q:=fun q hq=>by
   rw [r4 q fun e=>hq (e▸aAP aDR)]
   exact r3.a q fun j c _ hjc _ e=>hq (e▸aAP (aAQ (lt64 hjc)))
 refine gX.2 ((aSw (V:=vw r.2.files) r2 (by omega) hc (fun _=>rfl) (fun j c hjc hcg => ?_) (fun q hq hqj => ?_) (fun c hcm hcg => ?_) (fun p q hp hq=>hcl p q ?_ ?_)).mono ?_)
 ·
  rw [r4 _ (aXj ⟨j,lt64 hjc⟩)]
  exact r3.b j c (List.getElem?_eq_some_iff.1 hjc).1 hjc hcg
 ·
  rcases hV1 q hq with rfl | a | ⟨j,c,a1,_,rfl⟩
  ·
   exact aDR
  ·
   exact absurd hqj (hj q (uG.2 a))
  exact aAQ (lt64 a1)
 ·
  rw [hVo _ (hc.p c hcm).2]; exact hg c hcm hcg
 ·
  rcases hp with a | ⟨a,b,c⟩
  ·
   exact .inl a
  rw [hVo _ b] at a; exact .inr ⟨uG.2 a,c⟩
 ·
  rcases hq with a | ⟨a,b,c⟩
  ·
   exact .inl a
  rw [hVo _ b] at a; exact .inr ⟨uG.2 a,c⟩
 rintro s ⟨s1,s2,s3,s4⟩
 rw [if_pos s1]
 refine gX.2 ((a3X s2 (by omega) ?_ (fun q hq hne hqj => ?_)).mono ?_)
 ·
  rw [s3.a T5 npt fun j c hjc _ e=>aXj ⟨j,lt64 hjc⟩ e.symm]
  exact r5
 ·
  by_cases k1 : ∃ j c,l[j]? = some c∧c.gone=false∧q=BR j
  ·
   obtain ⟨j,c,a1,a2,rfl⟩:=k1
   exact hq (s3.c j c a1 a2)
  have e:=s3.a q (fun c hcm e=>(hc.p c hcm).2 (e▸hqj)) fun j c a1 a2 e=>k1 ⟨j,c,a1,a2,e⟩
  rw [e] at hq
  rcases hV1 q hq with a | a | a
  ·
   exact hne a
  ·
   exact hj q (uG.2 a) hqj
  exact k1 a
 rintro t ⟨t1,t2,t3,t4,t5⟩
 refine dG.2 ⟨t1,t2,fun q hq hqj => ?_,fun c hcm => ?_,fun q hq => ?_,t4,t5⟩
 ·
  have hq:=uG.1 hq
  dsimp only at hq
  rw [t3] at hq
  by_cases e:q=T5
  ·
   rw [if_pos e] at hq; exact absurd rfl hq
  rw [if_neg e] at hq
  by_cases k1 : ∃ j c,l[j]? = some c∧c.gone=false∧q=BR j
  ·
   obtain ⟨j,c,a1,a2,rfl⟩:=k1
   exact hq (s3.c j c a1 a2)
  have e':=s3.a q (fun c hcm e=>(hc.p c hcm).2 (e▸hqj)) fun j c a1 a2 e=>k1 ⟨j,c,a1,a2,e⟩
  rw [e'] at hq
  rcases hV1 q hq with a | a | a
  ·
   exact e a
  ·
   exact hj q (uG.2 a) hqj
  exact k1 a
 ·
  dsimp only
  rw [t3,if_neg (npt c hcm)]
  exact s3.b c hcm
 dsimp only
 rw [t3]
 by_cases e:q=T5
 ·
  rw [if_pos e]
  subst e
  cases hv:vw f.files T5 with
  | none=>rfl
  | some y=>exact absurd (aAP aDR) (hj T5 (uG.2 (by rw [hv]; simp)))
 rw [if_neg e]
 by_cases k1 : ∃ j c,l[j]? = some c∧c.gone=false∧q=BR j
 ·
  obtain ⟨j,c,a1,a2,rfl⟩:=k1
  rw [s3.c j c a1 a2]
  cases hv:vw f.files (BR j) with
  | none=>rfl
  | some y=>exact absurd (aAP (aAQ (lt64 a1))) (hj _ (uG.2 (by rw [hv]; simp)))
 rw [s3.a q hq fun j c a1 a2 e=>k1 ⟨j,c,a1,a2,e⟩,r4 q e]
 exact r3.a q fun j c _ a1 a2 e=>k1 ⟨j,c,a1,a2,e⟩
end Go.S
end

section
namespace Go.S
open Go
theorem aU7 (l:List iO):Sh.jR l=some l:=by
 unfold Sh.jR
 simp [lt,gd]
def O6 (a b:List aC) (p:List UInt8):Nat:=match gt a p,gt b p with
  | none,none=>32
  | none,some _=>65
  | some _,none=>68
  | some f,some g=>if f=g then 32 else 77
def delta (a b:List aC) (p:List UInt8):Option iO:=if O6 a b p=32 then none else some ⟨p,[UInt8.ofNat (O6 a b p)]⟩
theorem aZn {a b:List aC} (ha:R a) (hb:R b) (la:a.length≤1000000) (lb:b.length≤1000000) (pa : ∀ f∈a,f.path.length≤1000000) (pb : ∀ f∈b,f.path.length≤1000000):Ok (Sh.IC a b) fun d => ∃ ps,zQ [a,b] ps∧d=ps.filterMap (delta a b)∧d.length≤8000000:=by
 unfold Sh.IC
 simp only [iU]
 refine gX.2 ((aMu [a,b] (by simp) (fun l hl=>by
   rcases List.mem_cons.1 hl with q | q
   . rw [q]; exact ⟨la,pa⟩
   . rw [List.mem_singleton.1 q]; exact ⟨lb,pb⟩)).mono fun ps ⟨hps,hpl⟩ => ?_)
 refine kW (I:=fun t=>0≤t.2∧t.2≤ps.length∧t.1=(ps.take t.2.toNat).filterMap (delta a b)) (μ:=fun t=>(ps.length - t.2).toNat) ?_ ⟨by simp,by simp,by simp⟩
 rintro ⟨o,i⟩ ⟨i0,i1,i2⟩
 dsimp only at i0 i1 i2 ⊢
 have hol:o.length≤i.toNat:=by
   have:=List.length_filterMap_le (delta a b) (ps.take i.toNat)
   rw [List.length_take] at this
   rw [i2]; omega
 simp only [iT,oG]
 refine ⟨fun hi => ?_,fun hi => ?_⟩
 ·
  obtain ⟨p,hp⟩:=sZ (l:=ps) i0 hi
  have hmem:=(hps.2 p).1 (List.mem_of_getElem? hp)
  have hsn:(ps.take (i+1).toNat).filterMap (delta a b)=(ps.take i.toNat).filterMap (delta a b)++(delta a b p).toList:=by
    rw [uE i0 hp,List.filterMap_append]
    cases h:delta a b p <;> simp [h]
  rw [gX,s7]
  refine ⟨i0,p,hp,?_⟩
  rw [aFj ha (by omega) p,Option.bind_some,aFj hb (by omega) p,Option.bind_some]
  simp only [iT,fN,iU,oU]
  cases hga:gt a p with
  | none =>
    have hgb : ∃ g,gt b p=some g:=by
      obtain ⟨l,hl,f,hf,q⟩:=hmem
      rcases List.mem_cons.1 hl with e | e
      . rw [e] at hf; exact absurd q (F4.1 hga f hf)
      . rw [List.mem_singleton.1 e] at hf; exact ⟨f,(pG hb).2 ⟨hf,q⟩⟩
    obtain ⟨g,hgb⟩:=hgb
    have hd:delta a b p=some ⟨p,[65]⟩:=by unfold delta O6; rw [hga,hgb]; rfl
    rw [EE hga]
    refine ⟨fun _=>⟨by simp; omega,⟨by omega,by omega⟩,⟨by omega,by omega,?_⟩,by omega⟩,fun h=>absurd rfl h⟩
    rw [hsn,hd,i2]; rfl
  | some f =>
    rw [BK hga]
    refine ⟨fun h=>absurd h (by simp),fun _ => ?_⟩
    cases hgb:gt b p with
    | none =>
      have hd:delta a b p=some ⟨p,[68]⟩:=by unfold delta O6; rw [hga,hgb]; rfl
      rw [EE hgb]
      refine ⟨fun _=>⟨by simp; omega,⟨by omega,by omega⟩,⟨by omega,by omega,?_⟩,by omega⟩,fun h=>absurd rfl h⟩
      rw [hsn,hd,i2]; rfl
    | some g =>
      rw [BK hgb]
      refine ⟨fun h=>absurd h (by simp),fun _=>⟨fun h=>⟨⟨by omega,by omega⟩,⟨by omega,by omega,?_⟩,by omega⟩,fun h=>⟨by simp; omega,⟨by omega,by omega⟩,⟨by omega,by omega,?_⟩,by omega⟩⟩⟩
      . have hfg:f=g:=by cases f; cases g; simpa using h
        have hd:delta a b p=none:=by unfold delta O6; rw [hga,hgb]; simp [hfg]
        rw [hsn,hd,i2]; simp
      . have hfg:f≠g:=fun e=>h (by rw [e]; exact ⟨rfl,rfl,rfl⟩)
        have hd:delta a b p=some ⟨p,[77]⟩:=by unfold delta O6; rw [hga,hgb]; simp [hfg]
        rw [hsn,hd,i2]; rfl
 rw [aU7,Option.bind_some,dG]
 refine ⟨ps,hps,?_,by omega⟩
 rw [i2,List.take_of_length_le (by omega)]
theorem aN1 {a b:List aC} {p:List UInt8}:O6 a b p=32↔gt a p=gt b p:=by
 unfold O6
 cases gt a p with
 | none=>cases gt b p <;> simp
 | some f =>
   cases gt b p with
   | none=>simp
   | some g =>
     by_cases h:f=g
     . simp [h]
     . simp [h]
theorem a1S {a b:List aC} {ps:List (List UInt8)} (h:zQ [a,b] ps) {p:List UInt8} (hp:p∉ps):gt a p=none∧gt b p=none:=by
 refine ⟨F4.2 fun z hz e=>hp ((h.2 p).2 ⟨a,by simp,z,hz,e⟩),F4.2 fun z hz e=>hp ((h.2 p).2 ⟨b,by simp,z,hz,e⟩)⟩
theorem M3 {a b:List aC} {p:List UInt8} {d:iO} (h:delta a b p=some d):O6 a b p≠32∧d=⟨p,[UInt8.ofNat (O6 a b p)]⟩:=by
 unfold delta at h
 split at h
 ·
  cases h
 next q=>exact ⟨q,(Option.some.inj h).symm⟩
theorem aLQ {a b:List aC} {p:List UInt8}:delta a b p=none↔gt a p=gt b p:=by
 unfold delta
 rw [← aN1]
 split
 ·
  next h=>simp [h]
 next h=>simp [h]
end Go.S
end

section
namespace Go.S
open Go
theorem a1E (l:List aC) (f:aC) (hb:l.length≤1000000000) (hl : ∀ z∈l,z.path.length≤1000000000) (hf:f.path.length≤1000000000):Ok (Sh.iQ l f) (fun b=>b=l.any fun y=>j6 y.path f.path):=by
 unfold Sh.iQ Sh.kZ
 rw [gX]
 refine (SB (fun y=>j6 y.path f.path) l hb (fun y=>Sh.tO y f) (fun y hy => ?_) _ fun i=>rfl).mono fun r hr => ?_
 ·
  unfold Sh.tO
  rw [KO (hl y hy) hf]; rfl
 rw [dG,aF9 hr]
theorem aUR {x:List aC} (hb:x.length≤1000000) {i:Int} (hl : ∀ z∈x.take i.toNat,z.path.length≤1000000000) (i0:0≤i) (hi:i < x.length) {z:aC} (hz:x[i.toNat]? = some z) :
 Ok (Sh.xM x i) fun e=>e=0↔vF z∧(∀ y,0 < i→x[(i - 1).toNat]? = some y→y.path < z.path) ∧ ∀ y∈x.take i.toNat,j6 y.path z.path=false:=by
 unfold Sh.xM
 have hzm:=List.mem_of_getElem? hz
 rw [gX,s7]
 refine ⟨i0,z,hz,?_⟩
 rw [LR,Option.bind_some]
 by_cases hc:wZ z.path=0
 ·
  rw [if_pos hc]
  refine p7 (fun b=>b=false↔(z.mode=1∨z.mode=2)) ?_ ?_
  ·
   intro b hbm
   simp only [iT,dG]
   refine ⟨fun h=>⟨fun q=>absurd q (by omega),fun ⟨⟨_,m,_⟩,_⟩=>by rw [hbm.2 m] at h; cases h⟩,fun h=>⟨fun hd=>⟨fun q=>absurd q (by omega),fun ⟨⟨_,_,q⟩,_⟩=>absurd q (by omega)⟩,fun hd => ?_⟩⟩
   have hm:=hbm.1 (by simpa using h)
   have hd':z.data.length≤4096:=by omega
   refine p7 (fun b=>b=false↔(∀ y,0 < i→x[(i - 1).toNat]? = some y→y.path < z.path)) ?_ ?_
   ·
    intro b hbm
    simp only [iT,dG]
    refine ⟨fun h=>⟨fun q=>absurd q (by omega),fun ⟨_,q,_⟩=>by rw [hbm.2 q] at h; cases h⟩,fun h => ?_⟩
    have hr:=hbm.1 (by simpa using h)
    simp only [fN,iU]
    refine ⟨⟨i0,by omega⟩,gX.2 ((a1E (x.take i.toNat) z (by rw [List.length_take]; omega) (fun y hy=>hl y hy) (by have:=kL hc; omega)).mono fun c hcc => ?_)⟩
    simp only [iT,dG]
    refine ⟨fun h=>⟨fun q=>absurd q (by omega),fun ⟨_,_,q⟩ => ?_⟩,fun h=>⟨fun _=>⟨⟨hc,hm,hd'⟩,hr,fun y hy => ?_⟩,fun _=>(by first | rfl | trivial)⟩⟩
    ·
     rw [hcc] at h
     obtain ⟨y,hy,hy2⟩:=List.any_eq_true.1 h
     rw [q y hy] at hy2; cases hy2
    cases hq:j6 y.path z.path with
    | false=>rfl
    | true=>exact absurd (hcc.trans (List.any_eq_true.2 ⟨y,hy,hq⟩)) h
   intro K hK
   simp only [iT,fN]
   refine ⟨fun h=>⟨⟨by omega,by omega⟩,?_⟩,fun h=>hK _ ⟨fun _ y q=>absurd q h,fun _=>rfl⟩⟩
   obtain ⟨y,hy⟩:=sZ (l:=x) (i:=i - 1) (by omega) (by omega)
   rw [gX,s7]
   refine ⟨by omega,y,hy,?_⟩
   rw [aKQ,Option.bind_some]
   refine hK _ ?_
   rw [decide_eq_false_iff_not]
   constructor
   ·
    intro q y' _ hy'
    rw [hy] at hy'; cases hy'
    by_cases q2:y.path < z.path
    ·
     exact q2
    rw [if_neg q2] at q; split at q <;> omega
   intro q
   rw [if_pos (q y h hy)]; omega
  intro K hK
  simp only [iT]
  refine ⟨fun h=>hK _ ⟨fun _ => .inl h,fun _=>rfl⟩,fun h=>hK _ ⟨fun q => .inr (by simpa using q),fun q => ?_⟩⟩
  rcases q with q | q
  ·
   exact absurd q h
  simp [q]
 rw [if_neg hc,dG]
 exact ⟨fun h=>absurd h hc,fun ⟨⟨h,_⟩,_⟩=>absurd h hc⟩
theorem aHr {x:List aC} (hb:x.length≤1000000):Ok (Sh.oB x) fun e=>e.isNil=true↔x.length≤64∧oR x:=by
 unfold Sh.oB
 simp only [iT,dG]
 refine ⟨fun h=>⟨fun q=>(by cases q),fun q=>absurd q.1 (by omega)⟩,fun h64 => ?_⟩
 refine kW (I:=fun i=>0≤i∧i≤x.length∧oR (x.take i.toNat)) (μ:=fun i=>(x.length - i).toNat) ?_ ⟨by omega,by omega,⟨fun f h=>(by simp at h),by simp [R],by simp⟩⟩
 rintro i ⟨i0,i1,hg⟩
 simp only [iT,oG,dG]
 refine ⟨fun hi => ?_,fun hi => ?_⟩
 ·
  obtain ⟨z,hz⟩:=sZ (l:=x) i0 hi
  refine gX.2 ((aUR hb (fun y hy=>by have:=kL (hg.v y hy).1; omega) i0 hi hz).mono fun e he => ?_)
  simp only [iT,fN,oU,oG,dG]
  refine ⟨fun h=>⟨⟨by omega,by omega⟩,⟨by omega,by omega,?_⟩,by omega⟩,fun h=>⟨fun q=>(by cases q),fun ⟨_,q⟩=>absurd (he.2 ?_) h⟩⟩
  ·
   obtain ⟨a,b,c⟩:=he.1 h
   exact aLg i0 hz hg a b c
  refine ⟨q.v z (List.mem_of_getElem? hz),fun y hpos hy => ?_,fun y hy => ?_⟩
  ·
   exact q.r.aGp hz y (List.mem_of_getElem? (i:=(i - 1).toNat) (by rw [List.getElem?_take,if_pos (by omega)]; exact hy))
  obtain ⟨j,hj⟩:=List.getElem?_of_mem hy
  rw [List.getElem?_take] at hj
  split at hj
  ·
   next hlt =>
   have h1:=(List.getElem?_eq_some_iff.1 hj)
   have h2:=(List.getElem?_eq_some_iff.1 hz)
   have:=List.pairwise_iff_getElem.1 q.c j i.toNat h1.1 h2.1 hlt
   rwa [h1.2,h2.2] at this
  cases hj
 rw [List.take_of_length_le (by omega)] at hg
 exact ⟨fun _=>⟨by omega,hg⟩,fun _=>rfl⟩
end Go.S
end

section
namespace Go.S
theorem aXd:Sh.D1=some true:=by decide +kernel
end Go.S
end

section
set_option linter.unusedSimpArgs false
set_option linter.unusedVariables false
namespace Go.S
open Go
def mkC (b:List aC) (d:iO):eH:=⟨d.path,!(PO b d.path).2,(PO b d.path).1.mode,(PO b d.path).1.data⟩
structure Of (a:List aC) (k:Dk):Prop where
  v : ∀ f∈a,vw k f.path=some (f.mode,f.data)
  o : ∀ q,On k q → ∃ f∈a,f.path=q
theorem aB5 {a:List aC} {p:List UInt8} {f:aC} (h:gt a p=some f):f∈a∧f.path=p:=⟨List.mem_of_find?_eq_some h,PU h⟩
theorem aFo {a:List aC} {p:List UInt8} (h:gt a p≠none) : ∃ f,gt a p=some f∧f∈a∧f.path=p:=by
 cases hg:gt a p with
 | none=>exact absurd hg h
 | some f=>exact ⟨f,rfl,aB5 hg⟩
theorem aO5 {a:List aC} (h:R a) {f:aC} (hf:f∈a):gt a f.path=some f:=(pG h).2 ⟨hf,rfl⟩
theorem U3 {b:List aC} {d:iO}:(mkC b d).gone=true↔gt b d.path=none:=by
 unfold mkC
 cases hg:gt b d.path with
 | none=>rw [EE hg]; simp
 | some f=>rw [BK hg]; simp
theorem aMU {b:List aC} {d:iO} {f:aC} (hg:gt b d.path=some f):(mkC b d).mode=f.mode∧(mkC b d).data=f.data:=by
 unfold mkC
 rw [BK hg]; exact ⟨rfl,rfl⟩
section
variable {a b:List aC} {ps:List (List UInt8)} {d:List iO}
theorem aFR (hps:zQ [a,b] ps) (hd:d=ps.filterMap (delta a b)) {p:List UInt8}:(∃ e∈d,e.path=p)↔gt a p≠gt b p:=by
 subst hd
 constructor
 ·
  rintro ⟨e,he,rfl⟩
  obtain ⟨p,hp,hpe⟩:=List.mem_filterMap.1 he
  obtain ⟨h1,rfl⟩:=M3 hpe
  exact fun h=>h1 (aN1.2 h)
 intro h
 have hp:p∈ps:=by
   by_cases hp:p∈ps
   . exact hp
   . obtain ⟨h1,h2⟩:=a1S hps hp
     exact absurd (h1.trans h2.symm) h
 cases hq:delta a b p with
 | none=>exact absurd (aLQ.1 hq) h
 | some e=>exact ⟨e,List.mem_filterMap.2 ⟨p,hp,hq⟩,by rw [(M3 hq).2]⟩
theorem a6r (hps:zQ [a,b] ps) (hd:d=ps.filterMap (delta a b)):d.Pairwise (fun x y=>x.path≠y.path):=by
 subst hd
 refine List.pairwise_filterMap.2 (hps.1.imp fun {x y} hxy e1 h1 e2 h2 => ?_)
 rw [(M3 h1).2,(M3 h2).2]
 exact fun e=>List.lt_irrefl x (by rw [show x=y from e] at hxy ⊢; exact hxy)
theorem aUa (hps:zQ [a,b] ps) (hd:d=ps.filterMap (delta a b)):d.length≤a.length+b.length:=by
 subst hd
 refine Nat.le_trans (List.length_filterMap_le _ _) (Nat.le_trans (aOj hps) ?_)
 simp
theorem a1R (ha:oR a) (hb:oR b) (la:a.length≤20) (lb:b.length≤20) (hps:zQ [a,b] ps) (hd:d=ps.filterMap (delta a b)) (hj : ∀ e∈d,¬ OJ e.path):aCk (d.map (mkC b)):=by
 have hl:=aUa hps hd
 refine ⟨by rw [List.length_map]; omega,?_,?_,?_⟩
 ·
  intro c hc
  obtain ⟨e,he,rfl⟩:=List.mem_map.1 hc
  refine ⟨?_,hj e he⟩
  show wZ e.path=0
  have hne:=(aFR hps hd).1 ⟨e,he,rfl⟩
  by_cases hg:gt a e.path=none
  ·
   obtain ⟨f,_,hf,hp⟩:=aFo (a:=b) (p:=e.path) (fun h=>hne (hg.trans h.symm))
   rw [← hp]; exact (hb.v f hf).1
  obtain ⟨f,_,hf,hp⟩:=aFo hg
  rw [← hp]; exact (ha.v f hf).1
 ·
  intro c hc hg
  obtain ⟨e,he,rfl⟩:=List.mem_map.1 hc
  have hn:gt b e.path≠none:=fun h=>by rw [U3.2 h] at hg; cases hg
  obtain ⟨f,hf,hfm,_⟩:=aFo hn
  obtain ⟨h1,h2⟩:=aMU hf
  rw [h1,h2]
  obtain ⟨_,h3,h4⟩:=hb.v f hfm
  exact ⟨h3,by omega⟩
 refine List.pairwise_map.2 ((a6r hps hd).imp fun {x y} h=>h)
theorem a1Q (hR:R a) {k:Dk} (hk:Of a k) (hps:zQ [a,b] ps) (hd:d=ps.filterMap (delta a b)):Gn (vw k) (d.map (mkC b)):=fun c hc hg=>by
  obtain ⟨e,he,rfl⟩:=List.mem_map.1 hc
  have hne:=(aFR hps hd).1 ⟨e,he,rfl⟩
  have hb:=U3.1 hg
  obtain ⟨f,_,hf,hp⟩:=aFo (a:=a) (p:=e.path) (fun h=>hne (h.trans hb.symm))
  show vw k e.path≠none
  rw [← hp,hk.v f hf]; simp
theorem a42 (hR:R a) {k:Dk} (hk:Of a k) (hps:zQ [a,b] ps) (hd:d=ps.filterMap (delta a b)) {q:aK} (h:Af k (d.map (mkC b)) q) : ∃ f∈b,f.path=q:=by
 rcases h with ⟨c,hc,rfl,hg⟩ | ⟨ho,hn⟩
 ·
  obtain ⟨e,he,rfl⟩:=List.mem_map.1 hc
  obtain ⟨f,_,hf,hp⟩:=aFo (a:=b) (p:=e.path) fun h=>by rw [U3.2 h] at hg; cases hg
  exact ⟨f,hf,hp⟩
 obtain ⟨f,hf,rfl⟩:=hk.o q ho
 have e:gt a f.path=gt b f.path:=by
   by_cases e:gt a f.path=gt b f.path
   . exact e
   . obtain ⟨x,hx,hp⟩:=(aFR hps hd).2 e
     exact absurd hp (hn _ (List.mem_map.2 ⟨x,hx,rfl⟩))
 rw [aO5 hR hf] at e
 obtain ⟨h1,h2⟩:=aB5 e.symm
 exact ⟨f,h1,h2⟩
theorem a2J (hRa:R a) (hRb:R b) {k k2:Dk} (hk:Of a k) (hps:zQ [a,b] ps) (hd:d=ps.filterMap (delta a b))
 (h1 : ∀ c∈d.map (mkC b),vw k2 c.path=if c.gone=true then none else some (c.mode,c.data)) (h2 : ∀ q,(∀ c∈d.map (mkC b),c.path≠q)→vw k2 q=vw k q) (q:aK):vw k2 q=(gt b q).map fun f=>(f.mode,f.data):=by
 by_cases e:gt a q=gt b q
 ·
  rw [h2 q fun c hc hq=>by
    obtain ⟨x,hx,rfl⟩:=List.mem_map.1 hc
    exact (aFR hps hd).1 ⟨x,hx,hq⟩ e,← e]
  cases hg:gt a q with
  | none =>
    cases hv:vw k q with
    | none=>rfl
    | some y =>
      obtain ⟨f,hf,hp⟩:=hk.o q (uG.2 (by rw [hv]; simp))
      rw [← hp,aO5 hRa hf] at hg; cases hg
  | some f =>
    obtain ⟨hf,hp⟩:=aB5 hg
    rw [← hp,hk.v f hf]; rfl
 obtain ⟨x,hx,rfl⟩:=(aFR hps hd).2 e
 have:=h1 _ (List.mem_map.2 ⟨x,hx,rfl⟩)
 rw [show (mkC b x).path=x.path from rfl] at this
 rw [this]
 cases hg:gt b x.path with
 | none=>rw [if_pos (U3.2 hg)]; rfl
 | some f =>
   rw [if_neg fun h=>by rw [U3.1 h] at hg; cases hg]
   obtain ⟨m1,m2⟩:=aMU hg
   rw [m1,m2]; rfl
end
end Go.S
end

section
set_option linter.unusedSimpArgs false
set_option linter.unusedVariables false
set_option maxHeartbeats 2000000
namespace Go.S
open Go
theorem a4v {f:cB} (hp:f.pending=[]) (keep:List Bool) (hk:keep.length≤50):Sh.DS f keep=some ⟨f.kept,f.kept,[],f.cK,f.now,f.bX,f.ops,true,false,f.left,[]⟩:=by
 apply Ok.eq
 unfold Sh.DS Sh.sK
 simp only [gX,iU,fN,dG]
 refine ⟨by simp; omega,?_⟩
 refine kW (I:=fun _=>True) (μ:=fun _=>0) (fun t _ => ?_) trivial
 rw [hp,if_neg (by simp)]
 exact oG.2 (dG.2 rfl)
theorem aKF {p:aK} (h1 : ¬ p=[46,106]) (h2:2 < p.length → ¬ p.take 3=[46,106,47]) : ¬ OJ p:=fun h=>by
  rcases h with h | ⟨h,h'⟩
  . exact h1 h
  . exact h2 h h'
theorem aOc {a b:List aC} (ha:oR a) (hb:oR b) (la:a.length≤20) (lb:b.length≤20) {n:Nat} {f:cB} (h:Fs n f) (hn:n≤1000000) (hv : ∀ q,vw f.files q=(gt b q).map fun f=>(f.mode,f.data)) :
 Ok (iter (fun (i:Int) =>
 if i < (b.length:Int) then ((at_ b i).bind (fun z=>(Sh.rU f z.path).bind (fun y=>(at_ b i).bind (fun z2=>(Sh.yB f z2.path).bind (fun s =>
 jn (fun (x:Bool)=>if x=true then (up (some false)) else (gd (fE (i+1)) (go (i+1)))) (fun k=>gd (fE (y.2+s.2)) (
 if (y.2+s.2)=0 then ((at_ b i).bind (fun z3=>if y.1=z3.data then ((at_ b i).bind (fun z4=>k (!decide (s.1.mode=z4.mode)))) else (k true))) else (k true))))))))
 else (up (iter (fun (j:Int) =>
 if j < (a.length:Int) then ((at_ a j).bind (fun z=>(Sh.kC b z.path).bind (fun y=>(at_ a j).bind (fun z2=>(Sh.rU f z2.path).bind (fun r =>
 if (decide (r.2=0))=y.2 then (gd (fE (j+1)) (go (j+1))) else (up (some false)))))))
 else (up (some true))) 0))) 0) (fun x=>x=true):=by
 have hlen : ∀ q m d,vw f.files q=some (m,d)→d.length≤65536:=fun q m d hq=>by
   rw [hv] at hq
   cases hg:gt b q with
   | none=>rw [hg] at hq; cases hq
   | some g =>
     rw [hg] at hq
     have:=(hb.v g (aB5 hg).1).2.2
     simp only [Option.map_some,Option.some.injEq,Prod.mk.injEq] at hq
     rw [← hq.2]; omega
 refine aE4 b (fun _=>True) _ (fun i z i0 hi hz _ => ?_) (fun _ => ?_)
 ·
  have hzm:=List.mem_of_getElem? hz
  have hzl:=kL (hb.v z hzm).1
  have hz1:vw f.files z.path=some (z.mode,z.data):=by rw [hv,aO5 hb.r hzm]; rfl
  rw [if_pos hi,rI i0 hz,Option.bind_some,aNM h.off (by omega) (fun m d hq=>hlen _ m d hq),hz1,Option.bind_some,Option.bind_some]
  refine gX.2 ((aYn h.off (by omega) hz1).mono ?_)
  rintro ⟨s1,s2⟩ ⟨h1,h2⟩
  dsimp only at h1 h2 ⊢
  refine p7 (fun x=>x=false) (fun x hx => ?_) fun K hK => ?_
  ·
   subst hx
   rw [if_neg (by simp)]
   exact fN.2 ⟨⟨by omega,by omega⟩,oU.2 (.inl ⟨rfl,trivial⟩)⟩
  rw [h1]
  refine fN.2 ⟨⟨by omega,by omega⟩,?_⟩
  rw [if_pos (by omega),Option.bind_some,if_pos rfl,Option.bind_some]
  exact hK _ (by rw [h2]; simp)
 rw [if_neg (by omega)]
 refine HJ ?_
 refine aE4 a (fun _=>True) _ (fun j z j0 hj hz _ => ?_) (fun _ => ?_)
 ·
  have hzm:=List.mem_of_getElem? hz
  have hzl:=kL (ha.v z hzm).1
  rw [if_pos hj,rI j0 hz,Option.bind_some,aFj hb.r (by omega),Option.bind_some,Option.bind_some,aNM h.off (by omega) (fun m d hq=>hlen _ m d hq),Option.bind_some,hv]
  cases hg:gt b z.path with
  | none =>
    rw [EE hg,if_pos (by decide)]
    exact fN.2 ⟨⟨by omega,by omega⟩,oU.2 (.inl ⟨rfl,trivial⟩)⟩
  | some g =>
    rw [BK hg,if_pos (by simp)]
    exact fN.2 ⟨⟨by omega,by omega⟩,oU.2 (.inl ⟨rfl,trivial⟩)⟩
 rw [if_neg (by omega)]
 exact HJ (dG.2 rfl)
end Go.S
end

section
set_option linter.unusedSimpArgs false
set_option linter.unusedVariables false
set_option maxHeartbeats 4000000
namespace Go.S
open Go
theorem aNZ (a b:List aC) (keep:List Bool):Sh.A8 a b keep=some true:=by
 apply Ok.eq
 unfold Sh.A8
 rw [aXd,Option.bind_some,if_neg (by simp)]
 refine p7 (fun x=>x=false→(a.length≤20∧oR a)∧(b.length≤20∧oR b)∧keep.length≤50) ?_ fun K hK => ?_
 rotate_left
 ·
  refine iT.2 ⟨fun _=>hK _ (fun h=>by cases h),fun h1=>iT.2 ⟨fun _=>hK _ (fun h=>by cases h),fun h2=>iT.2 ⟨fun _=>hK _ (fun h=>by cases h),fun h3 => ?_⟩⟩⟩
  refine gX.2 ((aHr (x:=a) (by omega)).mono fun e he=>iT.2 ⟨fun hn => ?_,fun _=>hK _ (fun h=>by cases h)⟩)
  refine gX.2 ((aHr (x:=b) (by omega)).mono fun e2 he2=>hK _ fun hx => ?_)
  have hn2:e2.isNil=true:=by simpa using hx
  exact ⟨⟨by omega,(he.1 hn).2⟩,⟨by omega,(he2.1 hn2).2⟩,by omega⟩
 intro x hx
 refine iT.2 ⟨fun _=>dG.2 rfl,fun hxf => ?_⟩
 obtain ⟨⟨la,ha⟩,⟨lb,hb⟩,lk⟩:=hx (by simpa using hxf)
 rw [show Sh.SW 0=some ⟨[],[],[],0,0,0,0,false,false,0,[]⟩ from rfl,Option.bind_some]
 dsimp only
 refine kW (I:=fun t=>0≤t.1∧t.1≤a.length∧Fs (t.1.toNat) ⟨t.2.1,t.2.2.1,t.2.2.2.1,t.2.2.2.2.1,t.2.2.2.2.2.1,t.2.2.2.2.2.2.1,t.2.2.2.2.2.2.2.1,t.2.2.2.2.2.2.2.2.1,t.2.2.2.2.2.2.2.2.2.1,t.2.2.2.2.2.2.2.2.2.2.1,t.2.2.2.2.2.2.2.2.2.2.2⟩∧Of (a.take t.1.toNat) t.2.2.1 ∧ ∀ f∈a.take t.1.toNat,¬ OJ f.path) (μ:=fun t=>(a.length - t.1).toNat) ?_ ⟨by dsimp only; omega,by dsimp only; omega,⟨by simp,by simp,by simp,by simp,by simp,by simp,rfl,rfl,rfl,fun q hq=>by simp [On,nM,F8] at hq⟩,⟨fun f hf=>by simp at hf,fun q hq=>by simp [On,nM,F8] at hq⟩,fun f hf=>by simp at hf⟩
 rintro ⟨i,c0,c1,c2,c3,c4,c5,c6,c7,c8,c9,c10⟩ ⟨i0,i1,i2,i3,i4⟩
 dsimp only at i0 i1 i2 i3 i4 ⊢
 by_cases hi:i < a.length
 ·
  rw [if_pos hi]
  obtain ⟨z,hz⟩:=LI i0 hi
  have hzm:=List.mem_of_getElem? hz
  obtain ⟨hv1,hv2,hv3⟩:=ha.v z hzm
  have hzl:=kL hv1
  have hat:=rI i0 hz
  have tk:a.take (i+1).toNat=a.take i.toNat++[z]:=F2 i0 hz
  refine p7 (fun t=>t.1=true∨(t.1=false∧Fs (i.toNat+1) ⟨t.2.1,t.2.2.1,t.2.2.2.1,t.2.2.2.2.1,t.2.2.2.2.2.1,t.2.2.2.2.2.2.1,t.2.2.2.2.2.2.2.1,t.2.2.2.2.2.2.2.2.1,t.2.2.2.2.2.2.2.2.2.1,t.2.2.2.2.2.2.2.2.2.2.1,t.2.2.2.2.2.2.2.2.2.2.2⟩∧Of (a.take (i+1).toNat) t.2.2.1 ∧ ∀ f∈a.take (i+1).toNat,¬ OJ f.path)) ?_ fun K hK => ?_
  ·
   rintro ⟨y,d0,d1,d2,d3,d4,d5,d6,d7,d8,d9,d10⟩ (h | ⟨h,h1,h2,h3⟩)
   ·
    dsimp only at h ⊢
    rw [if_pos h]
    exact oG.2 (dG.2 rfl)
   dsimp only at h h1 h2 h3 ⊢
   rw [if_neg (by rw [h]; simp)]
   simp only [fN,oU]
   exact ⟨⟨by omega,by omega⟩,⟨by omega,by omega,by rw [show (i+1).toNat=i.toNat+1 by omega]; exact h1,h2,h3⟩,by omega⟩
  have edit : ¬ OJ z.path→Ok (Sh.uA (⟨c0,c1,c2,c3,c4,c5,c6,c7,c8,c9,c10⟩:cB) z.path z.mode z.data) fun r=>r.1=0∧Fs (i.toNat+1) r.2∧Of (a.take (i+1).toNat) r.2.files ∧ ∀ f∈a.take (i+1).toNat,¬ OJ f.path:=fun hnj=>by
    refine (aUd i2 (by omega) hv1 hv2 (by omega) (fun q hq => ?_)).mono ?_
    . obtain ⟨f,hf,rfl⟩:=i3.o q hq
      exact IJ ha hzm (List.mem_of_mem_take hf)
    rintro r ⟨h1,h2,h3⟩
    refine ⟨h1,h2,⟨fun f hf => ?_,fun q hq => ?_⟩,fun f hf => ?_⟩
    . rw [h3]
      rw [tk] at hf
      rcases List.mem_append.1 hf with q | q
      . have:=ha.r.aGp hz f q
        rw [if_neg fun e=>List.lt_irrefl _ (by rw [show f.path=z.path from e] at this; exact this)]
        exact i3.v f q
      . rw [List.mem_singleton.1 q,if_pos rfl]
    . have hq:=uG.1 hq
      rw [h3] at hq
      rw [tk]
      by_cases e:q=z.path
      . exact ⟨z,by simp,e.symm⟩
      . rw [if_neg e] at hq
        obtain ⟨f,hf,hp⟩:=i3.o q (uG.2 hq)
        exact ⟨f,List.mem_append_left _ hf,hp⟩
    . rw [tk] at hf
      rcases List.mem_append.1 hf with q | q
      . exact i4 f q
      . rw [List.mem_singleton.1 q]; exact hnj
  simp only [hat,Option.bind_some]
  refine iT.2 ⟨fun _=>hK _ (.inl rfl),fun hne=>iT.2 ⟨fun h2 => ?_,fun h2 => ?_⟩⟩
  ·
   refine fN.2 ⟨⟨by omega,by omega⟩,iU.2 (iT.2 ⟨fun _=>hK _ (.inl rfl),fun h3 => ?_⟩)⟩
   exact fN.2 ⟨by omega,iU.2 (gX.2 ((edit (aKF hne fun _=>h3)).mono fun r hr=>hK _ (.inr ⟨by rw [hr.1]; rfl,hr.2⟩)))⟩
  exact fN.2 ⟨by omega,iU.2 (gX.2 ((edit (aKF hne fun h=>absurd h (by omega))).mono fun r hr=>hK _ (.inr ⟨by rw [hr.1]; rfl,hr.2⟩)))⟩
 rw [if_neg hi]
 refine oG.2 ?_
 have ei:i.toNat=a.length:=by omega
 rw [ei,List.take_length] at i3 i4
 rw [ei] at i2
 have bda:Bd a:=oR.bd ⟨by omega,ha⟩
 have bdb:Bd b:=oR.bd ⟨by omega,hb⟩
 rw [a5X a (by omega),Option.bind_some,aLJ (r:=⟨b,[],[]⟩) bda bdb bda (aHw ha) (G7.bd ⟨by rw [List.length_map]; omega,aHw ha⟩) (by simp) (by simp) (by simp) (by simp) (by
   have:=KK a ⟨b,[],[]⟩
   simp only [List.length_nil] at this ⊢
   omega),Option.bind_some,aNg ha hb]
 dsimp only
 refine p7 (fun x=>x=false) ?_ fun K hK => ?_
 rotate_left
 ·
  rw [if_pos (by rfl),a3U b b (by omega),Option.bind_some]
  exact hK _ (by simp)
 intro x hx
 subst hx
 rw [if_neg (by simp)]
 have pa : ∀ f∈a,f.path.length≤1000000:=fun f hf=>by have:=kL (ha.v f hf).1; omega
 have pb : ∀ f∈b,f.path.length≤1000000:=fun f hf=>by have:=kL (hb.v f hf).1; omega
 refine gX.2 ((aZn ha.r hb.r (by omega) (by omega) pa pb).mono fun d ⟨ps,hps,hd,_⟩ => ?_)
 have hdl:=aUa hps hd
 refine kW (I:=fun t=>0≤t.2∧t.2≤d.length∧t.1=(d.take t.2.toNat).map (mkC b) ∧ ∀ e∈d.take t.2.toNat,¬ OJ e.path) (μ:=fun t=>(d.length - t.2).toNat) ?_ ⟨by dsimp only; omega,by dsimp only; omega,by simp,fun e he=>by simp at he⟩
 rintro ⟨l,j⟩ ⟨j0,j1,j2,j3⟩
 dsimp only at j0 j1 j2 j3 ⊢
 by_cases hj:j < d.length
 ·
  rw [if_pos hj]
  obtain ⟨z,hz⟩:=LI j0 hj
  have hat:=rI j0 hz
  have hdt:(PO b z.path).1.data.length≤4096:=by
    cases hg:gt b z.path with
    | none=>rw [EE hg]; simp
    | some g=>rw [BK hg]; exact (hb.v g (aB5 hg).1).2.2
  simp only [hat,Option.bind_some]
  rw [aFj hb.r (by omega),Option.bind_some]
  refine p7 (fun x=>x=false → ¬ OJ z.path) ?_ fun K hK => ?_
  ·
   intro x hx
   refine iT.2 ⟨fun _=>oG.2 (dG.2 rfl),fun hxf => ?_⟩
   have hnj:=hx (by simpa using hxf)
   have hll:l.length≤40:=by rw [j2,List.length_map,List.length_take]; omega
   simp only [fN,iU,oU,List.length_singleton]
   refine ⟨by omega,by omega,⟨by omega,by omega⟩,⟨by omega,by omega,?_,?_⟩,by omega⟩
   ·
    rw [F2 j0 hz,List.map_append,j2]; rfl
   rw [F2 j0 hz]
   intro e he
   rcases List.mem_append.1 he with q | q
   ·
    exact j3 e q
   rw [List.mem_singleton.1 q]; exact hnj
  refine iT.2 ⟨fun _=>hK _ (fun h=>by cases h),fun hne=>iT.2 ⟨fun h2 => ?_,fun h2=>hK _ fun _=>aKF hne fun h=>absurd h (by omega)⟩⟩
  refine fN.2 ⟨⟨by omega,by omega⟩,iU.2 (hK _ fun h3=>aKF hne fun _ => ?_)⟩
  exact of_decide_eq_false h3
 rw [if_neg hj]
 refine oG.2 ?_
 have ej:j.toNat=d.length:=by omega
 rw [ej,List.take_length] at j2 j3
 subst j2
 have hNo:NoJ c1:=fun q hq=>by
   obtain ⟨f,hf,rfl⟩:=i3.o q hq
   exact i4 f hf
 refine gX.2 ((a6s i2 (by omega) hNo (a1R ha hb la lb hps hd j3) (a1Q ha.r i3 hps hd) (fun p q hp hq => ?_)).mono ?_)
 ·
  obtain ⟨f,hf,rfl⟩:=a42 ha.r i3 hps hd hp
  obtain ⟨g,hg,rfl⟩:=a42 ha.r i3 hps hd hq
  exact IJ hb hf hg
 rintro r ⟨r1,r2,r3,r4,r5,r6,r7⟩
 rw [if_pos r1,a4v r7 keep lk,Option.bind_some]
 unfold Sh.KF
 dsimp only
 rw [Option.bind_some,r6]
 have hfs:Fs (a.length+271) (⟨r.2.files,r.2.files,[],r.2.cK,r.2.now,r.2.bX,r.2.ops,false,false,r.2.left,[]⟩:cB):=⟨r2.fl,Nat.zero_le _,r2.i0,r2.i1,r2.o0,r2.o1,r2.q,rfl,rfl,r2.ks⟩
 rw [aG4 hfs (by omega) r3,Option.bind_some,if_pos rfl]
 exact aOc ha hb la lb hfs (by omega) (a2J ha.r hb.r i3 hps hd r4 r5)
end Go.S
end
