/- Part of the proofs of: a folder's tree, put into a store, file by file, is there again, told in bytes and loaded; each file's bytes are there once, named by one name (any tree) -/
import Derived.Test.YtcenmlklkpgmnabGreatDoorSG
set_option linter.unusedVariables false
set_option linter.unusedSimpArgs false
set_option linter.unusedSectionVars false
section
namespace Go.S
open Go
def zO:aY:=⟨0,[],[],0,[],0,[]⟩
def o02:qY:=⟨[⟨aXm,0⟩],2⟩
def aLN (b:List UInt8):aY×qY :=
  if (uN b).2.err≠0 then (zO,(uN b).2)
  else if (uO (uN b).1 ⟨0,none⟩).2.2=true then (zO,o02)
  else if (YV (uO (uN b).1 ⟨0,none⟩).2.1.bad).err≠0 then (zO,YV (uO (uN b).1 ⟨0,none⟩).2.1.bad)
  else if 0 < aGw (uN b).1 (uO (uN b).1 ⟨0,none⟩).2.1 then (zO,o02)
  else if FF (uO (uN b).1 ⟨0,none⟩).1=none then (if LP (uB (uO (uN b).1 ⟨0,none⟩).1)=b then ((uO (uN b).1 ⟨0,none⟩).1,⟨[],0⟩) else (zO,o02))
  else (zO,ZJ (uO (uN b).1 ⟨0,none⟩).1)
theorem aOB (b:List UInt8):(uN b).1.length≤b.length:=by
 unfold uN
 split
 ·
  exact Nat.zero_le _
 split
 ·
  rw [List.length_take]; omega
 exact Nat.zero_le _
theorem aBq {w:qY}:(ofW w).isNil=true↔w.err=0:=by
 unfold ofW
 split
 ·
  next h=>simp [h,eY.isNil]
 next h=>rw [(aIU w.parts w.err).1]; simp [h]
theorem aSp {b:List UInt8} {s:DS} (h:JF b s):K0 s.bad=ofW (YV s.bad):=by
 have h2:=h.2
 cases hs:s.bad with
 | none=>rfl
 | some q =>
   obtain ⟨p,e⟩:=q
   rw [hs] at h2
   unfold ofW YV
   dsimp only at h2 ⊢
   rw [if_neg (by omega)]; rfl
theorem aSn {o:aY} (hs:Sh7 o.items):(ZJ o).err=0↔FF o=none:=by
 unfold ZJ
 cases h:FF o with
 | none=>simp
 | some q =>
   obtain ⟨ps,e⟩:=q
   have:=aDH h hs.1
   simp; omega
theorem aNd {b:List UInt8} (hl:b.length≤1000000):Sh.AH b=some ((aLN b).1,ofW (aLN b).2):=by
 apply Ok.eq
 unfold Sh.AH
 have hol:=aOB b
 rw [aXq (by omega),Option.bind_some]
 unfold aLN
 dsimp only
 by_cases h0:(uN b).2.err=0
 ·
  rw [if_pos (aBq.2 h0),if_neg (fun e=>e h0)]
  unfold Sh.D6
  rw [O3 (by omega),Option.bind_some,Option.bind_some]
  have hd:JF (uN b).1 ⟨0,none⟩:=⟨Nat.zero_le _,trivial⟩
  have ho:=aNy hd (by omega)
  obtain ⟨r1,r2,r3,r4⟩:=aTd hd (by omega)
  rw [gD]
  refine Ok.of ho ?_
  generalize uO (uN b).1 ⟨0,none⟩=r at *
  obtain ⟨o,s,far⟩:=r
  dsimp only at r1 r2 r3 r4 ⊢
  unfold Sh.s7 Sh.hO Sh.A8
  simp only [fT,gD,cY]
  refine ⟨fun hf=>by rw [if_pos hf]; rfl,fun hf => ?_⟩
  rw [if_neg hf,show (cP (uN b).1 s).err=ofW (YV s.bad) from aSp r1,aBq]
  refine ⟨fun he => ?_,fun he=>by rw [if_pos he]; rfl⟩
  rw [if_neg (fun e=>e he)]
  refine Ok.of (aMF r1 (by omega)) ⟨fun hp=>by rw [if_pos hp]; rfl,fun hp => ?_⟩
  rw [if_neg hp]
  refine Ok.of (aFK r2 r3 r4) ?_
  by_cases hE:FF o=none
  ·
   rw [if_pos hE,if_pos hE]
   refine ⟨fun _=>⟨fun hn => ?_,fun hn => ?_⟩,fun hn=>by simp [eY.isNil] at hn⟩
   ·
    have : ¬ LP (uB o)=b:=by simpa using hn
    rw [if_neg this]; rfl
   have:LP (uB o)=b:=by simpa using hn
   rw [if_pos this]; rfl
  rw [if_neg hE,if_neg hE]
  dsimp only
  rw [aBq,aSn r2]
  exact ⟨fun q=>absurd q hE,fun _=>rfl⟩
 rw [if_neg (fun e=>h0 (aBq.1 e)),if_pos h0,cY]; rfl
end Go.S
end

section
namespace Go.S
open Go
end Go.S
end

section
namespace Go.S
open Go
end Go.S
end

section
namespace Go.S
theorem RQ {α:Type} {l:List α} {i:Int} (h0:0≤i) (h:i < l.length) : ∃ z,l[i.toNat]? = some z:=⟨_,List.getElem?_eq_getElem (by omega)⟩
theorem LC {α:Type} {l:List α} {i:Int} {z:α} (h0:0≤i) (h:l[i.toNat]? = some z):l.take (i+1).toNat=l.take i.toNat++[z]:=by
 rw [show (i+1).toNat=i.toNat+1 by omega,List.take_add_one,h]; rfl
theorem RR {α:Type} {l:List α} {i:Int} {z:α} (h0:0≤i) (h:l[i.toNat]? = some z):at_ l i=some z:=by
 unfold at_; rw [if_pos h0,h]
theorem aPE {α β:Type} (f:α→β) {l:List α} {i:Nat} {z:α} (h:l[i]? = some z):(l.map f)[i]? = some (f z):=by rw [List.getElem?_map,h]; rfl
def Nx {T R:Type} (t:T) (y:T⊕R):Prop:=y = .inl t
def Up {T R:Type} (Q:R→Prop) (y:T⊕R):Prop := ∃ r,y = .inr r∧Q r
theorem aNx {T R:Type} {t t':T} (h:t'=t):Ok (go t':Option (T⊕R)) (Nx t):=⟨_,rfl,by rw [h]; rfl⟩
theorem a5U {T R:Type} {c:Prop} [Decidable c] {t t':T} (hc:c) (h:t'=t):Ok (gd c (go t':Option (T⊕R))) (Nx t):=eL.2 ⟨hc,aNx h⟩
theorem aKZ {T R:Type} {o:Option R} {Q:R→Prop} (h:Ok o Q):Ok (up o:Option (T⊕R)) (Up Q):=lH.2 (h.mono fun r hr=>⟨r,rfl,hr⟩)
theorem aS9 {α τ R:Type} {Q:R→Prop} (l:List α) (f:τ→α→τ) (t0:τ) (B:Int×τ→Option ((Int×τ)⊕R))
 (hB : ∀ (i:Int) z,0≤i→i < l.length→l[i.toNat]? = some z → ∀ s,s=(l.take i.toNat).foldl f t0→Ok (B (i,s)) (Nx (i+1,f s z)))
 (hE : ∀ s,s=l.foldl f t0→Ok (B ((l.length:Int),s)) (Up Q)):Ok (iter B (0,t0)) Q:=by
 refine iH (I:=fun t=>0≤t.1∧t.1≤l.length∧t.2=(l.take t.1.toNat).foldl f t0) (μ:=fun t=>(l.length - t.1).toNat) ?_ ⟨by dsimp only; omega,by dsimp only; omega,by simp⟩
 rintro ⟨i,t⟩ ⟨i0,i1,i2⟩
 dsimp only at i0 i1 i2 ⊢
 by_cases hi:i < l.length
 ·
  obtain ⟨z,hz⟩:=RQ i0 hi
  refine (hB i z i0 hi hz t i2).mono ?_
  rintro y hy
  cases hy
  refine ⟨⟨by dsimp only; omega,by dsimp only; omega,?_⟩,by dsimp only; omega⟩
  show _=(l.take (i+1).toNat).foldl f t0
  rw [LC i0 hz,List.foldl_append,i2]; rfl
 have e:i=l.length:=by omega
 subst e
 rw [List.take_of_length_le (by omega)] at i2
 refine (hE t i2).mono ?_
 rintro y ⟨r,rfl,hr⟩
 exact hr
theorem aII {α σ τ R:Type} {Q:R→Prop} (l:List α) (f : σ → α → σ) (g:τ→α→τ) (s0 : σ) (t0:τ) (B : σ × τ×Int→Option ((σ × τ×Int)⊕R))
 (hB : ∀ (i:Int) z,0≤i→i < l.length→l[i.toNat]? = some z → ∀ s t,s=(l.take i.toNat).foldl f s0→t=(l.take i.toNat).foldl g t0→Ok (B (s,t,i)) (Nx (f s z,g t z,i+1)))
 (hE : ∀ s t,s=l.foldl f s0→t=l.foldl g t0→Ok (B (s,t,(l.length:Int))) (Up Q)):Ok (iter B (s0,t0,0)) Q:=by
 refine iH (I:=fun t=>0≤t.2.2∧t.2.2≤l.length∧t.1=(l.take t.2.2.toNat).foldl f s0∧t.2.1=(l.take t.2.2.toNat).foldl g t0) (μ:=fun t=>(l.length - t.2.2).toNat) ?_ ⟨by dsimp only; omega,by dsimp only; omega,by simp,by simp⟩
 rintro ⟨s,t,i⟩ ⟨i0,i1,i2,i3⟩
 dsimp only at i0 i1 i2 i3 ⊢
 by_cases hi:i < l.length
 ·
  obtain ⟨z,hz⟩:=RQ i0 hi
  refine (hB i z i0 hi hz s t i2 i3).mono ?_
  rintro y hy
  cases hy
  refine ⟨⟨by dsimp only; omega,by dsimp only; omega,?_,?_⟩,by dsimp only; omega⟩
  ·
   show _=(l.take (i+1).toNat).foldl f s0
   rw [LC i0 hz,List.foldl_append,i2]; rfl
  show _=(l.take (i+1).toNat).foldl g t0
  rw [LC i0 hz,List.foldl_append,i3]; rfl
 have e:i=l.length:=by omega
 subst e
 rw [List.take_of_length_le (by omega)] at i2 i3
 refine (hE s t i2 i3).mono ?_
 rintro y ⟨r,rfl,hr⟩
 exact hr
theorem CL {α β:Type} (g:α→List β) : ∀ (l:List α) (a:List β),l.foldl (fun a z=>a++g z) a=a++l.flatMap g
  | [],a=>by simp
  | z::r,a=>by rw [List.foldl_cons,CL g r,List.flatMap_cons,List.append_assoc]
theorem aBX {α β:Type} (g:α→β) : ∀ l:List α,l.flatMap (fun z=>[g z])=l.map g
  | []=>rfl
  | z::r=>by rw [List.flatMap_cons,aBX g r]; rfl
theorem a1E {α R:Type} {Q:R→Prop} (l:List α) (P:α→Prop) (B:Int→Option (Int⊕R))
 (hB : ∀ (i:Int) z,0≤i→i < l.length→l[i.toNat]? = some z→(∀ y∈l.take i.toNat,P y)→Ok (B i) (fun y=>y = .inl (i+1)∧P z ∨ ∃ r,y = .inr r∧Q r))
 (hE:(∀ y∈l,P y)→Ok (B (l.length:Int)) (Up Q)):Ok (iter B 0) Q:=by
 refine iH (I:=fun i=>0≤i∧i≤l.length ∧ ∀ y∈l.take i.toNat,P y) (μ:=fun i=>(l.length - i).toNat) ?_ ⟨by omega,by omega,by simp⟩
 rintro i ⟨i0,i1,i2⟩
 by_cases hi:i < l.length
 ·
  obtain ⟨z,hz⟩:=RQ i0 hi
  refine (hB i z i0 hi hz i2).mono ?_
  rintro y (⟨rfl,hp⟩ | ⟨r,rfl,hr⟩)
  ·
   refine ⟨⟨by omega,by omega,fun y hy => ?_⟩,by omega⟩
   rw [LC i0 hz] at hy
   rcases List.mem_append.1 hy with q | q
   ·
    exact i2 y q
   rw [List.mem_singleton.1 q]; exact hp
  exact hr
 have e:i=l.length:=by omega
 subst e
 rw [List.take_of_length_le (by omega)] at i2
 refine (hE i2).mono ?_
 rintro y ⟨r,rfl,hr⟩
 exact hr
end Go.S
end

section
namespace Go.S
open Go
def tx (o:aY):List UInt8:=LP (uB o)
def aNQ (o:aY):Prop:=(o.kind=1→o.items=[]∧o.tree=0∧o.parents=[]∧o.time=0∧o.text=[]) ∧
  (o.kind=2→o.data=[]∧o.tree=0∧o.parents=[]∧o.time=0∧o.text=[])∧(o.kind=3→o.data=[]∧o.items=[])
structure UE (o:aY):Prop where
  dec:aLN (tx o)=(o,⟨[],0⟩)
  ok:FF o=none
  sh:Sh7 o.items
  pl:o.parents.length≤1000000
  r:R7 o
  few:a43 o
  pu:aNQ o
theorem aST {l:List b5} (h:l.length≤4294967296):Sh.iS l=some l:=by
 apply Ok.eq
 unfold Sh.iS
 simp only [gX,eL,cY]
 exact ⟨by simpa using h,rfl⟩
theorem aN7 {l:List Int} (h:l.length≤4294967296):Sh.mI l=some l:=by
 apply Ok.eq
 unfold Sh.mI
 simp only [gX,eL,cY]
 exact ⟨by simpa using h,rfl⟩
theorem aHs {o:aY} (g:UE o):Sh.BS o=some o:=by
 obtain ⟨p1,p2,p3⟩:=g.pu
 obtain ⟨f1,f2,f3,f4⟩:=g.few
 have hk:=(aFf g.ok).kind
 obtain ⟨k,d,it,t,ps,ti,te⟩:=o
 dsimp only at p1 p2 p3 f1 f2 f3 f4 hk
 unfold Sh.BS
 dsimp only
 rcases hk with rfl | rfl | rfl
 ·
  obtain ⟨rfl,rfl,rfl,rfl,rfl⟩:=p1 rfl
  rw [if_pos rfl,O3 (by omega),Option.bind_some,aER,Option.bind_some]
 ·
  obtain ⟨rfl,rfl,rfl,rfl,rfl⟩:=p2 rfl
  rw [if_neg (by decide),if_pos rfl,aST (by omega),Option.bind_some,aLJ,Option.bind_some]
 obtain ⟨rfl,rfl⟩:=p3 rfl
 rw [if_neg (by decide),if_neg (by decide),if_pos rfl,aN7 (by omega),Option.bind_some,aHz,Option.bind_some]
def kd8 (l:List aY) (id:Int):Int:=if id < 1 then 0 else match l[(id - 1).toNat]? with
  | none=>0
  | some o=>o.kind
theorem aMB {l:List aY} {m:List (bB×Int)} {id:Int} (h:dP id):Sh.sF ⟨l,m⟩ id=some (kd8 l id):=by
 obtain ⟨h1,h2⟩:=h
 apply Ok.eq
 unfold Sh.sF kd8
 dsimp only
 by_cases q:id < 1
 ·
  rw [if_pos q]
  refine r8 (fun x=>x=true) (by rintro x rfl; rw [if_pos rfl]; exact cY.2 rfl) (fun K hK => ?_)
  rw [if_pos q]; exact hK _ rfl
 rw [if_neg q]
 by_cases q2:(l.length:Int) < id
 ·
  rw [List.getElem?_eq_none (by omega)]
  refine r8 (fun x=>x=true) (by rintro x rfl; rw [if_pos rfl]; exact cY.2 rfl) (fun K hK => ?_)
  rw [if_neg q]; exact hK _ (by simpa using q2)
 obtain ⟨z,hz⟩:=RQ (l:=l) (i:=id - 1) (by omega) (by omega)
 refine r8 (fun x=>x=false) ?_ (fun K hK => ?_)
 ·
  rintro x rfl
  rw [if_neg (by simp)]
  refine eL.2 ⟨⟨by omega,by omega⟩,?_⟩
  rw [RR (by omega) hz,Option.bind_some,hz]
  exact cY.2 rfl
 rw [if_neg q]; exact hK _ (by simpa using q2)
def refsOf (o:aY):List (Int×Int):=if o.kind=2 then o.items.map fun x=>(x.oJ,1) else if o.kind=3 then (o.tree,2)::o.parents.map fun p=>(p,3) else []
theorem aY2 {o:aY} (g:UE o):Sh.IL o=some ((refsOf o).map (·.1),(refsOf o).map (·.2)):=by
 obtain ⟨f1,f2,f3,f4⟩:=g.few
 apply Ok.eq
 generalize hR:((refsOf o).map (·.1),(refsOf o).map (·.2))=R
 unfold Sh.IL
 refine r8 (fun x=>x=R) ?_ (fun K hK => ?_)
 ·
  rintro ⟨a,b⟩ h
  exact cY.2 h
 unfold refsOf at hR
 by_cases k2:o.kind=2
 ·
  rw [if_pos k2] at hR
  rw [if_pos k2]
  refine aII o.items (fun s (x:b5)=>s++[x.oJ]) (fun t _=>t++[(1:Int)]) [] [] _ (fun i z i0 hi hz s t hs ht => ?_) (fun s t hs ht => ?_)
  ·
   have l1:s.length=i.toNat:=by rw [hs,CL (fun x:b5=>[x.oJ]),aBX]; simp; omega
   have l2:t.length=i.toNat:=by rw [ht,CL (fun _:b5=>[(1:Int)]),aBX]; simp; omega
   dsimp only
   rw [if_pos hi,RR i0 hz,Option.bind_some]
   simp only [gX,eL]
   exact ⟨by simp; omega,by simp; omega,⟨by omega,by omega⟩,aNx rfl⟩
  dsimp only
  rw [if_neg (by omega)]
  refine aKZ ?_
  refine hK _ ?_
  rw [hs,ht,← hR,CL (fun x:b5=>[x.oJ]),aBX,CL (fun _:b5=>[(1:Int)]),aBX]
  simp [Function.comp_def]
 rw [if_neg k2] at hR
 rw [if_neg k2]
 by_cases k3:o.kind=3
 ·
  rw [if_pos k3] at hR
  rw [if_pos k3]
  simp only [gX,eL]
  refine ⟨by simp,by simp,?_⟩
  refine aII o.parents (fun s (x:Int)=>s++[x]) (fun t _=>t++[(3:Int)]) [o.tree] [2] _ (fun i z i0 hi hz s t hs ht => ?_) (fun s t hs ht => ?_)
  ·
   have l1:s.length=i.toNat+1:=by rw [hs,CL (fun x:Int=>[x]),aBX]; simp; omega
   have l2:t.length=i.toNat+1:=by rw [ht,CL (fun _:Int=>[(3:Int)]),aBX]; simp; omega
   dsimp only
   rw [if_pos hi,RR i0 hz,Option.bind_some]
   simp only [gX,eL]
   exact ⟨by simp; omega,by simp; omega,⟨by omega,by omega⟩,aNx rfl⟩
  dsimp only
  rw [if_neg (by omega)]
  refine aKZ ?_
  refine hK _ ?_
  rw [hs,ht,← hR,CL (fun x:Int=>[x]),aBX,CL (fun _:Int=>[(3:Int)]),aBX]
  simp [Function.comp_def]
 rw [if_neg k3] at hR
 rw [if_neg k3]
 exact hK _ hR
end Go.S
end

section
namespace Go.S
open Go
theorem aE7 {o:aY} (g:UE o):(tx o).length≤20004:=by
 unfold tx; rw [aIW]; have:=aDv (aFf g.ok) g.r; omega
theorem aLQ {o:aY} (g:UE o):Sh.rL o=some (tx o,eY.nil):=by
 rw [aFK g.sh g.pl g.r,if_pos g.ok]; rfl
theorem aTf {o:aY} (g:UE o) : ∀ p∈refsOf o,dP p.1:=by
 obtain ⟨_,r2,_,r4,r5⟩:=g.r
 intro p hp
 unfold refsOf at hp
 by_cases k2:o.kind=2
 ·
  rw [if_pos k2] at hp
  obtain ⟨x,hx,rfl⟩:=List.mem_map.1 hp
  exact (r5 x hx).2
 rw [if_neg k2] at hp
 by_cases k3:o.kind=3
 ·
  rw [if_pos k3] at hp
  rcases List.mem_cons.1 hp with rfl | hp
  ·
   exact r2
  obtain ⟨x,hx,rfl⟩:=List.mem_map.1 hp
  exact r4 x hx
 rw [if_neg k3] at hp; cases hp
theorem aTe {o:aY} (g:UE o):(refsOf o).length≤100:=by
 obtain ⟨f1,f2,f3,f4⟩:=g.few
 unfold refsOf
 split
 ·
  simp; omega
 split
 ·
  simp; omega
 simp
def Rg8 (l:List aY) (o:aY):Prop := ∀ p∈refsOf o,kd8 l p.1=p.2
theorem aNF {l:List aY} {m:List (bB×Int)} {o:aY} (g:UE o) (hl:l.length≤5000) (hm:m.length≤5000) :
 Ok (Sh.mC ⟨l,m⟩ o) fun r=>(r.2.1.isNil=false∧(¬ Rg8 l o∨tK m (tx o)=none∧4096≤l.length)) ∨
 Rg8 l o∧((∃ v,tK m (tx o)=some v∧r=(v,eY.nil,⟨l,m⟩)) ∨
 tK m (tx o)=none∧l.length < 4096∧r=(((l++[o]).length:Int),eY.nil,⟨l++[o],(tx o,((l++[o]).length:Int))::m⟩)):=by
 have ht:=aE7 g
 have hrl:=aTe g
 unfold Sh.mC
 rw [aLQ g,Option.bind_some,if_pos (by rfl),aY2 g,Option.bind_some]
 dsimp only
 refine a1E (refsOf o) (fun p=>kd8 l p.1=p.2) _ (fun i z i0 hi hz hp => ?_) (fun hall => ?_)
 ·
  rw [List.length_map,if_pos hi,RR i0 (aPE (·.1) hz),Option.bind_some,RR i0 (aPE (·.2) hz),Option.bind_some,aMB (aTf g z (List.mem_of_getElem? hz)),Option.bind_some,fT]
  refine ⟨fun q=>eL.2 ⟨⟨by omega,by omega⟩,nI.2 (.inl ⟨rfl,q⟩)⟩,fun q=>lH.2 (cY.2 (.inr ⟨_,rfl,.inl ⟨rfl,.inl fun h=>q (h z (List.mem_of_getElem? hz))⟩⟩))⟩
 rw [List.length_map,if_neg (by omega)]
 refine aKZ (eL.2 ⟨by omega,?_⟩)
 cases hg:tK m (tx o) with
 | some v =>
   rw [if_pos (by rfl)]
   exact cY.2 (.inr ⟨hall,.inl ⟨v,rfl,rfl⟩⟩)
 | none =>
   rw [if_neg (by simp),fT]
   refine ⟨fun q=>cY.2 (.inl ⟨rfl,.inr ⟨rfl,by omega⟩⟩),fun q => ?_⟩
   rw [aHs g,Option.bind_some]
   simp only [gX,eL]
   refine ⟨by simp only [List.length_cons,List.length_nil]; omega,⟨by omega,by omega,by simp only [List.length_append,List.length_cons,List.length_nil]; exact ⟨by omega,by omega⟩⟩,cY.2 (.inr ⟨hall,.inr ⟨trivial,by omega,rfl⟩⟩)⟩
inductive zZ:List aY→List (bB×Int)→Prop
  | nil:zZ [] []
  | snoc {l:List aY} {m:List (bB×Int)} {o:aY}:zZ l m→UE o→Rg8 l o→tK m (tx o)=none→l.length < 4096→zZ (l++[o]) ((tx o,((l++[o]).length:Int))::m)
theorem aAA {l:List aY} {m:List (bB×Int)} (h:zZ l m):m.length=l.length∧l.length≤4096:=by
 induction h with
 | nil=>exact ⟨rfl,by simp⟩
 | snoc c g r q hlt ih=>simp only [List.length_append,List.length_cons,List.length_nil]; omega
theorem aN5 {l:List aY} {m:List (bB×Int)} (h:zZ l m) : ∀ t v,tK m t=some v→1≤v∧v≤l.length:=by
 induction h with
 | nil=>intro t v e; cases e
 | @snoc l m o c g r q hlt ih =>
   intro t v e
   by_cases ht:tx o=t
   . subst ht
     rw [R1] at e
     cases e
     simp only [List.length_append,List.length_cons,List.length_nil]; omega
   . rw [M9 _ _ ht] at e
     have:=ih t v e
     simp only [List.length_append,List.length_cons,List.length_nil]; omega
theorem aFD {l:List aY} {m:List (bB×Int)} (h:zZ l m) : ∀ t,tK m t=none ↔ ∀ a∈l,tx a≠t:=by
 induction h with
 | nil=>intro t; exact ⟨fun _ a ha=>(by cases ha),fun _=>rfl⟩
 | @snoc l m o c g r q hlt ih =>
   intro t
   by_cases ht:tx o=t
   . subst ht
     rw [R1]
     exact ⟨fun e=>(by cases e),fun h=>absurd rfl (h o (by simp))⟩
   . rw [M9 _ _ ht,ih t]
     refine ⟨fun h a ha => ?_,fun h a ha=>h a (List.mem_append_left _ ha)⟩
     rcases List.mem_append.1 ha with q | q
     . exact h a q
     . rw [List.mem_singleton.1 q]; exact ht
structure Lst (l:List aY):Prop where
  len:l.length≤4096
  all : ∀ (i:Nat) o,l[i]? = some o→UE o∧Rg8 (l.take i) o ∧ ∀ a∈l.take i,tx a≠tx o
theorem aAB {l:List aY} {m:List (bB×Int)} (h:zZ l m):Lst l:=by
 refine ⟨(aAA h).2,?_⟩
 induction h with
 | nil=>intro i o e; cases e
 | @snoc l m o c g r q hlt ih =>
   intro i x e
   by_cases hi:i < l.length
   . rw [List.getElem?_append_left hi] at e
     rw [List.take_append_of_le_length (by omega)]
     exact ih i x e
   . have hi2:=(List.getElem?_eq_some_iff.1 e).1
     simp only [List.length_append,List.length_cons,List.length_nil] at hi2
     have ei:i=l.length:=by omega
     subst ei
     rw [List.getElem?_append_right (by omega),Nat.sub_self] at e
     cases e
     rw [List.take_append_of_le_length (by omega),List.take_of_length_le (by omega)]
     exact ⟨g,r,(aFD c _).1 q⟩
theorem of8 (b:List UInt8) (h:b.length≤1000000000):Sh.D6 b=some (cP b ⟨0,none⟩):=by
 unfold Sh.D6
 rw [O3 (by omega),Option.bind_some]; rfl
end Go.S
end

section
namespace Go.S
open Go
def pN (l:List aY):List UInt8:=encI l.length++l.flatMap fun o=>oT (tx o)
theorem aCQ {l:List aY} (h:Lst l) (k:Nat):((l.take k).flatMap fun o=>oT (tx o)).length≤20100*4096:=by
 have h1 : ∀ x∈l.take k,(oT (tx x)).length≤20100:=fun x hx=>by
   obtain ⟨i,hi⟩:=List.mem_iff_getElem?.1 (List.mem_of_mem_take hx)
   have:=aE7 (h.all i x hi).1
   have:=O4 (s:=tx x) (by omega)
   omega
 have h2:=KB h1
 have h3:(l.take k).length≤4096:=by rw [List.length_take]; have:=h.len; omega
 exact Nat.le_trans h2 (Nat.mul_le_mul_left _ h3)
theorem aSP {l:List aY} {m:List (bB×Int)} (h:Lst l):Sh.tU ⟨l,m⟩=some (pN l):=by
 have hlen:=h.len
 have hI:dP (l.length:Int):=⟨by omega,by omega⟩
 have he:=nE hI
 apply Ok.eq
 unfold Sh.tU
 dsimp only
 rw [gX,z8 (e:=⟨[]⟩) (l:=[(l.length:Int)]) (by intro n hn; rw [List.mem_singleton.1 hn]; exact hI) (by simp) (by simp),Option.bind_some]
 simp only [List.nil_append,List.flatMap_cons,List.flatMap_nil,List.append_nil]
 have hf : ∀ k,(l.take k).foldl (fun s o=>s++oT (tx o)) (encI l.length)=encI l.length++(l.take k).flatMap fun o=>oT (tx o):=fun k=>CL _ _ _
 refine aS9 l (fun s o=>s++oT (tx o)) (encI l.length) _ (fun i z i0 hi hz s hs => ?_) (fun s hs => ?_)
 ·
  dsimp only
  have g:=(h.all _ z hz).1
  have ht:=aE7 g
  have hk:=aCQ h i.toNat
  have hsl:s.length≤10+20100*4096:=by rw [hs,hf,List.length_append]; omega
  rw [if_pos hi,RR i0 hz,Option.bind_some,aLQ g,Option.bind_some]
  simp only [gX]
  rw [MV (by dsimp only; omega),Option.bind_some]
  exact a5U ⟨by omega,by omega⟩ rfl
 dsimp only
 have hk:=aCQ h l.length
 rw [List.take_of_length_le (Nat.le_refl _)] at hk
 have hfl:=hf l.length
 rw [List.take_of_length_le (Nat.le_refl _)] at hfl
 rw [if_neg (by omega)]
 refine aKZ ?_
 unfold Sh.qC
 dsimp only
 rw [hs,hfl]
 rw [O3 (by rw [List.length_append]; omega),Option.bind_some,aER,Option.bind_some,Option.bind_some]
 exact cY.2 rfl
theorem aX7 {l:List aY} (h:Lst l):Ok (Sh.IJ (pN l)) fun r => ∃ m,r = .inr (⟨l,m⟩,()):=by
 have hlen:=h.len
 have hI:dP (l.length:Int):=⟨by omega,by omega⟩
 have he:=nE hI
 have htot:=aCQ h l.length
 rw [List.take_of_length_le (Nat.le_refl _)] at htot
 have hbl:(pN l).length≤100000000:=by unfold pN; rw [List.length_append]; omega
 have h0:JF (pN l) ⟨0,none⟩:=⟨Nat.zero_le _,trivial⟩
 unfold Sh.IJ
 rw [of8 _ (by omega),Option.bind_some,xX h0 (by omega),Option.bind_some]
 dsimp only
 have hs0:gH (pN l) ⟨0,none⟩=((l.length:Int),⟨(encI l.length).length,none⟩):=by
   have:=aDe hI [] (l.flatMap fun o=>oT (tx o))
   simpa [pN] using this
 rw [hs0]
 dsimp only
 refine r8 (fun x=>x=false) ?_ ?_
 ·
  rintro x rfl
  rw [if_neg (by simp),show Sh.HB=some ⟨[],[]⟩ from rfl,Option.bind_some]
  refine r8 (fun x=>x.2.2=(pN l,((pN l).length:Int),eY.nil)∧x.1=l) ?_ ?_
  ·
   rintro ⟨l',m,b',at',er'⟩ ⟨hx,rfl⟩
   dsimp only at hx ⊢
   cases hx
   have hd:JF (pN l') ⟨(pN l').length,none⟩:=⟨Nat.le_refl _,trivial⟩
   show Ok ((Sh.hO (cP (pN l') ⟨(pN l').length,none⟩)).bind _) _
   rw [show Sh.hO (cP (pN l') ⟨(pN l').length,none⟩)=some eY.nil from rfl,Option.bind_some,if_pos (by rfl)]
   show Ok ((Sh.qH (cP (pN l') ⟨(pN l').length,none⟩)).bind _) _
   rw [aMF hd (by have q:=hbl; dsimp only at q; omega),Option.bind_some,if_neg (by simp [aGw])]
   exact cY.2 ⟨_,rfl⟩
  intro K hK
  refine iH (I:=fun t=>0≤t.1∧t.1≤l.length∧t.2.1=l.take t.1.toNat∧zZ t.2.1 t.2.2.1∧t.2.2.2=(pN l,(((encI l.length++(l.take t.1.toNat).flatMap fun o=>oT (tx o)).length:Nat):Int),eY.nil)) (μ:=fun t=>(l.length - t.1).toNat) ?_
    ⟨by dsimp only; omega,by dsimp only; omega,by simp,zZ.nil,by simp [cP,K0]⟩
  rintro ⟨i,l1,m,b',at',er'⟩ ⟨i0,i1,hl1,hc,hx⟩
  dsimp only at i0 i1 hl1 hc hx ⊢
  subst hl1
  cases hx
  rw [fT]
  refine ⟨fun hi => ?_,fun hi=>lH.2 (hK _ ?_)⟩
  ·
   obtain ⟨o,ho⟩:=RQ i0 hi
   obtain ⟨g,hr,hne⟩:=h.all _ o ho
   have ht:=aE7 g
   have hsplit:l=l.take i.toNat++o::l.drop (i.toNat+1):=by
     obtain ⟨h1,h2⟩:=List.getElem?_eq_some_iff.1 ho
     rw [← h2,List.getElem_cons_drop,List.take_append_drop]
   have hb:pN l=(encI l.length++(l.take i.toNat).flatMap fun o=>oT (tx o))++oT (tx o)++(l.drop (i.toNat+1)).flatMap fun o=>oT (tx o):=by
     unfold pN
     conv=>lhs; arg 2; rw [hsplit]
     rw [List.flatMap_append,List.flatMap_cons]
     simp only [List.append_assoc]
   have hsn:l.take (i+1).toNat=l.take i.toNat++[o]:=LC i0 ho
   have hkk:=aCQ h i.toNat
   generalize hpre:(encI l.length++(l.take i.toNat).flatMap fun o=>oT (tx o))=pre at *
   have hd:JF (pN l) ⟨pre.length,none⟩:=⟨by rw [hb]; simp only [List.length_append]; omega,trivial⟩
   have hst:=aGx (s:=tx o) (by omega) pre ((l.drop (i.toNat+1)).flatMap fun o=>oT (tx o))
   rw [← hb] at hst
   show Ok ((Sh.fN (cP (pN l) ⟨pre.length,none⟩)).bind _) _
   rw [MU hd (by omega),Option.bind_some,hst]
   dsimp only
   simp only [gX,eL]
   refine ⟨by omega,?_⟩
   rw [aNd (by omega),Option.bind_some,show Sh.hO (cP (pN l) ⟨pre.length+(oT (tx o)).length,none⟩)=some eY.nil from rfl,Option.bind_some,if_pos (by rfl),g.dec,if_pos (by rfl)]
   dsimp only
   obtain ⟨c1,c2⟩:=aAA hc
   refine gD.2 ((aNF g (by omega) (by omega)).mono ?_)
   have hnone:tK m (tx o)=none:=(aFD hc _).2 hne
   have hll:(l.take i.toNat).length=i.toNat:=by rw [List.length_take]; omega
   rintro r (⟨_,e1 | ⟨_,e1⟩⟩ | ⟨hg,⟨v,hv,rfl⟩ | ⟨hn,hlt,rfl⟩⟩)
   ·
    exact absurd hr e1
   ·
    omega
   ·
    rw [hnone] at hv; cases hv
   have e2:((l.take i.toNat++[o]).length:Int)=i+1:=by simp only [List.length_append,List.length_cons,List.length_nil]; omega
   refine r8 (fun x=>x=false) ?_ (fun K2 hK2 => ?_)
   ·
    rintro x rfl
    rw [if_neg (by simp)]
    refine eL.2 ⟨⟨by omega,by omega⟩,nI.2 ⟨⟨by dsimp only; omega,by dsimp only; omega,hsn.symm,zZ.snoc hc g hr hnone hlt,?_⟩,by dsimp only; omega⟩⟩
    dsimp only
    rw [hsn,List.flatMap_append,← List.append_assoc,hpre]
    simp [cP,K0]
   rw [if_pos (by rfl)]
   refine eL.2 ⟨⟨by omega,by omega⟩,hK2 _ ?_⟩
   simp only [e2]; simp
  have e:i=l.length:=by omega
  subst e
  have htk:l.take ((l.length:Int).toNat)=l:=List.take_of_length_le (by omega)
  rw [htk]
  exact ⟨rfl,rfl⟩
 intro K hK
 rw [if_neg (by omega)]
 exact hK _ (decide_eq_false (by omega))
end Go.S
end

section
namespace Go.S
open Go
theorem a4a {l:List aY} {m:List (bB×Int)} {o:aY} {id:Int} (g:UE o) (h1:1≤id) (hI:dP id) (ho:l[(id - 1).toNat]? = some o):Sh.tF ⟨l,m⟩ id=some (o,true):=by
 have hk:=(aFf g.ok).kind
 obtain ⟨i0,i1⟩:=hI
 apply Ok.eq
 unfold Sh.tF
 rw [aMB ⟨i0,i1⟩,Option.bind_some]
 have hkd:kd8 l id=o.kind:=by unfold kd8; rw [if_neg (by omega),ho]
 rw [hkd,if_neg (by omega)]
 refine eL.2 ⟨⟨by omega,by omega⟩,?_⟩
 rw [RR (by omega) ho,Option.bind_some,aHs g,Option.bind_some]
 exact cY.2 rfl
end Go.S
end

section
namespace Go.S
open Go
theorem OC {b:List UInt8} {n:Int} (h:dP n) (pre suf:List UInt8) (hb:b=pre++encI n++suf) {p:Nat} (hp:p=pre.length):gH b ⟨p,none⟩=(n,⟨(pre++encI n).length,none⟩):=by
 subst hb; subst hp
 rw [aDe h,List.length_append]
theorem aKO {b t:List UInt8} (h:t.length≤1000000000) (pre suf:List UInt8) (hb:b=pre++oT t++suf) {p:Nat} (hp:p=pre.length):x9 b ⟨p,none⟩=(t,⟨(pre++oT t).length,none⟩):=by
 subst hb; subst hp
 rw [aGx h,List.length_append]
theorem aNA {b:List UInt8} (suf:List UInt8) : ∀ (items:List b5) (pre:List UInt8) (acc:List b5),(∀ x∈items,dP x.mode∧dP x.oJ∧x.path.length≤1000000)→b=pre++items.flatMap rF++suf →
    x8 b items.length ⟨pre.length,none⟩ acc=(acc++items,⟨(pre++items.flatMap rF).length,none⟩)
  | [],pre,acc,_,_=>by simp [x8]
  | x::r,pre,acc,hx,hb=>by
    obtain ⟨x1,x2,x3⟩:=hx x (List.mem_cons_self ..)
    rw [List.flatMap_cons,rF] at hb
    have e1:=aKO (b:=b) (t:=x.path) (by omega) pre (encI x.mode++encI x.oJ++r.flatMap rF++suf) (by rw [hb]; simp only [List.append_assoc]) rfl
    have e2:=OC (b:=b) x1 (pre++oT x.path) (encI x.oJ++r.flatMap rF++suf) (by rw [hb]; simp only [List.append_assoc]) rfl
    have e3:=OC (b:=b) x2 (pre++oT x.path++encI x.mode) (r.flatMap rF++suf) (by rw [hb]; simp only [List.append_assoc]) rfl
    rw [List.length_cons,x8,e1]
    dsimp only
    rw [e2]
    dsimp only
    rw [e3]
    dsimp only
    have ih:=aNA (b:=b) suf r (pre++oT x.path++encI x.mode++encI x.oJ) (acc++[x]) (fun y hy=>hx y (List.mem_cons_of_mem _ hy)) (by rw [hb]; simp only [List.append_assoc])
    rw [ih]
    simp only [List.flatMap_cons,rF,List.append_assoc,List.cons_append,List.nil_append]
theorem aQq {b:List UInt8} (suf:List UInt8) : ∀ (ns:List Int) (pre:List UInt8) (acc:List Int),(∀ x∈ns,dP x)→b=pre++ns.flatMap encI++suf →
    DQ b ns.length ⟨pre.length,none⟩ acc=(acc++ns,⟨(pre++ns.flatMap encI).length,none⟩)
  | [],pre,acc,_,_=>by simp [DQ]
  | x::r,pre,acc,hx,hb=>by
    rw [List.flatMap_cons] at hb
    have e1:=OC (b:=b) (hx x (List.mem_cons_self ..)) pre (r.flatMap encI++suf) (by rw [hb]; simp only [List.append_assoc]) rfl
    rw [List.length_cons,DQ,e1]
    dsimp only
    have ih:=aQq (b:=b) suf r (pre++encI x) (acc++[x]) (fun y hy=>hx y (List.mem_cons_of_mem _ hy)) (by rw [hb]; simp only [List.append_assoc])
    rw [ih]
    simp only [List.flatMap_cons,List.append_assoc,List.cons_append,List.nil_append]
theorem aIA {n:Nat} (h:n≤64):GO (n:Int)=n∧JC (n:Int)=false:=by
 have hf:JC (n:Int)=false:=by simp [JC]; omega
 exact ⟨by have:=aLM hf; omega,hf⟩
theorem aOF {o:aY} (h:FF o=none) (hs:Sh7 o.items) (hr:R7 o) (hp:aNQ o):uO (uB o) ⟨0,none⟩=(o,⟨(uB o).length,none⟩,false):=by
 have g:=aFf h
 obtain ⟨r1,r2,r3,r4,r5⟩:=hr
 obtain ⟨p1,p2,p3⟩:=hp
 have hk:=g.kind
 obtain ⟨k,d,it,t,ps,ti,te⟩:=o
 dsimp only at p1 p2 p3 r1 r2 r3 r4 r5 hk hs
 rcases hk with rfl | rfl | rfl
 ·
  obtain ⟨rfl,rfl,rfl,rfl,rfl⟩:=p1 rfl
  have hd:=g.data rfl
  dsimp only at hd
  generalize hb:uB ⟨1,d,[],0,[],0,[]⟩=b
  have hb':b=encI 1++oT d:=by rw [← hb]; rfl
  have e1:=OC (b:=b) (n:=1) ⟨by decide,by decide⟩ [] (oT d) (by rw [hb']; simp) rfl
  have e2:=aKO (b:=b) (t:=d) (by omega) (encI 1) [] (by rw [hb']; simp) rfl
  simp only [List.length_nil,List.nil_append] at e1
  unfold uO
  rw [e1]
  dsimp only
  rw [if_pos rfl,e2,hb']
 ·
  obtain ⟨rfl,rfl,rfl,rfl,rfl⟩:=p2 rfl
  have hd:=(g.items rfl).1
  dsimp only at hd
  generalize hb:uB ⟨2,[],it,0,[],0,[]⟩=b
  have hb':b=encI 2++encI it.length++it.flatMap rF:=by
    rw [← hb]; unfold uB; dsimp only
    rw [if_neg (by decide),if_pos rfl,List.append_assoc]
  obtain ⟨c1,c2⟩:=aIA hd
  have e1:=OC (b:=b) (n:=2) ⟨by decide,by decide⟩ [] (encI it.length++it.flatMap rF) (by rw [hb']; simp) rfl
  have e2:=OC (b:=b) (n:=(it.length:Int)) ⟨by omega,by omega⟩ (encI 2) (it.flatMap rF) hb' rfl
  have e3:=aNA (b:=b) [] it (encI 2++encI it.length) [] (fun x hx=>⟨(r5 x hx).1,(r5 x hx).2,hs.2 x hx⟩) (by rw [hb']; simp)
  simp only [List.length_nil,List.nil_append] at e1
  unfold uO
  rw [e1]
  dsimp only
  rw [if_neg (by decide),if_pos rfl,e2]
  dsimp only
  rw [c1,c2,e3,← hb']
  simp
 obtain ⟨rfl,rfl⟩:=p3 rfl
 obtain ⟨g1,g2⟩:=g.rest rfl
 dsimp only at g1 g2
 generalize hb:uB ⟨3,[],[],t,ps,ti,te⟩=b
 have hb':b=encI 3++encI t++encI ps.length++ps.flatMap encI++encI ti++oT te:=by
   rw [← hb]; unfold uB; dsimp only
   rw [if_neg (by decide),if_neg (by decide)]
   simp only [List.append_assoc]
 obtain ⟨c1,c2⟩:=aIA (n:=ps.length) (by omega)
 have e1:=OC (b:=b) (n:=3) ⟨by decide,by decide⟩ [] (encI t++encI ps.length++ps.flatMap encI++encI ti++oT te) (by rw [hb']; simp) rfl
 have e2:=OC (b:=b) r2 (encI 3) (encI ps.length++ps.flatMap encI++encI ti++oT te) (by rw [hb']; simp only [List.append_assoc]) rfl
 have e3:=OC (b:=b) (n:=(ps.length:Int)) ⟨by omega,by omega⟩ (encI 3++encI t) (ps.flatMap encI++encI ti++oT te) (by rw [hb']; simp only [List.append_assoc]) rfl
 have e4:=aQq (b:=b) (encI ti++oT te) ps (encI 3++encI t++encI ps.length) [] r4 (by rw [hb']; simp only [List.append_assoc])
 have e5:=OC (b:=b) r3 (encI 3++encI t++encI ps.length++ps.flatMap encI) (oT te) (by rw [hb']) rfl
 have e6:=aKO (b:=b) (t:=te) (by omega) (encI 3++encI t++encI ps.length++ps.flatMap encI++encI ti) [] (by rw [hb']; simp) rfl
 simp only [List.length_nil,List.nil_append] at e1 e4
 unfold uO
 rw [e1]
 dsimp only
 rw [if_neg (by decide),if_neg (by decide),if_pos rfl,e2]
 dsimp only
 rw [e3]
 dsimp only
 rw [c1,c2,e4]
 dsimp only
 rw [e5]
 dsimp only
 rw [e6,← hb']
theorem gd8 {o:aY} (h:FF o=none) (hs:Sh7 o.items) (hl:o.parents.length≤1000000) (hr:R7 o) (hf:a43 o) (hp:aNQ o):UE o:=by
 refine ⟨?_,h,hs,hl,hr,hf,hp⟩
 have e:=aOF h hs hr hp
 unfold tx aLN
 rw [aOC]
 dsimp only
 rw [if_neg (by simp),e]
 dsimp only
 rw [if_neg (by simp),if_neg (by simp [YV]),if_neg (by simp [aGw]),if_pos h,if_pos rfl]
end Go.S
end

section
namespace Go.S
open Go
theorem a3P {a b:aY} (ga:UE a) (gb:UE b) (h:tx a=tx b):a=b:=by
 have h1:=ga.dec
 rw [h,gb.dec] at h1
 exact (congrArg Prod.fst h1).symm
theorem aSR {l:List aY} {m:List (bB×Int)} (h:zZ l m) : ∀ t v,tK m t=some v → ∃ o,l[(v - 1).toNat]? = some o∧tx o=t:=by
 induction h with
 | nil=>intro t v e; cases e
 | @snoc l m o c g r q hlt ih =>
   intro t v e
   by_cases ht:tx o=t
   . subst ht
     rw [R1] at e
     cases e
     refine ⟨o,?_,rfl⟩
     have:(((l++[o]).length:Int) - 1).toNat=l.length:=by simp only [List.length_append,List.length_cons,List.length_nil]; omega
     rw [this,List.getElem?_append_right (Nat.le_refl _),Nat.sub_self]; rfl
   . rw [M9 _ _ ht] at e
     obtain ⟨x,h1,h2⟩:=ih t v e
     refine ⟨x,?_,h2⟩
     rw [List.getElem?_append_left (List.getElem?_eq_some_iff.1 h1).1]; exact h1
theorem aSS {l:List aY} {m:List (bB×Int)} (h:zZ l m) : ∀ x∈l,UE x:=fun x hx=>by
  obtain ⟨i,hi⟩:=List.mem_iff_getElem?.1 hx
  exact ((aAB h).all i x hi).1
theorem a4e {l:List aY} {m:List (bB×Int)} {o:aY} (h:zZ l m) (g:UE o) (hr:Rg8 l o) (hl:l.length < 4096) :
 ∃ id l' m',Sh.mC ⟨l,m⟩ o=some (id,eY.nil,⟨l',m'⟩)∧zZ l' m'∧1≤id∧id≤l'.length∧l'[(id - 1).toNat]? = some o∧(l'=l∨l'=l++[o]):=by
 obtain ⟨c1,c2⟩:=aAA h
 obtain ⟨r,e,q⟩:=aNF (l:=l) (m:=m) g (by omega) (by omega)
 rcases q with ⟨_,q | ⟨_,q⟩⟩ | ⟨_,⟨v,hv,rfl⟩ | ⟨hn,hlt,rfl⟩⟩
 ·
  exact absurd hr q
 ·
  omega
 ·
  obtain ⟨x,h1,h2⟩:=aSR h _ _ hv
  have hx:x=o:=a3P (aSS h x (List.mem_of_getElem? h1)) g h2
  subst hx
  have hv2:=aN5 h _ _ hv
  exact ⟨v,l,m,e,h,hv2.1,hv2.2,h1,.inl rfl⟩
 refine ⟨_,_,_,e,zZ.snoc h g hr hn hlt,by simp only [List.length_append,List.length_cons,List.length_nil]; omega,Int.le_refl _,?_,.inr rfl⟩
 have:(((l++[o]).length:Int) - 1).toNat=l.length:=by simp only [List.length_append,List.length_cons,List.length_nil]; omega
 rw [this,List.getElem?_append_right (Nat.le_refl _),Nat.sub_self]; rfl
def yX (d:List UInt8):aY:=⟨1,d,[],0,[],0,[]⟩
theorem aLE {d:List UInt8} (h:d.length≤4096):UE (yX d) :=
  gd8 (by unfold FF yX; dsimp only; rw [if_pos rfl,if_neg (by omega)]) ⟨by simp [yX],fun x hx=>(by cases hx)⟩ (by simp [yX])
    ⟨by simp [yX,dP],by simp [yX,dP],by simp [yX,dP],fun n hn=>(by cases hn),fun x hx=>(by cases hx)⟩
    ⟨by show (d.length:Int)≤5000; omega,by simp [yX],by simp [yX],by simp [yX]⟩
    ⟨fun _=>⟨rfl,rfl,rfl,rfl,rfl⟩,fun h=>absurd h (by simp [yX]),fun h=>absurd h (by simp [yX])⟩
theorem aUE (l:List aY) (d:List UInt8):Rg8 l (yX d):=by
 intro p hp
 unfold refsOf yX at hp
 simp at hp
theorem a1v {l:List aY} {id:Int} {o:aY} (h1:1≤id) (h:l[(id - 1).toNat]? = some o):kd8 l id=o.kind:=by
 unfold kd8; rw [if_neg (by omega),h]
theorem aTw {l:List aY} {x o:aY} {i:Nat} (h:l[i]? = some o) {l':List aY} (q:l'=l∨l'=l++[x]):l'[i]? = some o:=by
 rcases q with rfl | rfl
 ·
  exact h
 rw [List.getElem?_append_left (List.getElem?_eq_some_iff.1 h).1]; exact h
end Go.S
end

section
namespace Go.S
open Go
def Fst {α:Type} (p:α→Bool) (l:List α) (r:Int):Prop:=(r = -1 ∧ ∀ z∈l,p z=false) ∨ ∃ k:Nat,r=k∧k < l.length∧(∀ z∈l.take k,p z=false) ∧ ∃ z,l[k]? = some z∧p z=true
theorem a1u {α:Type} (p:α→Bool) (l:List α) (hb:l.length≤1000000000) (F:α→Option Bool) (hF : ∀ z∈l,F z=some (p z)) (B:Int→Option (Int⊕Int))
 (hB : ∀ i,B i=if i < (l.length:Int) then (at_ l i).bind (fun z=>(F z).bind (fun y=>if y=true then up (some i) else gd (dP (i+1)) (go (i+1)))) else up (some (-1))):Ok (iter B 0) (Fst p l):=by
 refine iH (I:=fun i=>0≤i∧i≤l.length ∧ ∀ z∈l.take i.toNat,p z=false) (μ:=fun i=>(l.length - i).toNat) ?_ ⟨by omega,by omega,by simp⟩
 rintro i ⟨h0,h1,h2⟩
 rw [hB]
 simp only [fT,lH,gD,cY,nH]
 refine ⟨fun h => ?_,fun h => ?_⟩
 ·
  obtain ⟨z,hz⟩:=rU h0 h
  refine ⟨h0,z,hz,?_⟩
  rw [hF z (List.mem_of_getElem? hz),cY]
  simp only [fT,lH,eL,nI,cY]
  refine ⟨fun hp => .inr ⟨i.toNat,by omega,by omega,h2,z,hz,hp⟩,fun hp=>⟨⟨by omega,by omega⟩,⟨by omega,by omega,fun y hy => ?_⟩,by omega⟩⟩
  rw [vS h0 hz] at hy
  rcases List.mem_append.1 hy with q | q
  ·
   exact h2 y q
  rw [List.mem_singleton.1 q]; simpa using hp
 rw [List.take_of_length_le (by omega)] at h2
 exact .inl ⟨rfl,h2⟩
theorem aWA {α:Type} {p:α→Bool} {l:List α} {r:Int} (h:Fst p l r):decide (0≤r)=l.any p:=by
 rcases h with ⟨rfl,h⟩ | ⟨k,rfl,hk,_,z,hz,hp⟩
 ·
  have:l.any p=false:=List.any_eq_false.2 fun z hz=>by simp [h z hz]
  rw [this]; rfl
 have:l.any p=true:=List.any_eq_true.2 ⟨z,List.mem_of_getElem? hz,hp⟩
 rw [this]; simp
end Go.S
end

section
namespace Go.S
open Go
set_option maxRecDepth 100000
theorem aQ0 (a b:List UInt8):Sh.pH a b=some (if a < b then -1 else if b < a then 1 else 0):=by
 unfold Sh.pH Sh.qB Sh.cmp_isNaN_string
 simp only [Option.bind_some,decide_true,Bool.not_true,Bool.false_eq_true,if_false,Go.Proofs.bytesLess_eq,decide_eq_true_eq]
 by_cases h1:a < b
 ·
  simp [h1]
 simp only [h1,if_false,decide_false,Bool.false_or]
 by_cases h2:a=b
 ·
  subst h2; simp [List.lt_irrefl]
 have h3:b < a:=by
   by_cases q:b < a
   . exact q
   . exact absurd (List.le_antisymm (List.not_lt.1 q) (List.not_lt.1 h1)) h2
 simp [h2,h3]
def R (l:List aC):Prop:=l.Pairwise (fun a b=>a.path < b.path)
theorem R.sub {l l':List aC} (h:R l) (s:l'.Sublist l):R l':=List.Pairwise.sublist s h
theorem R.uniq {l:List aC} (h:R l) {a b:aC} (ha:a∈l) (hb:b∈l) (e:a.path=b.path):a=b:=by
 obtain ⟨i,hi⟩:=List.getElem?_of_mem ha
 obtain ⟨j,hj⟩:=List.getElem?_of_mem hb
 obtain ⟨hi1,hi2⟩:=List.getElem?_eq_some_iff.1 hi
 obtain ⟨hj1,hj2⟩:=List.getElem?_eq_some_iff.1 hj
 rcases Nat.lt_trichotomy i j with q | q | q
 ·
  have:=List.pairwise_iff_getElem.1 h i j hi1 hj1 q
  rw [hi2,hj2,e] at this
  exact absurd this (List.lt_irrefl _)
 ·
  subst q; rw [← hi2,← hj2]
 have:=List.pairwise_iff_getElem.1 h j i hj1 hi1 q
 rw [hi2,hj2,e] at this
 exact absurd this (List.lt_irrefl _)
theorem R.ext {l l':List aC} (h:R l) (h':R l') (m : ∀ z,z∈l↔z∈l'):l=l':=by
 have nd : ∀ {l:List aC},R l→l.Nodup:=fun {l} h=>by
   unfold R at h
   exact List.Pairwise.imp (fun {a b} (q:a.path < b.path) (e:a=b)=>List.lt_irrefl b.path (e▸q)) h
 refine List.Perm.eq_of_pairwise (le:=fun a b=>a.path≤b.path) (fun a b ha hb h1 h2=>h.uniq ha ((m b).2 hb) (List.le_antisymm h1 h2)) (h.imp fun q=>List.le_of_lt q) (h'.imp fun q=>List.le_of_lt q) ((List.perm_ext_iff_of_nodup (nd h) (nd h')).2 m)
def gt (l:List aC) (p:List UInt8):Option aC:=l.find? (fun f=>decide (f.path=p))
structure At (x:List aC) (p:List UInt8) (i:Int):Prop where
  i0:0≤i
  i1:i≤x.length
  lo : ∀ f∈x.take i.toNat,f.path < p
  hi : ∀ f∈x.drop i.toNat,¬ f.path < p
theorem R.aYn {x:List aC} (h:R x) {i:Nat} {z:aC} (hz:x[i]? = some z) : ∀ f∈x.take i,f.path < z.path:=fun f hf=>by
  obtain ⟨j,hj⟩:=List.getElem?_of_mem hf
  rw [List.getElem?_take] at hj
  split at hj
  . next q =>
    obtain ⟨a1,a2⟩:=List.getElem?_eq_some_iff.1 hj
    obtain ⟨b1,b2⟩:=List.getElem?_eq_some_iff.1 hz
    have:=List.pairwise_iff_getElem.1 h j i a1 b1 q
    rwa [a2,b2] at this
  . cases hj
theorem R.aUN {x:List aC} (h:R x) {i:Nat} {z:aC} (hz:x[i]? = some z) : ∀ f∈x.drop (i+1),z.path < f.path:=fun f hf=>by
  obtain ⟨j,hj⟩:=List.getElem?_of_mem hf
  rw [List.getElem?_drop] at hj
  obtain ⟨a1,a2⟩:=List.getElem?_eq_some_iff.1 hj
  obtain ⟨b1,b2⟩:=List.getElem?_eq_some_iff.1 hz
  have:=List.pairwise_iff_getElem.1 h i (i+1+j) b1 a1 (by omega)
  rwa [a2,b2] at this
theorem aDx {α:Type} {x:List α} {i:Nat} {z:α} (hz:x[i]? = some z):x.drop i=z::x.drop (i+1):=by
 obtain ⟨b1,b2⟩:=List.getElem?_eq_some_iff.1 hz
 rw [List.drop_eq_getElem_cons b1,b2]
theorem At.none {x:List aC} {p:List UInt8} {i:Int} (h:R x) (a:At x p i) (hn : ¬ ∃ z,x[i.toNat]? = some z∧z.path=p) : ∀ z∈x,z.path≠p:=fun z hz e=>by
  rw [← List.take_append_drop i.toNat x] at hz
  rcases List.mem_append.1 hz with q | q
  . exact List.lt_irrefl p (e▸a.lo z q)
  . obtain ⟨y,hy⟩ : ∃ y,x[i.toNat]? = some y:=by
      cases hq:x[i.toNat]? with
      | some y=>exact ⟨y,rfl⟩
      | none =>
        have:=List.getElem?_eq_none_iff.1 hq
        rw [List.drop_of_length_le this] at q; cases q
    have hyp:y.path≠p:=fun e'=>hn ⟨y,hy,e'⟩
    rw [aDx hy] at q
    rcases List.mem_cons.1 q with q | q
    . rw [q] at e; exact hyp e
    . have h1:=h.aUN hy z q
      rw [e] at h1
      have h2:=a.hi y (by rw [aDx hy]; exact List.mem_cons_self ..)
      exact h2 h1
end Go.S
end

section
namespace Go.S
open Go
def vF (f:aC):Prop:=A9 f.path=0∧(f.mode=1∨f.mode=2)∧f.data.length≤4096
structure N1 (x:List aC):Prop where
  v : ∀ f∈x,vF f
  r:R x
  c:x.Pairwise (fun a b=>EU a.path b.path=false)
theorem N1.sub {l l':List aC} (h:N1 l) (s:l'.Sublist l):N1 l':=⟨fun f hf=>h.v f (s.subset hf),h.r.sub s,List.Pairwise.sublist s h.c⟩
theorem a4z (l:List aC) (f:aC) (hb:l.length≤1000000000) (hl : ∀ z∈l,z.path.length≤1000000000) (hf:f.path.length≤1000000000):Ok (Sh.gZ l f) (fun b=>b=l.any fun y=>EU y.path f.path):=by
 unfold Sh.gZ Sh.j6
 rw [gD]
 refine (a1u (fun y=>EU y.path f.path) l hb (fun y=>Sh.tH y f) (fun y hy => ?_) _ fun i=>rfl).mono fun r hr => ?_
 ·
  unfold Sh.tH
  rw [aHy (hl y hy) hf]; rfl
 rw [cY,aWA hr]
theorem aYz {x:List aC} (hb:x.length≤1000000) {i:Int} (hl : ∀ z∈x.take i.toNat,z.path.length≤1000000000) (i0:0≤i) (hi:i < x.length) {z:aC} (hz:x[i.toNat]? = some z) :
 Ok (Sh.wP x i) fun e=>e=0↔vF z∧(∀ y,0 < i→x[(i - 1).toNat]? = some y→y.path < z.path) ∧ ∀ y∈x.take i.toNat,EU y.path z.path=false:=by
 unfold Sh.wP
 have hzm:=List.mem_of_getElem? hz
 rw [gD,nH]
 refine ⟨i0,z,hz,?_⟩
 rw [aGS,Option.bind_some]
 by_cases hc:A9 z.path=0
 ·
  rw [if_pos hc]
  refine r8 (fun b=>b=false↔(z.mode=1∨z.mode=2)) ?_ ?_
  ·
   intro b hbm
   simp only [fT,cY]
   refine ⟨fun h=>⟨fun q=>absurd q (by omega),fun ⟨⟨_,m,_⟩,_⟩=>by rw [hbm.2 m] at h; cases h⟩,fun h=>⟨fun hd=>⟨fun q=>absurd q (by omega),fun ⟨⟨_,_,q⟩,_⟩=>absurd q (by omega)⟩,fun hd => ?_⟩⟩
   have hm:=hbm.1 (by simpa using h)
   have hd':z.data.length≤4096:=by omega
   refine r8 (fun b=>b=false↔(∀ y,0 < i→x[(i - 1).toNat]? = some y→y.path < z.path)) ?_ ?_
   ·
    intro b hbm
    simp only [fT,cY]
    refine ⟨fun h=>⟨fun q=>absurd q (by omega),fun ⟨_,q,_⟩=>by rw [hbm.2 q] at h; cases h⟩,fun h => ?_⟩
    have hr:=hbm.1 (by simpa using h)
    simp only [eL,gX]
    refine ⟨⟨i0,by omega⟩,gD.2 ((a4z (x.take i.toNat) z (by rw [List.length_take]; omega) (fun y hy=>hl y hy) (by have:=MS hc; omega)).mono fun c hcc => ?_)⟩
    simp only [fT,cY]
    refine ⟨fun h=>⟨fun q=>absurd q (by omega),fun ⟨_,_,q⟩ => ?_⟩,fun h=>⟨fun _=>⟨⟨hc,hm,hd'⟩,hr,fun y hy => ?_⟩,fun _=>(by first | rfl | trivial)⟩⟩
    ·
     rw [hcc] at h
     obtain ⟨y,hy,hy2⟩:=List.any_eq_true.1 h
     rw [q y hy] at hy2; cases hy2
    cases hq:EU y.path z.path with
    | false=>rfl
    | true=>exact absurd (hcc.trans (List.any_eq_true.2 ⟨y,hy,hq⟩)) h
   intro K hK
   simp only [fT,eL]
   refine ⟨fun h=>⟨⟨by omega,by omega⟩,?_⟩,fun h=>hK _ ⟨fun _ y q=>absurd q h,fun _=>rfl⟩⟩
   obtain ⟨y,hy⟩:=rU (l:=x) (i:=i - 1) (by omega) (by omega)
   rw [gD,nH]
   refine ⟨by omega,y,hy,?_⟩
   rw [aQ0,Option.bind_some]
   refine hK _ ?_
   rw [decide_eq_false_iff_not]
   constructor
   ·
    intro q y' _ hy'
    rw [hy] at hy'; cases hy'
    by_cases q2:y.path < z.path
    ·
     exact q2
    rw [if_neg q2] at q; split at q <;> omega
   intro q
   rw [if_pos (q y h hy)]; omega
  intro K hK
  simp only [fT]
  refine ⟨fun h=>hK _ ⟨fun _ => .inl h,fun _=>rfl⟩,fun h=>hK _ ⟨fun q => .inr (by simpa using q),fun q => ?_⟩⟩
  rcases q with q | q
  ·
   exact absurd q h
  simp [q]
 rw [if_neg hc,cY]
 exact ⟨fun h=>absurd h hc,fun ⟨⟨h,_⟩,_⟩=>absurd h hc⟩
theorem aL4 {x:List aC} {i:Int} (i0:0≤i) {z:aC} (hz:x[i.toNat]? = some z) (hg:N1 (x.take i.toNat)) (hv:vF z) (hr : ∀ y,0 < i→x[(i - 1).toNat]? = some y→y.path < z.path) (hc : ∀ y∈x.take i.toNat,EU y.path z.path=false):N1 (x.take (i+1).toNat):=by
 rw [vS i0 hz]
 have hlt : ∀ a∈x.take i.toNat,a.path < z.path:=fun a ha=>by
   have hpos:0 < i:=by
     rcases Int.lt_or_le 0 i with q | q
     . exact q
     . rw [show i.toNat=0 by omega] at ha; simp at ha
   have hil:=aBT hz
   obtain ⟨y,hy⟩:=rU (l:=x) (i:=i - 1) (by omega) (by omega)
   have hyz:=hr y hpos hy
   have he:x.take i.toNat=x.take (i - 1).toNat++[y]:=by
     have:=vS (l:=x) (i:=i - 1) (by omega) hy
     rwa [show i - 1+1=i by omega] at this
   rw [he] at ha
   rcases List.mem_append.1 ha with q | q
   . have hR:=hg.r
     rw [he] at hR
     have:=(List.pairwise_append.1 hR).2.2 a q y (List.mem_singleton_self _)
     exact List.lt_trans this hyz
   . rw [List.mem_singleton.1 q]; exact hyz
 refine ⟨fun f hf => ?_,List.pairwise_append.2 ⟨hg.r,List.pairwise_singleton _ _,fun a ha b hb => ?_⟩,List.pairwise_append.2 ⟨hg.c,List.pairwise_singleton _ _,fun a ha b hb => ?_⟩⟩
 ·
  rcases List.mem_append.1 hf with q | q
  ·
   exact hg.v f q
  rw [List.mem_singleton.1 q]; exact hv
 ·
  rw [List.mem_singleton.1 hb]; exact hlt a ha
 rw [List.mem_singleton.1 hb]; exact hc a ha
theorem aUI {x:List aC} (hb:x.length≤1000000):Ok (Sh.oU x) fun e=>e.isNil=true↔x.length≤64∧N1 x:=by
 unfold Sh.oU
 simp only [fT,cY]
 refine ⟨fun h=>⟨fun q=>(by cases q),fun q=>absurd q.1 (by omega)⟩,fun h64 => ?_⟩
 refine iH (I:=fun i=>0≤i∧i≤x.length∧N1 (x.take i.toNat)) (μ:=fun i=>(x.length - i).toNat) ?_ ⟨by omega,by omega,⟨fun f h=>(by simp at h),by simp [R],by simp⟩⟩
 rintro i ⟨i0,i1,hg⟩
 simp only [fT,lH,cY]
 refine ⟨fun hi => ?_,fun hi => ?_⟩
 ·
  obtain ⟨z,hz⟩:=rU (l:=x) i0 hi
  refine gD.2 ((aYz hb (fun y hy=>by have:=MS (hg.v y hy).1; omega) i0 hi hz).mono fun e he => ?_)
  simp only [fT,eL,nI,lH,cY]
  refine ⟨fun h=>⟨⟨by omega,by omega⟩,⟨by omega,by omega,?_⟩,by omega⟩,fun h=>⟨fun q=>(by cases q),fun ⟨_,q⟩=>absurd (he.2 ?_) h⟩⟩
  ·
   obtain ⟨a,b,c⟩:=he.1 h
   exact aL4 i0 hz hg a b c
  refine ⟨q.v z (List.mem_of_getElem? hz),fun y hpos hy => ?_,fun y hy => ?_⟩
  ·
   exact q.r.aYn hz y (List.mem_of_getElem? (i:=(i - 1).toNat) (by rw [List.getElem?_take,if_pos (by omega)]; exact hy))
  obtain ⟨j,hj⟩:=List.getElem?_of_mem hy
  rw [List.getElem?_take] at hj
  split at hj
  ·
   next hlt =>
   have h1:=(List.getElem?_eq_some_iff.1 hj)
   have h2:=(List.getElem?_eq_some_iff.1 hz)
   have:=List.pairwise_iff_getElem.1 q.c j i.toNat h1.1 h2.1 hlt
   rwa [h1.2,h2.2] at this
  cases hj
 rw [List.take_of_length_le (by omega)] at hg
 exact ⟨fun _=>⟨by omega,hg⟩,fun _=>rfl⟩
end Go.S
end

section
namespace Go.S
open Go
theorem aNL (k:IntKind) (h:k.signed=false) (x:Int):0≤k.wrap x:=by
 unfold IntKind.wrap
 simp only [h,Bool.false_and,Bool.false_eq_true,if_false]
 exact Int.emod_nonneg _ (by cases k <;> decide)
theorem a4k {n:Nat} (a:Ar n) {i:Int} (h0:0≤i) (h:i < n) : ∃ z,a.l[i.toNat]? = some z:=RQ h0 (by rw [a.h]; exact h)
theorem kT {n:Nat} (a:Ar n) {i:Int} (h0:0≤i) (h:i < n) {β:Type} {f:Int→Option β} {Q:β→Prop} (k : ∀ z,Ok (f z) Q):Ok ((at_ a.l i).bind f) Q:=by
 obtain ⟨z,hz⟩:=a4k a h0 h
 exact gD.2 (nH.2 ⟨h0,z,hz,k z⟩)
theorem aIt {l:List UInt8} {i:Int} (h0:0≤i) (h:i < l.length) {β:Type} {f:UInt8→Option β} {Q:β→Prop} (k : ∀ z,Ok (f z) Q):Ok ((at_ l i).bind f) Q:=by
 obtain ⟨z,hz⟩:=RQ h0 h
 exact gD.2 (nH.2 ⟨h0,z,hz,k z⟩)
theorem CY (w n:Int) {β:Type} {f:Int→Option β} {Q:β→Prop} (k : ∀ z,Ok (f z) Q):Ok ((Sh.pW w n).bind f) Q:=by
 unfold Sh.pW Sh.rZ gE
 simp only [gD,eL,cY]
 exact ⟨aNL _ rfl _,aNL _ rfl _,k _⟩
theorem aYk {b:List UInt8} (hb:64≤b.length):Ok (Sh.MA b) fun _=>True:=by
 unfold Sh.MA
 refine iH (I:=fun t=>0≤t.1∧t.1≤16) (μ:=fun t=>(16 - t.1).toNat) ?_ ⟨by dsimp only; omega,by dsimp only; omega⟩
 rintro ⟨i,c⟩ ⟨i0,i1⟩
 dsimp only at i0 i1 ⊢
 rw [fT]
 refine ⟨fun hi => ?_,fun hi=>lH.2 ?_⟩
 ·
  refine eL.2 ⟨⟨by omega,by omega⟩,aIt (by omega) (by omega) fun z1=>eL.2 ⟨⟨by omega,by omega⟩,eL.2 ⟨⟨by omega,by omega⟩,aIt (by omega) (by omega) fun z2=>eL.2 ⟨⟨by omega,by omega⟩,eL.2 ⟨⟨by omega,by omega⟩,aIt (by omega) (by omega) fun z3=>eL.2 ⟨⟨by omega,by omega⟩,eL.2 ⟨⟨by omega,by omega⟩,aIt (by omega) (by omega) fun z4=>kT c (by omega) (by omega) fun z5=>gX.2 (eL.2 ⟨⟨by omega,by omega⟩,nI.2 ⟨⟨by dsimp only; omega,by dsimp only; omega⟩,by dsimp only; omega⟩⟩)⟩⟩⟩⟩⟩⟩⟩
 refine iH (I:=fun t=>16≤t.1∧t.1≤64) (μ:=fun t=>(64 - t.1).toNat) ?_ ⟨by dsimp only; omega,by dsimp only; omega⟩
 rintro ⟨j,c2⟩ ⟨j0,j1⟩
 dsimp only at j0 j1 ⊢
 rw [fT]
 refine ⟨fun hj => ?_,fun hj=>lH.2 (cY.2 trivial)⟩
 exact eL.2 ⟨⟨by omega,by omega⟩,kT c2 (by omega) (by omega) fun z1=>eL.2 ⟨⟨by omega,by omega⟩,kT c2 (by omega) (by omega) fun z2=>eL.2 ⟨⟨by omega,by omega⟩,kT c2 (by omega) (by omega) fun z3=>CY _ _ fun y1=>CY _ _ fun y2=>eL.2 ⟨⟨by omega,by omega⟩,kT c2 (by omega) (by omega) fun z4=>CY _ _ fun y3=>CY _ _ fun y4=>kT c2 (by omega) (by omega) fun z5=>gX.2 (eL.2 ⟨⟨by omega,by omega⟩,nI.2 ⟨⟨by dsimp only; omega,by dsimp only; omega⟩,by dsimp only; omega⟩⟩)⟩⟩⟩⟩
theorem aYj {b:List UInt8} (hb:64≤b.length) (h:Ar 8) (k:Ar 64):Ok (Sh.QF h b k) fun _=>True:=by
 unfold Sh.QF
 refine gD.2 ((aYk hb).mono fun w _ => ?_)
 refine iH (I:=fun t=>0≤t.1∧t.1≤64) (μ:=fun t=>(64 - t.1).toNat) ?_ ⟨by dsimp only; omega,by dsimp only; omega⟩
 rintro ⟨i,c⟩ ⟨i0,i1⟩
 dsimp only at i0 i1 ⊢
 rw [fT]
 refine ⟨fun hi => ?_,fun hi=>lH.2 ?_⟩
 ·
  exact kT c (by omega) (by omega) fun _=>kT c (by omega) (by omega) fun _=>kT c (by omega) (by omega) fun _=>CY _ _ fun _=>CY _ _ fun _=>CY _ _ fun _=>kT c (by omega) (by omega) fun _=>kT c (by omega) (by omega) fun _=>kT k (by omega) (by omega) fun _=>kT w (by omega) (by omega) fun _ =>
    CY _ _ fun _=>CY _ _ fun _=>CY _ _ fun _=>kT c (by omega) (by omega) fun _=>kT c (by omega) (by omega) fun _=>kT c (by omega) (by omega) fun _=>kT c (by omega) (by omega) fun _=>kT c (by omega) (by omega) fun _=>kT c (by omega) (by omega) fun _=>kT c (by omega) (by omega) fun _=>kT c (by omega) (by omega) fun _=>kT c (by omega) (by omega) fun _=>kT c (by omega) (by omega) fun _=>kT c (by omega) (by omega) fun _=>gX.2 (eL.2 ⟨⟨by omega,by omega⟩,nI.2 ⟨⟨by dsimp only; omega,by dsimp only; omega⟩,by dsimp only; omega⟩⟩)
 refine iH (I:=fun t=>0≤t.1∧t.1≤8) (μ:=fun t=>(8 - t.1).toNat) ?_ ⟨by dsimp only; omega,by dsimp only; omega⟩
 rintro ⟨j,c2⟩ ⟨j0,j1⟩
 dsimp only at j0 j1 ⊢
 rw [fT]
 refine ⟨fun hj => ?_,fun hj=>lH.2 (cY.2 trivial)⟩
 exact kT c2 (by omega) (by omega) fun _=>kT c (by omega) (by omega) fun _=>kT c2 (by omega) (by omega) fun _=>gX.2 (eL.2 ⟨⟨by omega,by omega⟩,nI.2 ⟨⟨by dsimp only; omega,by dsimp only; omega⟩,by dsimp only; omega⟩⟩)
theorem a3M {b:List UInt8} (hb:b.length≤5000):Ok (Sh.QE b) fun _=>True:=by
 unfold Sh.QE
 rw [show Sh.gB b=some b from ?_,Option.bind_some]
 ·
  simp only [gX]
  refine eL.2 ⟨by simp only [List.length_cons,List.length_nil]; omega,?_⟩
  refine iH (I:=fun x=>b.length+1≤x.length∧x.length≤(b.length+8) / 64*64+56) (μ:=fun x=>(b.length+8) / 64*64+56 - x.length) ?_ ⟨by simp,by simp only [List.length_append,List.length_cons,List.length_nil]; omega⟩
  rintro x ⟨x0,x1⟩
  refine eL.2 ⟨⟨by omega,by decide⟩,?_⟩
  rw [fT]
  refine ⟨fun hx=>lH.2 ?_,fun hx=>gX.2 (eL.2 ⟨by simp only [List.length_cons,List.length_nil]; omega,gX.2 (nI.2 ⟨⟨by simp only [List.length_append,List.length_cons,List.length_nil]; omega,by simp only [List.length_append,List.length_cons,List.length_nil]; omega⟩,by simp only [List.length_append,List.length_cons,List.length_nil]; omega⟩)⟩)⟩
  refine iH (I:=fun t=>0≤t.2∧t.2≤8∧(t.1.length:Int)=x.length+t.2) (μ:=fun t=>(8 - t.2).toNat) ?_ ⟨by dsimp only; omega,by dsimp only; omega,by simp⟩
  rintro ⟨y,i⟩ ⟨i0,i1,hy⟩
  dsimp only at i0 i1 hy ⊢
  rw [fT]
  refine ⟨fun hi => ?_,fun hi=>lH.2 ?_⟩
  ·
   refine eL.2 ⟨⟨by omega,by omega⟩,eL.2 ⟨⟨by omega,by omega⟩,eL.2 ⟨by omega,eL.2 ⟨aNI _,gX.2 (gX.2 (eL.2 ⟨by simp only [List.length_cons,List.length_nil]; omega,gX.2 (eL.2 ⟨⟨by omega,by omega⟩,nI.2 ⟨⟨by dsimp only; omega,by dsimp only; omega,by simp only [List.length_append,List.length_cons,List.length_nil]; omega⟩,by dsimp only; omega⟩⟩)⟩))⟩⟩⟩⟩
  show Ok ((Sh.L9).bind _) _
  unfold Sh.L9 Sh.SP
  simp only [gD,gX,cY]
  refine iH (I:=fun t=>t.1.length % 64=0∧t.1.length≤10000) (μ:=fun t=>t.1.length) ?_ ⟨by dsimp only; omega,by dsimp only; omega⟩
  rintro ⟨z,h⟩ ⟨z0,z1⟩
  dsimp only at z0 z1 ⊢
  rw [fT]
  refine ⟨fun hz=>gD.2 ((aYj (by omega) _ _).mono fun r _ => ?_),fun hz=>lH.2 ?_⟩
  ·
   refine eL.2 ⟨⟨by omega,by omega⟩,gX.2 (nI.2 ⟨⟨?_,?_⟩,?_⟩)⟩
   ·
    dsimp only
    rw [List.length_drop]; omega
   ·
    dsimp only
    rw [List.length_drop]; omega
   dsimp only
   rw [List.length_drop]; omega
  refine iH (I:=fun t=>0≤t.1∧t.1≤8) (μ:=fun t=>(8 - t.1).toNat) ?_ ⟨by dsimp only; omega,by dsimp only; omega⟩
  rintro ⟨j,c2⟩ ⟨j0,j1⟩
  dsimp only at j0 j1 ⊢
  rw [fT]
  refine ⟨fun hj => ?_,fun hj=>lH.2 (cY.2 trivial)⟩
  refine kT h (by omega) (by omega) fun _=>eL.2 ⟨⟨by omega,by omega⟩,eL.2 ⟨⟨by omega,by omega⟩,eL.2 ⟨⟨by omega,by omega⟩,eL.2 ⟨⟨by omega,by omega⟩,eL.2 ⟨⟨by omega,by omega⟩,eL.2 ⟨⟨by omega,by omega⟩,eL.2 ⟨⟨by omega,by omega⟩,?_⟩⟩⟩⟩⟩⟩⟩
  exact kT _ (by omega) (by omega) fun _=>gX.2 (kT _ (by omega) (by omega) fun _=>gX.2 (kT _ (by omega) (by omega) fun _=>gX.2 (kT _ (by omega) (by omega) fun _=>gX.2 (eL.2 ⟨⟨by omega,by omega⟩,nI.2 ⟨⟨by dsimp only; omega,by dsimp only; omega⟩,by dsimp only; omega⟩⟩))))
 apply Ok.eq
 unfold Sh.gB
 exact gX.2 (eL.2 ⟨by simp; omega,gX.2 (cY.2 rfl)⟩)
end Go.S
end

section
namespace Go.S
theorem aX6:Sh.C7=some true:=by decide +kernel
end Go.S
end

section
namespace Go.S
open Go
theorem aSO (a b:List UInt8):Op.bytesLess a b=decide (a < b):=by
 have h1:=aQ0 a b
 obtain ⟨n,h2,h3⟩:=aDw a b
 rw [h1] at h2
 cases h2
 by_cases q:a < b
 ·
  rw [if_pos q] at h3
  have:Op.bytesLess a b=true:=by
    cases h:Op.bytesLess a b with
    | true=>rfl
    | false=>exact absurd (h3.2 h) (by omega)
  rw [this,decide_eq_true q]
 rw [if_neg q] at h3
 have:Op.bytesLess a b=false:=h3.1 (by split <;> omega)
 rw [this,decide_eq_false q]
theorem a3L (l r:List aC) (hb:l.length≤1000000000):Sh.uV l r=some (decide (l=r)):=by
 unfold Sh.uV
 have:Sh.jL l r=some (decide (l=r)):=by
   unfold Sh.jL
   split
   . next h=>exact aZp (fun z w=>z.path=w.path∧z.mode=w.mode∧z.data=w.data) (fun z w=>by cases z; cases w; simp) l r h (by omega) _ fun i=>rfl
   . next h=>exact congrArg some (decide_eq_false fun e=>h (by rw [e])).symm
 rw [this]; rfl
def It (l:List aY) (r:List aC) (it:List b5):Prop :=
  it.length=r.length ∧ ∀ (i:Nat) (f:aC),r[i]? = some f → ∃ b:Int,it[i]? = some ⟨f.path,f.mode,b⟩∧1≤b∧b≤100∧l[(b - 1).toNat]? = some (yX f.data)
theorem It.grow {l l':List aY} {o:aY} {r:List aC} {it:List b5} (h:It l r it) (q:l'=l∨l'=l++[o]):It l' r it :=
  ⟨h.1,fun i f hf=>by obtain ⟨b,h1,h2,h3,h4⟩:=h.2 i f hf; exact ⟨b,h1,h2,h3,aTw h4 q⟩⟩
theorem It.snoc {l:List aY} {r:List aC} {it:List b5} {i:Int} {f:aC} {b:Int} (i0:0≤i) (hf:r[i.toNat]? = some f) (h:It l (r.take i.toNat) it) (h2:1≤b) (h3:b≤100) (h4:l[(b - 1).toNat]? = some (yX f.data)) :
 It l (r.take (i+1).toNat) (it++[⟨f.path,f.mode,b⟩]):=by
 have hi:=(List.getElem?_eq_some_iff.1 hf).1
 have hn:=h.1
 rw [List.length_take] at hn
 rw [LC i0 hf]
 refine ⟨by simp only [List.length_append,List.length_cons,List.length_nil,List.length_take]; omega,fun j g hg => ?_⟩
 by_cases hj:j < (r.take i.toNat).length
 ·
  rw [List.getElem?_append_left hj] at hg
  obtain ⟨c,q1,q2⟩:=h.2 j g hg
  refine ⟨c,?_,q2⟩
  rw [List.getElem?_append_left (by rw [List.length_take] at hj; omega)]; exact q1
 rw [List.getElem?_append_right (by omega)] at hg
 rw [List.length_take] at hg hj
 have hz:j - min i.toNat r.length=0:=by
   cases hq:j - min i.toNat r.length with
   | zero=>rfl
   | succ k=>rw [hq] at hg; simp at hg
 rw [hz] at hg
 cases hg
 refine ⟨b,?_,h2,h3,h4⟩
 rw [List.getElem?_append_right (by omega),show j - it.length=0 by omega]; rfl
def F8 (it:List b5):aY:=⟨2,[],it,0,[],0,[]⟩
theorem aOt {l:List b5} : ∀ (k i:Nat),(∀ j,i≤j→j < i+k→G5 l j=0)→cT l k i=none
  | 0,_,_=>rfl
  | k+1,i,h=>by
    unfold cT
    rw [if_neg (by rw [h i (by omega) (by omega)]; simp)]
    exact aOt k (i+1) fun j h1 h2=>h j (by omega) (by omega)
theorem It.get {l:List aY} {r:List aC} {it:List b5} (h:It l r it) {i:Nat} {x:b5} (hx:it[i]? = some x) : ∃ f,r[i]? = some f∧x.path=f.path∧x.mode=f.mode∧1≤x.oJ∧x.oJ≤100∧l[(x.oJ - 1).toNat]? = some (yX f.data):=by
 have hi:=(List.getElem?_eq_some_iff.1 hx).1
 obtain ⟨f,hf⟩ : ∃ f,r[i]? = some f:=⟨_,List.getElem?_eq_getElem (by rw [← h.1]; exact hi)⟩
 obtain ⟨b,h1,h2,h3,h4⟩:=h.2 i f hf
 rw [hx] at h1
 cases h1
 exact ⟨f,hf,rfl,rfl,h2,h3,h4⟩
theorem aNH {l:List aY} {r:List aC} {it:List b5} (g:N1 r) (h:It l r it) (i:Nat):G5 it i=0:=by
 unfold G5
 cases hx:it[i]? with
 | none=>rfl
 | some x =>
   obtain ⟨f,hf,hp,hm,hb,_⟩:=h.get hx
   have hv:=g.v f (List.mem_of_getElem? hf)
   dsimp only
   rw [if_neg (by rw [hp,hv.1]; simp),if_neg (by rw [hm]; intro q; rcases q with q | q; exact q hv.2.1; omega),if_neg,if_neg]
   . rw [Bool.not_eq_true,List.any_eq_false]
     intro y hy
     obtain ⟨j,hj⟩:=List.mem_iff_getElem?.1 hy
     rw [List.getElem?_take] at hj
     split at hj
     . next hlt =>
       obtain ⟨f2,hf2,hp2,_⟩:=h.get hj
       have h1:=List.getElem?_eq_some_iff.1 hf2
       have h2:=List.getElem?_eq_some_iff.1 hf
       have:=List.pairwise_iff_getElem.1 g.c j i h1.1 h2.1 hlt
       rw [h1.2,h2.2] at this
       rw [hp,hp2,this]; simp
     . cases hj
   . rintro ⟨hpos,y,hy,hq⟩
     obtain ⟨f2,hf2,hp2,_⟩:=h.get hy
     have h1:=List.getElem?_eq_some_iff.1 hf2
     have h2:=List.getElem?_eq_some_iff.1 hf
     have:=List.pairwise_iff_getElem.1 g.r (i - 1) i h1.1 h2.1 (by omega)
     rw [h1.2,h2.2] at this
     rw [hp,hp2,aSO,decide_eq_true this] at hq
     cases hq
theorem aYq {l:List aY} {r:List aC} {it:List b5} (g:N1 r) (hr:r.length≤20) (h:It l r it):UE (F8 it):=by
 have hn:=h.1
 have hmem : ∀ x∈it,x.path.length≤64∧dP x.mode∧dP x.oJ:=fun x hx=>by
   obtain ⟨i,hi⟩:=List.mem_iff_getElem?.1 hx
   obtain ⟨f,hf,hp,hm,hb,hb2,_⟩:=h.get hi
   have hv:=g.v f (List.mem_of_getElem? hf)
   refine ⟨by rw [hp]; exact MS hv.1,?_,⟨by omega,by omega⟩⟩
   rw [hm]
   rcases hv.2.1 with q | q <;> rw [q] <;> exact ⟨by decide,by decide⟩
 refine gd8 ?_ ⟨by show it.length≤1000000; omega,fun x hx=>by have:=(hmem x hx).1; omega⟩ (by simp [F8])
   ⟨by simp [F8,dP],by simp [F8,dP],by simp [F8,dP],fun n hn=>(by cases hn),fun x hx=>(hmem x hx).2⟩
   ⟨by simp [F8],by show (it.length:Int)≤80; omega,by simp [F8],by simp [F8]⟩
   ⟨fun h=>absurd h (by simp [F8]),fun _=>⟨rfl,rfl,rfl,rfl,rfl⟩,fun h=>absurd h (by simp [F8])⟩
 unfold FF F8
 dsimp only
 rw [if_neg (by decide),if_pos rfl,if_neg (by omega),aOt (l:=it) it.length 0 (fun j _ _=>aNH g h j)]
 rfl
theorem aYs {l:List aY} {r:List aC} {it:List b5} (h:It l r it):Rg8 l (F8 it):=by
 intro p hp
 unfold refsOf F8 at hp
 rw [if_pos rfl] at hp
 obtain ⟨x,hx,rfl⟩:=List.mem_map.1 hp
 obtain ⟨i,hi⟩:=List.mem_iff_getElem?.1 hx
 obtain ⟨f,hf,_,_,hb,_,hl⟩:=h.get hi
 exact a1v hb hl
theorem aOO (r:List aC):Sh.v7 r=some true:=by
 apply Ok.eq
 unfold Sh.v7
 rw [aX6,Option.bind_some,if_neg (by simp)]
 refine r8 (fun x=>x=false→r.length≤20∧N1 r) ?_ ?_
 ·
  intro x hx
  rw [fT]
  refine ⟨fun _=>cY.2 rfl,fun hxf => ?_⟩
  obtain ⟨hr,hg⟩:=hx (by simpa using hxf)
  rw [show Sh.HB=some ⟨[],[]⟩ from rfl,Option.bind_some]
  dsimp only
  refine iH (I:=fun t=>0≤t.1∧t.1≤r.length∧zZ t.2.2.1 t.2.2.2∧(t.2.2.1.length:Int)≤t.1∧It t.2.2.1 (r.take t.1.toNat) t.2.1) (μ:=fun t=>(r.length - t.1).toNat) ?_
    ⟨by dsimp only; omega,by dsimp only; omega,zZ.nil,by simp,by simp,fun i f hf=>by simp at hf⟩
  rintro ⟨i,it,l,m⟩ ⟨i0,i1,hc,hl,hI⟩
  dsimp only at i0 i1 hc hl hI ⊢
  rw [fT]
  refine ⟨fun hi => ?_,fun hi=>lH.2 ?_⟩
  ·
   obtain ⟨f,hf⟩:=RQ i0 hi
   have hv:=hg.v f (List.mem_of_getElem? hf)
   refine gD.2 (nH.2 ⟨i0,f,hf,?_⟩)
   rw [fT]
   refine ⟨fun _=>lH.2 (cY.2 rfl),fun hd=>gD.2 (nH.2 ⟨i0,f,hf,eL.2 ⟨by omega,gX.2 ?_⟩⟩)⟩
   obtain ⟨id,l',m',e,c',id1,id2,hid,hgr⟩:=a4e hc (aLE (d:=f.data) (by omega)) (aUE l f.data) (by omega)
   have hl':(l'.length:Int)≤i+1:=by rcases hgr with rfl | rfl <;> (try simp only [List.length_append,List.length_cons,List.length_nil]) <;> omega
   rw [show Sh.mC (⟨l,m⟩:kK) (⟨1,f.data,[],0,[],0,[]⟩:aY)=some (id,eY.nil,⟨l',m'⟩) from e,Option.bind_some]
   dsimp only
   rw [if_pos (by rfl)]
   refine gD.2 (nH.2 ⟨i0,f,hf,gD.2 (nH.2 ⟨i0,f,hf,gX.2 (eL.2 ⟨?_,gX.2 (eL.2 ⟨⟨by omega,by omega⟩,nI.2 ⟨⟨by dsimp only; omega,by dsimp only; omega,c',hl',(hI.grow hgr).snoc i0 hf id1 (by omega) hid⟩,by dsimp only; omega⟩⟩)⟩)⟩)⟩)
   have:=hI.1
   rw [List.length_take] at this
   simp only [List.length_cons,List.length_nil]
   omega
  rw [show i.toNat=r.length by omega,List.take_of_length_le (by omega)] at hI
  have gt:=aYq hg hr hI
  obtain ⟨id,l',m',e,c',id1,id2,hid,hgr⟩:=a4e hc gt (aYs hI) (by omega)
  have hl':(l'.length:Int)≤21:=by rcases hgr with rfl | rfl <;> (try simp only [List.length_append,List.length_cons,List.length_nil]) <;> omega
  rw [show Sh.mC (⟨l,m⟩:kK) (⟨2,[],it,0,[],0,[]⟩:aY)=some (id,eY.nil,⟨l',m'⟩) from e,Option.bind_some]
  dsimp only
  rw [aSP (aAB c'),Option.bind_some]
  refine gD.2 ((aX7 (aAB c')).mono ?_)
  rintro _ ⟨m2,rfl⟩
  dsimp only
  have hI':=hI.grow hgr
  refine r8 (fun x=>x=false) ?_ ?_
  ·
   rintro x rfl
   rw [if_neg (by simp),a4a gt id1 ⟨by omega,by omega⟩ hid,Option.bind_some]
   dsimp only [F8]
   refine iH (I:=fun t=>0≤t.2∧t.2≤r.length∧t.1=r.take t.2.toNat) (μ:=fun t=>(r.length - t.2).toNat) ?_ ⟨by dsimp only; omega,by dsimp only; omega,by simp⟩
   rintro ⟨bk,j⟩ ⟨j0,j1,hbk⟩
   dsimp only at j0 j1 hbk ⊢
   have hn:=hI'.1
   refine fT.2 ⟨fun hj => ?_,fun hj=>lH.2 ?_⟩
   ·
    obtain ⟨f,hf⟩:=RQ (l:=r) j0 (by omega)
    have hv:=hg.v f (List.mem_of_getElem? hf)
    obtain ⟨b,hx,b1,b2,hb⟩:=hI'.2 _ f hf
    refine gD.2 (nH.2 ⟨j0,_,hx,?_⟩)
    dsimp only
    rw [a4a (aLE (d:=f.data) hv.2.2) b1 ⟨by omega,by omega⟩ hb,Option.bind_some]
    dsimp only [yX]
    refine r8 (fun x=>x=false) ?_ ?_
    ·
     rintro x rfl
     rw [if_neg (by simp)]
     refine gD.2 (nH.2 ⟨j0,_,hx,gD.2 (nH.2 ⟨j0,_,hx,gX.2 (eL.2 ⟨?_,gX.2 (eL.2 ⟨⟨by omega,by omega⟩,nI.2 ⟨⟨by dsimp only; omega,by dsimp only; omega,?_⟩,by dsimp only; omega⟩⟩)⟩)⟩)⟩)
     ·
      rw [hbk,List.length_take]
      simp only [List.length_cons,List.length_nil]
      omega
     dsimp only
     rw [LC j0 hf,hbk]
    intro K hK
    rw [if_neg (by simp),if_pos (by omega)]
    obtain ⟨s,hs,_⟩:=a3M (b:=f.data) (by have:=hv.2.2; omega)
    have hv2:=hv.2.2
    rw [hs,Option.bind_some]
    refine gD.2 (nH.2 ⟨j0,f,hf,eL.2 ⟨by omega,gX.2 ?_⟩⟩)
    rw [hs,Option.bind_some]
    exact hK _ (by simp)
   rw [if_pos (by rfl),hbk,show j.toNat=r.length by omega,List.take_of_length_le (by omega),a3L _ _ (by omega),Option.bind_some]
   exact cY.2 (by simp)
  intro K hK
  rw [if_pos (by rfl)]
  exact hK _ rfl
 intro K hK
 rw [fT]
 refine ⟨fun h=>hK _ (fun q=>by simp at q),fun h => ?_⟩
 refine gD.2 ((aUI (x:=r) (by omega)).mono fun e he=>hK _ fun q=>⟨by omega,?_⟩)
 have:e.isNil=true:=by simpa using q
 exact (he.1 this).2
end Go.S
end
