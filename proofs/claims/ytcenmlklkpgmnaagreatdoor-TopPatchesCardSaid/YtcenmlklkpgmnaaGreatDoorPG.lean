/- Part of the proofs of: what one side did, as pieces, done to base, is that side; merged with nothing done by the other it is that, too (any two texts) -/
import Derived.Lib.Bytealg
import Derived.Test.YtcenmlklkpgmnaaGreatDoorPF
set_option linter.unusedVariables false
set_option linter.unusedSimpArgs false
set_option linter.unusedSectionVars false
section
namespace Go.S
open Go
def aDG (e:dA):Bool:=decide (e.op≠3)
def aDF (e:dA):Bool:=decide (e.op≠2)
def olds (l:List dA):List aV:=(l.filter aDG).map (·.line)
def news (l:List dA):List aV:=(l.filter aDF).map (·.line)
def JG (l:List dA):Prop := ∀ e∈l,e.op=1∨e.op=2∨e.op=3
theorem oT (a b:List dA):olds (a++b)=olds a++olds b:=by simp [olds]
theorem vH (a b:List dA):news (a++b)=news a++news b:=by simp [news]
theorem CT (l:List dA):(olds l).length≤l.length:=by unfold olds; rw [List.length_map]; exact List.length_filter_le ..
theorem CR (l:List dA):(news l).length≤l.length:=by unfold news; rw [List.length_map]; exact List.length_filter_le ..
theorem CS {e:dA} (h:e.op≠3):olds [e]=[e.line]:=by simp [olds,aDG,h]
theorem XD {e:dA} (h:e.op=3):olds [e]=[]:=by simp [olds,aDG,h]
theorem GI {e:dA} (h:e.op≠2):news [e]=[e.line]:=by simp [news,aDF,h]
theorem XB {e:dA} (h:e.op=2):news [e]=[]:=by simp [news,aDF,h]
theorem SP {l:List dA} (h : ∀ e∈l,e.op=1):olds l=news l:=by
 unfold olds news
 rw [List.filter_eq_self.2,List.filter_eq_self.2]
 ·
  intro e he; simp [aDF,h e he]
 intro e he; simp [aDG,h e he]
theorem aSN {i j A W:Int} (i0:0≤i) (iA:i≤A) (j0:0≤j) (jW:j < W):0≤i*W∧i*W+j < (A+1)*W:=by
 have h1:0≤i*W:=Int.mul_nonneg i0 (by omega)
 have h2:i*W≤A*W:=Int.mul_le_mul_of_nonneg_right iA (by omega)
 have h3:(A+1)*W=A*W+W:=by rw [Int.add_mul,Int.one_mul]
 omega
theorem aEC {A W:Int} (a0:0≤A) (aA:A≤61) (w0:0≤W) (wW:W≤61):0≤A*W∧A*W≤3721:=by
 have h1:0≤A*W:=Int.mul_nonneg a0 w0
 have h2:A*W≤61*W:=Int.mul_le_mul_of_nonneg_right aA w0
 omega
structure QV (a b:List aV) (n:List Int):Prop where
  ha:a.length≤60
  hb:b.length≤60
  hn:(n.length:Int)=((a.length:Int)+1)*((b.length:Int)+1)
theorem QV.get {a b:List aV} {n:List Int} (t:QV a b n) {i j:Int} (i0:0≤i) (i1:i≤a.length) (j0:0≤j) (j1:j≤b.length) :
 0≤i*((b.length:Int)+1)+j∧i*((b.length:Int)+1)+j < n.length∧eF (i*((b.length:Int)+1))∧eF (i*((b.length:Int)+1)+j):=by
 have h:=aSN (W:=(b.length:Int)+1) i0 i1 j0 (by omega)
 have ha:=t.ha
 have hb:=t.hb
 have h2:=aEC (A:=(a.length:Int)+1) (W:=(b.length:Int)+1) (by omega) (by omega) (by omega) (by omega)
 have hn:=t.hn
 refine ⟨by omega,by omega,⟨by omega,by omega⟩,⟨by omega,by omega⟩⟩
theorem KD {a b:List aV} {n:List Int} (t:QV a b n) {i j:Int} (i0:0≤i) (i1:i≤a.length) (j0:0≤j) (j1:j≤b.length) : ∃ z,z∈n∧Sh.nL ⟨a,b,n⟩ i j=some z:=by
 obtain ⟨h0,h1,h2,h3⟩:=t.get i0 i1 j0 j1
 obtain ⟨z,hz⟩:=zN h0 h1
 refine ⟨z,List.mem_of_getElem? hz,?_⟩
 apply Ok.eq
 have hb:=t.hb
 unfold Sh.nL
 dsimp only
 simp only [fC,iB,mI,eV]
 exact ⟨⟨by omega,by omega⟩,h2,h3,h0,z,hz,rfl⟩
theorem aOQ {a b:List aV} (ha:a.length≤60) (hb:b.length≤60):Ok (Sh.FZ a b) fun r => ∃ n,r = .inr (⟨a,b,n⟩,())∧QV a b n:=by
 have h2:=aEC (A:=(a.length:Int)+1) (W:=(b.length:Int)+1) (by omega) (by omega) (by omega) (by omega)
 unfold Sh.FZ
 rw [if_neg (by omega),if_neg (by omega)]
 simp only [fC,kO]
 refine ⟨⟨by omega,by omega⟩,⟨by omega,by omega⟩,⟨by omega,by omega⟩,⟨by omega,by omega⟩,⟨by omega,by omega⟩,?_⟩
 refine mJ (I:=fun t => -1≤t.1∧t.1 < a.length∧QV a b t.2 ∧ ∀ z∈t.2,0≤z∧z≤((a.length:Int) - 1 - t.1)*1000) (μ:=fun t=>(t.1+1).toNat) ?_ ⟨by dsimp only; omega,by dsimp only; omega,⟨ha,hb,by dsimp only; rw [List.length_replicate]; omega⟩,?_⟩
 ·
  rintro ⟨i,c⟩ ⟨i0,i1,tb,hz⟩
  dsimp only at i0 i1 tb hz ⊢
  rw [gN]
  refine ⟨fun hi=>fC.2 ⟨⟨by omega,by omega⟩,?_⟩,fun hi=>qV.2 (eV.2 ⟨c,rfl,tb⟩)⟩
  refine mJ (I:=fun t => -1≤t.1∧t.1 < b.length∧QV a b t.2 ∧ ∀ z∈t.2,0≤z∧z≤((a.length:Int) - 1 - i)*1000+((b.length:Int) - 1 - t.1)) (μ:=fun t=>(t.1+1).toNat) ?_ ⟨by dsimp only; omega,by dsimp only; omega,tb,fun z h => ?_⟩
  ·
   rintro ⟨j,c2⟩ ⟨j0,j1,tb2,hz2⟩
   dsimp only at j0 j1 tb2 hz2 ⊢
   rw [gN]
   refine ⟨fun hj => ?_,fun hj=>qV.2 (fC.2 ⟨⟨by omega,by omega⟩,o5.2 ⟨⟨by dsimp only; omega,by dsimp only; omega,tb2,fun z h => ?_⟩,by dsimp only; omega⟩⟩)⟩
   ·
    obtain ⟨z1,m1,e1⟩:=KD tb2 (i:=i+1) (j:=j) (by omega) (by omega) hj (by omega)
    obtain ⟨z2,m2,e2⟩:=KD tb2 (i:=i) (j:=j+1) (by omega) (by omega) (by omega) (by omega)
    obtain ⟨z3,m3,e3⟩:=KD tb2 (i:=i+1) (j:=j+1) (by omega) (by omega) (by omega) (by omega)
    have q1:=hz2 z1 m1
    have q2:=hz2 z2 m2
    have q3:=hz2 z3 m3
    obtain ⟨u,hu⟩:=zN (l:=a) hi i1
    obtain ⟨v,hv⟩:=zN (l:=b) hj j1
    obtain ⟨g0,g1,g2,g3⟩:=tb2.get (i:=i) (j:=j) (by omega) (by omega) hj (by omega)
    obtain ⟨x,hx⟩:=zN g0 g1
    refine fC.2 ⟨⟨by omega,by omega⟩,?_⟩
    rw [e1,Option.bind_some]
    refine fC.2 ⟨⟨by omega,by omega⟩,?_⟩
    rw [e2,Option.bind_some]
    refine q9 (fun m=>0≤m∧m≤((a.length:Int) - 1 - i)*1000+((b.length:Int) - 1 - j)+1) ?_ ?_
    ·
     rintro m ⟨hm0,hm1⟩
     refine fC.2 ⟨⟨by omega,by omega⟩,fC.2 ⟨g2,fC.2 ⟨g3,iB.2 (mI.2 ⟨g0,x,hx,kO.2 (fC.2 ⟨⟨by omega,by omega⟩,o5.2 ⟨⟨by dsimp only; omega,by dsimp only; omega,⟨ha,hb,by dsimp only; rw [List.length_set]; exact tb2.hn⟩,fun z h => ?_⟩,by dsimp only; omega⟩⟩)⟩)⟩⟩⟩
     dsimp only at h ⊢
     rcases List.mem_or_eq_of_mem_set h with h | h
     ·
      have:=hz2 z h; omega
     omega
    intro K hK
    simp only [iB,mI]
    refine ⟨hi,u,hu,hj,v,hv,?_⟩
    rw [gN]
    refine ⟨fun _ => ?_,fun _=>hK _ ⟨by omega,by omega⟩⟩
    simp only [fC]
    refine ⟨⟨by omega,by omega⟩,⟨by omega,by omega⟩,?_⟩
    rw [e3,Option.bind_some]
    exact fC.2 ⟨⟨by omega,by omega⟩,hK _ ⟨by omega,by omega⟩⟩
   have:=hz2 z h; omega
  have:=hz z h; dsimp only; omega
 intro z h
 rw [List.eq_of_mem_replicate h]
 dsimp only
 omega
theorem aPE {a b:List aV} {n:List Int} (t:QV a b n) {i j:Int} (i0:0≤i) (i1:i≤a.length) (j0:0≤j) (j1:j≤b.length) (hne:i < a.length∨j < b.length) :
 Ok (Sh.tF ⟨a,b,n⟩ i j) fun op=>(op=1∧i < a.length∧j < b.length∧a[i.toNat]? = b[j.toNat]?)∨(op=2∧i < a.length)∨(op=3∧j < b.length):=by
 unfold Sh.tF
 refine q9 (fun x=>x=true→i < a.length∧j < b.length∧a[i.toNat]? = b[j.toNat]?) ?_ ?_
 ·
  intro x hx
  rw [gN]
  refine ⟨fun h=>eV.2 (.inl ⟨rfl,hx h⟩),fun _ => ?_⟩
  refine q9 (fun x=>(x=true→i < a.length)∧(x=false→j < b.length)) ?_ ?_
  ·
   rintro x ⟨h1,h2⟩
   rw [gN]
   exact ⟨fun h=>eV.2 (.inr (.inl ⟨rfl,h1 h⟩)),fun h=>eV.2 (.inr (.inr ⟨rfl,h2 (by simpa using h)⟩))⟩
  intro K hK
  dsimp only
  rw [gN]
  refine ⟨fun hi => ?_,fun hi=>hK _ ⟨fun h=>by simp at h,fun _=>by omega⟩⟩
  rw [gN]
  refine ⟨fun hj=>hK _ ⟨fun _=>hi,fun h=>by simp at h⟩,fun hj => ?_⟩
  obtain ⟨z1,_,e1⟩:=KD t (i:=i+1) (j:=j) (by omega) (by omega) j0 j1
  obtain ⟨z2,_,e2⟩:=KD t (i:=i) (j:=j+1) (by omega) (by omega) (by omega) (by omega)
  have ha:=t.ha
  have hb:=t.hb
  refine fC.2 ⟨⟨by omega,by omega⟩,?_⟩
  rw [e1,Option.bind_some]
  refine fC.2 ⟨⟨by omega,by omega⟩,?_⟩
  rw [e2,Option.bind_some]
  exact hK _ ⟨fun _=>hi,fun _=>by omega⟩
 intro K hK
 dsimp only
 rw [gN]
 refine ⟨fun hi => ?_,fun hi=>hK _ (fun h=>by simp at h)⟩
 rw [gN]
 refine ⟨fun hj => ?_,fun hj=>hK _ (fun h=>by simp at h)⟩
 obtain ⟨u,hu⟩:=zN (l:=a) i0 hi
 obtain ⟨v,hv⟩:=zN (l:=b) j0 hj
 simp only [iB,mI]
 exact ⟨i0,u,hu,j0,v,hv,hK _ fun h=>⟨hi,hj,by rw [hu,hv,of_decide_eq_true h]⟩⟩
theorem aKX {a b:List aV} (ha:a.length≤60) (hb:b.length≤60):Ok (Sh.DI a b) fun r=>r.2=gR.nil∧JG r.1∧olds r.1=a∧news r.1=b∧r.1.length≤120:=by
 unfold Sh.DI
 refine iB.2 ((aOQ ha hb).mono ?_)
 rintro _ ⟨n,rfl,tb⟩
 dsimp only
 refine q9 (fun l=>JG l∧olds l=a∧news l=b∧l.length≤120) ?_ ?_
 ·
  intro l hl
  rw [show Sh.fF l=some l from ?_,Option.bind_some]
  ·
   exact eV.2 ⟨rfl,hl⟩
  apply Ok.eq
  unfold Sh.fF
  simp only [fC,kO,eV]
  refine ⟨⟨by omega,by omega⟩,by rw [List.take_of_length_le (by omega)]⟩
 intro K hK
 refine mJ (I:=fun t=>0≤t.2.1∧t.2.1≤a.length∧0≤t.2.2∧t.2.2≤b.length∧JG t.1∧olds t.1=a.take t.2.1.toNat∧news t.1=b.take t.2.2.toNat∧(t.1.length:Int)≤t.2.1+t.2.2) (μ:=fun t=>(a.length - t.2.1).toNat+(b.length - t.2.2).toNat) ?_
   ⟨by dsimp only; omega,by dsimp only; omega,by dsimp only; omega,by dsimp only; omega,(fun e he=>by cases he),by simp [olds],by simp [news],by simp⟩
 rintro ⟨l,i,j⟩ ⟨i0,i1,j0,j1,ho,ho1,ho2,hln⟩
 dsimp only at i0 i1 j0 j1 ho ho1 ho2 hln ⊢
 refine q9 (fun _=>i < a.length∨j < b.length) ?_ ?_
 ·
  intro _ hne
  refine iB.2 ((aPE tb i0 i1 j0 j1 hne).mono ?_)
  intro op hop
  refine q9 (fun x => ∃ z,x.2.2=z∧0≤x.1∧x.1≤a.length∧0≤x.2.1∧x.2.1≤b.length∧i≤x.1∧j≤x.2.1∧i+j < x.1+x.2.1∧(op=1∨op=2∨op=3)∧a.take x.1.toNat=a.take i.toNat++olds [⟨op,z⟩]∧b.take x.2.1.toNat=b.take j.toNat++news [⟨op,z⟩]) ?_ ?_
  ·
   rintro ⟨i',j',z'⟩ ⟨z,rfl,k0,k1,k2,k3,k4,k5,k6,k7,k8,k9⟩
   dsimp only at k0 k1 k2 k3 k4 k5 k6 k8 k9 ⊢
   simp only [kO,fC,o5]
   refine ⟨by simp only [List.length_cons,List.length_nil]; omega,⟨k0,k1,k2,k3,?_,by rw [oT,ho1,k8],by rw [vH,ho2,k9],by simp only [List.length_append,List.length_cons,List.length_nil]; omega⟩,by omega⟩
   intro e he
   rcases List.mem_append.1 he with q | q
   ·
    exact ho e q
   rw [List.mem_singleton.1 q]; exact k7
  intro K2 hK2
  have ha':=tb.ha
  have hb':=tb.hb
  rcases hop with ⟨rfl,hi,hj,hab⟩ | ⟨rfl,hi⟩ | ⟨rfl,hj⟩
  ·
   obtain ⟨u,hu⟩:=zN (l:=a) i0 hi
   have hv:b[j.toNat]? = some u:=by rw [← hab,hu]
   refine q9 (fun x=>x=j+1) ?_ ?_
   ·
    rintro x rfl
    simp only [iB,mI,fC]
    refine ⟨i0,u,hu,⟨by omega,by omega⟩,hK2 _ ⟨u,rfl,by dsimp only; omega,by dsimp only; omega,by dsimp only; omega,by dsimp only; omega,by dsimp only; omega,by dsimp only; omega,by dsimp only; omega,.inl rfl,?_,?_⟩⟩
    ·
     rw [CS (show _≠(3:Int) from by dsimp only; omega),GA i0 hu]
    rw [GI (show _≠(2:Int) from by dsimp only; omega),GA j0 hv]
   intro K3 hK3
   rw [if_pos rfl]
   exact fC.2 ⟨⟨by omega,by omega⟩,hK3 _ rfl⟩
  ·
   obtain ⟨u,hu⟩:=zN (l:=a) i0 hi
   refine q9 (fun x=>x=j) ?_ ?_
   ·
    rintro x rfl
    simp only [iB,mI,fC]
    refine ⟨i0,u,hu,⟨by omega,by omega⟩,hK2 _ ⟨u,rfl,by dsimp only; omega,by dsimp only; omega,by dsimp only; omega,by dsimp only; omega,by dsimp only; omega,by dsimp only; omega,by dsimp only; omega,.inr (.inl rfl),?_,?_⟩⟩
    ·
     rw [CS (show _≠(3:Int) from by dsimp only; omega),GA i0 hu]
    rw [XB rfl,List.append_nil]
   intro K3 hK3
   rw [if_neg (by decide),if_pos rfl]
   exact hK3 _ rfl
  obtain ⟨u,hu⟩:=zN (l:=b) j0 hj
  refine q9 (fun x=>False) (fun x h=>h.elim) ?_
  intro K3 hK3
  rw [if_neg (by decide),if_neg (by decide),if_pos rfl]
  simp only [iB,mI,fC]
  refine ⟨j0,u,hu,⟨by omega,by omega⟩,hK2 _ ⟨u,rfl,by dsimp only; omega,by dsimp only; omega,by dsimp only; omega,by dsimp only; omega,by dsimp only; omega,by dsimp only; omega,by dsimp only; omega,.inr (.inr rfl),?_,?_⟩⟩
  ·
   rw [XD rfl,List.append_nil]
  rw [GI (show _≠(2:Int) from by dsimp only; omega),GA j0 hu]
 intro K2 hK2
 rw [gN]
 refine ⟨fun h=>hK2 _ (.inl h),fun h => ?_⟩
 rw [gN]
 refine ⟨fun h=>hK2 _ (.inr h),fun h2=>qV.2 (hK _ ⟨ho,?_,?_,by omega⟩)⟩
 ·
  rw [ho1,List.take_of_length_le (by omega)]
 rw [ho2,List.take_of_length_le (by omega)]
end Go.S
end

section
namespace Go.S
open Go
theorem JG.sub {l l':List dA} (h:JG l) (s:l'.Sublist l):JG l':=fun e he=>h e (s.subset he)
theorem R9 {l:List dA} (h:JG l) (hl:l.length≤200):Sh.oV l=some (((olds l).length:Int),((news l).length:Int),true):=by
 apply Ok.eq
 unfold Sh.oV
 refine mJ (I:=fun t=>0≤t.2.2∧t.2.2≤l.length∧t.1=(olds (l.take t.2.2.toNat)).length∧t.2.1=(news (l.take t.2.2.toNat)).length) (μ:=fun t=>(l.length - t.2.2).toNat) ?_ ⟨by dsimp only; omega,by dsimp only; omega,by simp [olds],by simp [news]⟩
 rintro ⟨d,a,i⟩ ⟨i0,i1,hd,ha⟩
 dsimp only at i0 i1 hd ha ⊢
 rw [gN]
 refine ⟨fun hi => ?_,fun hi=>qV.2 (eV.2 ?_)⟩
 ·
  obtain ⟨z,hz⟩:=zN i0 hi
  have hs:=GA i0 hz
  have h1:=CT (l.take i.toNat)
  have h2:=CR (l.take i.toNat)
  rw [List.length_take] at h1 h2
  refine iB.2 (mI.2 ⟨i0,z,hz,?_⟩)
  rcases h z (List.mem_of_getElem? hz) with q | q | q
  ·
   rw [if_pos q]
   simp only [fC,o5]
   refine ⟨⟨by omega,by omega⟩,⟨by omega,by omega⟩,⟨by omega,by omega⟩,⟨by omega,by omega,?_,?_⟩,by omega⟩
   ·
    rw [hs,oT,CS (by omega),List.length_append,List.length_singleton]; omega
   rw [hs,vH,GI (by omega),List.length_append,List.length_singleton]; omega
  ·
   rw [if_neg (by omega),if_pos q]
   simp only [fC,o5]
   refine ⟨⟨by omega,by omega⟩,⟨by omega,by omega⟩,⟨by omega,by omega,?_,?_⟩,by omega⟩
   ·
    rw [hs,oT,CS (by omega),List.length_append,List.length_singleton]; omega
   rw [hs,vH,XB q,List.append_nil]; omega
  rw [if_neg (by omega),if_neg (by omega),if_pos q]
  simp only [fC,o5]
  refine ⟨⟨by omega,by omega⟩,⟨by omega,by omega⟩,⟨by omega,by omega,?_,?_⟩,by omega⟩
  ·
   rw [hs,oT,XD q,List.append_nil]; omega
  rw [hs,vH,GI (by omega),List.length_append,List.length_singleton]; omega
 have:i=l.length:=by omega
 rw [hd,ha,this,List.take_of_length_le (by omega)]
def mid (l:List dA) (f t:Nat):List dA:=(l.drop f).take (t - f)
theorem zV {l:List dA} {f t:Nat} (h:f≤t):l.take t=l.take f++mid l f t:=by
 conv=>lhs; rw [show t=f+(t - f) by omega,List.take_add]
 rfl
theorem U1 (l:List dA) (f t:Nat):(mid l f t).Sublist l:=(List.take_sublist _ _).trans (List.drop_sublist _ _)
theorem U0 (l:List dA) (f t:Nat):(mid l f t).length≤l.length:=(U1 l f t).length_le
theorem aFD {l:List dA} {f t:Nat} {P:dA→Prop} (h : ∀ k e,f≤k→k < t→l[k]? = some e→P e) : ∀ e∈mid l f t,P e:=by
 intro e he
 obtain ⟨k,hk⟩:=List.mem_iff_getElem?.1 he
 unfold mid at hk
 rw [List.getElem?_take] at hk
 split at hk
 ·
  rw [List.getElem?_drop] at hk
  exact h (f+k) e (by omega) (by omega) hk
 cases hk
def hk (l:List dA) (f t:Nat):iC:=⟨(olds (l.take f)).length,(olds (mid l f t)).length,(news (l.take f)).length,(news (mid l f t)).length,mid l f t⟩
theorem aE9 {l:List dA} (h:JG l) (hl:l.length≤200) {f t:Int} (f0:0≤f) (ft:f≤t) (tl:t≤l.length):Sh.AG l f t=some (hk l f.toNat t.toNat):=by
 apply Ok.eq
 unfold Sh.AG
 refine fC.2 ⟨⟨f0,by omega⟩,kO.2 ?_⟩
 rw [R9 (h.sub (List.take_sublist _ _)) (by rw [List.length_take]; omega),Option.bind_some]
 refine fC.2 ⟨⟨f0,ft,tl⟩,kO.2 ?_⟩
 have hm:=U0 l f.toNat t.toNat
 rw [show Sh.oV ((l.drop f.toNat).take (t.toNat - f.toNat))=_ from R9 (l:=mid l f.toNat t.toNat) (h.sub (U1 _ _ _)) (by omega),Option.bind_some]
 refine fC.2 ⟨⟨f0,ft,tl⟩,kO.2 ?_⟩
 have e1:Sh.iU ((l.drop f.toNat).take (t.toNat - f.toNat))=some (mid l f.toNat t.toNat):=by
   apply Ok.eq
   unfold Sh.iU
   refine kO.2 (fC.2 ⟨?_,kO.2 (eV.2 rfl)⟩)
   show 0+(mid l f.toNat t.toNat).length≤4294967296
   omega
 have e2:Sh.fF (mid l f.toNat t.toNat)=some (mid l f.toNat t.toNat):=by
   apply Ok.eq
   unfold Sh.fF
   refine fC.2 ⟨⟨by omega,by omega⟩,kO.2 (eV.2 (by rw [List.take_of_length_le (by omega)]))⟩
 rw [e1,Option.bind_some,e2,Option.bind_some]
 exact eV.2 rfl
def Kp (l:List dA) (f t:Nat):Prop := ∀ k e,f≤k→k < t→l[k]? = some e→e.op=1
inductive Cov (l:List dA):List iC→Nat→Prop
  | nil:Cov l [] 0
  | snoc {hs:List iC} {t f t':Nat} (c:Cov l hs t) (h1:t≤f) (h2:f≤t') (h3:t'≤l.length) (h4:Kp l t f):Cov l (hs++[hk l f t']) t'
def aBi (l:List dA):Nat→List iC→Prop
  | t,[]=>Kp l t l.length
  | t,h::hs => ∃ f t',h=hk l f t'∧t≤f∧f≤t'∧t'≤l.length∧Kp l t f∧aBi l t' hs
theorem Cov.toL {l:List dA} {hs:List iC} {t:Nat} (c:Cov l hs t) : ∀ tl,aBi l t tl→aBi l 0 (hs++tl):=by
 induction c with
 | nil=>intro tl h; exact h
 | @snoc hs t f t' c h1 h2 h3 h4 ih =>
   intro tl h
   rw [List.append_assoc]
   exact ih _ ⟨f,t',rfl,h1,h2,h3,h4,h⟩
theorem aKR {l:List dA} (h:JG l) (hl:l.length≤120):Ok (Sh.BH l 1) fun hs=>aBi l 0 hs∧hs.length≤200:=by
 have clip : ∀ hs:List iC,Sh.gM hs=some hs:=fun hs=>by
   apply Ok.eq
   unfold Sh.gM
   refine fC.2 ⟨⟨by omega,by omega⟩,kO.2 (eV.2 (by rw [List.take_of_length_le (by omega)]))⟩
 unfold Sh.BH
 rw [show (min (max (1:Int) 0) 16)=1 from by decide]
 refine mJ (I:=fun t=>0≤t.2.2.2∧t.2.2.2≤l.length∧(t.1.length:Int)≤t.2.2.2 ∧
     ((t.2.2.1 = -1∧t.1=[]∧Kp l 0 t.2.2.2.toNat)∨(0≤t.2.1∧t.2.1≤t.2.2.1∧(t.2.2.1≤l.length∧t.2.2.1≤t.2.2.2+1) ∧ ∃ t0,Cov l t.1 t0∧t0≤t.2.1.toNat∧Kp l t0 t.2.1.toNat∧Kp l t.2.2.1.toNat t.2.2.2.toNat)))
   (μ:=fun t=>(l.length - t.2.2.2).toNat) ?_ ⟨by dsimp only; omega,by dsimp only; omega,by simp,.inl ⟨rfl,rfl,fun k e _ q=>by dsimp only at q; omega⟩⟩
 rintro ⟨out,f,t,i⟩ ⟨i0,i1,ho,hc⟩
 dsimp only at i0 i1 ho hc ⊢
 rw [gN]
 refine ⟨fun hi => ?_,fun hi=>qV.2 ?_⟩
 ·
  obtain ⟨z,hz⟩:=zN i0 hi
  refine iB.2 (mI.2 ⟨i0,z,hz,?_⟩)
  rw [gN]
  refine ⟨fun hop=>fC.2 ⟨⟨by omega,by omega⟩,o5.2 ⟨⟨by dsimp only; omega,by dsimp only; omega,by dsimp only; omega,?_⟩,by dsimp only; omega⟩⟩,fun hop => ?_⟩
  ·
   dsimp only
   have ext : ∀ p,Kp l p i.toNat→Kp l p (i+1).toNat:=fun p q k e k0 k1 he=>by
     by_cases hk:k < i.toNat
     . exact q k e k0 hk he
     . have:k=i.toNat:=by omega
       subst this
       rw [hz] at he; cases he; exact hop
   rcases hc with ⟨c1,c2,c3⟩ | ⟨c1,c2,c3,t0,c4,c5,c6,c7⟩
   ·
    exact .inl ⟨c1,c2,ext _ c3⟩
   exact .inr ⟨c1,c2,⟨c3.1,by have:=c3.2; omega⟩,t0,c4,c5,c6,ext _ c7⟩
  refine fC.2 ⟨⟨by omega,by omega⟩,fC.2 ⟨⟨by omega,by omega⟩,fC.2 ⟨⟨by omega,by omega⟩,?_⟩⟩⟩
  have hmx:max (i - 1) 0≤i∧0≤max (i - 1) 0:=by omega
  have hmn:i+1≤min (i+1+1) (l.length:Int)∧min (i+1+1) (l.length:Int)≤l.length:=by omega
  generalize max (i - 1) 0=x at *
  have hmn2:min (i+1+1) (l.length:Int)≤i+1+1:=by omega
  generalize min (i+1+1) (l.length:Int)=y at *
  have empty:Kp l y.toNat (i+1).toNat:=fun k e k0 k1 _=>by omega
  rw [gN]
  refine ⟨fun ht => ?_,fun ht => ?_⟩
  ·
   rcases hc with ⟨c1,c2,c3⟩ | ⟨c1,c2,c3,t0,c4,c5,c6,c7⟩
   ·
    subst c2
    refine fC.2 ⟨⟨by omega,by omega⟩,o5.2 ⟨⟨by dsimp only; omega,by dsimp only; omega,by dsimp only; omega,.inr ⟨by dsimp only; omega,by dsimp only; omega,⟨by dsimp only; omega,by dsimp only; omega⟩,0,Cov.nil,Nat.zero_le _,fun k e k0 k1 he=>c3 k e k0 (by dsimp only at k1; omega) he,empty⟩⟩,by dsimp only; omega⟩⟩
   omega
  rcases hc with ⟨c1,c2,c3⟩ | ⟨c1,c2,c3,t0,c4,c5,c6,c7⟩
  ·
   omega
  rw [gN]
  refine ⟨fun hx => ?_,fun hx => ?_⟩
  ·
   rw [aE9 h (by omega) c1 c2 c3.1,Option.bind_some]
   refine kO.2 (fC.2 ⟨by simp only [List.length_cons,List.length_nil]; omega,kO.2 (fC.2 ⟨⟨by omega,by omega⟩,o5.2 ⟨⟨by dsimp only; omega,by dsimp only; omega,by simp only [List.length_append,List.length_cons,List.length_nil]; omega,.inr ⟨by dsimp only; omega,by dsimp only; omega,⟨by dsimp only; omega,by dsimp only; omega⟩,t.toNat,c4.snoc c5 (by omega) (by omega) c6,by dsimp only; omega,fun k e k0 k1 he=>c7 k e k0 (by dsimp only at k1; omega) he,empty⟩⟩,by dsimp only; omega⟩⟩)⟩)
  refine fC.2 ⟨⟨by omega,by omega⟩,o5.2 ⟨⟨by dsimp only; omega,by dsimp only; omega,by dsimp only; omega,.inr ⟨by dsimp only; omega,by have:=c3.2; dsimp only; omega,⟨by dsimp only; omega,by dsimp only; omega⟩,t0,c4,c5,c6,empty⟩⟩,by dsimp only; omega⟩⟩
 have hil:i=l.length:=by omega
 rw [gN]
 refine ⟨fun ht => ?_,fun ht => ?_⟩
 ·
  rcases hc with ⟨c1,c2,c3⟩ | ⟨c1,c2,c3,t0,c4,c5,c6,c7⟩
  ·
   omega
  rw [aE9 h (by omega) c1 c2 c3.1,Option.bind_some]
  refine kO.2 (fC.2 ⟨by simp only [List.length_cons,List.length_nil]; omega,kO.2 ?_⟩)
  rw [clip,Option.bind_some]
  refine eV.2 ⟨?_,by simp only [List.length_append,List.length_cons,List.length_nil]; omega⟩
  have:=(c4.snoc c5 (t':=t.toNat) (by omega) (by omega) c6).toL [] (by
    show Kp l t.toNat l.length
    rw [hil] at c7
    exact c7)
  rw [List.append_nil] at this
  exact this
 rcases hc with ⟨c1,c2,c3⟩ | ⟨c1,c2,c3,t0,c4,c5,c6,c7⟩
 ·
  subst c2
  rw [clip,Option.bind_some]
  refine eV.2 ⟨?_,by simp⟩
  show Kp l 0 l.length
  rw [hil] at c3
  exact c3
 omega
theorem aMx {h:iC} {e s d a:Int} (hc:Sh.oV h.lines=some (d,a,true)) (h1:d=h.del) (h2:a=h.add) (h3:0≤h.at_) (h4:0≤h.C1) (h5:e≤h.at_) (h6:eF (h.C1 - s)) (h7:h.C1 - s=h.at_):Sh.wQ h e s=some 0:=by
 apply Ok.eq
 unfold Sh.wQ
 rw [hc,Option.bind_some]
 dsimp only
 rw [if_neg (by simp)]
 refine q9 (fun x=>x=false) ?_ ?_
 ·
  rintro x rfl
  rw [if_neg (by simp)]
  exact eV.2 rfl
 intro K hK
 rw [if_pos h1,if_pos h2,if_neg (by omega),if_neg (by omega),if_neg (by omega)]
 exact fC.2 ⟨h6,hK _ (by simp [h7])⟩
theorem aMy {l:List dA} (h:JG l) (hl:l.length≤120) {t f t':Nat} (h1:t≤f) (h3:Kp l t f) :
 Sh.wQ (hk l f t') ((olds (l.take t)).length:Int) (((news (l.take t)).length:Int) - ((olds (l.take t)).length:Int))=some 0:=by
 have hm:=U0 l f t'
 have e1:olds (l.take f)=olds (l.take t)++olds (mid l t f):=by rw [zV h1,oT]
 have e2:news (l.take f)=news (l.take t)++news (mid l t f):=by rw [zV h1,vH]
 have e3:olds (mid l t f)=news (mid l t f):=SP (aFD h3)
 have n1:=CT (l.take f)
 have n2:=CR (l.take f)
 rw [List.length_take] at n1 n2
 have q1:=congrArg List.length e1
 have q2:=congrArg List.length e2
 rw [e3] at q1
 rw [List.length_append] at q1 q2
 refine aMx (h:=hk l f t') (R9 (l:=mid l f t') (h.sub (U1 l f t')) (by omega)) rfl rfl ?_ ?_ ?_ ?_ ?_
 ·
  show 0≤((olds (l.take f)).length:Int); omega
 ·
  show 0≤((news (l.take f)).length:Int); omega
 ·
  show _≤((olds (l.take f)).length:Int); omega
 ·
  show eF (((news (l.take f)).length:Int) - _); exact ⟨by omega,by omega⟩
 show ((news (l.take f)).length:Int) - _=((olds (l.take f)).length:Int); omega
theorem aKZ {p q r:List dA} {e:dA} (P Q:List aV) (he:e.op≠3) (hm:q=p++e::r):(P++(olds q++Q))[P.length+(olds p).length]? = some e.line:=by
 subst hm
 rw [oT,show e::r=[e]++r from rfl,oT,CS he]
 rw [List.getElem?_append_right (by omega),show P.length+(olds p).length - P.length=(olds p).length by omega,List.append_assoc,List.getElem?_append_right (by omega),Nat.sub_self]
 rfl
theorem aGk {l:List dA} {f t:Nat} (h:f≤t):l=l.take f++(mid l f t++l.drop t):=by
 rw [← List.append_assoc,← zV h,List.take_append_drop]
theorem aMv {a:List aV} {h:iC} {P Q:List aV} (ho:JG h.lines) (hl:h.lines.length≤200) (ha:a=P++(olds h.lines++Q)) (hp:h.at_=P.length) (hd:h.del=(olds h.lines).length) (hn:a.length≤200):Sh.wP a h=some 0:=by
 have q1:=congrArg List.length ha
 simp only [List.length_append] at q1
 apply Ok.eq
 unfold Sh.wP
 refine q9 (fun x=>x=false) ?_ ?_
 ·
  rintro x rfl
  rw [if_neg (by simp)]
  refine mJ (I:=fun s=>0≤s.2∧s.2≤h.lines.length∧s.1=(P.length:Int)+((olds (h.lines.take s.2.toNat)).length:Int)) (μ:=fun s=>(h.lines.length - s.2).toNat) ?_ ⟨by dsimp only; omega,by dsimp only; omega,by dsimp only; rw [hp]; simp [olds]⟩
  rintro ⟨i,x⟩ ⟨x0,x1,hi⟩
  dsimp only at x0 x1 hi ⊢
  rw [gN]
  refine ⟨fun hx => ?_,fun hx=>qV.2 (eV.2 rfl)⟩
  obtain ⟨z,hz⟩:=zN x0 hx
  have hs:=GA x0 hz
  have n1:=CT (h.lines.take x.toNat)
  rw [List.length_take] at n1
  refine iB.2 (mI.2 ⟨x0,z,hz,?_⟩)
  rw [gN]
  refine ⟨fun q=>fC.2 ⟨⟨by omega,by omega⟩,o5.2 ⟨⟨by dsimp only; omega,by dsimp only; omega,?_⟩,by dsimp only; omega⟩⟩,fun q => ?_⟩
  ·
   dsimp only
   rw [hs,oT,XD q,List.append_nil]; exact hi
  have hM2:h.lines=h.lines.take x.toNat++z::h.lines.drop (x.toNat+1):=by
    obtain ⟨g1,g2⟩:=List.getElem?_eq_some_iff.1 hz
    rw [← g2,List.getElem_cons_drop,List.take_append_drop]
  have hg:=aKZ P Q q hM2
  rw [← ha] at hg
  refine iB.2 (mI.2 ⟨by omega,z.line,?_,?_⟩)
  ·
   rw [show i.toNat=P.length+(olds (h.lines.take x.toNat)).length by omega]
   exact hg
  rw [if_pos rfl]
  refine fC.2 ⟨⟨by omega,by omega⟩,fC.2 ⟨⟨by omega,by omega⟩,o5.2 ⟨⟨by dsimp only; omega,by dsimp only; omega,?_⟩,by dsimp only; omega⟩⟩⟩
  dsimp only
  rw [hs,oT,CS q,List.length_append,List.length_singleton]; omega
 intro K hK
 rw [if_neg (by omega)]
 exact fC.2 ⟨⟨by omega,by omega⟩,hK _ (by simp; omega)⟩
theorem aMw {l:List dA} (h:JG l) (hl:l.length≤120) {f t':Nat} (h2:f≤t'):Sh.wP (olds l) (hk l f t')=some 0:=by
 have hm:=U0 l f t'
 have n0:=CT l
 refine aMv (P:=olds (l.take f)) (Q:=olds (l.drop t')) (h.sub (U1 l f t')) (by show (mid l f t').length≤200; omega) ?_ rfl rfl (by omega)
 show olds l=olds (l.take f)++(olds (mid l f t')++olds (l.drop t'))
 conv=>lhs; rw [aGk (l:=l) h2,oT,oT]
theorem aKH {l:List dA} (h:JG l) (hl:l.length≤120) {hs:List iC} (hc:aBi l 0 hs) (hh:hs.length≤200):Ok (Sh.BG (olds l) hs) fun r=>r.2=gR.nil∧r.1=news l:=by
 have n0:=CT l
 have n1:=CR l
 unfold Sh.BG
 refine mJ (I:=fun s=>0≤s.2.2∧s.2.2≤hs.length ∧ ∃ t,t≤l.length∧aBi l t (hs.drop s.2.2.toNat)∧s.1=news (l.take t)∧s.2.1=(olds (l.take t)).length) (μ:=fun s=>(hs.length - s.2.2).toNat) ?_
   ⟨by dsimp only; omega,by dsimp only; omega,0,Nat.zero_le _,hc,by simp [news],by simp [olds]⟩
 rintro ⟨out,e,x⟩ ⟨x0,x1,t,t1,ht,hout,he⟩
 dsimp only at x0 x1 ht hout he ⊢
 have m1:=CT (l.take t)
 have m2:=CR (l.take t)
 rw [List.length_take] at m1 m2
 rw [gN]
 refine ⟨fun hx => ?_,fun hx=>qV.2 ?_⟩
 ·
  obtain ⟨z,hz⟩:=zN x0 hx
  rw [drop_cons x0 hz] at ht
  obtain ⟨f,t',hzz,h1,h2,h3,h4,h5⟩:=ht
  have ea:z.at_=((olds (l.take f)).length:Int):=by rw [hzz]; rfl
  have ed:z.del=((olds (mid l f t')).length:Int):=by rw [hzz]; rfl
  have el:z.lines=mid l f t':=by rw [hzz]; rfl
  subst hout
  subst he
  refine iB.2 (mI.2 ⟨x0,_,hz,fC.2 ⟨⟨by omega,by omega⟩,?_⟩⟩)
  rw [show Sh.wQ z _ _=some 0 from by rw [hzz]; exact aMy h hl h1 h4,Option.bind_some]
  have hm:=U0 l f t'
  have g1:olds (l.take f)=olds (l.take t)++olds (mid l t f):=by rw [zV h1,oT]
  have g2:news (l.take f)=news (l.take t)++news (mid l t f):=by rw [zV h1,vH]
  have g3:olds (mid l t f)=news (mid l t f):=SP (aFD h4)
  have g4:olds l=olds (l.take f)++olds (l.drop f):=by rw [← oT,List.take_append_drop]
  have c1:=congrArg List.length g1
  have c2:=congrArg List.length g2
  have c4:=congrArg List.length g4
  rw [List.length_append] at c1 c2 c4
  have g5:(((olds l).drop ((olds (l.take t)).length:Int).toNat).take (z.at_.toNat - ((olds (l.take t)).length:Int).toNat))=news (mid l t f):=by
    rw [ea,Int.toNat_natCast,Int.toNat_natCast,g4,g1,List.append_assoc,List.drop_left,List.length_append,Nat.add_sub_cancel_left,List.take_left,g3]
  have p2:=CR (mid l f t')
  have p3:=CR (l.take f)
  rw [List.length_take] at p3
  have p4:=CT (mid l f t')
  refine q9 (fun v=>v=0) ?_ ?_
  ·
   rintro v rfl
   rw [if_pos rfl]
   refine fC.2 ⟨⟨by omega,by omega,by omega⟩,kO.2 ?_⟩
   rw [g5]
   refine fC.2 ⟨by omega,kO.2 ?_⟩
   rw [← g2]
   have hM:z.lines.length≤l.length:=by rw [el]; exact hm
   refine mJ (I:=fun s=>0≤s.2∧s.2≤z.lines.length∧s.1=news (l.take f)++news (z.lines.take s.2.toNat)) (μ:=fun s=>(z.lines.length - s.2).toNat) ?_ ⟨by dsimp only; omega,by dsimp only; omega,by simp [news]⟩
   rintro ⟨out2,y⟩ ⟨y0,y1,ho⟩
   dsimp only at y0 y1 ho ⊢
   have o1:=CR (z.lines.take y.toNat)
   rw [List.length_take] at o1
   rw [gN]
   refine ⟨fun hy => ?_,fun hy=>qV.2 ?_⟩
   ·
    obtain ⟨u,hu⟩:=zN y0 hy
    have hs2:=GA y0 hu
    refine iB.2 (mI.2 ⟨y0,u,hu,?_⟩)
    rw [gN]
    refine ⟨fun q=>fC.2 ⟨⟨by omega,by omega⟩,o5.2 ⟨⟨by dsimp only; omega,by dsimp only; omega,?_⟩,by dsimp only; omega⟩⟩,fun q=>kO.2 (fC.2 ⟨?_,kO.2 (fC.2 ⟨⟨by omega,by omega⟩,o5.2 ⟨⟨by dsimp only; omega,by dsimp only; omega,?_⟩,by dsimp only; omega⟩⟩)⟩)⟩
    ·
     dsimp only
     rw [hs2,vH,XB q,List.append_nil]; exact ho
    ·
     rw [ho,List.length_append]
     simp only [List.length_cons,List.length_nil]
     omega
    dsimp only
    rw [hs2,vH,GI q,ho,List.append_assoc]
   have hyl:y=z.lines.length:=by omega
   have g6:olds (l.take t')=olds (l.take f)++olds (mid l f t'):=by rw [zV h2,oT]
   have g7:news (l.take t')=news (l.take f)++news (mid l f t'):=by rw [zV h2,vH]
   refine fC.2 ⟨⟨by omega,by omega⟩,fC.2 ⟨⟨by omega,by omega⟩,o5.2 ⟨⟨by dsimp only; omega,by dsimp only; omega,t',h3,h5,?_,?_⟩,by dsimp only; omega⟩⟩⟩
   ·
    dsimp only
    rw [ho,hyl,Int.toNat_natCast,List.take_length,g7,el]
   dsimp only
   rw [g6,List.length_append]; omega
  intro K hK
  rw [if_pos rfl,show Sh.wP (olds l) z=some 0 from by rw [hzz]; exact aMw h hl h2,Option.bind_some]
  exact hK _ rfl
 have hxl:x=hs.length:=by omega
 rw [hxl,List.drop_of_length_le (by omega)] at ht
 have ht':Kp l t l.length:=ht
 have g1:olds l=olds (l.take t)++olds (l.drop t):=by rw [← oT,List.take_append_drop]
 have g2:news l=news (l.take t)++news (l.drop t):=by rw [← vH,List.take_append_drop]
 have g3:olds (l.drop t)=news (l.drop t):=SP fun d hd=>by
   obtain ⟨k,hk⟩:=List.mem_iff_getElem?.1 hd
   rw [List.getElem?_drop] at hk
   exact ht' (t+k) d (by omega) (List.getElem?_eq_some_iff.1 hk).1 hk
 have c1:=congrArg List.length g1
 rw [List.length_append] at c1
 have c2:=congrArg List.length g2
 rw [List.length_append] at c2
 refine fC.2 ⟨⟨by omega,by omega⟩,kO.2 ?_⟩
 have g4:(olds l).drop e.toNat=news (l.drop t):=by
   rw [he,Int.toNat_natCast,g1,List.drop_left,g3]
 rw [g4,hout]
 refine fC.2 ⟨by omega,kO.2 ?_⟩
 rw [← g2]
 rw [show Sh.dP (news l)=some (news l) from ?_,Option.bind_some]
 ·
  exact eV.2 ⟨rfl,rfl⟩
 apply Ok.eq
 unfold Sh.dP
 refine fC.2 ⟨⟨by omega,by omega⟩,kO.2 (eV.2 (by rw [List.take_of_length_le (by omega)]))⟩
end Go.S
end

section
namespace Go.S
open Go
def Fst {α:Type} (p:α→Bool) (l:List α) (r:Int):Prop:=(r = -1 ∧ ∀ z∈l,p z=false) ∨ ∃ k:Nat,r=k∧k < l.length∧(∀ z∈l.take k,p z=false) ∧ ∃ z,l[k]? = some z∧p z=true
theorem aSR {α:Type} (p:α→Bool) (l:List α) (hb:l.length≤1000000000) (F:α→Option Bool) (hF : ∀ z∈l,F z=some (p z)) (B:Int→Option (Int⊕Int))
 (hB : ∀ i,B i=if i < (l.length:Int) then (at_ l i).bind (fun z=>(F z).bind (fun y=>if y=true then up (some i) else gd (eF (i+1)) (go (i+1)))) else up (some (-1))):Ok (iter B 0) (Fst p l):=by
 refine mJ (I:=fun i=>0≤i∧i≤l.length ∧ ∀ z∈l.take i.toNat,p z=false) (μ:=fun i=>(l.length - i).toNat) ?_ ⟨by omega,by omega,by simp⟩
 rintro i ⟨h0,h1,h2⟩
 rw [hB]
 simp only [gN,qV,iB,eV,mI]
 refine ⟨fun h => ?_,fun h => ?_⟩
 ·
  obtain ⟨z,hz⟩:=zC h0 h
  refine ⟨h0,z,hz,?_⟩
  rw [hF z (List.mem_of_getElem? hz),eV]
  simp only [gN,qV,fC,o5,eV]
  refine ⟨fun hp => .inr ⟨i.toNat,by omega,by omega,h2,z,hz,hp⟩,fun hp=>⟨⟨by omega,by omega⟩,⟨by omega,by omega,fun y hy => ?_⟩,by omega⟩⟩
  rw [qZ h0 hz] at hy
  rcases List.mem_append.1 hy with q | q
  ·
   exact h2 y q
  rw [List.mem_singleton.1 q]; simpa using hp
 rw [List.take_of_length_le (by omega)] at h2
 exact .inl ⟨rfl,h2⟩
theorem aMz {α:Type} {p:α→Bool} {l:List α} {r:Int} (h:Fst p l r):decide (0≤r)=l.any p:=by
 rcases h with ⟨rfl,h⟩ | ⟨k,rfl,hk,_,z,hz,hp⟩
 ·
  have:l.any p=false:=List.any_eq_false.2 fun z hz=>by simp [h z hz]
  rw [this]; rfl
 have:l.any p=true:=List.any_eq_true.2 ⟨z,List.mem_of_getElem? hz,hp⟩
 rw [this]; simp
end Go.S
end

section
namespace Go.S
open Go
def oF (c:UInt8):List UInt8→List (List UInt8)
  | []=>[[]]
  | x::r=>if x=c then []::oF c r else match oF c r with
    | []=>[[x]]
    | y::l=>(x::y)::l
theorem aTE (c:UInt8) : ∀ s,oF c s≠[]
  | []=>by simp [oF]
  | x::r=>by
    unfold oF
    split
    . simp
    . split <;> simp
theorem VZ (c:UInt8) : ∀ s,(oF c s).length=s.count c+1
  | []=>by simp [oF]
  | x::r=>by
    have ih:=VZ c r
    unfold oF
    by_cases h:x=c
    . simp [h,ih]
    . rw [if_neg h,List.count_cons_of_ne (by simpa using h)]
      cases hq:oF c r with
      | nil=>exact absurd hq (aTE c r)
      | cons y l=>rw [hq] at ih; simpa using ih
theorem aJC {c:UInt8} : ∀ {s:List UInt8},c∉s→oF c s=[s]
  | [],_=>rfl
  | x::r,h=>by
    have hx:x≠c:=fun e=>h (by simp [e])
    rw [oF,if_neg hx,aJC fun e=>h (List.mem_cons_of_mem _ e)]
theorem aJB {c:UInt8} : ∀ {a:List UInt8} (b:List UInt8),c∉a→oF c (a++c::b)=a::oF c b
  | [],b,_=>by simp [oF]
  | x::a,b,h=>by
    have hx:x≠c:=fun e=>h (by simp [e])
    rw [List.cons_append,oF,if_neg hx,aJB b fun e=>h (List.mem_cons_of_mem _ e)]
theorem aOK {c:UInt8} : ∀ {a:List UInt8} (b:List UInt8),c∉a→Lib.indexByte (a++c::b) c=a.length
  | [],b,_=>by simp [Lib.indexByte]
  | x::a,b,h=>by
    have hx:(x==c)=false:=by simpa using fun e:x=c=>h (by simp [e])
    rw [List.cons_append,Lib.indexByte,hx,aOK b fun e=>h (List.mem_cons_of_mem _ e)]
    simp
theorem aGj {c:UInt8} {s:List UInt8} (h:c∈s) : ∃ a b,s=a++c::b∧c∉a:=by
 induction s with
 | nil=>cases h
 | cons x r ih =>
   by_cases hx:x=c
   . exact ⟨[],r,by simp [hx],by simp⟩
   . rcases List.mem_cons.1 h with q | q
     . exact absurd q.symm hx
     . obtain ⟨a,b,e,hn⟩:=ih q
       exact ⟨x::a,b,by simp [e],by simp [hn,Ne.symm hx]⟩
theorem aEF (c:UInt8):(c.toNat:Int).toNat.toUInt8=c:=by simp
theorem aSQ (s:List UInt8) (c:UInt8):ixB s (c.toNat:Int)=Lib.indexByte s c:=by unfold ixB; rw [aEF]
theorem aKS (s:List UInt8) (c:UInt8):Sh.jD s [c]=some (Lib.indexByte s c):=by
 apply Ok.eq
 unfold Sh.jD
 simp only [aDO,gN,iB,eV,mI]
 refine ⟨fun h=>by simp at h,fun _=>⟨fun h => ?_,fun _=>⟨fun _=>⟨by omega,c,rfl,?_⟩,fun h=>by simp at h⟩⟩⟩
 ·
  have:s=[c]:=by simpa using (of_decide_eq_true h).symm
  rw [this]; simp [Lib.indexByte]
 unfold Sh.lF
 rw [aSQ]; exact Ok.of rfl rfl
theorem aBE (s:List UInt8) (c:UInt8):Sh.o9 s [c]=some (Lib.indexByte s c):=by
 unfold Sh.o9
 rw [aKS]; rfl
theorem aKL (s:List UInt8) (c:UInt8):Sh.xC s [c]=some (s.count c:Int):=by
 apply Ok.eq
 unfold Sh.xC
 rw [if_neg (by simp),if_pos (by simp)]
 simp only [iB,mI,eV]
 refine ⟨by omega,c,rfl,?_⟩
 unfold aHY Lib.countByte
 rw [aEF]
theorem QI {s:List UInt8} (c:UInt8) (hs:s.length≤1000000000):Sh.uA s [c]=some (oF c s):=by
 apply Ok.eq
 unfold Sh.uA Sh.wG
 rw [iB]
 have hc:s.count c≤s.length:=List.count_le_length
 simp only [aKL,aDO,gN,iB,fC,kO,eV,mI]
 refine ⟨fun h=>by omega,fun _=>⟨fun h=>by simp at h,fun _=>⟨fun _ => ?_,fun h=>by omega⟩⟩⟩
 have hm:(min ((s.count c:Int)+1) ((s.length:Int)+1))=(s.count c:Int)+1:=by omega
 rw [hm]
 refine ⟨⟨by omega,by omega⟩,⟨by omega,by omega⟩,⟨by omega,by omega⟩,⟨by omega,by omega⟩,?_⟩
 refine mJ (I:=fun t=>0≤t.2.2∧t.2.2+t.1.count c=s.count c∧t.2.1.length=s.count c+1∧t.2.1.take t.2.2.toNat++oF c t.1=oF c s∧t.1.length≤s.length) (μ:=fun t=>t.1.length) ?_ ⟨by simp,by simp,by simp,by simp,by simp⟩
 rintro ⟨x,l,i⟩ ⟨i0,i1,i2,i3,i4⟩
 dsimp only at i0 i1 i2 i3 i4 ⊢
 have fin:c∉x→Ok (((at_ l i).bind fun aKD=>lt (l.set i.toNat x) fun WG=>gd (eF (i+1)) (gd ((0:Int)≤(i+1)∧(i+1)≤(WG.length:Int)) (lt (WG.take (i+1).toNat) fun aDn=>some aDn)))) (fun a=>a=oF c s):=fun hx=>by
   rw [aJC hx] at i3
   rw [List.count_eq_zero_of_not_mem hx] at i1
   simp only [iB,fC,kO,eV,mI]
   obtain ⟨z,hz⟩:=zC (l:=l) i0 (by omega)
   refine ⟨i0,z,hz,⟨by omega,by omega⟩,⟨by omega,by rw [List.length_set]; omega⟩,?_⟩
   rw [← i3,show (i+1).toNat=i.toNat+1 by omega,List.take_add_one,List.getElem?_set,if_pos rfl,if_pos (YZ hz),List.take_set_of_le (Nat.le_refl _)]
   simp
 simp only [aDO,gN,qV,iB,fC,kO,o5,eV,mI,aBE] at fin ⊢
 refine ⟨fun hi => ?_,fun hi => ?_⟩
 ·
  have hmem:c∈x:=List.count_pos_iff.1 (by omega)
  obtain ⟨a,b,e,ha⟩:=aGj hmem
  subst e
  rw [aOK b ha]
  have hl:(a++c::b).length=a.length+b.length+1:=by simp; omega
  have hcb:(a++c::b).count c=b.count c+1:=by simp [List.count_eq_zero_of_not_mem ha]
  obtain ⟨z,hz⟩:=zC (l:=l) i0 (by omega)
  refine ⟨fun h=>by omega,fun _=>⟨⟨by omega,by omega⟩,⟨by omega,by omega⟩,i0,z,hz,⟨by simp; omega,by simp; omega⟩,⟨by simp; omega,by simp; omega⟩,⟨by omega,by omega⟩,⟨by omega,?_,by simpa using i2,?_,?_⟩,?_⟩⟩
  ·
   simp only [List.length_cons,List.length_nil]
   rw [show ((a.length:Int)+((0+1:Nat):Int)).toNat=a.length+1 by omega]
   have:(a++c::b).drop (a.length+1)=b:=by simp
   rw [this]; omega
  ·
   simp only [List.length_cons,List.length_nil]
   rw [show ((a.length:Int)+((0+1:Nat):Int)).toNat=a.length+1 by omega,show ((a.length:Int)+0).toNat=a.length by omega]
   have e1:(a++c::b).drop (a.length+1)=b:=by simp
   have e2:(a++c::b).take a.length=a:=by simp
   rw [e1,e2,← i3,aJB b ha,show (i+1).toNat=i.toNat+1 by omega,List.take_add_one,List.getElem?_set,if_pos rfl,if_pos (YZ hz),List.take_set_of_le (Nat.le_refl _)]
   simp
  ·
   simp; omega
  simp; omega
 exact fin fun hm=>by have:=List.count_pos_iff.2 hm; omega
theorem aCP (c:UInt8) : ∀ (s:List UInt8),∀ y∈oF c s,y.length≤s.length
  | [],y,h=>by simp [oF] at h; simp [h]
  | x::r,y,h=>by
    have ih:=aCP c r
    unfold oF at h
    split at h
    . rcases List.mem_cons.1 h with q | q
      . simp [q]
      . have:=ih y q; simp; omega
    . split at h
      . have:=List.mem_singleton.1 h; simp [this]
      . next a l hq =>
        rcases List.mem_cons.1 h with q | q
        . have:=ih a (by rw [hq]; simp); simp [q]; omega
        . have:=ih y (by rw [hq]; simp [q]); simp; omega
end Go.S
end

section
namespace Go.S
open Go
def aAN (n:Nat):Bool:=decide (97≤n∧n≤122)||decide (48≤n∧n≤57)||decide (n=46)||decide (n=45)||decide (n=95)
theorem aKP : ∀ i:Fin 256,Sh.GJ ((i.val:Nat):Int)=some (aAN i.val):=by decide +kernel
theorem aNU (z:UInt8):Sh.GJ (z.toNat:Int)=some (aAN z.toNat):=aKP ⟨z.toNat,z.toNat_lt⟩
def aDQ (s:List UInt8):Bool := !(decide (s=[])||decide (s=[46])||decide (s=[46,46]))&&s.all fun z=>aAN z.toNat
theorem aBl {α:Type} (p:α→Bool) (l:List α) (z:α):(l++[z]).all p=(l.all p&&p z):=by simp
theorem all_false {α:Type} {p:α→Bool} {l:List α} {z:α} (hz:z∈l) (h:p z=false):l.all p=false:=by
 cases hq:l.all p with
 | false=>rfl
 | true=>rw [List.all_eq_true.1 hq z hz] at h; cases h
theorem aOV {s:List UInt8} (hs:s.length≤1000000000):Sh.GK s=some (aDQ s):=by
 apply Ok.eq
 unfold Sh.GK aDQ
 refine q9 (fun q=>q=(decide (s=[])||decide (s=[46])||decide (s=[46,46]))) ?_ ?_
 ·
  rintro q rfl
  generalize (decide (s=[])||decide (s=[46])||decide (s=[46,46]))=q
  simp only [gN,eV,fC,kO]
  refine ⟨fun h=>by rw [h]; rfl,fun h=>⟨by omega,?_⟩⟩
  have hq:q=false:=by simpa using h
  subst hq
  rw [Bool.not_false,Bool.true_and]
  refine mJ (I:=fun i=>0≤i∧i≤s.length∧(s.take i.toNat).all (fun z=>aAN z.toNat)=true) (μ:=fun i=>(s.length - i).toNat) ?_ ⟨by omega,by omega,by simp⟩
  rintro i ⟨i0,i1,i2⟩
  simp only [gN,qV,iB,fC,o5,eV,mI,aNU]
  refine ⟨fun hi => ?_,fun hi => ?_⟩
  ·
   obtain ⟨z,hz⟩:=zC (l:=s) i0 hi
   refine ⟨i0,z,hz,fun hb => ?_,fun hg=>⟨⟨by omega,by omega⟩,⟨by omega,by omega,?_⟩,by omega⟩⟩
   ·
    exact (all_false (p:=fun z:UInt8=>aAN z.toNat) (List.mem_of_getElem? hz) (by simpa using hb)).symm
   rw [qZ i0 hz,aBl,i2]; simpa using hg
  rw [← i2,show i.toNat=s.length by omega,List.take_length]
 intro K hK
 simp only [gN]
 refine ⟨fun h=>hK _ (by simp [h]),fun h1=>⟨fun h=>hK _ (by simp [h]),fun h2=>hK _ (by simp [h1,h2])⟩⟩
def K0 (p:List UInt8):Int:=if 64 < p.length then 4 else if (oF 47 p).all aDQ then 0 else 5
theorem aGa (p:List UInt8):Sh.AH p=some (K0 p):=by
 apply Ok.eq
 unfold Sh.AH K0
 simp only [gN,eV]
 refine ⟨fun h=>by rw [if_pos (by omega)],fun h => ?_⟩
 rw [if_neg (by omega),QI 47 (by omega),Option.bind_some]
 have hpart:=aCP 47 p
 have hlen:=VZ 47 p
 have hcnt:p.count 47≤p.length:=List.count_le_length
 generalize oF 47 p=L at *
 refine mJ (I:=fun i=>0≤i∧i≤L.length∧(L.take i.toNat).all aDQ=true) (μ:=fun i=>(L.length - i).toNat) ?_ ⟨by omega,by omega,by simp⟩
 rintro i ⟨i0,i1,i2⟩
 simp only [gN,qV,iB,fC,o5,eV,mI]
 refine ⟨fun hi => ?_,fun hi => ?_⟩
 ·
  obtain ⟨z,hz⟩:=zC (l:=L) i0 hi
  have:=hpart z (List.mem_of_getElem? hz)
  refine ⟨i0,z,hz,Ok.of (aOV (by omega)) ⟨fun hb => ?_,fun hg=>⟨⟨by omega,by omega⟩,⟨by omega,by omega,?_⟩,by omega⟩⟩⟩
  ·
   rw [all_false (List.mem_of_getElem? hz) (by simpa using hb)]; rfl
  rw [qZ i0 hz,aBl,i2]; simpa using hg
 rw [show i.toNat=L.length by omega,List.take_length] at i2
 rw [i2]; rfl
def Y9 (p d:List UInt8):Bool:=if d=[] then !decide (p=[]) else decide (d.length+1 < p.length∧p.take (d.length+1)=d++[47])
theorem aCR {p d:List UInt8} (hd:d.length≤1000000000):Sh.AJ p d=some (Y9 p d):=by
 apply Ok.eq
 unfold Sh.AJ Y9 Sh.uS Sh.lE
 simp only [gN,eV,fC,kO,iB]
 refine ⟨fun h=>by rw [if_pos h],fun h=>⟨⟨by omega,by omega⟩,fun hl=>⟨by simp; omega,?_⟩,fun hl => ?_⟩⟩
 ·
  rw [if_neg h]
  refine ⟨fun hp=>⟨⟨by omega,by simpa using hp⟩,?_⟩,fun hp => ?_⟩
  ·
   simp only [List.length_append,List.length_singleton]
   rw [show (((d.length+1:Nat)):Int).toNat=d.length+1 by omega]
   exact decide_eq_decide.2 ⟨fun q=>⟨by omega,q⟩,fun q=>q.2⟩
  simp at hp; omega
 rw [if_neg h]
 symm; exact decide_eq_false (by omega)
def HK (a b:List UInt8):Bool:=decide (a≠[])&&decide (b≠[])&&(Y9 a b||Y9 b a)
theorem aKK {a b:List UInt8} (ha:a.length≤1000000000) (hb:b.length≤1000000000):Sh.rY a b=some (HK a b):=by
 apply Ok.eq
 unfold Sh.rY HK
 simp only [gN,eV,iB,aCR ha,aCR hb]
 refine ⟨fun h=>by simp [h],fun h=>⟨fun h2=>by simp [h2],fun h2=>⟨fun h3=>by simp [h,h2,h3],fun h3=>by simp [h,h2,h3]⟩⟩⟩
end Go.S
end

section
namespace Go.S
open Go
set_option maxRecDepth 100000
theorem aPv (l:List aD):Sh.dM l=some l:=by
 unfold Sh.dM
 simp [lt,gd]
theorem aEI (l:List (List UInt8)):Sh.dP l=some l:=by
 unfold Sh.dP
 simp [lt,gd]
theorem aDR (a b:List UInt8):Sh.sM a b=some (if a < b then -1 else if b < a then 1 else 0):=by
 unfold Sh.sM Sh.p8 Sh.cmp_isNaN_string
 simp only [Option.bind_some,decide_true,Bool.not_true,Bool.false_eq_true,if_false,Go.Proofs.bytesLess_eq,decide_eq_true_eq]
 by_cases h1:a < b
 ·
  simp [h1]
 simp only [h1,if_false,decide_false,Bool.false_or]
 by_cases h2:a=b
 ·
  subst h2; simp [List.lt_irrefl]
 have h3:b < a:=by
   by_cases q:b < a
   . exact q
   . exact absurd (List.le_antisymm (List.not_lt.1 q) (List.not_lt.1 h1)) h2
 simp [h2,h3]
theorem aNZ {s:Int} (h0:0≤s) (h1:s≤4000000000):IntKind.wrap .i64 (BP .u64 (IntKind.wrap .u64 s) 1)=s / 2:=by
 have e1:IntKind.wrap .u64 s=s:=IntWalk.u64_in _ (by omega)
 rw [e1]
 have e2:BP .u64 s 1=s / 2:=by
   unfold BP
   show s.fdiv (2 ^ 1)=s / 2
   rw [Int.fdiv_eq_ediv_of_nonneg s (by decide)]
   rfl
 rw [e2]
 exact IntWalk.i64_in _ (by omega)
def R (l:List aD):Prop:=l.Pairwise (fun a b=>a.path < b.path)
theorem R.sub {l l':List aD} (h:R l) (s:l'.Sublist l):R l':=List.Pairwise.sublist s h
theorem R.uniq {l:List aD} (h:R l) {a b:aD} (ha:a∈l) (hb:b∈l) (e:a.path=b.path):a=b:=by
 obtain ⟨i,hi⟩:=List.getElem?_of_mem ha
 obtain ⟨j,hj⟩:=List.getElem?_of_mem hb
 obtain ⟨hi1,hi2⟩:=List.getElem?_eq_some_iff.1 hi
 obtain ⟨hj1,hj2⟩:=List.getElem?_eq_some_iff.1 hj
 rcases Nat.lt_trichotomy i j with q | q | q
 ·
  have:=List.pairwise_iff_getElem.1 h i j hi1 hj1 q
  rw [hi2,hj2,e] at this
  exact absurd this (List.lt_irrefl _)
 ·
  subst q; rw [← hi2,← hj2]
 have:=List.pairwise_iff_getElem.1 h j i hj1 hi1 q
 rw [hi2,hj2,e] at this
 exact absurd this (List.lt_irrefl _)
def gt (l:List aD) (p:List UInt8):Option aD:=l.find? (fun f=>decide (f.path=p))
theorem aNW {l:List aD} (h:R l) {p:List UInt8} {z:aD}:gt l p=some z↔z∈l∧z.path=p:=by
 unfold gt
 constructor
 ·
  intro q
  exact ⟨List.mem_of_find?_eq_some q,by simpa using List.find?_some q⟩
 rintro ⟨hz,rfl⟩
 cases hq:l.find? (fun f=>decide (f.path=z.path)) with
 | none=>have:=List.find?_eq_none.1 hq z hz; simp at this
 | some y =>
   have h1:=List.mem_of_find?_eq_some hq
   have h2:y.path=z.path:=by simpa using List.find?_some hq
   rw [h.uniq h1 hz h2]
theorem aNV {l:List aD} {p:List UInt8}:gt l p=none ↔ ∀ z∈l,z.path≠p:=by
 unfold gt
 rw [List.find?_eq_none]
 simp
structure At (x:List aD) (p:List UInt8) (i:Int):Prop where
  i0:0≤i
  i1:i≤x.length
  lo : ∀ f∈x.take i.toNat,f.path < p
  hi : ∀ f∈x.drop i.toNat,¬ f.path < p
theorem R.aGC {x:List aD} (h:R x) {i:Nat} {z:aD} (hz:x[i]? = some z) : ∀ f∈x.take i,f.path < z.path:=fun f hf=>by
  obtain ⟨j,hj⟩:=List.getElem?_of_mem hf
  rw [List.getElem?_take] at hj
  split at hj
  . next q =>
    obtain ⟨a1,a2⟩:=List.getElem?_eq_some_iff.1 hj
    obtain ⟨b1,b2⟩:=List.getElem?_eq_some_iff.1 hz
    have:=List.pairwise_iff_getElem.1 h j i a1 b1 q
    rwa [a2,b2] at this
  . cases hj
theorem R.aEL {x:List aD} (h:R x) {i:Nat} {z:aD} (hz:x[i]? = some z) : ∀ f∈x.drop (i+1),z.path < f.path:=fun f hf=>by
  obtain ⟨j,hj⟩:=List.getElem?_of_mem hf
  rw [List.getElem?_drop] at hj
  obtain ⟨a1,a2⟩:=List.getElem?_eq_some_iff.1 hj
  obtain ⟨b1,b2⟩:=List.getElem?_eq_some_iff.1 hz
  have:=List.pairwise_iff_getElem.1 h i (i+1+j) b1 a1 (by omega)
  rwa [a2,b2] at this
theorem HM {α:Type} {x:List α} {i:Nat} {z:α} (hz:x[i]? = some z):x.drop i=z::x.drop (i+1):=by
 obtain ⟨b1,b2⟩:=List.getElem?_eq_some_iff.1 hz
 rw [List.drop_eq_getElem_cons b1,b2]
theorem aRQ {x:List aD} (h:R x) (hb:x.length≤100000000) (p:List UInt8):Ok (Sh.rQ x p) fun r=>At x p r.1∧(r.2=true ↔ ∃ z,x[r.1.toNat]? = some z∧z.path=p):=by
 unfold Sh.rQ Sh.gC
 rw [iB]
 refine mJ (I:=fun t=>0≤t.1∧t.1≤t.2∧t.2≤x.length∧(∀ f∈x.take t.1.toNat,f.path < p)∧(∀ f∈x.drop t.2.toNat,¬ f.path < p)) (μ:=fun t=>(t.2 - t.1).toNat) ?_ ⟨by simp,by simp,by simp,by simp,by simp⟩
 rintro ⟨i,j⟩ ⟨i0,i1,i2,i3,i4⟩
 dsimp only at i0 i1 i2 i3 i4 ⊢
 simp only [gN,qV,fC]
 refine ⟨fun hij=>⟨⟨by omega,by omega⟩,?_⟩,fun hij => ?_⟩
 ·
  rw [aNZ (by omega) (by omega)]
  obtain ⟨z,hz⟩:=zC (l:=x) (i:=(i+j) / 2) (by omega) (by omega)
  rw [iB,mI]
  refine ⟨by omega,z,hz,?_⟩
  unfold Sh.pL
  rw [aDR,Option.bind_some,Option.bind_some]
  simp only [gN,fC,o5]
  refine ⟨fun hc=>⟨⟨by omega,by omega⟩,⟨by omega,by omega,by omega,fun f hf => ?_,i4⟩,by omega⟩,fun hc=>⟨⟨i0,by omega,by omega,i3,fun f hf => ?_⟩,by omega⟩⟩
  ·
   have hzp:z.path < p:=by
     by_cases q:z.path < p
     . exact q
     . rw [if_neg q] at hc; split at hc <;> omega
   rw [show ((i+j) / 2+1).toNat=((i+j) / 2).toNat+1 by omega,List.take_add_one,hz] at hf
   rcases List.mem_append.1 hf with q | q
   ·
    exact List.lt_trans (h.aGC hz f q) hzp
   have:f=z:=by simpa using q
   rw [this]; exact hzp
  have hzp : ¬ z.path < p:=fun q=>hc (by rw [if_pos q]; omega)
  rw [HM hz] at hf
  rcases List.mem_cons.1 hf with q | q
  ·
   rw [q]; exact hzp
  intro hlt
  exact hzp (List.lt_trans (h.aEL hz f q) hlt)
 have hji:j=i:=by omega
 subst hji
 simp only [iB,mI,eV]
 refine ⟨fun hl => ?_,fun hl=>⟨⟨i0,i2,i3,i4⟩,?_⟩⟩
 ·
  obtain ⟨z,hz⟩:=zC (l:=x) i0 hl
  refine ⟨i0,z,hz,?_⟩
  unfold Sh.pL
  rw [aDR,Option.bind_some,eV]
  refine ⟨⟨i0,i2,i3,i4⟩,?_⟩
  rw [decide_eq_true_eq]
  have hnl : ¬ z.path < p:=i4 z (by rw [HM hz]; exact List.mem_cons_self ..)
  rw [if_neg hnl]
  constructor
  ·
   intro q
   refine ⟨z,hz,?_⟩
   by_cases hp:p < z.path
   ·
    rw [if_pos hp] at q; omega
   exact List.le_antisymm (List.not_lt.1 hp) (List.not_lt.1 hnl)
  rintro ⟨y,hy,rfl⟩
  rw [hz] at hy; cases hy
  rw [if_neg (List.lt_irrefl _)]
 simp only [Bool.false_eq_true,false_iff]
 rintro ⟨z,hz,_⟩
 have:=YZ hz
 omega
theorem At.none {x:List aD} {p:List UInt8} {i:Int} (h:R x) (a:At x p i) (hn : ¬ ∃ z,x[i.toNat]? = some z∧z.path=p) : ∀ z∈x,z.path≠p:=fun z hz e=>by
  rw [← List.take_append_drop i.toNat x] at hz
  rcases List.mem_append.1 hz with q | q
  . exact List.lt_irrefl p (e▸a.lo z q)
  . obtain ⟨y,hy⟩ : ∃ y,x[i.toNat]? = some y:=by
      cases hq:x[i.toNat]? with
      | some y=>exact ⟨y,rfl⟩
      | none =>
        have:=List.getElem?_eq_none_iff.1 hq
        rw [List.drop_of_length_le this] at q; cases q
    have hyp:y.path≠p:=fun e'=>hn ⟨y,hy,e'⟩
    rw [HM hy] at q
    rcases List.mem_cons.1 q with q | q
    . rw [q] at e; exact hyp e
    . have h1:=h.aEL hy z q
      rw [e] at h1
      have h2:=a.hi y (by rw [HM hy]; exact List.mem_cons_self ..)
      exact h2 h1
def aEW (x:List aD) (p:List UInt8):aD×Bool:=match gt x p with | some f=>(f,true) | none=>(⟨[],0,[]⟩,false)
theorem aAK {x:List aD} {p:List UInt8} {f:aD} (h:gt x p=some f):aEW x p=(f,true):=by unfold aEW; rw [h]
theorem aGY {x:List aD} {p:List UInt8} (h:gt x p=none):aEW x p=(⟨[],0,[]⟩,false):=by unfold aEW; rw [h]
theorem aUR {x:List aD} (h:R x) (hb:x.length≤100000000) (p:List UInt8):Sh.mG x p=some (aEW x p):=by
 apply Ok.eq
 unfold Sh.mG
 refine iB.2 ((aRQ h hb p).mono fun r ⟨ha,hr⟩ => ?_)
 simp only [gN,eV]
 refine ⟨fun hn => ?_,fun hn => ?_⟩
 ·
  have hf : ¬ r.2=true:=by simpa using hn
  have:=ha.none h fun q=>hf (hr.2 q)
  rw [aGY (aNV.2 this)]
 have hf:r.2=true:=by simpa using hn
 obtain ⟨z,hz,hp⟩:=hr.1 hf
 rw [iB,mI]
 refine ⟨ha.i0,z,hz,?_⟩
 rw [eV,aAK ((aNW h).2 ⟨List.mem_of_getElem? hz,hp⟩)]
end Go.S
end

section
namespace Go.S
open Go
def vF (f:aD):Prop:=K0 f.path=0∧(f.mode=1∨f.mode=2)∧f.data.length≤4096
theorem YB {p:List UInt8} (h:K0 p=0):p.length≤64:=by
 unfold K0 at h
 split at h
 ·
  omega
 omega
structure KF (x:List aD):Prop where
  v : ∀ f∈x,vF f
  r:R x
  c:x.Pairwise (fun a b=>HK a.path b.path=false)
theorem KF.sub {l l':List aD} (h:KF l) (s:l'.Sublist l):KF l':=⟨fun f hf=>h.v f (s.subset hf),h.r.sub s,List.Pairwise.sublist s h.c⟩
theorem aUP (l:List aD) (f:aD) (hb:l.length≤1000000000) (hl : ∀ z∈l,z.path.length≤1000000000) (hf:f.path.length≤1000000000):Ok (Sh.gI l f) (fun b=>b=l.any fun y=>HK y.path f.path):=by
 unfold Sh.gI Sh.jA
 rw [iB]
 refine (aSR (fun y=>HK y.path f.path) l hb (fun y=>Sh.qQ y f) (fun y hy => ?_) _ fun i=>rfl).mono fun r hr => ?_
 ·
  unfold Sh.qQ
  rw [aKK (hl y hy) hf]; rfl
 rw [eV,aMz hr]
theorem aPK {x:List aD} (hb:x.length≤1000000) {i:Int} (hl : ∀ z∈x.take i.toNat,z.path.length≤1000000000) (i0:0≤i) (hi:i < x.length) {z:aD} (hz:x[i.toNat]? = some z) :
 Ok (Sh.tG x i) fun e=>e=0↔vF z∧(∀ y,0 < i→x[(i - 1).toNat]? = some y→y.path < z.path) ∧ ∀ y∈x.take i.toNat,HK y.path z.path=false:=by
 unfold Sh.tG
 have hzm:=List.mem_of_getElem? hz
 rw [iB,mI]
 refine ⟨i0,z,hz,?_⟩
 rw [aGa,Option.bind_some]
 by_cases hc:K0 z.path=0
 ·
  rw [if_pos hc]
  refine q9 (fun b=>b=false↔(z.mode=1∨z.mode=2)) ?_ ?_
  ·
   intro b hbm
   simp only [gN,eV]
   refine ⟨fun h=>⟨fun q=>absurd q (by omega),fun ⟨⟨_,m,_⟩,_⟩=>by rw [hbm.2 m] at h; cases h⟩,fun h=>⟨fun hd=>⟨fun q=>absurd q (by omega),fun ⟨⟨_,_,q⟩,_⟩=>absurd q (by omega)⟩,fun hd => ?_⟩⟩
   have hm:=hbm.1 (by simpa using h)
   have hd':z.data.length≤4096:=by omega
   refine q9 (fun b=>b=false↔(∀ y,0 < i→x[(i - 1).toNat]? = some y→y.path < z.path)) ?_ ?_
   ·
    intro b hbm
    simp only [gN,eV]
    refine ⟨fun h=>⟨fun q=>absurd q (by omega),fun ⟨_,q,_⟩=>by rw [hbm.2 q] at h; cases h⟩,fun h => ?_⟩
    have hr:=hbm.1 (by simpa using h)
    simp only [fC,kO]
    refine ⟨⟨i0,by omega⟩,iB.2 ((aUP (x.take i.toNat) z (by rw [List.length_take]; omega) (fun y hy=>hl y hy) (by have:=YB hc; omega)).mono fun c hcc => ?_)⟩
    simp only [gN,eV]
    refine ⟨fun h=>⟨fun q=>absurd q (by omega),fun ⟨_,_,q⟩ => ?_⟩,fun h=>⟨fun _=>⟨⟨hc,hm,hd'⟩,hr,fun y hy => ?_⟩,fun _=>(by first | rfl | trivial)⟩⟩
    ·
     rw [hcc] at h
     obtain ⟨y,hy,hy2⟩:=List.any_eq_true.1 h
     rw [q y hy] at hy2; cases hy2
    cases hq:HK y.path z.path with
    | false=>rfl
    | true=>exact absurd (hcc.trans (List.any_eq_true.2 ⟨y,hy,hq⟩)) h
   intro K hK
   simp only [gN,fC]
   refine ⟨fun h=>⟨⟨by omega,by omega⟩,?_⟩,fun h=>hK _ ⟨fun _ y q=>absurd q h,fun _=>rfl⟩⟩
   obtain ⟨y,hy⟩:=zC (l:=x) (i:=i - 1) (by omega) (by omega)
   rw [iB,mI]
   refine ⟨by omega,y,hy,?_⟩
   rw [aDR,Option.bind_some]
   refine hK _ ?_
   rw [decide_eq_false_iff_not]
   constructor
   ·
    intro q y' _ hy'
    rw [hy] at hy'; cases hy'
    by_cases q2:y.path < z.path
    ·
     exact q2
    rw [if_neg q2] at q; split at q <;> omega
   intro q
   rw [if_pos (q y h hy)]; omega
  intro K hK
  simp only [gN]
  refine ⟨fun h=>hK _ ⟨fun _ => .inl h,fun _=>rfl⟩,fun h=>hK _ ⟨fun q => .inr (by simpa using q),fun q => ?_⟩⟩
  rcases q with q | q
  ·
   exact absurd q h
  simp [q]
 rw [if_neg hc,eV]
 exact ⟨fun h=>absurd h hc,fun ⟨⟨h,_⟩,_⟩=>absurd h hc⟩
theorem aE4 {x:List aD} {i:Int} (i0:0≤i) {z:aD} (hz:x[i.toNat]? = some z) (hg:KF (x.take i.toNat)) (hv:vF z) (hr : ∀ y,0 < i→x[(i - 1).toNat]? = some y→y.path < z.path) (hc : ∀ y∈x.take i.toNat,HK y.path z.path=false):KF (x.take (i+1).toNat):=by
 rw [qZ i0 hz]
 have hlt : ∀ a∈x.take i.toNat,a.path < z.path:=fun a ha=>by
   have hpos:0 < i:=by
     rcases Int.lt_or_le 0 i with q | q
     . exact q
     . rw [show i.toNat=0 by omega] at ha; simp at ha
   have hil:=YZ hz
   obtain ⟨y,hy⟩:=zC (l:=x) (i:=i - 1) (by omega) (by omega)
   have hyz:=hr y hpos hy
   have he:x.take i.toNat=x.take (i - 1).toNat++[y]:=by
     have:=qZ (l:=x) (i:=i - 1) (by omega) hy
     rwa [show i - 1+1=i by omega] at this
   rw [he] at ha
   rcases List.mem_append.1 ha with q | q
   . have hR:=hg.r
     rw [he] at hR
     have:=(List.pairwise_append.1 hR).2.2 a q y (List.mem_singleton_self _)
     exact List.lt_trans this hyz
   . rw [List.mem_singleton.1 q]; exact hyz
 refine ⟨fun f hf => ?_,List.pairwise_append.2 ⟨hg.r,List.pairwise_singleton _ _,fun a ha b hb => ?_⟩,List.pairwise_append.2 ⟨hg.c,List.pairwise_singleton _ _,fun a ha b hb => ?_⟩⟩
 ·
  rcases List.mem_append.1 hf with q | q
  ·
   exact hg.v f q
  rw [List.mem_singleton.1 q]; exact hv
 ·
  rw [List.mem_singleton.1 hb]; exact hlt a ha
 rw [List.mem_singleton.1 hb]; exact hc a ha
theorem aLY {x:List aD} (hb:x.length≤1000000):Ok (Sh.oS x) fun e=>e.isNil=true↔x.length≤64∧KF x:=by
 unfold Sh.oS
 simp only [gN,eV]
 refine ⟨fun h=>⟨fun q=>(by cases q),fun q=>absurd q.1 (by omega)⟩,fun h64 => ?_⟩
 refine mJ (I:=fun i=>0≤i∧i≤x.length∧KF (x.take i.toNat)) (μ:=fun i=>(x.length - i).toNat) ?_ ⟨by omega,by omega,⟨fun f h=>(by simp at h),by simp [R],by simp⟩⟩
 rintro i ⟨i0,i1,hg⟩
 simp only [gN,qV,eV]
 refine ⟨fun hi => ?_,fun hi => ?_⟩
 ·
  obtain ⟨z,hz⟩:=zC (l:=x) i0 hi
  refine iB.2 ((aPK hb (fun y hy=>by have:=YB (hg.v y hy).1; omega) i0 hi hz).mono fun e he => ?_)
  simp only [gN,fC,o5,qV,eV]
  refine ⟨fun h=>⟨⟨by omega,by omega⟩,⟨by omega,by omega,?_⟩,by omega⟩,fun h=>⟨fun q=>(by cases q),fun ⟨_,q⟩=>absurd (he.2 ?_) h⟩⟩
  ·
   obtain ⟨a,b,c⟩:=he.1 h
   exact aE4 i0 hz hg a b c
  refine ⟨q.v z (List.mem_of_getElem? hz),fun y hpos hy => ?_,fun y hy => ?_⟩
  ·
   exact q.r.aGC hz y (List.mem_of_getElem? (i:=(i - 1).toNat) (by rw [List.getElem?_take,if_pos (by omega)]; exact hy))
  obtain ⟨j,hj⟩:=List.getElem?_of_mem hy
  rw [List.getElem?_take] at hj
  split at hj
  ·
   next hlt =>
   have h1:=(List.getElem?_eq_some_iff.1 hj)
   have h2:=(List.getElem?_eq_some_iff.1 hz)
   have:=List.pairwise_iff_getElem.1 q.c j i.toNat h1.1 h2.1 hlt
   rwa [h1.2,h2.2] at this
  cases hj
 rw [List.take_of_length_le (by omega)] at hg
 exact ⟨fun _=>⟨by omega,hg⟩,fun _=>rfl⟩
end Go.S
end

section
namespace Go.S
open Go
def aLK (ls:List (List aD)) (r:List (List UInt8)):Prop:=r.Pairwise (· < ·) ∧ ∀ x,x∈r ↔ ∃ l∈ls,∃ f∈l,f.path=x
theorem aGB {l l':List (List UInt8)} (h:l.Pairwise (· < ·)) (h':l'.Pairwise (· < ·)) (m : ∀ z,z∈l↔z∈l'):l=l':=by
 have nd : ∀ {l:List (List UInt8)},l.Pairwise (· < ·)→l.Nodup:=fun {l} h=>h.imp (fun {a b} (q:a < b) (e:a=b)=>List.lt_irrefl b (e▸q))
 exact List.Perm.eq_of_pairwise (le:=fun a b=>a≤b) (fun a b _ _ h1 h2=>List.le_antisymm h1 h2) (h.imp fun q=>List.le_of_lt q) (h'.imp fun q=>List.le_of_lt q) ((List.perm_ext_iff_of_nodup (nd h) (nd h')).2 m)
theorem aOW (ls:List (List aD)) (hn:ls.length≤8) (hl : ∀ l∈ls,l.length≤1000000 ∧ ∀ f∈l,f.path.length≤1000000):Ok (Sh.xY ls) (fun r=>aLK ls r∧r.length≤8000000):=by
 unfold Sh.xY
 refine mJ (I:=fun t=>0≤t.1∧t.1≤ls.length∧(t.2.length:Int)≤t.1*1000000 ∧ ∀ x,x∈t.2 ↔ ∃ l∈ls.take t.1.toNat,∃ f∈l,f.path=x) (μ:=fun t=>(ls.length - t.1).toNat) ?_ ⟨by simp,by simp,by simp,by simp⟩
 rintro ⟨i,acc⟩ ⟨i0,i1,i2,i3⟩
 dsimp only at i0 i1 i2 i3 ⊢
 simp only [gN,qV,iB,mI]
 refine ⟨fun hi => ?_,fun hi => ?_⟩
 ·
  obtain ⟨l,hz⟩:=zC (l:=ls) i0 hi
  have hll:=hl l (List.mem_of_getElem? hz)
  refine ⟨i0,l,hz,?_⟩
  have hmul:(i+1)*1000000=i*1000000+1000000:=by rw [Int.add_mul]; omega
  have hle:i*1000000≤8000000:=by omega
  refine mJ (I:=fun t=>0≤t.1∧t.1≤l.length∧(t.2.length:Int)≤i*1000000+t.1 ∧ ∀ x,x∈t.2↔(∃ l∈ls.take i.toNat,∃ f∈l,f.path=x) ∨ ∃ f∈l.take t.1.toNat,f.path=x) (μ:=fun t=>(l.length - t.1).toNat) ?_ ⟨by simp,by simp,by simpa using i2,by simpa using i3⟩
  rintro ⟨j,acc2⟩ ⟨j0,j1,j2,j3⟩
  dsimp only at j0 j1 j2 j3 ⊢
  simp only [gN,qV,iB,mI,fC,kO,o5]
  refine ⟨fun hj => ?_,fun hj=>⟨⟨by omega,by omega⟩,⟨by omega,by omega,by omega,fun x => ?_⟩,by omega⟩⟩
  ·
   obtain ⟨f,hf⟩:=zC (l:=l) j0 hj
   have hfl:=hll.2 f (List.mem_of_getElem? hf)
   refine ⟨j0,f,hf,⟨by omega,by omega⟩,⟨by omega,by omega⟩,⟨by omega,by omega,by simp only [List.length_cons]; omega,fun x => ?_⟩,by omega⟩
   rw [List.mem_cons,j3,qZ j0 hf]
   constructor
   ·
    rintro (q | q | ⟨g,hg,q⟩)
    ·
     exact .inr ⟨f,by simp,q.symm⟩
    ·
     exact .inl q
    exact .inr ⟨g,List.mem_append_left _ hg,q⟩
   rintro (q | ⟨g,hg,q⟩)
   ·
    exact .inr (.inl q)
   rcases List.mem_append.1 hg with h | h
   ·
    exact .inr (.inr ⟨g,h,q⟩)
   rw [List.mem_singleton.1 h] at q; exact .inl q.symm
  rw [List.take_of_length_le (l:=l) (i:=j.toNat) (by omega)] at j3
  rw [j3,qZ i0 hz]
  constructor
  ·
   rintro (⟨m,hm,q⟩ | q)
   ·
    exact ⟨m,List.mem_append_left _ hm,q⟩
   exact ⟨l,List.mem_append_right _ (List.mem_singleton_self _),q⟩
  rintro ⟨m,hm,q⟩
  rcases List.mem_append.1 hm with h | h
  ·
   exact .inl ⟨m,h,q⟩
  rw [List.mem_singleton.1 h] at q; exact .inr q
 rw [List.take_of_length_le (by omega)] at i3
 simp only [fC,kO]
 refine ⟨by omega,?_⟩
 rw [aEI,Option.bind_some,eV]
 exact ⟨⟨XA acc,fun x=>(aA1 acc x).trans (i3 x)⟩,by have:=aG8 acc; omega⟩
end Go.S
end

section
namespace Go.S
open Go
end Go.S
end

section
namespace Go.S
open Go
end Go.S
end

section
namespace Go.S
open Go
end Go.S
end

section
namespace Go.P
abbrev aV:=List UInt8
end Go.P
namespace Go.P
end Go.P
namespace Go.P
structure aLI where
  op:Int
  line:aV
structure Mat where
  a:Int
  b:Int
  n:Int
def aTz (x:aV) (f:List aV→Nat):List aV→Nat
  | []=>0
  | y::b=>if x=y then f b+1 else max (f (y::b)) (aTz x f b)
def lcs:List aV→List aV→Nat
  | []=>fun _=>0
  | x::a=>aTz x (lcs a)
theorem aOO (a:List aV):lcs a []=0:=by cases a <;> rfl
def QV (a b:List aV) (n:List Int) (p:Nat→Nat→Prop):Prop:=n.length=(a.length+1)*(b.length+1) ∧ ∀ i j,i≤a.length→j≤b.length→p i j→n[i*(b.length+1)+j]? = some (lcs (a.drop i) (b.drop j):Int)
theorem aIE {i j la lb:Nat} (h1:i≤la) (h2:j≤lb):i*(lb+1)+j < (la+1)*(lb+1):=by
 have:i*(lb+1)≤la*(lb+1):=Nat.mul_le_mul_right _ h1
 rw [Nat.add_mul la]
 omega
theorem aOF {i j i' j' m:Nat} (h1:j < m) (h2:j' < m) (h:i*m+j=i'*m+j'):i=i'∧j=j':=by
 have hm:0 < m:=by omega
 have a1:(i*m+j) / m=i:=by rw [Nat.add_comm,Nat.add_mul_div_right _ _ hm,Nat.div_eq_of_lt h1,Nat.zero_add]
 have a2:(i'*m+j') / m=i':=by rw [Nat.add_comm,Nat.add_mul_div_right _ _ hm,Nat.div_eq_of_lt h2,Nat.zero_add]
 rw [h,a2] at a1
 subst a1
 exact ⟨rfl,by omega⟩
theorem QV.zero (a b:List aV):QV a b (List.replicate ((a.length+1)*(b.length+1)) 0) (fun i j=>i=a.length∨j=b.length):=by
 refine ⟨by simp,fun i j hi hj h => ?_⟩
 rw [List.getElem?_replicate,if_pos (aIE hi hj)]
 rcases h with rfl | rfl
 ·
  simp [lcs]
 simp [aOO]
theorem QV.set {a b:List aV} {n:List Int} {p q:Nat→Nat→Prop} {i j:Nat} (h:QV a b n p) (hi:i≤a.length) (hj:j≤b.length) (hq : ∀ x y,q x y→p x y∨(x=i∧y=j)):QV a b (n.set (i*(b.length+1)+j) (lcs (a.drop i) (b.drop j):Int)) q:=by
 refine ⟨by simp [h.1],fun x y hx hy hxy => ?_⟩
 by_cases e:i*(b.length+1)+j=x*(b.length+1)+y
 ·
  obtain ⟨e1,e2⟩:=aOF (by omega) (by omega) e
  subst e1; subst e2
  rw [List.getElem?_set_self (by rw [h.1]; exact aIE hi hj)]
 rw [List.getElem?_set_ne e]
 rcases hq x y hxy with h' | ⟨rfl,rfl⟩
 ·
  exact h.2 x y hx hy h'
 exact absurd rfl e
theorem QV.sub {a b:List aV} {n:List Int} {p q:Nat→Nat→Prop} (h:QV a b n p) (hq : ∀ x y,x≤a.length→y≤b.length→q x y→p x y):QV a b n q:=⟨h.1,fun i j hi hj hxy=>h.2 i j hi hj (hq i j hi hj hxy)⟩
end Go.P
namespace Go.P
end Go.P
namespace Go.P
end Go.P
namespace Go.P
end Go.P
namespace Go.P
section
variable {a b:List aV} {i j:Int} {x y:aV}
end
end Go.P
namespace Go.P
section
variable {a b:List aV} {i j:Int} {x y:aV} {o s r R:List aLI}
end
end Go.P
namespace Go.P
def Bd (o:List Mat) (i j:Int):Prop := ∀ m∈o,0≤m.a∧0≤m.b∧0≤m.n∧m.a+m.n≤i∧m.b+m.n≤j
theorem Bd.up {o:List Mat} {i j i' j':Int} (h:Bd o i j) (h1:i≤i') (h2:j≤j'):Bd o i' j':=fun m hm=>by have:=h m hm; omega
theorem Bd.snoc {o:List Mat} {i j:Int} (h:Bd o i j) (h1:0≤i) (h2:0≤j):Bd (o++[⟨i,j,0⟩]) i j:=fun m hm=>by
  rcases List.mem_append.1 hm with hm | hm
  . exact h m hm
  . cases List.mem_singleton.1 hm; simp only; omega
end Go.P
end

section
namespace Go.P
end Go.P
namespace Go.P
end Go.P
end

section
namespace Go.P
def aMu (o:List Int) (m:Mat):Nat→List Int
  | 0=>o
  | k+1=>(aMu o m k).set (m.a+k).toNat (m.b+k)
def fill (o:List Int) (ms:List Mat):List Int:=ms.foldl (fun o m=>aMu o m m.n.toNat) o
def c1 (l:List aLI):Int:=(l.filter fun e=>decide (¬ e.op=3)).length
def c2 (l:List aLI):Int:=(l.filter fun e=>decide (¬ e.op=2)).length
end Go.P
end

section
namespace Go.P
structure Chunk where
  base:List aV
  ours:List aV
  H8:List aV
  aLZ:Bool
  out:List aV
deriving DecidableEq
def aAF (b o t:List aV):Chunk:=if o=b then ⟨b,o,t,false,t⟩ else if t=b then ⟨b,o,t,false,o⟩ else if o=t then ⟨b,o,t,false,o⟩ else ⟨b,o,t,true,[]⟩
def join:List aV→aV
  | []=>[]
  | x::r=>x++join r
end Go.P
end

section
namespace Go.P
def oF:aV→List aV
  | []=>[]
  | c::r=>if c=10 then [10]::oF r else match oF r with
    | []=>[[c]]
    | l::t=>(c::l)::t
theorem aTF (r:aV):oF (10::r)=[10]::oF r:=by simp [oF]
theorem aCO {c:UInt8} {r l:aV} {t:List aV} (h:c≠10) (e:oF r=l::t):oF (c::r)=(c::l)::t:=by simp [oF,h,e]
theorem aBy (c:UInt8) (r:aV):Lib.indexByte (c::r) 10=if c=10 then 0 else if Lib.indexByte r 10 = -1 then -1 else Lib.indexByte r 10+1:=by
 simp [Lib.indexByte]
theorem SL : ∀ (s:aV),-1≤Lib.indexByte s 10∧(Lib.indexByte s 10 < s.length)
  | []=>by simp [Lib.indexByte]
  | c::r=>by
    have:=SL r
    rw [aBy]
    simp only [List.length_cons]
    split
    . omega
    . split <;> omega
theorem aFy : ∀ (s:aV),s≠[] → ∀ i:Int,(i=Lib.indexByte s 10 ∧ ¬ Lib.indexByte s 10 < 0∨i=s.length - 1∧Lib.indexByte s 10 < 0)→oF s=s.take (i+1).toNat::oF (s.drop (i+1).toNat)
  | [],h,_,_=>absurd rfl h
  | c::r,_,i,hi=>by
    have hf:=SL r
    rw [aBy] at hi
    by_cases hc:c=10
    . subst hc
      simp only [if_true] at hi
      have:i=0:=by omega
      subst this
      simp [oF]
    . simp only [hc,if_false] at hi
      by_cases hr:r=[]
      . subst hr
        simp [Lib.indexByte] at hi
        subst hi
        simp [oF,hc]
      . have hlen:0 < r.length:=List.length_pos_iff.2 hr
        have ih:=aFy r hr (i - 1) (by
          by_cases hq:Lib.indexByte r 10 = -1
          . simp only [hq,if_true,List.length_cons] at hi ⊢; omega
          . simp only [hq,if_false] at hi; omega)
        have h0:0≤i - 1:=by
          by_cases hq:Lib.indexByte r 10 = -1
          . simp only [hq,if_true,List.length_cons] at hi; omega
          . simp only [hq,if_false] at hi; omega
        rw [show (i - 1+1).toNat=i.toNat by omega] at ih
        rw [show (i+1).toNat=i.toNat+1 by omega]
        simpa using aCO hc ih
theorem aGA {s s0:aV} {i:Int} {o p q:List aV} (hs:s≠[]) (hi:i=Lib.indexByte s 10 ∧ ¬ Lib.indexByte s 10 < 0∨i=s.length - 1∧Lib.indexByte s 10 < 0) (ho:o++oF s=oF s0) (hp:p=[s.take (i+1).toNat]) (hq:q=o++p):q++oF (s.drop (i+1).toNat)=oF s0:=by
 rw [hq,hp,← ho,aFy s hs i hi,List.append_assoc]; rfl
theorem aG7 (l:List aV):join l=l.flatten:=by
 induction l with
 | nil=>rfl
 | cons x r ih=>simp [join,ih]
theorem W9 : ∀ s:aV,join (oF s)=s
  | []=>rfl
  | c::r=>by
    have ih:=W9 r
    by_cases hc:c=10
    . subst hc; rw [aTF]; simp [join,ih]
    . cases hr:oF r with
      | nil=>rw [hr] at ih; simp [join] at ih; subst ih; simp [oF,hc,join]
      | cons l t=>rw [aCO hc hr]; rw [hr] at ih; simp [join] at ih ⊢; exact ih
end Go.P
end

section
namespace Go.P
end Go.P
end

section
namespace Go.P
end Go.P
end

section
namespace Go.P
def sl (l:List aV) (a c:Int):List aV:=(l.drop a.toNat).take (c.toNat - a.toNat)
structure Wk where
  i:Int
  j:Int
  k:Int
  out:List Chunk
  op:Bool
def put (b o t:List aV) (s:Wk) (i j k:Int):Wk:=if s.i < i∨s.j < j∨s.k < k then ⟨i,j,k,s.out++[aAF (sl b s.i i) (sl o s.j j) (sl t s.k k)],false⟩ else ⟨i,j,k,s.out,s.op⟩
def aBk (x:Chunk) (line:aV):Chunk:=⟨x.base++[line],x.ours++[line],x.H8++[line],x.aLZ,x.out++[line]⟩
def aII:Chunk:=⟨[],[],[],false,[]⟩
def aA0 (s:Wk) (line:aV):Wk:=⟨s.i+1,s.j+1,s.k+1,(if s.op then s.out.dropLast else s.out)++[aBk (if s.op then s.out.getLastD aII else aII) line],true⟩
end Go.P
end

section
namespace Go.P
def Sm (N:Int) (l:List Chunk):Prop := ∀ q∈l,(q.base.length:Int)≤N∧(q.ours.length:Int)≤N∧(q.H8.length:Int)≤N∧(q.out.length:Int)≤N
theorem Sm.up {N N':Int} {l:List Chunk} (h:Sm N l) (hn:N≤N'):Sm N' l:=fun q hq=>by have:=h q hq; omega
end Go.P
namespace Go.P
end Go.P
end

section
namespace Go.P
end Go.P
end

section
namespace Go.P
def Kept (x:Chunk):Prop:=x.ours=x.base∧x.H8=x.base∧x.out=x.base∧x.aLZ=false
def Good (x:Chunk):Prop:=Kept x∨x=aAF x.base x.ours x.H8
theorem YC (b o t:List aV):(aAF b o t).base=b∧(aAF b o t).ours=o∧(aAF b o t).H8=t:=by
 unfold aAF; (repeat' split) <;> exact ⟨rfl,rfl,rfl⟩
theorem aGX (b o t:List aV):Good (aAF b o t) := .inr (by obtain ⟨h1,h2,h3⟩:=YC b o t; rw [h1,h2,h3])
theorem aBG {l:List aV} {a c:Int} (h0:0≤a) (h:a≤c):l.take a.toNat++sl l a c=l.take c.toNat:=by
 unfold sl
 rw [show c.toNat=a.toNat+(c.toNat - a.toNat) by omega,List.take_add,show a.toNat+(c.toNat - a.toNat) - a.toNat=c.toNat - a.toNat by omega]
structure aBj (b o t:List aV) (s:Wk):Prop where
  base:s.out.flatMap (·.base)=b.take s.i.toNat
  ours:s.out.flatMap (·.ours)=o.take s.j.toNat
  H8:s.out.flatMap (·.H8)=t.take s.k.toNat
  good : ∀ c∈s.out,Good c
  op:s.op=true → ∃ fr x,s.out=fr++[x]∧Kept x
theorem aBj.put {b o t:List aV} {s:Wk} (h:aBj b o t s) {i j k:Int} (i0:0≤s.i) (i1:s.i≤i) (j0:0≤s.j) (j1:s.j≤j) (k0:0≤s.k) (k1:s.k≤k):aBj b o t (put b o t s i j k):=by
 obtain ⟨h1,h2,h3,h4,h5⟩:=h
 obtain ⟨g1,g2,g3⟩:=YC (sl b s.i i) (sl o s.j j) (sl t s.k k)
 unfold P.put
 split
 ·
  refine ⟨?_,?_,?_,fun c hc => ?_,fun q=>by cases q⟩
  ·
   simp only [List.flatMap_append,h1,List.flatMap_cons,List.flatMap_nil,List.append_nil,g1,aBG i0 i1]
  ·
   simp only [List.flatMap_append,h2,List.flatMap_cons,List.flatMap_nil,List.append_nil,g2,aBG j0 j1]
  ·
   simp only [List.flatMap_append,h3,List.flatMap_cons,List.flatMap_nil,List.append_nil,g3,aBG k0 k1]
  rcases List.mem_append.1 hc with q | q
  ·
   exact h4 c q
  cases List.mem_singleton.1 q; exact aGX _ _ _
 have e1:i=s.i:=by omega
 have e2:j=s.j:=by omega
 have e3:k=s.k:=by omega
 subst e1; subst e2; subst e3
 exact ⟨h1,h2,h3,h4,h5⟩
theorem KH {x:Chunk} {l:aV} (h:Kept x):Kept (aBk x l):=by
 obtain ⟨h1,h2,h3,h4⟩:=h
 simp [Kept,aBk,h1,h2,h3,h4]
theorem SO {s:Wk} {line:aV} (f:Chunk→List aV) (hf : ∀ x l,f (aBk x l)=f x++[l]) (hn:f aII=[]) (hop:s.op=true → ∃ fr x,s.out=fr++[x]∧Kept x):(aA0 s line).out.flatMap f=s.out.flatMap f++[line]:=by
 unfold aA0
 cases h:s.op with
 | true =>
   obtain ⟨fr,x,hx,_⟩:=hop h
   simp [hx,hf]
 | false=>simp [hf,hn]
theorem qZ {l:List aV} {n:Int} {z:aV} (h0:0≤n) (h:l[n.toNat]? = some z):l.take n.toNat++[z]=l.take (n+1).toNat:=by
 rw [show (n+1).toNat=n.toNat+1 by omega,List.take_add_one,h]; rfl
theorem aBj.keep {b o t:List aV} {s:Wk} {line:aV} (h:aBj b o t s) (i0:0≤s.i) (j0:0≤s.j) (k0:0≤s.k) (h1:b[s.i.toNat]? = some line) (h2:o[s.j.toNat]? = some line) (h3:t[s.k.toNat]? = some line):aBj b o t (aA0 s line):=by
 refine ⟨?_,?_,?_,fun c hc => ?_,fun _ => ?_⟩
 ·
  rw [SO _ (fun _ _=>rfl) rfl h.op,h.base]; exact qZ i0 h1
 ·
  rw [SO _ (fun _ _=>rfl) rfl h.op,h.ours]; exact qZ j0 h2
 ·
  rw [SO _ (fun _ _=>rfl) rfl h.op,h.H8]; exact qZ k0 h3
 ·
  unfold aA0 at hc
  cases ho:s.op with
  | true =>
    obtain ⟨fr,x,hx,hk⟩:=h.op ho
    simp only [ho,hx,if_true,List.dropLast_concat,List.mem_append,List.mem_singleton] at hc
    rcases hc with q | rfl
    . exact h.good c (by rw [hx]; simp [q])
    . refine .inl (KH ?_)
      simpa using hk
  | false =>
    simp only [ho,List.mem_append,List.mem_singleton] at hc
    rcases hc with q | rfl
    . exact h.good c q
    . exact .inl (KH ⟨rfl,rfl,rfl,rfl⟩)
 unfold aA0
 cases ho:s.op with
 | true =>
   obtain ⟨fr,x,hx,hk⟩:=h.op ho
   exact ⟨fr,aBk x line,by simp [hx],KH hk⟩
 | false=>exact ⟨s.out,aBk aII line,by simp,KH ⟨rfl,rfl,rfl,rfl⟩⟩
end Go.P
end

section
namespace Go.P
end Go.P
end

section
namespace Go.S.LP
open Go Go.P
theorem aL0 (l:List aV):Sh.dP l=some l:=by
 unfold Sh.dP
 simp [gd,lt]
theorem QI (s0:aV) (h:s0.length≤1048576):Sh.x4 s0=some (P.oF s0):=by
 apply Ok.eq
 unfold Sh.x4
 refine mJ (I:=fun x=>x.2++P.oF x.1=P.oF s0∧x.2.length+x.1.length≤s0.length) (μ:=fun x=>x.1.length) ?_ ⟨rfl,by simp⟩
 rintro ⟨s,o⟩ ⟨ho,hl⟩
 simp only [gN,qV,iB,fC,kO,o5,aDO,eV,aL0,aBE] at *
 refine ⟨fun hs=>by subst hs; simpa [P.oF] using ho,fun hs => ?_⟩
 obtain ⟨f1,f2⟩:=SL s
 have f3:0 < s.length:=List.length_pos_iff.2 hs
 have key : ∀ i:Int,(i=Lib.indexByte s 10 ∧ ¬ Lib.indexByte s 10 < 0∨i=s.length - 1∧Lib.indexByte s 10 < 0)→eF (i+1)∧((0:Int)≤i+1∧i+1≤s.length)∧(o.length+[s.take (i+1).toNat].length≤4294967296) ∧
     ((o++[s.take (i+1).toNat])++P.oF (s.drop (i+1).toNat)=P.oF s0∧(o++[s.take (i+1).toNat]).length+(s.drop (i+1).toNat).length≤s0.length)∧(s.drop (i+1).toNat).length < s.length:=fun i hi=>by
   refine ⟨⟨by omega,by omega⟩,⟨by omega,by omega⟩,by simp; omega,⟨aGA hs hi ho rfl rfl,by simp; omega⟩,by simp; omega⟩
 refine ⟨fun h1=>⟨⟨by omega,by omega⟩,?_⟩,fun h1 => ?_⟩
 ·
  obtain ⟨k1,k2,k3,k4,k5⟩:=key _ (.inr ⟨rfl,h1⟩)
  exact ⟨k1,k2,k3,k1,k2,k4,k5⟩
 obtain ⟨k1,k2,k3,k4,k5⟩:=key _ (.inl ⟨rfl,h1⟩)
 exact ⟨k1,k2,k3,k1,k2,k4,k5⟩
theorem aG6 (l:List aV):SN l []=join l:=by
 unfold SN
 rw [aG7]
 cases l with
 | nil=>rfl
 | cons x r=>rw [Lib.join_cons]; simp [Lib.joinTail]
theorem aKY (l:List aV) (h1:l.length≤1048576) (h2:(join l).length≤1048576):Sh.DQ l=some (join l):=by
 unfold Sh.DQ
 rw [aG6]
 unfold gd lt
 rw [if_pos ⟨by omega,by omega⟩]
theorem VZ : ∀ s:aV,(P.oF s).length≤s.length
  | []=>Nat.le_refl _
  | c::r=>by
    have ih:=VZ r
    simp only [P.oF,List.length_cons]
    split
    . simp; omega
    . cases h:P.oF r with
      | nil=>simp
      | cons l t=>rw [h] at ih; simp at ih ⊢; omega
end Go.S.LP
end

section
namespace Go.S
theorem aON:Sh.zF=some true:=by decide +kernel
end Go.S
end

section
namespace Go.S
open Go
theorem XY : ∀ s:aV,(P.oF s).length≤s.length
  | []=>Nat.le_refl _
  | c::r=>by
    have ih:=XY r
    simp only [P.oF,List.length_cons]
    split
    . simp; omega
    . cases h:P.oF r with
      | nil=>simp
      | cons x y=>rw [h] at ih; simp at ih ⊢; omega
def qM (d:aV):List aD:=[⟨[102],1,d⟩]
theorem LS {d:aV} (h:d.length≤60):(qM d).length≤64∧KF (qM d):=by
 refine ⟨by simp [qM],⟨fun f hf => ?_,?_,?_⟩⟩
 ·
  rw [List.mem_singleton.1 hf]
  exact ⟨(by decide +kernel:K0 [102]=0),.inl rfl,by dsimp only; omega⟩
 ·
  exact List.pairwise_singleton ..
 exact List.pairwise_singleton ..
theorem aOU (d:aV):gt (qM d) [102]=some ⟨[102],1,d⟩:=by simp [gt,qM]
theorem aVc {a b:aV} (ha:a.length≤60) (hb:b.length≤60) (x y:aV):Sh.D3 [102] (qM a) (qM b) (qM a) x y=some (⟨[102],1,b⟩,true,false):=by
 have of1 : ∀ d:aV,d.length≤60→Sh.zW (qM d) [102]=some ⟨[102],1,d,true⟩:=fun d hd=>by
   unfold Sh.zW
   rw [aUR (LS hd).2.r (by simp [qM]),Option.bind_some,aAK (aOU d)]
 apply Ok.eq
 unfold Sh.D3
 rw [of1 a ha,Option.bind_some,of1 b hb,Option.bind_some,Option.bind_some]
 refine q9 (fun v=>v=true) ?_ ?_
 ·
  rintro v rfl
  rw [if_pos rfl]
  exact eV.2 rfl
 intro K hK
 rw [gN]
 exact ⟨fun _=>hK _ rfl,fun _=>hK _ (by simp)⟩
theorem aRP (d:aV):Sh.zA (qM d)=some gR.nil:=by
 apply Ok.eq
 unfold Sh.zA
 rw [if_neg (by simp [qM])]
 refine mJ (I:=fun i=>0≤i∧i≤1) (μ:=fun i=>(1 - i).toNat) ?_ ⟨by omega,by omega⟩
 rintro i ⟨i0,i1⟩
 have hl:((qM d).length:Int)=1:=rfl
 rw [gN]
 refine ⟨fun hi => ?_,fun _=>qV.2 (eV.2 rfl)⟩
 obtain rfl:i=0:=by omega
 refine iB.2 (mI.2 ⟨by omega,⟨[102],1,d⟩,rfl,fC.2 ⟨⟨by omega,by omega⟩,kO.2 ?_⟩⟩)
 rw [show Sh.gA ((qM d).take (0:Int).toNat) ⟨[102],1,d⟩=some false from ?_,Option.bind_some,if_neg (by simp)]
 ·
  exact fC.2 ⟨⟨by omega,by omega⟩,o5.2 ⟨⟨by omega,by omega⟩,by omega⟩⟩
 apply Ok.eq
 unfold Sh.gA Sh.iO
 refine iB.2 (mJ (I:=fun i=>i=0) (μ:=fun i=>0) ?_ rfl)
 rintro i rfl
 rw [gN]
 exact ⟨fun h=>absurd h (by simp),fun _=>qV.2 (eV.2 (eV.2 (by simp)))⟩
theorem aST {a b:aV} (ha:a.length≤60) (hb:b.length≤60) (x y:aV):Sh.sR (qM a) (qM b) (qM a) x y=some (⟨qM b,[],[]⟩,gR.nil):=by
 apply Ok.eq
 unfold Sh.sR
 refine kO.2 (mJ (I:=fun i=>0≤i∧i≤3) (μ:=fun i=>(3 - i).toNat) ?_ ⟨by omega,by omega⟩)
 rintro i ⟨i0,i1⟩
 have hl:(([qM a,qM b,qM a]:List (List aD)).length:Int)=3:=rfl
 rw [gN]
 refine ⟨fun hi => ?_,fun _=>qV.2 (kO.2 ?_)⟩
 ·
  obtain ⟨z,hz⟩:=zN (l:=[qM a,qM b,qM a]) i0 hi
  refine iB.2 (mI.2 ⟨i0,z,hz,?_⟩)
  have hg:z.length≤64∧KF z:=by
    have:=List.mem_of_getElem? hz
    simp only [List.mem_cons,List.not_mem_nil,or_false] at this
    rcases this with rfl | rfl | rfl
    . exact LS ha
    . exact LS hb
    . exact LS ha
  refine iB.2 ((aLY (x:=z) (by have:=hg.1; omega)).mono fun e he => ?_)
  rw [if_pos (he.2 hg)]
  exact fC.2 ⟨⟨by omega,by omega⟩,o5.2 ⟨⟨by omega,by omega⟩,by omega⟩⟩
 refine iB.2 ((aOW [qM a,qM b,qM a] (by simp) (fun l hl => ?_)).mono ?_)
 ·
  simp only [List.mem_cons,List.not_mem_nil,or_false] at hl
  rcases hl with rfl | rfl | rfl <;> exact ⟨by simp [qM],fun f hf=>by rw [List.mem_singleton.1 hf]; simp⟩
 rintro ps ⟨hp,_⟩
 obtain rfl:ps=[[102]]:=aGB hp.1 (List.pairwise_singleton ..) fun z=>by
   rw [hp.2 z]
   simp [qM,eq_comm]
 refine mJ (I:=fun t=>(t.1=0∧t.2=[])∨(t.1=1∧t.2=qM b)) (μ:=fun t=>(1 - t.1).toNat) ?_ (.inl ⟨rfl,rfl⟩)
 rintro ⟨i,c⟩ h
 dsimp only at h ⊢
 rcases h with ⟨rfl,rfl⟩ | ⟨rfl,rfl⟩
 ·
  rw [if_pos (by decide)]
  refine iB.2 (mI.2 ⟨by omega,[102],rfl,?_⟩)
  rw [aVc ha hb,Option.bind_some]
  dsimp only
  refine q9 (fun c=>c=qM b) ?_ ?_
  ·
   rintro c rfl
   rw [if_neg (by simp)]
   exact fC.2 ⟨⟨by omega,by omega⟩,o5.2 ⟨.inr ⟨rfl,rfl⟩,by dsimp only; omega⟩⟩
  intro K hK
  rw [if_pos rfl]
  exact kO.2 (fC.2 ⟨by simp,kO.2 (hK _ rfl)⟩)
 rw [if_neg (by decide)]
 refine qV.2 ?_
 rw [aRP,Option.bind_some,if_pos (by rfl),aPv,Option.bind_some,aEI,show Sh.eO []=some [] from rfl,Option.bind_some,Option.bind_some]
 exact eV.2 rfl
theorem aF8 (a b:aV):Sh.sD a b=some true:=by
 apply Ok.eq
 unfold Sh.sD
 rw [aON,Option.bind_some,if_neg (by simp)]
 refine q9 (fun x=>x=false→a.length≤60∧b.length≤60) ?_ ?_
 ·
  intro x hx
  rw [gN]
  refine ⟨fun _=>eV.2 rfl,fun h => ?_⟩
  obtain ⟨ha,hb⟩:=hx (by simpa using h)
  have la:=XY a
  have lb:=XY b
  rw [LP.QI _ (by omega),Option.bind_some,LP.QI _ (by omega),Option.bind_some]
  refine iB.2 ((aKX (a:=P.oF a) (b:=P.oF b) (by omega) (by omega)).mono ?_)
  rintro ⟨l,e⟩ ⟨h0,ho,h1,h2,h3⟩
  dsimp only at h0 ho h1 h2 h3 ⊢
  subst h0
  rw [if_pos (by rfl)]
  refine iB.2 ((aKR ho h3).mono ?_)
  rintro hs ⟨hc,hn⟩
  rw [← h1]
  refine iB.2 ((aKH ho h3 hc hn).mono ?_)
  rintro ⟨z,e⟩ ⟨h4,h5⟩
  dsimp only at h4 h5 ⊢
  subst h4; subst h5
  simp only [kO]
  rw [show Sh.sR [⟨[102],1,a⟩] [⟨[102],1,b⟩] [⟨[102],1,a⟩] [120] [121]=some (⟨qM b,[],[]⟩,gR.nil) from aST ha hb _ _,Option.bind_some]
  dsimp only
  rw [if_pos (by rfl),if_pos (by rfl),h2,LP.aKY _ (by omega) (by rw [P.W9]; omega),Option.bind_some,P.W9,if_pos rfl,if_pos (by rfl)]
  exact iB.2 (mI.2 ⟨by omega,⟨[102],1,b⟩,rfl,eV.2 (by simp)⟩)
 intro K hK
 rw [gN]
 refine ⟨fun h=>hK _ (fun q=>by simp at q),fun h=>hK _ fun q=>⟨by omega,?_⟩⟩
 have:=of_decide_eq_false q
 omega
end Go.S
end
