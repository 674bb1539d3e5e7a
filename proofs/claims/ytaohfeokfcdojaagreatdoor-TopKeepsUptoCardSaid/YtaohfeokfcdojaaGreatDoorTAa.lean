/- Part of the proofs of: the law TopKeeps: what is changed and not committed is there, or put aside, behind every command that does not say otherwise (any acts, any line), where what is read is of bulk at most 1048576 -/
import Derived.WalkKit
import Derived.WalkSpells
import Derived.WalkLawsBesides
import Derived.Deep.Quiet
import Derived.Great.BuildSlice
import Derived.Laws.CopyRow
import Derived.Laws.IdiomCopy
import Derived.Lib.Builder
import Derived.Laws.Small
import Derived.Lib.AppendStr
import Derived.Lib.UnsafeStr
import Derived.Laws.Externs
import Derived.Laws.BytesString
import Derived.Laws.IdiomStrings
import Derived.Laws.StructEq
import Derived.Laws.Tables
import Derived.Laws.Cover2
import Derived.Lib.ConvBytes
import Derived.Lib.Bytealg
import Derived.Lib.AppendZeros
import Derived.Lib.ItoaNum
import Derived.Lib.LaidTab
import Derived.LaidSub
import Derived.Sort.Grow
import Derived.Deep.Draws
import Derived.Stop.Asserts
import Derived.LaidEql
import Derived.OneCell
import Derived.Below
import Derived.ProofKit
import Derived.OpenShut
import Derived.LaidMore
import Derived.Lay
import Derived.SevenTiedAt
import Derived.Stop.Joined
import Derived.LaidHandle
import Derived.Lib.Join
set_option linter.unusedVariables false
set_option linter.unusedSimpArgs false
set_option linter.unusedSectionVars false
section
namespace Go.S
variable {α β γ R S T:Type}
inductive cS where
  | nil
  | no (n:Int)
  | fault (part:List UInt8) (at_:Int) (e:cS)
  deriving DecidableEq
def cS.isNil:cS→Bool
  | .nil=>true
  | _=>false
def gd (c:Prop) [Decidable c] (k:Option α):Option α:=if c then k else none
def at_ (l:List α) (i:Int):Option α:=if 0≤i then l[i.toNat]? else none
def lt (e:α) (f:α→Option β):Option β:=f e
def up (o:Option R):Option (T⊕R):=match o with
  | none=>none
  | some r=>some (.inr r)
def go (t:T):Option (T⊕R):=some (.inl t)
def jn (K:S→Option R) (F:(S→Option R)→Option R):Option R:=F K
def bP (n:Int):Prop := -9223372036854775808≤n∧n≤9223372036854775807
instance (n:Int):Decidable (bP n):=inferInstanceAs (Decidable (_∧_))
def wD (B:T→Option (T⊕R)):Nat→T→Option R
  | 0,_=>none
  | n+1,t=>match B t with
    | none=>none
    | some (.inl t')=>wD B n t'
    | some (.inr r)=>some r
open Classical in
/-- a loop: reckoned where a thousand million rounds do; else by choice -/
noncomputable def iter (B:T→Option (T⊕R)) (t:T):Option R:=match wD B 1000000000 t with
  | some r=>some r
  | none=>if h : ∃ n r,wD B n t=some r then some h.choose_spec.choose else none
def Step (B:T→Option (T⊕R)) (n:Nat) (e:R):T⊕R→Prop
  | .inl t=>wD B n t=some e
  | .inr r=>r=e
theorem TT {B:T→Option (T⊕R)} {r:R} : ∀ {n:Nat} {t:T},wD B n t=some r → ∀ m,n≤m→wD B m t=some r
  | 0,_,h,_,_=>by cases h
  | n+1,t,h,m,hm=>by
    obtain ⟨m,rfl⟩ : ∃ k,m=k+1:=⟨m - 1,by omega⟩
    simp only [wD] at h ⊢
    cases hb:B t with
    | none=>rw [hb] at h; cases h
    | some y =>
      rw [hb] at h
      cases y with
      | inl t'=>exact TT h m (by omega)
      | inr r'=>exact h
theorem aEm {B:T→Option (T⊕R)} {r r':R} {n m:Nat} {t:T} (h:wD B n t=some r) (h':wD B m t=some r'):r=r':=by
 have a:=TT h (max n m) (Nat.le_max_left _ _)
 have b:=TT h' (max n m) (Nat.le_max_right _ _)
 rw [a] at b
 exact Option.some.inj b
theorem aV1 {B:T→Option (T⊕R)} {r:R} {n:Nat} {t:T} (h:wD B n t=some r):iter B t=some r:=by
 have hx : ∃ n r,wD B n t=some r:=⟨n,r,h⟩
 unfold iter
 split
 ·
  rename_i r' h'
  exact congrArg some (aEm h' h)
 rw [dif_pos hx]
 exact congrArg some (aEm hx.choose_spec.choose_spec h)
theorem aV0 {B:T→Option (T⊕R)} {e:R} {t:T} (h:iter B t=some e) : ∃ n,wD B n t=some e:=by
 unfold iter at h
 split at h
 ·
  rename_i r' h'
  exact ⟨_,by rw [h',Option.some.inj h]⟩
 split at h
 ·
  rename_i hx
  exact ⟨hx.choose,(Option.some.inj h)▸hx.choose_spec.choose_spec⟩
 cases h
theorem aVZ {B:T→Option (T⊕R)} {e:R} {n:Nat} {t:T} (h:wD B n t=some e) : ∃ m y,n=m+1∧B t=some y∧Step B m e y:=by
 cases n with
 | zero=>cases h
 | succ n =>
   simp only [wD] at h
   cases hb:B t with
   | none=>rw [hb] at h; cases h
   | some y =>
     rw [hb] at h
     cases y with
     | inl t'=>exact ⟨n,_,rfl,rfl,h⟩
     | inr r'=>exact ⟨n,_,rfl,rfl,Option.some.inj h⟩
theorem aRE {B:T→Option (T⊕R)} (I:T→Prop) (μ:T→Nat) (Q:R→Prop)
 (h : ∀ t,I t → ∃ y,B t=some y∧match y with | .inl t'=>I t'∧μ t' < μ t | .inr r=>Q r) (t0:T) (h0:I t0) : ∃ r,iter B t0=some r∧Q r:=by
 suffices H : ∀ n t,μ t < n→I t → ∃ r,wD B n t=some r∧Q r by
   obtain ⟨r,h1,h2⟩:=H (μ t0+1) t0 (by omega) h0
   exact ⟨r,aV1 h1,h2⟩
 intro n
 induction n with
 | zero=>intro t h; omega
 | succ n ih =>
   intro t hn hI
   obtain ⟨y,hy,hm⟩:=h t hI
   simp only [wD,hy]
   cases y with
   | inl t'=>exact ih t' (by have:=hm.2; omega) hm.1
   | inr r=>exact ⟨r,rfl,hm⟩
theorem bX {c:Prop} [Decidable c] {k:Option α} {r:α} (h:gd c k=some r):c∧k=some r:=by
 unfold gd at h
 split at h
 ·
  exact ⟨‹_›,h⟩
 cases h
theorem dU {o:Option α} {f:α→Option β} {r:β} (h:o.bind f=some r) : ∃ a,o=some a∧f a=some r:=by
 cases o with
 | none=>cases h
 | some a=>exact ⟨a,rfl,h⟩
theorem gQ {l:List α} {i:Int} {f:α→Option β} {r:β} (h:(at_ l i).bind f=some r) : ∃ z,0≤i∧l[i.toNat]? = some z∧f z=some r:=by
 obtain ⟨z,h1,h2⟩:=dU h
 unfold at_ at h1
 split at h1
 ·
  exact ⟨z,‹_›,h1,h2⟩
 cases h1
theorem DT {g:γ→α} {l:List γ} {i:Int} {f:α→Option β} {r:β} (h:(at_ (l.map g) i).bind f=some r) : ∃ z,0≤i∧l[i.toNat]? = some z∧f (g z)=some r:=by
 obtain ⟨y,h0,h1,h2⟩:=gQ h
 rw [List.getElem?_map] at h1
 cases hz:l[i.toNat]? with
 | none=>rw [hz] at h1; cases h1
 | some z=>rw [hz] at h1; cases h1; exact ⟨z,h0,rfl,h2⟩
theorem p9 {e:α} {f:α→Option β} {r:β} (h:lt e f=some r) : ∃ y,e=y∧f y=some r:=⟨e,rfl,h⟩
theorem dR {e p:α} {f:α→Option β} {r:β} (q:p=e) (h:lt e f=some r):f p=some r:=by subst q; exact h
theorem a9d {o:Option R} {y:T⊕R} (h:up o=some y) : ∃ c,o=some c∧y = .inr c:=by
 cases o with
 | none=>cases h
 | some c=>cases h; exact ⟨c,rfl,rfl⟩
theorem a83 {t:T} {y:T⊕R} (h:go t=some y):y = .inl t:=by cases h; rfl
theorem KR {c:Prop} [Decidable c] {a b:Option α} {r:α} (hc:c) (h:(if c then a else b)=some r):a=some r:=by rwa [if_pos hc] at h
theorem W7 {c:Prop} [Decidable c] {a b:Option α} {r:α} (hc : ¬ c) (h:(if c then a else b)=some r):b=some r:=by rwa [if_neg hc] at h
theorem bQ {l:List α} {i:Int} {z:α} (h0:0≤i) (h:l[i.toNat]? = some z):i < l.length:=by
 have:=(List.getElem?_eq_some_iff.1 h).1
 omega
def Ok (o:Option α) (Q:α→Prop):Prop := ∃ a,o=some a∧Q a
theorem Ok.of {o:Option α} {Q:α→Prop} {a:α} (h:o=some a) (q:Q a):Ok o Q:=⟨a,h,q⟩
theorem Ok.eq {o:Option α} {a:α} (h:Ok o (· = a)):o=some a:=by obtain ⟨b,h,rfl⟩:=h; exact h
theorem Ok.mono {o:Option α} {Q Q':α→Prop} (h:Ok o Q) (g : ∀ a,Q a→Q' a):Ok o Q':=by obtain ⟨a,h,q⟩:=h; exact ⟨a,h,g a q⟩
theorem aKi {a:α} {Q:α→Prop}:Ok (some a) Q↔Q a:=⟨fun ⟨_,h,q⟩=>by cases h; exact q,fun q=>⟨a,rfl,q⟩⟩
theorem a5s {c:Prop} [Decidable c] {k:Option α} {Q:α→Prop}:Ok (gd c k) Q↔c∧Ok k Q:=by
 unfold gd
 by_cases h:c
 ·
  simp [h]
 simp [h,Ok]
theorem sP {o:Option α} {f:α→Option β} {Q:β→Prop}:Ok (o.bind f) Q↔Ok o fun a=>Ok (f a) Q:=by
 cases o with
 | none=>simp [Ok]
 | some a=>simp [Ok]
theorem a5t {c:Prop} [Decidable c] {a b:Option α} {Q:α→Prop}:Ok (if c then a else b) Q↔(c→Ok a Q)∧(¬ c→Ok b Q):=by
 by_cases h:c <;> simp [h]
theorem aVm {l:List α} {i:Int} {Q:α→Prop}:Ok (at_ l i) Q↔0≤i ∧ ∃ z,l[i.toNat]? = some z∧Q z:=by
 unfold at_
 by_cases h:0≤i <;> simp [h,Ok]
theorem aVo {o:Option R} {Q:T⊕R→Prop}:Ok (up o) Q↔Ok o fun r=>Q (.inr r):=by
 cases o with
 | none=>simp [Ok,up]
 | some r=>simp [Ok,up]
theorem aMQ {t:T} {Q:T⊕R→Prop}:Ok (go t) Q↔Q (.inl t):=aKi
theorem aVn {B:T→Option (T⊕R)} {t0:T} {Q:R→Prop} (I:T→Prop) (μ:T→Nat)
    (h : ∀ t,I t→Ok (B t) fun y=>match y with | .inl t'=>I t'∧μ t' < μ t | .inr r=>Q r) (h0:I t0):Ok (iter B t0) Q:=aRE I μ Q h t0 h0
end Go.S
end

section
namespace Go.S
structure aC where
  path:List UInt8
  mode:Int
  data:List UInt8
  deriving DecidableEq
structure dP where
  name:List UInt8
  cF:Int
  deriving DecidableEq
structure IndexEntry where
  path:List UInt8
  fA:Int
  mode:Int
  data:List UInt8
  time:Int
  size:Int
  deriving DecidableEq
structure dA where
  base:Int
  index:List aC
  work:List aC
  text:List UInt8
  deriving DecidableEq
structure iV where
  line:List UInt8
  path:List UInt8
  data:List UInt8
  gone:Bool
  deriving DecidableEq
structure bJ where
  verb:List UInt8
  cF:Int
  text:List UInt8
  deriving DecidableEq
structure fB where
  tree:List aC
  parents:List Int
  time:Int
  text:List UInt8
  deriving DecidableEq
structure aF where
  aU:List aC
  aS:List IndexEntry
  aZ:List dP
  aH:List UInt8
  aG:Int
  aR:List UInt8
  aM:Int
  aT:List UInt8
  aN:List bJ
  aP:List bJ
  aO:Int
  aJ:List UInt8
  aD:List UInt8
  aE:Int
  aK:List IndexEntry
  aQ:List aC
  aW:List dA
  aX:List fB
  bF:List (List UInt8)
  aY:List (List UInt8)
  time:Int
  deriving DecidableEq
structure dV where
  eZ:List UInt8
  deriving DecidableEq
structure eS where
  work:List aC
  index:List IndexEntry
  refs:List dP
  cH:List UInt8
  cB:Int
  fG:List UInt8
  eO:Int
  fH:List UInt8
  dJ:List bJ
  eB:List bJ
  fD:Int
  dW:List UInt8
  bV:List UInt8
  bW:Int
  dK:List IndexEntry
  eD:List aC
  gD:List dA
  deriving DecidableEq
structure l5 where
  branch:List UInt8
  cF:Int
  deriving DecidableEq
structure qJ where
  kind:List UInt8
  other:Int
  text:List UInt8
  HP:List bJ
  todo:List bJ
  made:Int
  branch:List UInt8
  cH:List UInt8
  cB:Int
  index:List IndexEntry
  work:List aC
  deriving DecidableEq
structure bA where
  b:List UInt8
  at_:Int
  err:cS
  deriving DecidableEq
structure aV where
  bad:Bool
  deriving DecidableEq
structure fO where
  verb:List UInt8
  name:List UInt8
  n:Int
  text:List UInt8
  force:Bool
  todo:List bJ
  deriving DecidableEq
structure cW where
  files:List aC
  entries:List IndexEntry
  conflicts:List (List UInt8)
  deriving DecidableEq
structure lB where
  bU:List UInt8
  cK:Int
  bS:List UInt8
  is:Bool
  deriving DecidableEq
structure o4 where
  base:List (List UInt8)
  ours:List (List UInt8)
  cR:List (List UInt8)
  pF:Bool
  out:List (List UInt8)
  deriving DecidableEq
structure oA where
  a:List (List UInt8)
  b:List (List UInt8)
  n:List Int
  deriving DecidableEq
structure iL where
  op:Int
  line:List UInt8
  deriving DecidableEq
structure gC where
  a:Int
  b:Int
  n:Int
  deriving DecidableEq
structure D2 where
  bU:List UInt8
  cK:Int
  bS:List UInt8
  is:Bool
  deriving DecidableEq
structure o9 where
  back:List (List UInt8)
  kR:List (List UInt8)
  deriving DecidableEq
end Go.S
end

section
namespace Go.V
open Go.RowKit
abbrev Hp:=Nat→Option Obj
def Hp.le (h k:Hp):Prop := ∀ b o,h b=some o→k b=some o
theorem Hp.le.refl (h:Hp):h.le h:=fun _ _ x=>x
theorem Hp.le.trans {a b c:Hp} (x:a.le b) (y:b.le c):a.le c:=fun i o h=>y i o (x i o h)
def wh (w:World):Hp:=fun b=>w.heap[b]?
def Hp.nil:Hp:=fun _=>none
def Hp.join (h k:Hp):Hp:=fun b=>match h b with | some o=>some o | none=>k b
def Hp.off (h k:Hp):Prop := ∀ b,h b=none∨k b=none
theorem Hp.cU (h k:Hp):h.le (h.join k):=fun b o e=>by simp [Hp.join,e]
theorem Hp.fS {h k:Hp} (d:h.off k):k.le (h.join k):=fun b o e=>by
  rcases d b with x | x
  . simp [Hp.join,x,e]
  . rw [x] at e; cases e
theorem Hp.join_le {h k m:Hp} (a:h.le m) (b:k.le m):(h.join k).le m:=fun i o e=>by
  unfold Hp.join at e
  cases x:h i with
  | some p=>rw [x] at e; cases e; exact a _ _ x
  | none=>rw [x] at e; exact b _ _ e
structure Gr (w w1:World):Prop where
  os:w1.os=w.os
  tape:w1.tape=w.tape
  output:w1.output=w.output
  size:w.heap.size≤w1.heap.size
  block : ∀ k,k < w.heap.size→w1.heap[k]? = w.heap[k]?
theorem Gr.refl (w:World):Gr w w:=⟨rfl,rfl,rfl,Nat.le_refl _,fun _ _=>rfl⟩
theorem Gr.trans {a b c:World} (x:Gr a b) (y:Gr b c):Gr a c :=
  ⟨y.os.trans x.os,y.tape.trans x.tape,y.output.trans x.output,Nat.le_trans x.size y.size,fun k hk=>(y.block k (Nat.lt_of_lt_of_le hk x.size)).trans (x.block k hk)⟩
theorem Gr.le {w w1:World} (x:Gr w w1):(wh w).le (wh w1):=fun b o e=>by
  unfold wh at *
  rw [x.block b (Array.getElem?_eq_some_iff.1 e).1,e]
theorem Gr.drew (w:World):Gr w w.drew:=⟨rfl,rfl,rfl,Nat.le_refl _,fun _ _=>rfl⟩
structure Mo where
  on:Hp→Prop
  up : ∀ {h k:Hp},h.le k→on h→on k
def Mo.and (A B:Mo):Mo:=⟨fun h=>A.on h∧B.on h,fun l x=>⟨A.up l x.1,B.up l x.2⟩⟩
def Mo.tt:Mo:=⟨fun _=>True,fun _ x=>x⟩
def Mo.pure (p:Prop):Mo:=⟨fun _=>p,fun _ x=>x⟩
def Mo.ex {α:Type} (f:α→Mo):Mo:=⟨fun h => ∃ x,(f x).on h,fun l ⟨x,y⟩=>⟨x,(f x).up l y⟩⟩
abbrev Ow:=Hp→Prop
def Ow.emp:Ow:=fun _=>True
def Ow.star (A B:Ow):Ow:=fun e => ∃ x y:Hp,x.off y∧e=x.join y∧A x∧B y
structure Cx where
  w0:World
  h0:Hp
  D:Nat→Prop
structure St (c:Cx) (M:Mo) (E:Ow) (w:World):Prop where
  hp : ∃ h e:Hp,M.on h∧E e∧h.off e∧h.le (wh w)∧e.le (wh w)∧c.h0.le h ∧
    (∀ b,h b≠none→c.h0 b≠none∨c.D b∨c.w0.heap.size≤b)∧(∀ b,e b≠none→c.D b∨c.w0.heap.size≤b)
  frame : ∀ b,b < c.w0.heap.size → ¬ c.D b→w.heap[b]? = c.w0.heap[b]?
  os:w.os=c.w0.os
  tape:w.tape=c.w0.tape
  output:w.output=c.w0.output
  size:c.w0.heap.size≤w.heap.size
theorem St.grow {c:Cx} {M:Mo} {E:Ow} {w w1:World} (s:St c M E w) (g:Gr w w1):St c M E w1:=by
 obtain ⟨⟨h,e,m,ee,d,a,b,r⟩,f,o,t,u,z⟩:=s
 exact ⟨⟨h,e,m,ee,d,a.trans g.le,b.trans g.le,r⟩,fun b hb hd=>(g.block b (Nat.lt_of_lt_of_le hb z)).trans (f b hb hd),g.os.trans o,g.tape.trans t,g.output.trans u,Nat.le_trans z g.size⟩
theorem St.mono {c:Cx} {M M':Mo} {E E':Ow} {w:World} (s:St c M E w) (hm : ∀ h,M.on h→M'.on h) (he : ∀ e,E e→E' e):St c M' E' w:=by
 obtain ⟨⟨h,e,m,ee,r⟩,f,o,t,u,z⟩:=s
 exact ⟨⟨h,e,hm h m,he e ee,r⟩,f,o,t,u,z⟩
abbrev Env:=List (Nat×Value)
def Env.get:Env→Nat→Option Value
  | [],_=>none
  | (k,v)::r,t=>match Nat.beq k t with
    | true=>some v
    | false=>Env.get r t
def Env.ev (ρ:Env):Operand→Option Value
  | .tmp t=>ρ.get t
  | .const v=>some v
  | .global g=>some (.pointer (some ⟨g,0,none⟩))
  | .func f=>some (.func (.func f) #[] #[])
structure rW (N:Nat) (ρ:Env) (a:Act):Prop where
  size:a.tmps.size=N
  defers:a.defers=[]
  look : ∀ t v,ρ.get t=some v→a.tmps[t]? = some v
theorem rW.put {N:Nat} {ρ:Env} {a:Act} (h:rW N ρ a) {d:Nat} (hd:d < N) (v:Value):rW N ((d,v)::ρ) (a.put (some d) v):=by
 refine ⟨by simp [Act.put,h.size],h.defers,fun t u e => ?_⟩
 simp only [Env.get] at e
 cases hk:Nat.beq d t with
 | true =>
   rw [hk] at e
   have:=Nat.eq_of_beq_eq_true hk
   subst this
   cases e
   simp [Act.put,h.size,hd]
 | false =>
   rw [hk] at e
   have k:d≠t:=Nat.ne_of_beq_eq_false hk
   simp only [Act.put]
   rw [Array.getElem?_setIfInBounds_ne k]
   exact h.look t u e
theorem rW.sub {N:Nat} {ρ ρ':Env} {a:Act} (h:rW N ρ a) (s : ∀ t v,ρ'.get t=some v→ρ.get t=some v):rW N ρ' a:=⟨h.size,h.defers,fun t v e=>h.look t v (s t v e)⟩
theorem rW.ev {N:Nat} {ρ:Env} {a:Act} (h:rW N ρ a) {x:Operand} {v:Value} (e:ρ.ev x=some v):a.eval x=v:=by
 cases x with
 | tmp t=>simp [Act.eval,Array.getD_eq_getD_getElem?,h.look t v e]
 | const u=>simpa [Env.ev,Act.eval] using e
 | global g=>simpa [Env.ev,Act.eval] using e
 | func f=>simpa [Env.ev,Act.eval] using e
def Env.keep (ρ:Env):List Nat→Env
  | []=>[]
  | t::r=>match ρ.get t with
    | some v=>(t,v)::Env.keep ρ r
    | none=>Env.keep ρ r
theorem Env.PD (ρ:Env) : ∀ (l:List Nat) (t:Nat) (v:Value),(ρ.keep l).get t=some v→ρ.get t=some v
  | [],t,v,h=>by simp [Env.keep,Env.get] at h
  | k::r,t,v,h=>by
    unfold Env.keep at h
    cases hk:ρ.get k with
    | none=>rw [hk] at h; exact Env.PD ρ r t v h
    | some u =>
      rw [hk] at h
      simp only [Env.get] at h
      cases hb:Nat.beq k t with
      | true=>rw [hb] at h; have:=Nat.eq_of_beq_eq_true hb; subst this; rw [hk]; exact h
      | false=>rw [hb] at h; exact Env.PD ρ r t v h
section
variable {P:Program} {N:Nat} {c:Cx} {ops:Array Oper} {Q:Exit→Act→World→Prop} {rest:List Oper} {o:Oper} {ρ ρ':Env} {M M':Mo} {E E':Ow} {v:Value}
def VL (P:Program) (N:Nat) (c:Cx) (ops:Array Oper) (Q:Exit→Act→World→Prop) (l:List Oper) (ρ:Env) (M:Mo) (E:Ow):Prop :=
  ∀ a w,rW N ρ a→St c M E w→wpList P ops Q l a w
def VC (P:Program) (N:Nat) (c:Cx) (Q:Exit→Act→World→Prop) (k:Code) (ρ:Env) (M:Mo) (E:Ow):Prop :=
  ∀ a w,rW N ρ a→St c M E w→k.wp P Q a w
def Qt (P:Program) (N:Nat) (c:Cx) (o:Oper) (v:Value) (ρ:Env) (M:Mo) (E:Ow):Prop :=
  ∀ a w,rW N ρ a→St c M E w→o.quietAt P a (Gr w) w v
theorem Qt.of_run (h : ∀ a w,rW N ρ a→St c M E w→(execOp a.eval o).run P w = .ok (.value v) w):Qt P N c o v ρ M E:=fun a w x y=>by
  unfold Oper.quietAt
  rw [h a w x y]
  exact ⟨rfl,rfl⟩
theorem Oper.U2 {a:Act} {w:World} {K:Act→World→Prop} (h:o.quietAt P a (Gr w) w v) (hK : ∀ w',Gr w w'→K (a.put o.dst v) w'):o.wp P a w K Q:=by
 unfold Oper.quietAt at h
 unfold Oper.wp
 generalize (execOp a.eval o).run P w=r at *
 cases r with
 | ok n w' =>
   cases n <;> simp only [Oper.quietUpon] at h <;> simp only [Oper.upon]
   case value u =>
     obtain ⟨e1,e2⟩:=h
     rw [e1,e2]
     exact hK _ (Gr.refl w)
   case skip =>
     obtain ⟨e1,e2⟩:=h
     rw [e1,← e2]
     exact hK _ (Gr.refl w)
   case enter f args =>
     obtain ⟨e1,hc⟩:=h
     rw [e1]
     exact hc.mono fun e w'' ⟨he,hw⟩=>by subst he; exact hK _ hw
 | halt x w'=>simp only [Oper.quietUpon] at h
theorem VL.q {d:Nat} {op:Op} {ty:TypeId} {pos:String} {after:Array Edge} (h:Qt P N c ⟨some d,op,ty,pos,after,none⟩ v ρ M E) (hd:d < N)
    (k:VL P N c ops Q rest ((d,v)::ρ) M E):VL P N c ops Q (⟨some d,op,ty,pos,after,none⟩::rest) ρ M E:=fun a w x y =>
  wpList_plain rfl fun _ hK=>Oper.U2 (h a w x y) fun _ g=>hK _ _ (k _ _ (x.put hd v) (y.grow g))
theorem VL.nil (k : ∀ a w,rW N ρ a→St c M E w→Q .normal a w):VL P N c ops Q [] ρ M E:=fun a w x y=>wpList_nil (k a w x y)
theorem VL.keep (l:List Nat) {ρ':Env} (e:ρ.keep l=ρ') (k:VL P N c ops Q rest ρ' M E):VL P N c ops Q rest ρ M E:=fun a w x y =>
  k a w (x.sub fun t v h=>by subst e; exact Env.PD ρ l t v h) y
theorem VC.keep (l:List Nat) {ρ':Env} {k:Code} (e:ρ.keep l=ρ') (h:VC P N c Q k ρ' M E):VC P N c Q k ρ M E:=fun a w x y =>
  h a w (x.sub fun t v h=>by subst e; exact Env.PD ρ l t v h) y
theorem VC.region {id:Nat} {l:List Oper} (h:VL P N c l.toArray Q l ρ M E):VC P N c Q (.region id l.toArray false) ρ M E:=fun a w x y=>wp_region_lit (h a w x y)
theorem VC.seq {p q:Code} (h:VC P N c (Exit.then (q.wp P Q) Q) p ρ M E):VC P N c Q (.seq p q) ρ M E:=fun a w x y=>wp_seq (h a w x y)
theorem VL.next {q:Code} (h:VC P N c Q q ρ M E):VL P N c ops (Exit.then (q.wp P Q) Q) [] ρ M E:=VL.nil fun a w x y=>h a w x y
theorem VC.skip (h : ∀ a w,rW N ρ a→St c M E w→Q .normal a w):VC P N c Q .skip ρ M E:=fun a w x y=>wp_skip (h a w x y)
theorem VC.ret (h : ∀ a w,rW N ρ a→St c M E w→Q .ret a w):VC P N c Q .ret ρ M E:=fun a w x y=>wp_ret (h a w x y)
theorem VC.exit {id:Nat} (h : ∀ a w,rW N ρ a→St c M E w→Q (.exit id) a w):VC P N c Q (.exit id) ρ M E:=fun a w x y=>wp_exit (h a w x y)
theorem VC.block {id:Nat} {b:Code} (h:VC P N c (Exit.inBlock id Q) b ρ M E):VC P N c Q (.block id b) ρ M E:=fun a w x y=>wp_block (h a w x y)
theorem VC.cond {x:Operand} {p q:Code} {b:Bool} (e:ρ.ev x=some (.bool b)) (h1:b=true→VC P N c Q p ρ M E) (h2:b=false→VC P N c Q q ρ M E):VC P N c Q (.cond x p q) ρ M E:=fun a w g y=>by
  refine wp_cond_split (g.ev e) (fun h=>h1 h a w g y) (fun h=>h2 h a w g y)
theorem VC.mY {x:Operand} {p q:Code} {φ:Prop} [Decidable φ] (e:ρ.ev x=some (.bool (decide φ))) (h1:φ→VC P N c Q p ρ M E) (h2 : ¬ φ→VC P N c Q q ρ M E):VC P N c Q (.cond x p q) ρ M E :=
  VC.cond e (fun h=>h1 (of_decide_eq_true h)) (fun h=>h2 (of_decide_eq_false h))
theorem VC.DB {x:Operand} {p q:Code} (e:ρ.ev x=some (.bool true)) (h1:VC P N c Q p ρ M E):VC P N c Q (.cond x p q) ρ M E:=VC.cond e (fun _=>h1) (fun h=>by cases h)
theorem VC.uW {x:Operand} {p q:Code} (e:ρ.ev x=some (.bool false)) (h1:VC P N c Q q ρ M E):VC P N c Q (.cond x p q) ρ M E:=VC.cond e (fun h=>by cases h) (fun _=>h1)
theorem VL.mono (h1 : ∀ h,M.on h→M'.on h) (h2 : ∀ e,E e→E' e) (k:VL P N c ops Q rest ρ M' E'):VL P N c ops Q rest ρ M E:=fun a w x y=>k a w x (y.mono h1 h2)
theorem VC.mono {k:Code} (h1 : ∀ h,M.on h→M'.on h) (h2 : ∀ e,E e→E' e) (g:VC P N c Q k ρ M' E'):VC P N c Q k ρ M E:=fun a w x y=>g a w x (y.mono h1 h2)
end
end Go.V
namespace Go.V
open Go.RowKit
def Post {X:Type} (val:X→Value) (φ:X→Prop) (M':X→Mo) (E':X→Ow) (c:Cx) (r:Value) (w:World):Prop := ∃ x,r=val x∧φ x∧St c (M' x) (E' x) w
structure Ct (P:Program) (f:FuncId) (args:List Value) (M:Mo) (E:Ow) {X:Type} (val:X→Value) (φ:X→Prop) (M':X→Mo) (E':X→Ow):Prop where
  entry : ∀ (xs:Array Value) (w:World),(callFunc f xs).run P w = .ok (.enter f xs) w
  calls : ∀ (w:World) (h e:Hp),M.on h→E e→h.off e→h.le (wh w)→e.le (wh w) →
    Calls P f args.toArray w fun en w' => ∃ r,en = .returned r∧Post val φ M' E' ⟨w,h,fun b=>e b≠none⟩ r w'
section
variable {P:Program} {N:Nat} {c:Cx} {ops:Array Oper} {Q:Exit→Act→World→Prop} {rest:List Oper} {o:Oper} {ρ ρ':Env} {M M' M1:Mo} {E E' E1 F:Ow} {v:Value} {X:Type}
theorem vU {f:FuncId} {fn:Func} {code:Code} (hf:P.funcs[f]? = some fn) (hb:fn.body=some code) (hn:(fn.name == "runtime.NumGoroutine")=false) (xs:Array Value) (w:World) :
 (callFunc f xs).run P w = .ok (.enter f xs) w:=by
 have hn' : ¬ fn.name = "runtime.NumGoroutine" := by simpa using hn
 simp [callFunc,go_sem,program,Sem.run,hf,hb,hn']
theorem St.start {w:World} {h e:Hp} (a:M.on h) (b:E e) (d:h.off e) (l:h.le (wh w)) (m:e.le (wh w)):St ⟨w,h,fun b=>e b≠none⟩ M E w :=
  ⟨⟨h,e,a,b,d,l,m,Hp.le.refl _,fun _ x => .inl x,fun _ x => .inl x⟩,fun _ _ _=>rfl,rfl,rfl,rfl,Nat.le_refl _⟩
def Env.of:Nat→List Value→Env
  | _,[]=>[]
  | k,v::r=>(k,v)::Env.of (k+1) r
theorem Env.aO0 : ∀ (l:List Value) (k t:Nat) (v:Value),(Env.of k l).get t=some v→k≤t∧l[t - k]? = some v
  | [],_,_,_,h=>by simp [Env.of,Env.get] at h
  | u::r,k,t,v,h=>by
    simp only [Env.of,Env.get] at h
    cases hb:Nat.beq k t with
    | true =>
      rw [hb] at h
      have:=Nat.eq_of_beq_eq_true hb
      subst this
      cases h
      exact ⟨Nat.le_refl _,by simp⟩
    | false =>
      rw [hb] at h
      have ne:k≠t:=Nat.ne_of_beq_eq_false hb
      obtain ⟨h1,h2⟩:=Env.aO0 r (k+1) t v h
      refine ⟨by omega,?_⟩
      rw [show t - k=(t - (k+1))+1 by omega]
      simpa using h2
theorem Ct.of {f:FuncId} {fn:Func} {code:Code} {args:List Value} {val:X→Value} {φ:X→Prop} {M':X→Mo} {E':X→Ow} (hf:P.funcs[f]? = some fn) (hb:fn.body=some code) (hnm:(fn.name == "runtime.NumGoroutine")=false) (hn:fn.ntmps=N) (hl:args.length≤N)
    (h : ∀ c,VC P N c (bodyPost P fn fun en w' => ∃ r,en = .returned r∧Post val φ M' E' c r w') code (Env.of 0 args) M E):Ct P f args M E val φ M' E':=⟨vU hf hb hnm,fun w hh e a b d l m=>by
  refine calls_of_wp hf hb (h _ _ _ ⟨?_,rfl,fun t v ht => ?_⟩ (St.start a b d l m))
  . simp [hn]; omega
  . obtain ⟨_,h2⟩:=Env.aO0 args 0 t v ht
    have hlt:t < args.length:=by
      have:=(List.getElem?_eq_some_iff.1 h2).1
      omega
    simp only [Nat.sub_zero] at h2
    rw [Array.getElem?_append_left (by simpa using hlt)]
    simpa using h2⟩
def nC (E A F:Ow):Prop := ∀ e,E e→Ow.star A F e
theorem Hp.EA (h:Hp):h.off Hp.nil:=fun _ => .inr rfl
theorem Hp.off.symm {h k:Hp} (d:h.off k):k.off h:=fun b=>(d b).symm
theorem Hp.join_comm {h k:Hp} (d:h.off k):h.join k=k.join h:=by
 funext b
 unfold Hp.join
 rcases d b with x | x <;> rw [x] <;> (first | rfl | (cases h b <;> rfl) | (cases k b <;> rfl))
theorem Hp.join_nil (h:Hp):h.join Hp.nil=h:=by funext b; unfold Hp.join Hp.nil; cases h b <;> rfl
theorem Hp.join_assoc (a b c:Hp):(a.join b).join c=a.join (b.join c):=by funext i; unfold Hp.join; cases a i <;> rfl
theorem Hp.join_none {h k:Hp} {b:Nat}:h.join k b=none↔h b=none∧k b=none:=by unfold Hp.join; cases h b <;> simp
theorem nC.none:nC E Ow.emp E:=fun e h=>⟨Hp.nil,e,fun _ => .inl rfl,rfl,trivial,h⟩
theorem nC.head {A B:Ow}:nC (Ow.star A B) A B:=fun _ h=>h
theorem nC.all {A:Ow}:nC A A Ow.emp:=fun e h=>⟨e,Hp.nil,fun _ => .inr rfl,(Hp.join_nil e).symm,h,trivial⟩
theorem nC.tail {A B C F:Ow} (h:nC B A F):nC (Ow.star C B) A (Ow.star C F):=fun e ⟨x,y,d,j,hx,hy⟩=>by
  obtain ⟨p,q,d2,j2,hp,hq⟩:=h y hy
  subst j; subst j2
  have dxp:x.off p:=fun b=>(d b).imp id fun z=>(Hp.join_none.1 z).1
  have dxq:x.off q:=fun b=>(d b).imp id fun z=>(Hp.join_none.1 z).2
  refine ⟨p,x.join q,fun b => ?_,?_,hp,x,q,dxq,rfl,hx,hq⟩
  . rcases dxp b with z | z
    . rcases d2 b with y | y
      . exact .inl y
      . exact .inr (Hp.join_none.2 ⟨z,y⟩)
    . exact .inl z
  . rw [← Hp.join_assoc,← Hp.join_assoc,Hp.join_comm dxp]
theorem St.call {w w':World} {h e x y:Hp} {D:Nat→Prop} (s0:St c M E w) (hm:M.on h) (ho:h.off e) (_hle:h.le (wh w)) (ele:e.le (wh w)) (h0:c.h0.le h)
 (hr : ∀ b,h b≠none→c.h0 b≠none∨c.D b∨c.w0.heap.size≤b) (er : ∀ b,e b≠none→c.D b∨c.w0.heap.size≤b)
 (d:x.off y) (j:e=x.join y) (hF:F y) (hD : ∀ b,D b↔x b≠none) (s:St ⟨w,h,D⟩ M' E' w'):St c (M'.and M) (Ow.star E' F) w':=by
 obtain ⟨⟨h',e',m',ee',d',l',k',hh,hn,en⟩,fr,os,tp,out,sz⟩:=s
 simp only at fr os tp out sz hh hn en
 have ylt : ∀ b,y b≠none→b < w.heap.size ∧ ¬ D b∧h b=none:=fun b hb=>by
   have hj:e b≠none:=fun z=>by rw [j] at z; exact hb (Hp.join_none.1 z).2
   refine ⟨?_,fun hd => ?_,?_⟩
   . cases hy:e b with
     | none=>exact absurd hy hj
     | some o=>exact (Array.getElem?_eq_some_iff.1 (ele b o hy)).1
   . rcases d b with z | z
     . exact (hD b).1 hd z
     . exact hb z
   . rcases ho b with z | z
     . exact z
     . exact absurd z hj
 have dy:e'.off y:=fun b=>by
   cases hy:y b with
   | none=>exact .inr rfl
   | some o =>
     obtain ⟨a1,a2,a3⟩:=ylt b (by rw [hy]; simp)
     left
     cases he:e' b with
     | none=>rfl
     | some o' =>
       rcases en b (by rw [he]; simp) with z | z
       . exact absurd z a2
       . omega
 refine ⟨⟨h',e'.join y,⟨m',M.up hh hm⟩,⟨e',y,dy,rfl,ee',hF⟩,fun b => ?_,l',Hp.join_le k' ?_,h0.trans hh,fun b hb => ?_,fun b hb => ?_⟩,fun b hb hd => ?_,os.trans s0.os,tp.trans s0.tape,out.trans s0.output,Nat.le_trans s0.size sz⟩
 ·
  cases hy:y b with
  | none =>
    rcases d' b with z | z
    . exact .inl z
    . exact .inr (Hp.join_none.2 ⟨z,hy⟩)
  | some o =>
    obtain ⟨a1,a2,a3⟩:=ylt b (by rw [hy]; simp)
    left
    cases hx:h' b with
    | none=>rfl
    | some o' =>
      rcases hn b (by rw [hx]; simp) with z | z | z
      . exact absurd a3 z
      . exact absurd z a2
      . omega
 ·
  intro b o hy
  obtain ⟨a1,a2,a3⟩:=ylt b (by rw [hy]; simp)
  unfold wh
  rw [fr b a1 a2]
  exact ele b o (by
    rw [j]
    unfold Hp.join
    rcases d b with z | z
    . rw [z]; exact hy
    . rw [hy] at z; cases z)
 ·
  rcases hn b hb with z | z | z
  ·
   exact hr b z
  ·
   rcases er b (fun q=>(hD b).1 z (by rw [j] at q; exact (Hp.join_none.1 q).1)) with q | q
   ·
    exact .inr (.inl q)
   exact .inr (.inr q)
  exact .inr (.inr (Nat.le_trans s0.size z))
 ·
  by_cases he:e' b=none
  ·
   have hy:y b≠none:=fun q=>hb (Hp.join_none.2 ⟨he,q⟩)
   exact er b (fun q=>hy (by rw [j] at q; exact (Hp.join_none.1 q).2))
  rcases en b he with z | z
  ·
   exact er b (fun q=>(hD b).1 z (by rw [j] at q; exact (Hp.join_none.1 q).1))
  exact .inr (Nat.le_trans s0.size z)
 have hlt:b < w.heap.size:=Nat.lt_of_lt_of_le hb s0.size
 rw [fr b hlt (fun z=>by
   rcases er b (fun q=>(hD b).1 z (by rw [j] at q; exact (Hp.join_none.1 q).1)) with q | q
   . exact hd q
   . omega)]
 exact s0.frame b hb hd
theorem Ct.at {f:FuncId} {args:List Value} {val:X→Value} {φ:X→Prop} {M2:X→Mo} {E2:X→Ow} (h:Ct P f args M1 E1 val φ M2 E2) (hM : ∀ h,M.on h→M1.on h) (hE:nC E E1 F) {w:World} (s:St c M E w) :
 Calls P f args.toArray w fun en w' => ∃ r,en = .returned r ∧ ∃ x,r=val x∧φ x∧St c ((M2 x).and M) (Ow.star (E2 x) F) w':=by
 have s0:=s
 obtain ⟨⟨hp,e,m,ee,d,l,k,h0,hr,er⟩,_⟩:=s
 obtain ⟨x,y,dxy,j,hx,hy⟩:=hE e ee
 have dx:hp.off x:=fun b=>(d b).imp id fun z=>by rw [j] at z; exact (Hp.join_none.1 z).1
 refine (h.calls w hp x (hM _ m) hx dx l (fun b o q=>k b o (by rw [j]; exact Hp.cU x y b o q))).mono fun en w' ⟨r,e1,z,e2,e3,e4⟩=>⟨r,e1,z,e2,e3,?_⟩
 exact St.call s0 m d l k h0 hr er dxy j hy (fun b=>Iff.rfl) e4
theorem Ct.gr {f:FuncId} {args:List Value} {val:X→Value} {φ:X→Prop} {M2:X→Mo} {E2:X→Ow} (h:Ct P f args M1 Ow.emp val φ M2 E2) (hM : ∀ h e,h.off e→M.on h→E e→M1.on (h.join e)) {w:World} (s:St c M E w) (hv : ∀ x,φ x→val x=v) :
 Calls P f args.toArray w fun en w'=>en = .returned v∧Gr w w':=by
 obtain ⟨⟨hp,e,m,ee,d,l,k,h0,hr,er⟩,_⟩:=s
 refine (h.calls w (hp.join e) Hp.nil (hM _ _ d m ee) trivial (Hp.EA _) (Hp.join_le l k) (fun b o q=>by cases q)).mono fun en w' ⟨r,e1,z,e2,e3,e4⟩=>⟨by rw [e1,e2,hv z e3],?_⟩
 exact ⟨e4.os,e4.tape,e4.output,e4.size,fun b hb=>e4.frame b hb (by simp [Hp.nil])⟩
theorem aBs {f:FuncId} {args:List Value} {a:Act} {w:World} {d:Option Tmp} {ty:TypeId} {pos:String} {after:Array Edge} {gd:Option (Nat×Bool)} {xs:List Operand} {ts:Array TypeId}
 (hf : ∀ (xs:Array Value) (w:World),(callFunc f xs).run P w = .ok (.enter f xs) w) (ha:xs.map a.eval=args) :
 (execOp a.eval ⟨d,.call { callee := .value (.func f),args:=xs.toArray,argTypes:=ts },ty,pos,after,gd⟩).run P w = .ok (.enter f args.toArray) w:=by
 subst ha
 simp [execOp,resolve,Act.eval,Deferred.ofValue,invoke,hf]
def Env.lH (ρ:Env):List Operand→Option (List Value)
  | []=>some []
  | x::r=>match ρ.ev x,Env.lH ρ r with
    | some v,some l=>some (v::l)
    | _,_=>none
theorem rW.lH {a:Act} (h:rW N ρ a) : ∀ {xs:List Operand} {vs:List Value},ρ.lH xs=some vs→xs.map a.eval=vs
  | [],vs,e=>by cases e; rfl
  | x::r,vs,e=>by
    simp only [Env.lH] at e
    cases hx:ρ.ev x with
    | none=>rw [hx] at e; cases e
    | some v =>
      cases hr:ρ.lH r with
      | none=>rw [hx,hr] at e; cases e
      | some l =>
        rw [hx,hr] at e
        cases e
        simp [h.ev hx,h.lH hr]
theorem VL.call {f:FuncId} {args:List Value} {val:X→Value} {φ:X→Prop} {M2:X→Mo} {E2:X→Ow} {d:Nat} {ty:TypeId} {pos:String} {after:Array Edge} {xs:List Operand} {ts:Array TypeId}
    (h:Ct P f args M1 E1 val φ M2 E2) (ha:ρ.lH xs=some args) (hM : ∀ h,M.on h→M1.on h) (hE:nC E E1 F) (hd:d < N)
    (k : ∀ x,φ x→VL P N c ops Q rest ((d,val x)::ρ) ((M2 x).and M) (Ow.star (E2 x) F)) :
    VL P N c ops Q (⟨some d,.call { callee := .value (.func f),args:=xs.toArray,argTypes:=ts },ty,pos,after,none⟩::rest) ρ M E:=fun a w x y =>
  wpList_plain rfl fun K hK=>by
    unfold Oper.wp
    rw [aBs h.entry (x.lH ha)]
    simp only [Oper.upon]
    exact (h.at hM hE y).mono fun en w' ⟨r,e1,z,e2,e3,e4⟩=>by subst e1; subst e2; exact hK _ _ (k z e3 _ _ (x.put hd _) e4)
theorem Qt.call {f:FuncId} {args:List Value} {val:X→Value} {φ:X→Prop} {M2:X→Mo} {E2:X→Ow} {d:Option Nat} {ty:TypeId} {pos:String} {after:Array Edge} {gd:Option (Nat×Bool)} {xs:List Operand} {ts:Array TypeId}
    (h:Ct P f args M1 Ow.emp val φ M2 E2) (ha:ρ.lH xs=some args) (hM : ∀ h e,h.off e→M.on h→E e→M1.on (h.join e)) (hv : ∀ x,φ x→val x=v) :
    Qt P N c ⟨d,.call { callee := .value (.func f),args:=xs.toArray,argTypes:=ts },ty,pos,after,gd⟩ v ρ M E:=fun a w x y=>by
  unfold Oper.quietAt
  rw [aBs h.entry (x.lH ha)]
  exact ⟨rfl,h.gr hM y hv⟩
theorem PI {fn:Func} {R:Ending→World→Prop} {a:Act} {w:World} {x:Exit} (hx:x = .normal∨x = .ret) (hr:(results fn a.tmps).run P w = .ok v w) (hd:a.defers=[]) (hR:R (.returned v) w):bodyPost P fn R x a w:=by
 rcases hx with rfl | rfl <;> exact ⟨hd,v,hr,hR⟩
variable {fn:Func} {val:X→Value} {φ:X→Prop} {M2:X→Mo} {E2:X→Ow}
theorem rW.tmp {a:Act} (h:rW N ρ a) {t:Nat} (e:ρ.get t=some v):a.tmps.getD t undef=v:=by
 simp [Array.getD_eq_getD_getElem?,h.look t v e]
theorem GI {t:Nat} {y:Exit} (hy:y = .normal∨y = .ret) (hres:fn.results = #[.tmp t]) (ht:ρ.get t=some v) (x:X) (hv:v=val x) (hφ:φ x) (h1 : ∀ h,M.on h→(M2 x).on h) (h2 : ∀ e,E e→E2 x e) :
    ∀ a w,rW N ρ a→St c M E w→bodyPost P fn (fun en w' => ∃ r,en = .returned r∧Post val φ M2 E2 c r w') y a w:=fun a w g s =>
  PI hy (v:=v) (by rw [results_tmp hres,g.tmp ht]) g.defers ⟨_,rfl,x,hv,hφ,s.mono h1 h2⟩
theorem aUS {t u:Nat} {v':Value} {y:Exit} (hy:y = .normal∨y = .ret) (hres:fn.results = #[.tmp t,.tmp u]) (ht:ρ.get t=some v) (hu:ρ.get u=some v') (x:X) (hv : .tuple #[v,v']=val x) (hφ:φ x) (h1 : ∀ h,M.on h→(M2 x).on h) (h2 : ∀ e,E e→E2 x e) :
    ∀ a w,rW N ρ a→St c M E w→bodyPost P fn (fun en w' => ∃ r,en = .returned r∧Post val φ M2 E2 c r w') y a w:=fun a w g s =>
  PI hy (v := .tuple #[v,v']) (by rw [results_tmp2 hres,g.tmp ht,g.tmp hu]) g.defers ⟨_,rfl,x,hv,hφ,s.mono h1 h2⟩
theorem aFW {fn:Func} {t u z:Tmp} (h:fn.results = #[.tmp t,.tmp u,.tmp z]) (tmps:Array Value) (P:Program) (w:World) :
    (results fn tmps).run P w = .ok (.tuple #[tmps.getD t undef,tmps.getD u undef,tmps.getD z undef]) w:=by simp [results,h]
theorem aER {t u z:Nat} {v' v'':Value} {y:Exit} (hy:y = .normal∨y = .ret) (hres:fn.results = #[.tmp t,.tmp u,.tmp z]) (ht:ρ.get t=some v) (hu:ρ.get u=some v') (hz:ρ.get z=some v'') (x:X) (hv : .tuple #[v,v',v'']=val x) (hφ:φ x) (h1 : ∀ h,M.on h→(M2 x).on h) (h2 : ∀ e,E e→E2 x e) :
    ∀ a w,rW N ρ a→St c M E w→bodyPost P fn (fun en w' => ∃ r,en = .returned r∧Post val φ M2 E2 c r w') y a w:=fun a w g s =>
  PI hy (v := .tuple #[v,v',v'']) (by rw [aFW hres,g.tmp ht,g.tmp hu,g.tmp hz]) g.defers ⟨_,rfl,x,hv,hφ,s.mono h1 h2⟩
theorem rL {y:Exit} (hy:y = .normal∨y = .ret) (hres:fn.results = #[]) (x:X) (hv : .tuple #[]=val x) (hφ:φ x) (h1 : ∀ h,M.on h→(M2 x).on h) (h2 : ∀ e,E e→E2 x e) :
    ∀ a w,rW N ρ a→St c M E w→bodyPost P fn (fun en w' => ∃ r,en = .returned r∧Post val φ M2 E2 c r w') y a w:=fun a w g s =>
  PI hy (v := .tuple #[]) (by rw [results_none hres]) g.defers ⟨_,rfl,x,hv,hφ,s.mono h1 h2⟩
end
end Go.V
end

section
namespace Go.V
open Go.RowKit
abbrev str (l:List UInt8):Value := .string ⟨⟨l⟩⟩
abbrev i64 (n:Int):Value := .int .i64 n
abbrev ptr (b o:Nat):Value := .pointer (some ⟨b,o,none⟩)
def bP (n:Int):Prop := -9223372036854775808≤n∧n≤9223372036854775807
theorem TC {α:Type} [BEq α] [LawfulBEq α] [DecidableEq α] (a b:α):(a==b)=decide (a=b):=by
 by_cases h:a=b <;> simp [h]
theorem max_i64:IntKind.i64.max=9223372036854775807:=by decide
theorem wrap_i64 {n:Int} (h:bP n):IntKind.i64.wrap n=n:=by
 obtain ⟨a,b⟩:=h
 exact IntWalk.i64_in _ (by omega)
section
variable {P:Program} {N:Nat} {c:Cx} {ρ:Env} {M:Mo} {E:Ow} {v:Value} {d:Option Nat} {ty:TypeId} {pos:String} {after:Array Edge} {gd:Option (Nat×Bool)}
  {x y z:Operand} {m n:Int} {t t':TypeId} {k:IntKind}
theorem fR (e:ρ.ev x=some v):Qt P N c ⟨d,.move x,ty,pos,after,gd⟩ v ρ M E:=Qt.of_run fun a w g _=>by simp only [execOp,g.ev e]; simp [go_sem]
theorem uD (e:ρ.ev x=some v):Qt P N c ⟨d,.assign x,ty,pos,after,gd⟩ v ρ M E:=Qt.of_run fun a w g _=>by simp only [execOp,g.ev e]; simp [go_sem]
theorem aOb {b:Bool} {u:Value} (e:ρ.ev x=some (.bool b)) (h1:b=true→ρ.ev y=some u) (h2:b=false→ρ.ev z=some u):Qt P N c ⟨d,.pick x y z,ty,pos,after,gd⟩ u ρ M E:=Qt.of_run fun a w g _=>by
  cases b
  . simp only [execOp,g.ev e,g.ev (h2 rfl)]; simp [asBool,go_sem]
  . simp only [execOp,g.ev e,g.ev (h1 rfl)]; simp [asBool,go_sem]
theorem H6 {u:Value} (e:ρ.ev x=some (.bool true)) (h1:ρ.ev y=some u):Qt P N c ⟨d,.pick x y z,ty,pos,after,gd⟩ u ρ M E:=aOb e (fun _=>h1) (fun h=>by cases h)
theorem DJ {u:Value} (e:ρ.ev x=some (.bool false)) (h1:ρ.ev z=some u):Qt P N c ⟨d,.pick x y z,ty,pos,after,gd⟩ u ρ M E:=aOb e (fun h=>by cases h) (fun _=>h1)
theorem pY {op:BinOp} {u v':Value} (e1:ρ.ev x=some u) (e2:ρ.ev y=some v') (hg : ∀ w,(eqGuard op t x y u v').run P w = .ok () w) (h : ∀ w,(binOp op t u v').run P w = .ok v w):Qt P N c ⟨d,.binOp op t x y t',ty,pos,after,gd⟩ v ρ M E:=Qt.of_run fun a w g _=>by
  simp only [execOp,g.ev e1,g.ev e2]; simp [go_sem,hg,h]
theorem pG (op:BinOp) (k k':IntKind) (w:World):(eqGuard op t x y (.int k m) (.int k' n)).run P w = .ok () w:=by
 unfold eqGuard
 cases op <;> simp [go_sem] <;> rfl
theorem lN (e1:ρ.ev x=some (i64 m)) (e2:ρ.ev y=some (i64 n)) (h:bP (m+n)):Qt P N c ⟨d,.binOp .add t x y t',ty,pos,after,gd⟩ (i64 (m+n)) ρ M E:=pY e1 e2 (pG _ _ _) fun w=>by simp [binOp,Op.intArith,go_sem,wrap_i64 h]
theorem MI (e1:ρ.ev x=some (i64 m)) (e2:ρ.ev y=some (i64 n)) (h:bP (m - n)):Qt P N c ⟨d,.binOp .sub t x y t',ty,pos,after,gd⟩ (i64 (m - n)) ρ M E:=pY e1 e2 (pG _ _ _) fun w=>by simp [binOp,Op.intArith,go_sem,wrap_i64 h]
theorem aFR (e1:ρ.ev x=some (i64 m)) (e2:ρ.ev y=some (i64 n)) (h:bP (m*n)):Qt P N c ⟨d,.binOp .mul t x y t',ty,pos,after,gd⟩ (i64 (m*n)) ρ M E:=pY e1 e2 (pG _ _ _) fun w=>by simp [binOp,Op.intArith,go_sem,wrap_i64 h]
theorem qU (e1:ρ.ev x=some (.int k m)) (e2:ρ.ev y=some (.int k n)):Qt P N c ⟨d,.binOp .lss t x y t',ty,pos,after,gd⟩ (.bool (decide (m < n))) ρ M E:=pY e1 e2 (pG _ _ _) fun w=>by simp [binOp,Op.intCmp,go_sem]
theorem aBq (e1:ρ.ev x=some (.int k m)) (e2:ρ.ev y=some (.int k n)):Qt P N c ⟨d,.binOp .leq t x y t',ty,pos,after,gd⟩ (.bool (decide (m≤n))) ρ M E:=pY e1 e2 (pG _ _ _) fun w=>by simp [binOp,Op.intCmp,go_sem]
theorem wV (e1:ρ.ev x=some (.int k m)) (e2:ρ.ev y=some (.int k n)):Qt P N c ⟨d,.binOp .gtr t x y t',ty,pos,after,gd⟩ (.bool (decide (n < m))) ρ M E:=pY e1 e2 (pG _ _ _) fun w=>by simp [binOp,Op.intCmp,go_sem]
theorem MH (e1:ρ.ev x=some (.int k m)) (e2:ρ.ev y=some (.int k n)):Qt P N c ⟨d,.binOp .geq t x y t',ty,pos,after,gd⟩ (.bool (decide (n≤m))) ρ M E:=pY e1 e2 (pG _ _ _) fun w=>by simp [binOp,Op.intCmp,go_sem]
theorem KE (e1:ρ.ev x=some (.int k m)) (e2:ρ.ev y=some (.int k n)):Qt P N c ⟨d,.binOp .eql t x y t',ty,pos,after,gd⟩ (.bool (decide (m=n))) ρ M E:=pY e1 e2 (pG _ _ _) fun w=>by simp [binOp,Op.intCmp,go_sem]; exact TC _ _
theorem X9 (e1:ρ.ev x=some (.int k m)) (e2:ρ.ev y=some (.int k n)):Qt P N c ⟨d,.binOp .neq t x y t',ty,pos,after,gd⟩ (.bool (!decide (m=n))) ρ M E:=pY e1 e2 (pG _ _ _) fun w=>by simp [binOp,Op.intCmp,go_sem]; exact congrArg not (TC _ _)
theorem GU {b:Bool} (e1:ρ.ev x=some (.bool b)):Qt P N c ⟨d,.unOp .not t x,ty,pos,after,gd⟩ (.bool (!b)) ρ M E:=Qt.of_run fun a w g _=>by simp only [execOp,g.ev e1]; simp [go_sem,Op.unary]
theorem LV (op:BinOp) (s s':ByteArray) (w:World):(eqGuard op t x y (.string s) (.string s')).run P w = .ok () w:=by
 unfold eqGuard
 cases op <;> simp [go_sem] <;> rfl
theorem UL {s s':List UInt8} (e1:ρ.ev x=some (str s)) (e2:ρ.ev y=some (str s')):Qt P N c ⟨d,.binOp .eql t x y t',ty,pos,after,gd⟩ (.bool (decide (s=s'))) ρ M E:=pY e1 e2 (LV _ _ _) fun w=>by
  simp [binOp,Op.stringOp,go_sem]; exact TC _ _
theorem KF {s s':List UInt8} (e1:ρ.ev x=some (str s)) (e2:ρ.ev y=some (str s')):Qt P N c ⟨d,.binOp .neq t x y t',ty,pos,after,gd⟩ (.bool (!decide (s=s'))) ρ M E:=pY e1 e2 (LV _ _ _) fun w=>by
  simp [binOp,Op.stringOp,go_sem]; exact TC _ _
theorem a5x {s s':List UInt8} (e1:ρ.ev x=some (str s)) (e2:ρ.ev y=some (str s')) (h:s.length+s'.length≤9223372036854775807):Qt P N c ⟨d,.binOp .add t x y t',ty,pos,after,gd⟩ (str (s++s')) ρ M E:=pY e1 e2 (LV _ _ _) fun w=>by
  have hs:(⟨⟨s⟩⟩:ByteArray).size=s.length:=rfl
  have hs':(⟨⟨s'⟩⟩:ByteArray).size=s'.length:=rfl
  simp only [binOp,Op.stringOp,hs,hs']
  rw [if_neg (by rw [max_i64]; omega)]
  simp [go_sem]
  exact ByteArray.ext (by simp)
theorem aG9 (op:BinOp) (T:TypeId) (u:Value) (w:World):(eqGuard op t x y (.iface T u) .nilIface).run P w = .ok () w:=by
 unfold eqGuard
 cases op <;> simp [go_sem] <;> rfl
theorem aEd (op:BinOp) (u:Value) (w:World):(eqGuard op t x (.const u) .nilIface .nilIface).run P w = .ok () w:=by
 unfold eqGuard
 cases op <;> simp [go_sem] <;> rfl
theorem NJ {ms:Array (String×TypeId)} (ht:P.underlying t=some (.interface ms)):P.underlying t=some (.interface (P.methodsAt t)):=by
 rw [ht]; simp [Program.methodsAt,ht]
theorem aLG {ms:Array (String×TypeId)} (ht:P.underlying t=some (.interface ms)) (e:ρ.ev x=some .nilIface):Qt P N c ⟨d,.binOp .eql t x (.const .nilIface) t',ty,pos,after,gd⟩ (.bool true) ρ M E:=pY e rfl (aEd _ _) (fun w=>Go.run_eql_nil_nil w t (NJ ht))
theorem aLH {ms:Array (String×TypeId)} (ht:P.underlying t=some (.interface ms)) (e:ρ.ev x=some .nilIface):Qt P N c ⟨d,.binOp .neq t x (.const .nilIface) t',ty,pos,after,gd⟩ (.bool false) ρ M E:=pY e rfl (aEd _ _) (fun w=>Go.run_neq_nil_nil w t (NJ ht))
theorem aO8 {ms:Array (String×TypeId)} (ht:P.underlying t=some (.interface ms)) {T:TypeId} {u:Value} (e:ρ.ev x=some (.iface T u)):Qt P N c ⟨d,.binOp .eql t x (.const .nilIface) t',ty,pos,after,gd⟩ (.bool false) ρ M E:=pY e rfl (aG9 _ _ _) (fun w=>Go.run_eql_held_nil w t T u (NJ ht))
theorem aO9 {ms:Array (String×TypeId)} (ht:P.underlying t=some (.interface ms)) {T:TypeId} {u:Value} (e:ρ.ev x=some (.iface T u)):Qt P N c ⟨d,.binOp .neq t x (.const .nilIface) t',ty,pos,after,gd⟩ (.bool true) ρ M E:=pY e rfl (aG9 _ _ _) (fun w=>Go.run_neq_held_nil w t T u (NJ ht))
theorem a1Q {D:TypeDesc} (ht:P.underlying t=some D) (hn : ∀ ms,D ≠ .interface ms) (e:ρ.ev x=some v):Qt P N c ⟨d,.makeInterface t x,ty,pos,after,gd⟩ (.iface t v) ρ M E:=Qt.of_run fun a w g _=>by
  simp only [execOp,g.ev e,Instr.makeInterface]
  cases D <;> first | exact absurd rfl (hn _) | simp [go_sem,run_underlying ht]
theorem lX {p:Addr} (e:ρ.ev x=some (.pointer (some p))):Qt P N c ⟨d,.nilCheck x,ty,pos,after,gd⟩ (.pointer (some p)) ρ M E:=Qt.of_run fun a w g _=>by
  simp only [execOp,g.ev e]; simp [go_sem]
theorem HZ {vs:Array Value} {i:Nat} (e:ρ.ev x=some (.tuple vs)) (h:vs[i]? = some v):Qt P N c ⟨d,.extract x i,ty,pos,after,gd⟩ v ρ M E:=Qt.of_run fun a w g _=>by
  simp only [execOp,g.ev e]; simp [Instr.extract,go_sem,h]
theorem a5z {e:TypeId} {p:Option Addr} {l cp:Nat} {xs:List Operand} (ht:P.underlying t=some (.slice e)) (h:ρ.lH xs=some [.slice p l cp]):Qt P N c ⟨d,.call { callee := .builtin .len,args:=xs.toArray,argTypes := #[t]},ty,pos,after,gd⟩ (i64 l) ρ M E:=Qt.of_run fun a w g _=>by
  simp only [execOp,resolve,List.map_toArray,g.lH h]
  simp [go_sem,invoke,builtin,Builtin.len_,run_underlying ht,goInt]
theorem xN {s:List UInt8} {xs:List Operand} (ht:P.underlying t=some .string) (h:ρ.lH xs=some [str s]):Qt P N c ⟨d,.call { callee := .builtin .len,args:=xs.toArray,argTypes := #[t]},ty,pos,after,gd⟩ (i64 s.length) ρ M E:=Qt.of_run fun a w g _=>by
  have hs:(⟨⟨s⟩⟩:ByteArray).size=s.length:=rfl
  simp only [execOp,resolve,List.map_toArray,g.lH h]
  simp [go_sem,invoke,builtin,Builtin.len_,run_underlying ht,goInt,hs]
theorem nM (b o j:Nat):(⟨b,o,none⟩:Addr).add j=⟨b,o+j,none⟩:=by
 unfold Addr.add
 split
 ·
  rename_i h; subst h; rfl
 rfl
def cC (P:Program) (s:TypeId) (i off:Nat):Prop := ∀ b o w,(Instr.fieldAt s (ptr b o) i).run P w = .ok (ptr b (o+off)) w
theorem aJ2 {s:TypeId} {i:Nat} {fs:Array Field} {f:Field} (ht:P.underlying s=some (.struct fs)) (hf:fs[i]? = some f) {j:TypeInfo} (hi:P.info? f.type=some j) (hz:j.size≠0):cC P s i f.offset:=fun b o w=>by
  simp [Instr.fieldAt,Instr.sureAddr,fieldPlace,go_sem,run_underlying ht,hf,sizeOf,typeInfo,hi,hz,nM]
theorem bY {s:TypeId} {i off b o:Nat} (hf:cC P s i off) (e:ρ.ev x=some (ptr b o)):Qt P N c ⟨d,.fieldAddr s x i,ty,pos,after,gd⟩ (ptr b (o+off)) ρ M E:=Qt.of_run fun a w g _=>by
  simp only [execOp,g.ev e,Sem.run_bind,hf b o w,Result.andThen_ok,Sem.run_pure]
theorem xM {k:IntKind} {s:List UInt8} {i:Int} {u:UInt8} (ht:P.underlying t=some .string) (e1:ρ.ev x=some (str s)) (e2:ρ.ev y=some (.int k i)) (h0:0≤i) (h1:s[i.toNat]? = some u) :
    Qt P N c ⟨d,.index t x y,ty,pos,after,gd⟩ (.int .u8 u.toNat) ρ M E:=Qt.of_run fun a w g _=>by
  obtain ⟨hl,hu⟩:=List.getElem?_eq_some_iff.1 h1
  have hq:(⟨⟨s⟩⟩:ByteArray)[i.toNat]? = some u:=by
    rw [getElem?_pos (⟨⟨s⟩⟩:ByteArray) i.toNat (by exact hl)]
    exact congrArg some hu
  simp only [execOp,g.ev e1,g.ev e2]
  simp [Instr.index,asIntOf,go_sem,run_underlying ht,h0,hq]
end
end Go.V
end

section
namespace Go.V
open Go.RowKit
def Hp.cell (h:Hp) (b o:Nat):Option Value:=match h b with
  | some (.cells c _ _)=>c[o]?
  | _=>none
theorem aXc (w:World) (b o:Nat):(wh w).cell b o=w.cell? ⟨b,o,none⟩:=by
 unfold Hp.cell wh World.cell?
 cases w.heap[b]? with
 | none=>rfl
 | some x=>cases x <;> rfl
theorem Hp.le.cell {h k:Hp} (l:h.le k) {b o:Nat} {v:Value} (e:h.cell b o=some v):k.cell b o=some v:=by
 unfold Hp.cell at *
 cases x:h b with
 | none=>rw [x] at e; cases e
 | some y=>rw [l b y x]; rw [x] at e; exact e
theorem tQ {h:Hp} {w:World} (l:h.le (wh w)) {b o:Nat} {v:Value} (e:h.cell b o=some v):w.cell? ⟨b,o,none⟩=some v:=by rw [← aXc]; exact l.cell e
def Hp.at (h:Hp) (b o:Nat) (cs:List Value):Prop := ∀ j v,cs[j]? = some v→h.cell b (o+j)=some v
theorem Hp.at.up {h k:Hp} (l:h.le k) {b o:Nat} {cs:List Value} (e:h.at b o cs):k.at b o cs:=fun j v x=>l.cell (e j v x)
def Cells (b o:Nat) (cs:List Value):Mo:=⟨fun h=>h.at b o cs,fun l e=>e.up l⟩
abbrev bI:=List UInt8
class bB (α:Type) where
  sz:Nat
  enc:α→List Value
  len : ∀ x,(enc x).length=sz
  one : ∀ x u,u∈enc x→u.oneCell'=true
  deep:α→Mo
instance:bB bI:=⟨1,fun s=>[str s],fun _=>rfl,fun _ _ h=>by cases List.mem_singleton.1 h; rfl,fun _=>Mo.tt⟩
instance:bB Int:=⟨1,fun n=>[i64 n],fun _=>rfl,fun _ _ h=>by cases List.mem_singleton.1 h; rfl,fun _=>Mo.tt⟩
instance:bB Bool:=⟨1,fun n=>[.bool n],fun _=>rfl,fun _ _ h=>by cases List.mem_singleton.1 h; rfl,fun _=>Mo.tt⟩
structure Sv (α:Type) where
  a:Option Addr
  c:Nat
  l:List α
def Sv.val {α:Type} (s:Sv α):Value := .slice s.a s.l.length s.c
def Sv.b {α:Type} (s:Sv α):Nat:=(s.a.getD default).block
def Sv.o {α:Type} (s:Sv α):Nat:=(s.a.getD default).off
variable {α:Type} [bB α]
def Sv.ok (s:Sv α):Mo:=⟨fun h=>s.l.length≤s.c∧s.c≤maxLen∧(s.l≠[]→s.a=some ⟨s.b,s.o,none⟩)∧(∀ i x,s.l[i]? = some x→h.at s.b (s.o+i*bB.sz α) (bB.enc x)) ∧ ∀ x,x∈s.l→(bB.deep x).on h,
  fun k ⟨a,b,c,d,e⟩=>⟨a,b,c,fun i x q=>(d i x q).up k,fun x q=>(bB.deep x).up k (e x q)⟩⟩
instance:bB (Sv α):=⟨1,fun s=>[s.val],fun _=>rfl,fun _ _ h=>by cases List.mem_singleton.1 h; rfl,fun s=>s.ok⟩
def bM (b:Nat) (cs:List Value) (T:TypeId):Ow:=fun e=>e b=some (.cells cs.toArray T (0,0))
def Sv.own (s:Sv α) (T:TypeId):Ow:=fun e=>s.l.length≤s.c∧s.c≤maxLen ∧
  ((s.l=[]∧s.c=0) ∨ ∃ g cur,s.a=some ⟨g,0,none⟩∧e g=some (.cells cur T (0,0))∧s.c*bB.sz α≤cur.size∧cur.toList.take (s.l.length*bB.sz α)=s.l.flatMap bB.enc)
def Rd (M:Mo) (E:Ow) (b o:Nat) (cs:List Value):Prop := ∀ h e,h.off e→M.on h→E e→(h.join e).at b o cs
theorem Rd.aVl {M:Mo} {E:Ow} {b o:Nat} {cs:List Value} (h : ∀ h,M.on h→h.at b o cs):Rd M E b o cs:=fun x y _ m _=>(h x m).up (Hp.cU x y)
theorem Rd.aHv {M:Mo} {E:Ow} {b o:Nat} {cs:List Value} (h : ∀ e,E e→e.at b o cs):Rd M E b o cs:=fun x y d _ m=>(h y m).up (Hp.fS d)
theorem Rd.drop {M:Mo} {E:Ow} {b o j:Nat} {cs:List Value} {v:Value} (h:Rd M E b o cs) (hj:cs[j]? = some v):Rd M E b (o+j) [v]:=fun x y d m e k u hk=>by
  match k,hk with
  | 0,hk=>cases hk; exact h x y d m e j v hj
theorem Rd.mo {M:Mo} {E:Ow} {b o:Nat} {cs:List Value} {v:Value} (h : ∀ h,M.on h→h.at b o cs) (j:Nat) (hj:cs[j]? = some v):Rd M E b (o+j) [v]:=(Rd.aVl h).drop hj
theorem Hp.Y4 {e:Hp} {b:Nat} {cs:List Value} {T:TypeId} (h:e b=some (.cells cs.toArray T (0,0))):e.at b 0 cs:=fun j v hj=>by
  simp [Hp.cell,h,hj]
class BR (E:Ow) (b:Nat) (cs:outParam (List Value)) (T:outParam TypeId):Prop where
  out : ∀ e,E e→bM b cs T e
instance BR.here (b:Nat) (cs:List Value) (T:TypeId):BR (bM b cs T) b cs T:=⟨fun _ h=>h⟩
theorem bM.up {b:Nat} {cs:List Value} {T:TypeId} {x y:Hp} (l:x.le y) (h:bM b cs T x):bM b cs T y:=l _ _ h
instance BR.left (A B:Ow) (b:Nat) (cs:List Value) (T:TypeId) [i:BR A b cs T]:BR (Ow.star A B) b cs T:=⟨fun e ⟨x,y,_,j,hx,_⟩=>by subst j; exact (i.out x hx).up (Hp.cU x y)⟩
instance BR.right (A B:Ow) (b:Nat) (cs:List Value) (T:TypeId) [i:BR B b cs T]:BR (Ow.star A B) b cs T:=⟨fun e ⟨x,y,d,j,_,hy⟩=>by subst j; exact (i.out y hy).up (Hp.fS d)⟩
theorem Rd.blk {M:Mo} {E:Ow} {b:Nat} {cs:List Value} {T:TypeId} [i:BR E b cs T]:Rd M E b 0 cs:=Rd.aHv fun e h=>Hp.Y4 (i.out e h)
theorem Rd.own {M:Mo} {E:Ow} (b j:Nat) {cs:List Value} {T:TypeId} [i:BR E b cs T] {v:Value} (hj:cs[j]? = some v):Rd M E b j [v]:=by
 have:=(Rd.blk (M:=M) (i:=i)).drop hj
 simpa using this
theorem Sv.aAM {s:Sv α} {h:Hp} (k:s.ok.on h) {i:Nat} {x:α} (hx:s.l[i]? = some x):h.at s.b (s.o+i*bB.sz α) (bB.enc x):=k.2.2.2.1 i x hx
theorem GK {sz:Nat} {enc:α→List Value} (hl : ∀ x,(enc x).length=sz) : ∀ (l:List α) (i:Nat) (x:α),l[i]? = some x → ∀ j v,(enc x)[j]? = some v→(l.flatMap enc)[i*sz+j]? = some v
  | [],_,_,h,_,_,_=>by simp at h
  | y::r,0,x,h,j,v,hv=>by
    simp at h; subst h
    have hj:j < (enc y).length:=(List.getElem?_eq_some_iff.1 hv).1
    simp [List.flatMap_cons,List.getElem?_append_left hj,hv]
  | y::r,i+1,x,h,j,v,hv=>by
    simp only [List.getElem?_cons_succ] at h
    have:=GK hl r i x h j v hv
    rw [List.flatMap_cons,List.getElem?_append_right (by rw [hl]; rw [Nat.add_mul]; omega),hl,show (i+1)*sz+j - sz=i*sz+j by rw [Nat.add_mul]; omega]
    exact this
theorem Sv.JS {s:Sv α} {T:TypeId} {e:Hp} (k:s.own T e) {i:Nat} {x:α} (hx:s.l[i]? = some x):e.at s.b (s.o+i*bB.sz α) (bB.enc x):=by
 obtain ⟨_,_,⟨hl,_⟩ | ⟨g,cur,ha,hg,hs,ht⟩⟩:=k
 ·
  rw [hl] at hx; simp at hx
 intro j v hv
 have hb:s.b=g:=by simp [Sv.b,ha]
 have ho:s.o=0:=by simp [Sv.o,ha]
 rw [hb,ho]
 simp only [Hp.cell,hg]
 have hf:=GK (α:=α) bB.len s.l i x hx j v hv
 rw [← ht,List.getElem?_take] at hf
 split at hf
 ·
  rw [Array.getElem?_toList] at hf
  rw [show 0+i*bB.sz α+j=i*bB.sz α+j by omega]
  exact hf
 cases hf
theorem Sv.aD0 {s:Sv α} {T:TypeId} {e:Hp} (k:s.own T e) (hd : ∀ x,x∈s.l→(bB.deep x).on e):s.ok.on e:=by
 refine ⟨k.1,k.2.1,fun hne => ?_,fun i x hx=>Sv.JS k hx,hd⟩
 obtain ⟨_,_,⟨hl,_⟩ | ⟨g,cur,ha,_⟩⟩:=k
 ·
  exact absurd hl hne
 simp [Sv.b,Sv.o,ha]
end Go.V
end

section
namespace Go.V
open Go.RowKit
section
variable {P:Program} {N:Nat} {c:Cx} {ops:Array Oper} {Q:Exit→Act→World→Prop} {rest:List Oper} {o:Oper} {ρ ρ':Env} {M M' M1:Mo} {E E' E1 F A:Ow} {v:Value} {X:Type}
  {d:Nat} {od:Option Nat} {ty:TypeId} {pos:String} {after:Array Edge} {gd:Option (Nat×Bool)} {x y:Operand} {t e:TypeId} {α:Type} [bB α]
theorem VL.big {op:Op} {val:X→Value} {φ:X→Prop} {M2:X→Mo} {A2:X→Ow} (hE:nC E A F)
    (H : ∀ a w h z,rW N ρ a→h.off z→M.on h→A z→h.le (wh w)→z.le (wh w) → ∃ u w',(execOp a.eval ⟨some d,op,ty,pos,after,none⟩).run P w = .ok (.value u) w' ∧ ∃ q,φ q∧u=val q∧St ⟨w,h,fun b=>z b≠none⟩ (M2 q) (A2 q) w') (hd:d < N)
    (k : ∀ q,φ q→VL P N c ops Q rest ((d,val q)::ρ) ((M2 q).and M) (Ow.star (A2 q) F)):VL P N c ops Q (⟨some d,op,ty,pos,after,none⟩::rest) ρ M E:=fun a w g s =>
  wpList_plain rfl fun _ hK=>by
    have s0:=s
    obtain ⟨⟨hp,e,m,ee,dd,l,kk,h0,hr,er⟩,_⟩:=s
    obtain ⟨x,y,dxy,j,hx,hy⟩:=hE e ee
    have dx:hp.off x:=fun b=>(dd b).imp id fun z=>by rw [j] at z; exact (Hp.join_none.1 z).1
    obtain ⟨u,w',hr',q,hq,hu,s'⟩:=H a w hp x g dx m hx l (fun b o z=>kk b o (by rw [j]; exact Hp.cU x y b o z))
    unfold Oper.wp
    rw [hr']
    simp only [Oper.upon]
    subst hu
    exact hK _ _ (k q hq _ _ (g.put hd _) (St.call s0 m dd l kk h0 hr er dxy j hy (fun b=>Iff.rfl) s'))
theorem VL.aT1 {op:Op} {A2:Ow} (hE:nC E A F)
    (H : ∀ a w h z,rW N ρ a→h.off z→M.on h→A z→h.le (wh w)→z.le (wh w) → ∃ w',(execOp a.eval ⟨none,op,ty,pos,after,none⟩).run P w = .ok .skip w'∧St ⟨w,h,fun b=>z b≠none⟩ Mo.tt A2 w')
    (k:VL P N c ops Q rest ρ M (Ow.star A2 F)):VL P N c ops Q (⟨none,op,ty,pos,after,none⟩::rest) ρ M E:=fun a w g s =>
  wpList_plain rfl fun _ hK=>by
    have s0:=s
    obtain ⟨⟨hp,e,m,ee,dd,l,kk,h0,hr,er⟩,_⟩:=s
    obtain ⟨x,y,dxy,j,hx,hy⟩:=hE e ee
    have dx:hp.off x:=fun b=>(dd b).imp id fun z=>by rw [j] at z; exact (Hp.join_none.1 z).1
    obtain ⟨w',hr',s'⟩:=H a w hp x g dx m hx l (fun b o z=>kk b o (by rw [j]; exact Hp.cU x y b o z))
    unfold Oper.wp
    rw [hr']
    simp only [Oper.upon]
    have s2:=St.call s0 m dd l kk h0 hr er dxy j hy (fun b=>Iff.rfl) s'
    exact hK _ _ (k _ _ ⟨g.size,g.defers,g.look⟩ (s2.mono (fun _ z=>z.2) fun _ z=>z))
theorem VL.freeze (hE:nC E A F) (h1 : ∀ h e,h.off e→M.on h→A e→M'.on (h.join e)) (k:VL P N c ops Q rest ρ (M'.and M) F):VL P N c ops Q rest ρ M E:=fun a w g s=>k a w g (by
  obtain ⟨⟨hp,e,m,ee,dd,l,kk,h0,hr,er⟩,f,o,t,u,z⟩:=s
  obtain ⟨x,y,dxy,j,hx,hy⟩:=hE e ee
  have dx:hp.off x:=fun b=>(dd b).imp id fun z=>by rw [j] at z; exact (Hp.join_none.1 z).1
  refine ⟨⟨hp.join x,y,⟨h1 _ _ dx m hx,M.up (Hp.cU _ _) m⟩,hy,fun b => ?_,Hp.join_le l fun b o q=>kk b o (by rw [j]; exact Hp.cU x y b o q),fun b o q=>kk b o (by rw [j]; exact Hp.fS dxy b o q),h0.trans (Hp.cU _ _),fun b hb => ?_,fun b hb=>er b fun q=>hb (by rw [j] at q; exact (Hp.join_none.1 q).2)⟩,f,o,t,u,z⟩
  . rcases dxy b with q | q
    . rcases dd b with p | p
      . exact .inl (Hp.join_none.2 ⟨p,q⟩)
      . rw [j] at p; exact .inr (Hp.join_none.1 p).2
    . exact .inr q
  . by_cases q:hp b=none
    . have:x b≠none:=fun p=>hb (Hp.join_none.2 ⟨q,p⟩)
      rcases er b (fun p=>this (by rw [j] at p; exact (Hp.join_none.1 p).1)) with p | p
      . exact .inr (.inl p)
      . exact .inr (.inr p)
    . exact hr b q)
theorem VC.freeze {k:Code} (hE:nC E A F) (h1 : ∀ h e,h.off e→M.on h→A e→M'.on (h.join e)) (g:VC P N c Q k ρ (M'.and M) F):VC P N c Q k ρ M E:=fun a w r s =>
  by
    obtain ⟨⟨hp,e,m,ee,dd,l,kk,h0,hr,er⟩,f,o,t,u,z⟩:=s
    obtain ⟨x,y,dxy,j,hx,hy⟩:=hE e ee
    have dx:hp.off x:=fun b=>(dd b).imp id fun z=>by rw [j] at z; exact (Hp.join_none.1 z).1
    refine g a w r ⟨⟨hp.join x,y,⟨h1 _ _ dx m hx,M.up (Hp.cU _ _) m⟩,hy,fun b => ?_,Hp.join_le l fun b o q=>kk b o (by rw [j]; exact Hp.cU x y b o q),fun b o q=>kk b o (by rw [j]; exact Hp.fS dxy b o q),h0.trans (Hp.cU _ _),fun b hb => ?_,fun b hb=>er b fun q=>hb (by rw [j] at q; exact (Hp.join_none.1 q).2)⟩,f,o,t,u,z⟩
    . rcases dxy b with q | q
      . rcases dd b with p | p
        . exact .inl (Hp.join_none.2 ⟨p,q⟩)
        . rw [j] at p; exact .inr (Hp.join_none.1 p).2
      . exact .inr q
    . by_cases q:hp b=none
      . have:x b≠none:=fun p=>hb (Hp.join_none.2 ⟨q,p⟩)
        rcases er b (fun p=>this (by rw [j] at p; exact (Hp.join_none.1 p).1)) with p | p
        . exact .inr (.inl p)
        . exact .inr (.inr p)
      . exact hr b q
def OneCell (P:Program) (t:TypeId):Prop := ∀ w,(isAgg t).run P w = .ok false w
def rO (P:Program) (t:TypeId) (n:Nat):Prop := ∀ w,(isAgg t).run P w = .ok true w∧(sizeOf t).run P w = .ok n w
theorem kU {D:TypeDesc} (h:P.underlying t=some D) (h1:(match D with | .struct _ | .array _ _=>true | _=>false)=false):OneCell P t:=fun w=>by
  cases D <;> simp_all [isAgg,run_underlying h]
theorem nN {D:TypeDesc} {n:Nat} (h:P.underlying t=some D) (h1:(match D with | .struct _ | .array _ _=>true | _=>false)=true) (hn:(P.info? t).map (·.size)=some n):rO P t n:=fun w=>by
  cases hi:P.info? t with
  | none=>rw [hi] at hn; cases hn
  | some i =>
    rw [hi] at hn
    cases hn
    cases D <;> simp_all [isAgg,run_underlying h,sizeOf,typeInfo]
theorem Rd.cell {b o:Nat} {cs:List Value} {w:World} (h:Rd M E b o cs) (s:St c M E w) {j:Nat} {u:Value} (hj:cs[j]? = some u):w.cell? ⟨b,o+j,none⟩=some u:=by
 obtain ⟨⟨hp,e,m,ee,dd,l,kk,_⟩,_⟩:=s
 exact tQ (Hp.join_le l kk) (h hp e dd m ee j u hj)
theorem V1 {b o:Nat} (h1:OneCell P t) (e1:ρ.ev x=some (ptr b o)) (h:Rd M E b o [v]):Qt P N c ⟨od,.load t x,ty,pos,after,gd⟩ v ρ M E:=Qt.of_run fun a w g s=>by
  have hc:=h.cell s (j:=0) rfl
  simp only [Nat.add_zero] at hc
  simp only [execOp,g.ev e1,Instr.loadAt,Instr.sureAddr,loadVar,Sem.run_bind,Sem.run_pure,Result.andThen_ok,h1 w]
  simp [load,Sem.run,hc,go_sem]
theorem UJ {b o n:Nat} {cs:List Value} (h1:rO P t n) (hn:cs.length=n) (e1:ρ.ev x=some (ptr b o)) (h:Rd M E b o cs):Qt P N c ⟨od,.load t x,ty,pos,after,gd⟩ (.agg cs.toArray) ρ M E:=Qt.of_run fun a w g s=>by
  have hl:=run_loadCells_list (P:=P) w ⟨b,o,none⟩ cs (fun j u hj=>by rw [nM]; exact h.cell s hj)
  simp only [execOp,g.ev e1,Instr.loadAt,Instr.sureAddr,loadVar,Sem.run_bind,Sem.run_pure,Result.andThen_ok,(h1 w).1,(h1 w).2,if_true,← hn,hl]
theorem Sv.a1C {s:Sv α} {h:Hp} (k:s.ok.on h) {i:Nat} (hi:i < s.l.length):s.val = .slice (some ⟨s.b,s.o,none⟩) s.l.length s.c:=by
 have:=k.2.2.1 (fun e=>by rw [e] at hi; simp at hi)
 unfold Sv.val
 rw [← this]
def RdS (M:Mo) (E:Ow) (s:Sv α):Prop := ∀ h e,h.off e→M.on h→E e→s.ok.on (h.join e)
theorem RdS.mo {s:Sv α} (h : ∀ h,M.on h→s.ok.on h):RdS M E s:=fun a b _ m _=>s.ok.up (Hp.cU a b) (h a m)
theorem RdS.get {s:Sv α} (h:RdS M E s) {i:Nat} {z:α} (hi:s.l[i]? = some z):Rd M E s.b (s.o+i*bB.sz α) (bB.enc z):=fun a b dd m ee=>Sv.aAM (h a b dd m ee) hi
theorem a9P {s:Sv α} {k:IntKind} {i:Int} (ht:P.underlying t=some (.slice e)) (hi:(P.info? e).map (·.size)=some (bB.sz α)) (e1:ρ.ev x=some s.val) (e2:ρ.ev y=some (.int k i)) (hs:RdS M E s) (h0:0≤i) (h1:i < s.l.length) :
    Qt P N c ⟨od,.indexAddr t x y,ty,pos,after,gd⟩ (ptr s.b (s.o+i.toNat*bB.sz α)) ρ M E:=Qt.of_run fun a w g st=>by
  obtain ⟨⟨hp,ee,m,eE,dd,l,kk,_⟩,_⟩:=st
  have hv:=Sv.a1C (hs hp ee dd m eE) (i:=i.toNat) (by omega)
  rw [hv] at e1
  cases hj:P.info? e with
  | none=>rw [hj] at hi; cases hi
  | some j =>
    rw [hj] at hi
    have hz:j.size=bB.sz α:=by simpa using hi
    simp only [execOp,g.ev e1,g.ev e2]
    simp [Instr.indexAt,asIntOf,go_sem,run_underlying ht,h0,h1,sizeOf,typeInfo,hj,nM,hz]
theorem J0 {s:Sv α} {xs:List Operand} (ht:P.underlying t=some (.slice e)) (h:ρ.lH xs=some [s.val]):Qt P N c ⟨od,.call { callee := .builtin .len,args:=xs.toArray,argTypes := #[t]},ty,pos,after,gd⟩ (i64 s.l.length) ρ M E:=a5z ht h
end
end Go.V
end

section
namespace Go.V
open Go.RowKit
section
variable {P:Program} {ops:Array Oper} {Q:Exit→Act→World→Prop} {o:Oper} {v:Value} {a:Act} {w:World} {K K':Act→World→Prop}
def GL (P:Program) (o:Oper) (a:Act) (next:Act→World→Prop):Result Next→Prop
  | .ok (.value v) w'=>next (a.put o.dst v) w'
  | .ok .skip w'=>next (a.put o.dst undef) w'
  | .ok (.enter f args) w'=>Calls P f args w' fun e w'' => ∃ v,e = .returned v∧next (a.put o.dst v) w''
  | .ok (.row row args) w'=>Rows P row args w' fun v w''=>next (a.put o.dst v) w''
  | .ok (.defer d) w'=>next ({ a with defers:=d::a.defers }.put o.dst undef) w'
  | _=>False
def HR (P:Program) (ops:Array Oper) (i:Nat) (K:Act→World→Prop) (a:Act) (w:World):Prop :=
  match ops[i]? with
  | none=>K a w
  | some o=>if Region.wanted o (yielded ops a.tmps) then GL P o a K ((execOp a.eval o).run P w) else K (a.put o.dst undef) w
theorem aJ5 {r:Result Next} (h : ∀ a w,K a w→K' a w) (hh:GL P o a K r):GL P o a K' r:=by
 cases r with
 | ok n w' =>
   cases n <;> simp only [GL] at hh ⊢
   case enter f args=>exact hh.mono fun e w'' ⟨v,e1,e2⟩=>⟨v,e1,h _ _ e2⟩
   case row row args=>exact Rows.mono hh fun v w'' e2=>h _ _ e2
   all_goals exact h _ _ hh
 | halt x w'=>simp only [GL] at hh
theorem VK {i:Nat} (h : ∀ a w,K a w→K' a w) (hh:HR P ops i K a w):HR P ops i K' a w:=by
 unfold HR at *
 split
 ·
  exact h _ _ (by simpa [*] using hh)
 rename_i o ho
 simp only [ho] at hh
 split
 ·
  rename_i hw; simp only [hw,if_true] at hh; exact aJ5 h hh
 rename_i hw; simp only [hw] at hh; exact h _ _ hh
theorem aIF {i:Nat} (h : ∀ a w,K a w→K' a w) (hh:HR P ops i K a w):wpOp P ops Q i K' a w:=by
 unfold HR at hh
 unfold wpOp
 split
 ·
  rename_i ho; simp only [ho] at hh; exact h _ _ hh
 rename_i o ho
 simp only [ho] at hh
 split
 ·
  rename_i hw
  simp only [hw,if_true] at hh
  left
  unfold Oper.wp
  generalize (execOp a.eval o).run P w=r at *
  cases r with
  | ok n w' =>
    cases n <;> simp only [GL] at hh <;> simp only [Oper.upon]
    case enter f args=>exact hh.mono fun e w'' ⟨v,e1,e2⟩=>by subst e1; exact h _ _ e2
    case row row args=>exact Rows.mono hh fun v w'' e2=>h _ _ e2
    all_goals exact h _ _ hh
  | halt x w'=>simp only [GL] at hh
 rename_i hw; simp only [hw] at hh; exact h _ _ hh
def YU (P:Program) (ops:Array Oper) (o:Oper) (v:Value) (a:Act) (w:World):Prop :=
  (Region.wanted o (yielded ops a.tmps)=true ∧ ∀ w1,Gr w w1→o.quietAt P a (Gr w1) w1 v)∨(Region.wanted o (yielded ops a.tmps)=false∧v=undef)
theorem YU.gr {w1:World} (h:YU P ops o v a w) (g:Gr w w1):YU P ops o v a w1:=h.imp (fun ⟨x,y⟩=>⟨x,fun w2 g2=>y w2 (g.trans g2)⟩) id
theorem YU.same {a':Act} (h:YU P ops o v a w) (he:execOp a'.eval o=execOp a.eval o) (hw:Region.wanted o (yielded ops a'.tmps)=Region.wanted o (yielded ops a.tmps)):YU P ops o v a' w:=by
 unfold YU Oper.quietAt at *
 rw [he,hw]
 exact h
theorem YU.HR {i:Nat} (hi:ops[i]? = some o) (h:YU P ops o v a w) (hK : ∀ w',Gr w w'→K (a.put o.dst v) w'):HR P ops i K a w:=by
 unfold Go.V.HR
 simp only [hi]
 rcases h with ⟨hw,h⟩ | ⟨hw,rfl⟩
 ·
  simp only [hw,if_true]
  have h2:=h w (Gr.refl w)
  unfold Oper.quietAt at h2
  generalize (execOp a.eval o).run P w=r at *
  cases r with
  | ok n w' =>
    cases n <;> simp only [Oper.quietUpon] at h2 <;> simp only [GL]
    case value u=>obtain ⟨e1,e2⟩:=h2; rw [e1,e2]; exact hK _ (Gr.refl w)
    case skip=>obtain ⟨e1,e2⟩:=h2; rw [e1,← e2]; exact hK _ (Gr.refl w)
    case enter f args=>obtain ⟨e1,hc⟩:=h2; rw [e1]; exact hc.mono fun e w'' ⟨he,hg⟩=>⟨v,he,hK _ hg⟩
  | halt x w'=>simp only [Oper.quietUpon] at h2
 simp only [hw,Bool.false_eq_true,if_false]; exact hK _ (Gr.refl w)
theorem aJ4 {j:Nat} {oi oj:Oper} (hj:ops[j]? = some oj) (hap:oi.apart ops oj=true) (hsj : ∀ cs b,oj.op ≠ .select cs b) (h:HR P ops j K (a.put oi.dst v) w) :
 HR P ops j (fun a' w'=>K (a'.put oi.dst v) w') a w:=by
 obtain ⟨h1,h2,h3⟩:=Oper.apart_spec hap
 unfold Go.V.HR at *
 simp only [hj] at *
 rw [wanted_put oj a oi.dst v h1] at h
 split
 ·
  rename_i hw
  simp only [hw,if_true] at h
  rw [execOp_put oj hsj a oi.dst v h1] at h
  generalize (execOp a.eval oj).run P w=r at *
  cases r with
  | ok n w' =>
    cases n <;> simp only [GL] at h ⊢
    case value u=>rw [← Act.put_comm a v u h2]; exact h
    case skip=>rw [← Act.put_comm a v undef h2]; exact h
    case enter f args=>exact h.mono fun e w'' ⟨u,e1,e2⟩=>⟨u,e1,by rw [← Act.put_comm a v u h2]; exact e2⟩
    case row row args=>exact Rows.mono h fun u w'' e2=>by rw [← Act.put_comm a v u h2]; exact e2
    case defer dd =>
      have e1:{ a.put oi.dst v with defers:=dd::(a.put oi.dst v).defers }=({ a with defers:=dd::a.defers }:Act).put oi.dst v:=by
        cases oi.dst <;> rfl
      rw [e1,Act.put_comm _ v undef h2] at h
      exact h
  | halt x w'=>simp only [GL] at h
 rename_i hw
 simp only [hw] at h
 rw [← Act.put_comm a v undef h2]
 exact h
def aT0 (o:Oper):List Nat:=(o.after.toList.filter (Region.binds .any)).map (·.on)
def aLf (ops:Array Oper):List Nat→List Nat→List Nat
  | [],S=>S
  | i::r,S=>aLf ops r (match S.contains i,ops[i]? with
    | true,some o=>(aT0 o).foldr List.insert S
    | _,_=>S)
def a4S (ops:Array Oper) (j:Nat):List Nat:=aLf ops (List.range (j+1)).reverse [j]
def TZ (ops:Array Oper) (j p:Nat):Bool := !(a4S ops j).contains p
def wQ (ops:Array Oper) (listed:Array Bool):Prop := ∀ j o,ops[j]? = some o→listed.getD j false=true → ∀ e∈o.after,Region.binds .any e=true→listed.getD e.on false=true
theorem NI (x:Nat) : ∀ (l S:List Nat),x∈l.foldr List.insert S→x∈l∨x∈S
  | [],S,h => .inr h
  | y::r,S,h=>by
    rcases List.mem_insert_iff.1 (show x∈List.insert y (r.foldr List.insert S) from h) with h | h
    . exact .inl (by rw [h]; exact List.mem_cons_self ..)
    . exact (NI x r S h).imp (List.mem_cons_of_mem _) id
theorem W3 {listed:Array Bool} (hc:wQ ops listed) {j:Nat} (hj : ∀ o,ops[j]? = some o → ∀ e∈o.after,Region.binds .any e=true→listed.getD e.on false=true) :
    ∀ (l S:List Nat),(∀ x∈S,x=j∨listed.getD x false=true) → ∀ x∈aLf ops l S,x=j∨listed.getD x false=true
  | [],S,h,x,hx=>h x hx
  | i::r,S,h,x,hx=>by
    refine W3 hc hj r _ ?_ x hx
    intro y hy
    split at hy
    . rename_i o hS ho
      rcases NI y _ _ hy with hy | hy
      . right
        obtain ⟨e,he,rfl⟩:=List.mem_map.1 hy
        obtain ⟨he1,he2⟩:=List.mem_filter.1 he
        rcases h i (List.contains_iff_mem.1 hS) with hi | hi
        . subst hi; exact hj o ho e (Array.mem_toList_iff.1 he1) he2
        . exact hc i o ho hi e (Array.mem_toList_iff.1 he1) he2
      . exact h y hy
    . exact h y hy
theorem aGc {listed:Array Bool} (hc:wQ ops listed) {i j:Nat} (hj:j∈Region.ready .any ops listed) (hi:i∈Region.ready .any ops listed) (hne:j≠i):TZ ops j i=true:=by
 obtain ⟨_,o,ho,hall⟩:=mem_ready.1 hj
 unfold TZ
 rw [Bool.not_eq_true',← Bool.not_eq_true]
 intro h
 rcases W3 hc (j:=j) (fun o' ho' e he hb=>by rw [ho] at ho'; cases ho'; exact hall e he hb) _ [j] (fun x hx => .inl (List.mem_singleton.1 hx)) i (List.contains_iff_mem.1 h) with q | q
 ·
  exact hne q.symm
 have h0:=(mem_ready.1 hi).1
 rcases Nat.lt_or_ge i listed.size with h' | h'
 ·
  simp [h'] at h0 q; rw [h0] at q; cases q
 simp [Array.getElem?_eq_none h'] at h0
theorem wQ.set {listed:Array Bool} (hc:wQ ops listed) {j:Nat} (hj:j∈Region.ready .any ops listed):wQ ops (listed.setIfInBounds j true):=fun k o ho hk e he hb=>by
  by_cases hjk:j=k
  . subst hjk
    obtain ⟨_,o',ho',hall⟩:=mem_ready.1 hj
    rw [ho] at ho'
    cases ho'
    exact getD_set_true (hall e he hb)
  . rw [getD_set_ne false hjk] at hk
    exact getD_set_true (hc k o ho hk e he hb)
def YI (P:Program) (ops:Array Oper) (p:Nat×Value) (a:Act) (w:World):Prop := ∀ o,ops[p.1]? = some o→YU P ops o p.2 a w
abbrev gM (ops:Array Oper) (j:Nat) (D:List (Nat×Value)):List (Nat×Value):=D.filter fun p=>TZ ops j p.1
def IG (P:Program) (ops:Array Oper) (Q:Exit→Act→World→Prop):Nat→List (Nat×Value)→Array Bool→Act→World→Prop
  | 0,_,listed,a,w=>Region.ready .any ops listed=[] ∧ ∀ w1,Gr w w1→Q .normal a w1
  | f + 1,D,listed,a,w => ∀ w1,Gr w w1→(Region.ready .any ops listed=[]→Q .normal a w1) ∧
      ∀ i∈Region.ready .any ops listed,HR P ops i (fun a' w'=>(∀ p∈gM ops i D,YI P ops p a' w')∧IG P ops Q f (gM ops i D) (listed.setIfInBounds i true) a' w') a w1
theorem IG.gr : ∀ {f:Nat} {D:List (Nat×Value)} {listed:Array Bool} {a:Act} {w w1:World},IG P ops Q f D listed a w→Gr w w1→IG P ops Q f D listed a w1
  | 0,_,_,_,_,_,h,g=>⟨h.1,fun w2 g2=>h.2 w2 (g.trans g2)⟩
  | _+1,_,_,_,_,_,h,g=>fun w2 g2=>h w2 (g.trans g2)
theorem XF : ∀ (f:Nat) (D:List (Nat×Value)) (listed:Array Bool) (a:Act) (w:World),IG P ops Q f D listed a w→wpAny P .any ops Q f listed a w
  | 0,_,_,_,w,h=>⟨h.1,h.2 w (Gr.refl w)⟩
  | f+1,_,_,_,w,h=>⟨(h w (Gr.refl w)).1,fun i hi=>aIF (fun a' w' h'=>XF f _ _ a' w' h'.2) ((h w (Gr.refl w)).2 i hi)⟩
theorem IG.less : ∀ {f:Nat} {D D':List (Nat×Value)} {listed:Array Bool} {a:Act} {w:World},(∀ p∈D',p∈D)→IG P ops Q f D listed a w→IG P ops Q f D' listed a w
  | 0,_,_,_,_,_,_,h=>h
  | f + 1,D,D',_,_,_,hs,h=>fun w1 g=>⟨(h w1 g).1,fun i hi=>VK (fun a' w' ⟨x,y⟩=>by
      have hs' : ∀ p∈gM ops i D',p∈gM ops i D:=fun p hp=>by
        obtain ⟨q1,q2⟩:=List.mem_filter.1 hp
        exact List.mem_filter.2 ⟨hs p q1,q2⟩
      exact ⟨fun p hp=>x p (hs' p hp),IG.less hs' y⟩) ((h w1 g).2 i hi)⟩
def qK (ops:Array Oper) (p k:Nat):Bool:=match ops[p]?,ops[k]? with
  | some x,some y=>(match y.dst with | some d => !(x.looksAt ops).contains d | none=>true)
  | _,_=>true
theorem uN {p k:Nat} {x y:Oper} (hx:ops[p]? = some x) (hy:ops[k]? = some y) (h:qK ops p k=true) : ∀ d,y.dst=some d→d∉x.looksAt ops:=fun d hd=>by
  simp [qK,hx,hy,hd] at h
  exact h
theorem YI.put {p:Nat×Value} {k:Nat} {y:Oper} {u:Value} (hs:Region.noSelect ops=true) (hy:ops[k]? = some y) (hl:qK ops p.1 k=true) (h:YI P ops p a w):YI P ops p (a.put y.dst u) w:=fun x hx =>
  (h x hx).same (execOp_put x (Region.noSelect_spec hs p.1 x · · hx) a y.dst u (uN hx hy hl)) (wanted_put x a y.dst u (uN hx hy hl))
theorem YI.aMi {p:Nat×Value} {k:Nat} {y:Oper} {u:Value} (hs:Region.noSelect ops=true) (hy:ops[k]? = some y) (hl:qK ops p.1 k=true) (h:YI P ops p (a.put y.dst u) w):YI P ops p a w:=fun x hx =>
  (h x hx).same (execOp_put x (Region.noSelect_spec hs p.1 x · · hx) a y.dst u (uN hx hy hl)).symm (wanted_put x a y.dst u (uN hx hy hl)).symm
theorem aMm {i:Nat} {oi:Oper} {v:Value} (hi:ops[i]? = some oi) (hs:Region.noSelect ops=true) (hself:qK ops i i=true) :
 ∀ (f:Nat) (D:List (Nat×Value)) (listed:Array Bool) (a:Act) (w:World),wQ ops listed→(∀ p∈D,qK ops p.1 i=true)→(∀ p∈D,YI P ops p a w) →
 (∀ j oj,ops[j]? = some oj→j≠i→listed.getD j true=false→(∀ e∈oj.after,Region.binds .any e=true→e.on≠i)→oi.apart ops oj=true) →
 i∈Region.ready .any ops listed→YU P ops oi v a w →
 IG P ops Q f ((i,v)::D) (listed.setIfInBounds i true) (a.put oi.dst v) w→IG P ops Q (f+1) D listed a w:=by
 intro f
 induction f with
 | zero =>
   intro D listed a w hc hD hY hfree hr hy H w1 g
   refine ⟨fun h=>(by rw [h] at hr; cases hr),fun j hj => ?_⟩
   by_cases hji:j=i
   . subst hji
     exact (hy.gr g).HR hi fun w' g'=>⟨fun p hp=>YI.put hs hi (hD p (List.mem_filter.1 hp).1) fun o ho=>(hY p (List.mem_filter.1 hp).1 o ho).gr (g.trans g'),H.1,fun w2 g2=>H.2 w2 (g.trans (g'.trans g2))⟩
   . have:=ready_mono hj hji
     rw [H.1] at this
     cases this
 | succ f ih =>
   intro D listed a w hc hD hY hfree hr hy H w1 g
   refine ⟨fun h=>(by rw [h] at hr; cases hr),fun j hj => ?_⟩
   by_cases hji:j=i
   . subst hji
     refine (hy.gr g).HR hi fun w' g'=>⟨fun p hp=>YI.put hs hi (hD p (List.mem_filter.1 hp).1) fun o ho=>(hY p (List.mem_filter.1 hp).1 o ho).gr (g.trans g'),?_⟩
     exact IG.less (fun p hp=>List.mem_cons_of_mem _ (List.mem_filter.1 hp).1) (H.gr (g.trans g'))
   . have h1:=(H w1 g).2 j (ready_mono hj hji)
     obtain ⟨hjun,oj,hoj,hall⟩:=mem_ready.1 hj
     have hnot : ∀ e∈oj.after,Region.binds .any e=true→e.on≠i:=fun e he hb heq=>by
       have h1:=hall e he hb
       have h0:=(mem_ready.1 hr).1
       rw [heq] at h1
       rcases Nat.lt_or_ge i listed.size with h' | h'
       . simp [h'] at h0 h1; rw [h0] at h1; cases h1
       . simp [Array.getElem?_eq_none h'] at h1
     have h2:=aJ4 hoj (hfree j oj hoj hji hjun hnot) (Region.noSelect_spec hs j oj · · hoj) h1
     have hfree' : ∀ k ok,ops[k]? = some ok→k≠i→(listed.setIfInBounds j true).getD k true=false →
         (∀ e∈ok.after,Region.binds .any e=true→e.on≠i)→oi.apart ops ok=true:=fun k ok hk hki hun hno=>by
       refine hfree k ok hk hki ?_ hno
       by_cases hjk:j=k
       . subst hjk; exact hjun
       . rw [getD_set_ne true hjk] at hun; exact hun
     have hn:TZ ops j i=true:=aGc hc hj hr hji
     have hst:gM ops j ((i,v)::D)=(i,v)::gM ops j D:=by simp [gM,hn]
     refine VK (fun a' w' ⟨h3,h4⟩ => ?_) h2
     rw [hst] at h3 h4
     have hD' : ∀ p∈gM ops j D,qK ops p.1 i=true:=fun p hp=>hD p (List.mem_filter.1 hp).1
     have hY' : ∀ p∈gM ops j D,YI P ops p a' w':=fun p hp=>YI.aMi hs hi (hD' p hp) (h3 p (List.mem_cons_of_mem _ hp))
     refine ⟨hY',ih (gM ops j D) (listed.setIfInBounds j true) a' w' (hc.set hj) hD' hY' hfree' (ready_mono hr (Ne.symm hji)) ?_ ?_⟩
     . exact (YI.aMi (p:=(i,v)) hs hi hself (h3 (i,v) (List.mem_cons_self ..))) oi hi
     . rw [Array.setIfInBounds_comm _ _ hji]
       exact h4
def LF (ops:Array Oper) (k:Nat):Bool:=match ops[k]? with
  | some ⟨_,.move _,_,_,_,none⟩=>(List.range ops.size).all fun j=>j==k||qK ops k j||(a4S ops j).contains k
  | _=>false
theorem aQV {o:Oper} {i:Nat} (hi:ops[i]? = some o) (h:HR P ops i K a w):HR P ops i (fun a' w'=>K a' w' ∧ ∃ u,a'.tmps=(a.put o.dst u).tmps) a w:=by
 unfold HR at *
 simp only [hi] at *
 split
 ·
  rename_i hw
  simp only [hw,if_true] at h
  generalize (execOp a.eval o).run P w=r at *
  cases r with
  | ok n w' =>
    cases n <;> simp only [GL] at h ⊢
    case value u=>exact ⟨h,u,rfl⟩
    case skip=>exact ⟨h,undef,rfl⟩
    case enter f args=>exact h.mono fun e w'' ⟨v,e1,e2⟩=>⟨v,e1,e2,v,rfl⟩
    case row row args=>exact Rows.mono h fun v w'' e2=>⟨e2,v,rfl⟩
    case defer dd=>exact ⟨h,undef,by cases o.dst <;> rfl⟩
  | halt x w'=>simp only [GL] at h
 rename_i hw; simp only [hw] at h; exact ⟨h,undef,rfl⟩
theorem aLz {a a':Act} (h:a'.tmps=a.tmps):a'.eval=a.eval:=by
 funext x
 cases x <;> simp [Act.eval,h]
theorem YU.world {d:Option Nat} {x:Operand} {ty:TypeId} {pos:String} {after:Array Edge} {w':World} (h:YU P ops ⟨d,.move x,ty,pos,after,none⟩ v a w):YU P ops ⟨d,.move x,ty,pos,after,none⟩ v a w':=by
 have hr : ∀ w,(execOp a.eval ⟨d,.move x,ty,pos,after,none⟩).run P w = .ok (.value (a.eval x)) w:=fun w=>by simp only [execOp]; simp [go_sem]
 rcases h with ⟨h1,h2⟩ | ⟨h1,_⟩
 ·
  refine .inl ⟨h1,fun w1 _ => ?_⟩
  have:=h2 w (Gr.refl w)
  unfold Oper.quietAt at *
  rw [hr] at *
  exact ⟨rfl,this.2⟩
 simp [Region.wanted] at h1
theorem aLX {i:Nat} {d:Option Nat} {x:Operand} {ty:TypeId} {pos:String} {after:Array Edge} {v:Value} (hi:ops[i]? = some ⟨d,.move x,ty,pos,after,none⟩) (hs:Region.noSelect ops=true) (hm:LF ops i=true) :
 ∀ (f:Nat) (D:List (Nat×Value)) (listed:Array Bool) (a:Act) (w:World),wQ ops listed→(∀ p∈D,qK ops p.1 i=true)→(∀ p∈D,YI P ops p a w) →
 (∀ j oj,ops[j]? = some oj→j≠i→listed.getD j true=false→(∀ e∈oj.after,Region.binds .any e=true→e.on≠i)→(⟨d,.move x,ty,pos,after,none⟩:Oper).apart ops oj=true) →
 i∈Region.ready .any ops listed→YU P ops ⟨d,.move x,ty,pos,after,none⟩ v a w →
 IG P ops Q f D (listed.setIfInBounds i true) (a.put d v) w→IG P ops Q (f+1) D listed a w:=by
 intro f
 induction f with
 | zero =>
   intro D listed a w hc hD hY hfree hr hy H w1 g
   refine ⟨fun h=>(by rw [h] at hr; cases hr),fun j hj => ?_⟩
   by_cases hji:j=i
   . subst hji
     exact (hy.gr g).HR hi fun w' g'=>⟨fun p hp=>YI.put hs hi (hD p (List.mem_filter.1 hp).1) fun o ho=>(hY p (List.mem_filter.1 hp).1 o ho).gr (g.trans g'),H.1,fun w2 g2=>H.2 w2 (g.trans (g'.trans g2))⟩
   . have:=ready_mono hj hji
     rw [H.1] at this
     cases this
 | succ f ih =>
   intro D listed a w hc hD hY hfree hr hy H w1 g
   refine ⟨fun h=>(by rw [h] at hr; cases hr),fun j hj => ?_⟩
   by_cases hji:j=i
   . subst hji
     refine (hy.gr g).HR hi fun w' g'=>⟨fun p hp=>YI.put hs hi (hD p (List.mem_filter.1 hp).1) fun o ho=>(hY p (List.mem_filter.1 hp).1 o ho).gr (g.trans g'),?_⟩
     exact IG.less (fun p hp=>(List.mem_filter.1 hp).1) (H.gr (g.trans g'))
   . have h1:=(H w1 g).2 j (ready_mono hj hji)
     obtain ⟨hjun,oj,hoj,hall⟩:=mem_ready.1 hj
     have hnot : ∀ e∈oj.after,Region.binds .any e=true→e.on≠i:=fun e he hb heq=>by
       have h1:=hall e he hb
       have h0:=(mem_ready.1 hr).1
       rw [heq] at h1
       rcases Nat.lt_or_ge i listed.size with h' | h'
       . simp [h'] at h0 h1; rw [h0] at h1; cases h1
       . simp [Array.getElem?_eq_none h'] at h1
     have h2:=aQV hoj (aJ4 hoj (hfree j oj hoj hji hjun hnot) (Region.noSelect_spec hs j oj · · hoj) h1)
     have hfree' : ∀ k ok,ops[k]? = some ok→k≠i→(listed.setIfInBounds j true).getD k true=false →
         (∀ e∈ok.after,Region.binds .any e=true→e.on≠i)→(⟨d,.move x,ty,pos,after,none⟩:Oper).apart ops ok=true:=fun k ok hk hki hun hno=>by
       refine hfree k ok hk hki ?_ hno
       by_cases hjk:j=k
       . subst hjk; exact hjun
       . rw [getD_set_ne true hjk] at hun; exact hun
     have hn:TZ ops j i=true:=aGc hc hj hr hji
     have hal:qK ops i j=true:=by
       unfold LF at hm
       rw [hi] at hm
       simp only [List.all_eq_true,List.mem_range,Bool.or_eq_true,beq_iff_eq] at hm
       rcases hm j (Array.getElem?_eq_some_iff.1 hoj).1 with (q | q) | q
       . exact absurd q hji
       . exact q
       . unfold TZ at hn; rw [q] at hn; cases hn
     refine VK (fun a' w' ⟨⟨h3,h4⟩,u,hu⟩ => ?_) h2
     have hD' : ∀ p∈gM ops j D,qK ops p.1 i=true:=fun p hp=>hD p (List.mem_filter.1 hp).1
     have hY' : ∀ p∈gM ops j D,YI P ops p a' w':=fun p hp=>YI.aMi hs hi (hD' p hp) (h3 p hp)
     refine ⟨hY',ih (gM ops j D) (listed.setIfInBounds j true) a' w' (hc.set hj) hD' hY' hfree' (ready_mono hr (Ne.symm hji)) ?_ ?_⟩
     . refine (hy.same (a':=a') ?_ rfl).world
       rw [aLz hu]
       exact execOp_put _ (Region.noSelect_spec hs i _ · · hi) a oj.dst u (uN hi hoj hal)
     . rw [Array.setIfInBounds_comm _ _ hji]
       exact h4
def D3 (ops:Array Oper) (k:Nat) (v:Value) (D:List (Nat×Value)):List (Nat×Value):=match LF ops k with | true=>D | false=>(k,v)::D
def addN (ops:Array Oper) (k:Nat) (D:List Nat):List Nat:=match LF ops k with | true=>D | false=>k::D
def wpD (P:Program) (ops:Array Oper) (R:List (Nat×Value)→Act→World→Prop):List (Nat×Bool)→List (Nat×Value)→Act→World→Prop
  | [],D,a,w=>R D a w
  | (k,true)::r,D,a,w => ∃ o v,ops[k]? = some o∧YU P ops o v a w∧wpD P ops R r (D3 ops k v D) (a.put o.dst v) w
  | (k,false)::r,D,a,w => ∃ o,ops[k]? = some o ∧ ∀ w1,Gr w w1→HR P ops k (fun a' w'=>(∀ p∈gM ops k D,YI P ops p a' w')∧wpD P ops R r (gM ops k D) a' w') a w1
def okD (ops:Array Oper):List (Nat×Bool)→List Nat→Array Bool→Bool
  | [],_,_=>true
  | (k,true)::r,D,listed=>(Region.ready .any ops listed).contains k&&Region.free .any ops listed k&&qK ops k k&&D.all (fun p=>qK ops p k)&&okD ops r (addN ops k D) (listed.setIfInBounds k true)
  | (k,false)::r,D,listed=>decide (Region.ready .any ops listed=[k])&&okD ops r (D.filter (TZ ops k)) (listed.setIfInBounds k true)
def marked:List (Nat×Bool)→Array Bool→Array Bool
  | [],listed=>listed
  | (k,_)::r,listed=>marked r (listed.setIfInBounds k true)
theorem F7 {R:List (Nat×Value)→Act→World→Prop} (hs:Region.noSelect ops=true) (f:Nat) : ∀ (l:List (Nat×Bool)) (D:List (Nat×Value)) (listed:Array Bool) (a:Act) (w:World),okD ops l (D.map (·.1)) listed=true→wQ ops listed→(∀ p∈D,YI P ops p a w) →
    (∀ D a w,wQ ops (marked l listed)→(∀ p∈D,YI P ops p a w)→R D a w→IG P ops Q f D (marked l listed) a w)→wpD P ops R l D a w→IG P ops Q (l.length+f) D listed a w
  | [],_,listed,_,_,_,hc,hY,hR,h=>by simpa [Go.V.marked] using hR _ _ _ hc hY h
  | (k,true)::r,D,listed,a,w,hB,hc,hY,hR,⟨o,v,ho,hy,hk⟩=>by
    simp only [okD,Bool.and_eq_true,List.all_eq_true,List.mem_map,List.contains_iff_mem] at hB
    obtain ⟨⟨⟨⟨h1,h2⟩,h3⟩,h4⟩,h5⟩:=hB
    have hD : ∀ p∈D,qK ops p.1 k=true:=fun p hp=>h4 p.1 ⟨p,hp,rfl⟩
    rw [show ((k,true)::r).length+f=(r.length+f)+1 by simp only [List.length_cons]; omega]
    have hYk : ∀ p∈D,YI P ops p (a.put o.dst v) w:=fun p hp=>YI.put hs ho (hD p hp) (hY p hp)
    cases hfm:LF ops k with
    | true =>
      have e1:addN ops k (D.map (·.1))=D.map (·.1):=by simp [addN,hfm]
      have e2:D3 ops k v D=D:=by simp [D3,hfm]
      rw [e1] at h5
      rw [e2] at hk
      obtain ⟨d,op,ty,pos,after,gd⟩:=o
      have hop : ∃ x,op = .move x∧gd=none:=by
        unfold LF at hfm
        rw [ho] at hfm
        split at hfm
        . rename_i q; cases q; exact ⟨_,rfl,rfl⟩
        . cases hfm
      obtain ⟨x,rfl,rfl⟩:=hop
      exact aLX ho hs hfm (r.length+f) D listed a w hc hD hY (Region.free_spec ho h2) h1 hy (F7 hs f r D _ _ _ h5 (hc.set h1) hYk hR hk)
    | false =>
      have e1:addN ops k (D.map (·.1))=k::D.map (·.1):=by simp [addN,hfm]
      have e2:D3 ops k v D=(k,v)::D:=by simp [D3,hfm]
      rw [e1] at h5
      rw [e2] at hk
      refine aMm ho hs h3 (r.length+f) D listed a w hc hD hY (Region.free_spec ho h2) h1 hy ?_
      refine F7 hs f r ((k,v)::D) _ _ _ (by simpa using h5) (hc.set h1) ?_ hR hk
      intro p hp
      rcases List.mem_cons.1 hp with rfl | hp
      . intro o' ho'
        have ho'':ops[k]? = some o':=ho'
        rw [ho] at ho''
        cases ho''
        exact hy.same (execOp_put o (Region.noSelect_spec hs k o · · ho) a o.dst v (uN ho ho h3)) (wanted_put o a o.dst v (uN ho ho h3))
      . exact hYk p hp
  | (k,false)::r,D,listed,a,w,hB,hc,hY,hR,⟨o,ho,hk⟩=>by
    simp only [okD,Bool.and_eq_true,decide_eq_true_eq] at hB
    obtain ⟨h1,h5⟩:=hB
    rw [show ((k,false)::r).length+f=(r.length+f)+1 by simp only [List.length_cons]; omega]
    intro w1 g
    refine ⟨fun h=>(by rw [h1] at h; cases h),fun i hi => ?_⟩
    rw [h1] at hi
    have hik:i=k:=by simpa using hi
    subst hik
    refine VK (fun a' w' ⟨hY',h⟩ => ?_) (hk w1 g)
    refine ⟨hY',F7 hs f r (gM ops i D) _ _ _ ?_ (hc.set (by rw [h1]; exact List.mem_singleton.2 rfl)) hY' hR h⟩
    have:(gM ops i D).map (·.1)=(D.map (·.1)).filter (TZ ops i):=by
      simp only [gM,List.filter_map]; rfl
    rw [this]
    exact h5
theorem aHM (n:Nat):wQ ops (Array.replicate n false):=fun j o _ hj=>by
  by_cases h:j < n <;> simp [Array.getElem?_replicate,h] at hj
theorem U3 {R:List (Nat×Value)→Act→World→Prop} {id:Nat} {a:Act} {w:World} (f:Nat) (ord:List (Nat×Bool)) (hm:P.follows .mixedOrders=true) (hs:Region.noSelect ops=true) (hn:ord.length+f=ops.size) (hB:okD ops ord [] (Array.replicate ops.size false)=true)
 (hR : ∀ D a w,wQ ops (marked ord (Array.replicate ops.size false))→(∀ p∈D,YI P ops p a w)→R D a w→IG P ops Q f D (marked ord (Array.replicate ops.size false)) a w)
 (h : ∀ w1,Gr w w1→wpD P ops R ord [] a w1):(Code.region id ops true).wp P Q a w:=by
 refine wp_region_any hm ?_
 rw [← hn]
 refine XF _ [] _ _ _ (F7 hs f ord [] _ _ _ ?_ (by rw [hn]; exact aHM _) (fun p hp=>by cases hp) (by rw [hn]; exact hR) (h _ ⟨rfl,rfl,rfl,Nat.le_refl _,fun _ _=>rfl⟩))
 rw [hn]
 exact hB
variable {N:Nat} {c:Cx} {ρ:Env} {M:Mo} {E F A:Ow} {X:Type}
abbrev toQ (Q:Exit→Act→World→Prop):List (Nat×Value)→Act→World→Prop:=fun _ a w => ∀ w1,Gr w w1→Q .normal a w1
def HA (P:Program) (N:Nat) (c:Cx) (ops:Array Oper) (R:List (Nat×Value)→Act→World→Prop) (l:List (Nat×Bool)) (D:List (Nat×Value)) (ρ:Env) (M:Mo) (E:Ow):Prop :=
  ∀ a w,rW N ρ a→St c M E w→wpD P ops R l D a w
abbrev VD (P:Program) (N:Nat) (c:Cx) (ops:Array Oper) (Q:Exit→Act→World→Prop) (l:List (Nat×Bool)) (D:List (Nat×Value)) (ρ:Env) (M:Mo) (E:Ow):Prop:=HA P N c ops (toQ Q) l D ρ M E
theorem VC.draw {id:Nat} (ord:List (Nat×Bool)) (hm:P.follows .mixedOrders=true) (hs:Region.noSelect ops=true) (hn:ord.length=ops.size) (hB:(okD ops ord [] (Array.replicate ops.size false)&&(Region.ready .any ops (marked ord (Array.replicate ops.size false))).isEmpty)=true)
    (h:VD P N c ops Q ord [] ρ M E):VC P N c Q (.region id ops true) ρ M E:=fun a _ x y=>by
  simp only [Bool.and_eq_true,List.isEmpty_iff] at hB
  exact U3 (R:=toQ Q) 0 ord hm hs hn hB.1 (fun D a w _ _ h=>⟨hB.2,h⟩) fun w1 g=>h a w1 x (y.grow g)
theorem VD.nil {D:List (Nat×Value)} (h : ∀ a w,rW N ρ a→St c M E w→Q .normal a w):VD P N c ops Q [] D ρ M E:=fun a _ x y w1 g=>h a w1 x (y.grow g)
theorem VD.next {q:Code} {D:List (Nat×Value)} (h:VC P N c Q q ρ M E):VD P N c ops (Exit.then (q.wp P Q) Q) [] D ρ M E:=VD.nil fun a w x y=>h a w x y
theorem VD.q {R:List (Nat×Value)→Act→World→Prop} {k d:Nat} {op:Op} {ty:TypeId} {pos:String} {after:Array Edge} {r:List (Nat×Bool)} {D:List (Nat×Value)} (hk:ops[k]? = some ⟨some d,op,ty,pos,after,none⟩) (h:Qt P N c ⟨some d,op,ty,pos,after,none⟩ v ρ M E) (hd:d < N)
    (n:HA P N c ops R r (D3 ops k v D) ((d,v)::ρ) M E):HA P N c ops R ((k,true)::r) D ρ M E:=fun a w x y =>
  ⟨_,v,hk,.inl ⟨rfl,fun w1 g=>h a w1 x (y.grow g)⟩,n _ _ (x.put hd v) y⟩
end
end Go.V
end

section
namespace Go.V
open Go.RowKit
class dM (M X:Mo):Prop where
  out : ∀ h,M.on h→X.on h
instance (priority:=2000) dM.refl (M:Mo):dM M M:=⟨fun _ x=>x⟩
instance (priority:=1500) dM.left (A B X:Mo) [i:dM A X]:dM (A.and B) X:=⟨fun h x=>i.out h x.1⟩
instance (priority:=1000) dM.right (A B X:Mo) [i:dM B X]:dM (A.and B) X:=⟨fun h x=>i.out h x.2⟩
class WY (M:Mo) (b o:Nat) (cs:outParam (List Value)):Prop where
  out : ∀ h,M.on h→h.at b o cs
instance (priority:=2000) WY.here (b o:Nat) (cs:List Value):WY (Cells b o cs) b o cs:=⟨fun _ x=>x⟩
instance (priority:=1500) WY.left (A B:Mo) (b o:Nat) (cs:List Value) [i:WY A b o cs]:WY (A.and B) b o cs:=⟨fun h x=>i.out h x.1⟩
instance (priority:=1000) WY.right (A B:Mo) (b o:Nat) (cs:List Value) [i:WY B b o cs]:WY (A.and B) b o cs:=⟨fun h x=>i.out h x.2⟩
theorem dM.two {M A B:Mo} (x:dM M A) (y:dM M B):dM M (A.and B):=⟨fun h m=>⟨x.out h m,y.out h m⟩⟩
instance (priority:=1800) dM.both (M A B:Mo) [x:dM M A] [y:dM M B]:dM M (A.and B):=x.two y
instance (priority:=2000) dM.tt (M:Mo):dM M Mo.tt:=⟨fun _ _=>trivial⟩
section
variable {P:Program} {N:Nat} {c:Cx} {ρ:Env} {M:Mo} {E:Ow} {v:Value} {od:Option Nat} {ty:TypeId} {pos:String} {after:Array Edge} {gd:Option (Nat×Bool)} {x y:Operand} {t e:TypeId} {α:Type} [bB α]
theorem ED {b j:Nat} {cs:List Value} (h1:OneCell P t) (e1:ρ.ev x=some (ptr b j)) [i:WY M b 0 cs] (hj:cs[j]? = some v):Qt P N c ⟨od,.load t x,ty,pos,after,gd⟩ v ρ M E :=
  V1 h1 e1 (by have:=Rd.mo (E:=E) i.out j hj; simpa using this)
theorem nI {b j:Nat} {cs:List Value} {T:TypeId} (h1:OneCell P t) (e1:ρ.ev x=some (ptr b j)) [i:BR E b cs T] (hj:cs[j]? = some v):Qt P N c ⟨od,.load t x,ty,pos,after,gd⟩ v ρ M E :=
  V1 h1 e1 (Rd.own b j hj)
theorem rQ {b n:Nat} {cs:List Value} {T:TypeId} (h1:rO P t n) (e1:ρ.ev x=some (ptr b 0)) [i:BR E b cs T] (hn:cs.length=n):Qt P N c ⟨od,.load t x,ty,pos,after,gd⟩ (.agg cs.toArray) ρ M E :=
  UJ h1 hn e1 Rd.blk
theorem a5y {b n:Nat} {cs:List Value} (h1:rO P t n) (e1:ρ.ev x=some (ptr b 0)) [i:WY M b 0 cs] (hn:cs.length=n):Qt P N c ⟨od,.load t x,ty,pos,after,gd⟩ (.agg cs.toArray) ρ M E :=
  UJ h1 hn e1 (Rd.aVl i.out)
theorem jY {s:Sv α} {k:IntKind} {i:Int} (ht:P.underlying t=some (.slice e)) (hi:(P.info? e).map (·.size)=some (bB.sz α)) (e1:ρ.ev x=some s.val) (e2:ρ.ev y=some (.int k i)) [hs:dM M s.ok] (h0:0≤i) (h1:i < s.l.length) :
    Qt P N c ⟨od,.indexAddr t x y,ty,pos,after,gd⟩ (ptr s.b (s.o+i.toNat*bB.sz α)) ρ M E:=a9P ht hi e1 e2 (RdS.mo hs.out) h0 h1
theorem JZ {s:Sv α} {i:Nat} {z:α} (h1:OneCell P t) (e1:ρ.ev x=some (ptr s.b (s.o+i*bB.sz α))) [hs:dM M s.ok] (hz:s.l[i]? = some z) (hv:bB.enc z=[v]):Qt P N c ⟨od,.load t x,ty,pos,after,gd⟩ v ρ M E :=
  V1 h1 e1 (by rw [← hv]; exact (RdS.mo hs.out).get hz)
theorem sR {s:Sv α} {i n:Nat} {z:α} (h1:rO P t n) (hn:bB.sz α=n) (e1:ρ.ev x=some (ptr s.b (s.o+i*bB.sz α))) [hs:dM M s.ok] (hz:s.l[i]? = some z):Qt P N c ⟨od,.load t x,ty,pos,after,gd⟩ (.agg (bB.enc z).toArray) ρ M E :=
  UJ h1 (by rw [bB.len,hn]) e1 ((RdS.mo hs.out).get hz)
theorem aFN {s:Sv α} {i j:Nat} {z:α} (h1:OneCell P t) (e1:ρ.ev x=some (ptr s.b (s.o+i*bB.sz α+j))) [hs:dM M s.ok] (hz:s.l[i]? = some z) (hv:(bB.enc z)[j]? = some v):Qt P N c ⟨od,.load t x,ty,pos,after,gd⟩ v ρ M E :=
  V1 h1 e1 (((RdS.mo hs.out).get hz).drop hv)
end
end Go.V
end

section
namespace Go.V
open Go.RowKit
section
variable {P:Program} {N:Nat} {c:Cx} {ops:Array Oper} {Q Q1:Exit→Act→World→Prop} {rest:List Oper} {o:Oper} {ρ ρ':Env} {M M' M1:Mo} {E E' E1 F A:Ow} {v u:Value} {X:Type}
  {d:Nat} {od:Option Nat} {ty:TypeId} {pos:String} {after:Array Edge} {gd:Option (Nat×Bool)} {x y:Operand} {t e T:TypeId} {α:Type} [bB α] {p q:Code} {id:Nat}
theorem VL.to (e : ∀ a w,q.wp P Q1 a w→Q .normal a w) (h:VC P N c Q1 q ρ M E):VL P N c ops Q [] ρ M E:=VL.nil fun a w x y=>e a w (h a w x y)
theorem VD.to {D:List (Nat×Value)} (e : ∀ a w,q.wp P Q1 a w→Q .normal a w) (h:VC P N c Q1 q ρ M E):VD P N c ops Q [] D ρ M E:=VD.nil fun a w x y=>e a w (h a w x y)
theorem VC.aAf (e : ∀ a w,q.wp P Q1 a w→Q .normal a w) (h:VC P N c Q1 q ρ M E):VC P N c Q .skip ρ M E:=VC.skip fun a w x y=>e a w (h a w x y)
theorem VC.aJU (e : ∀ a w,q.wp P Q1 a w→Q (.exit id) a w) (h:VC P N c Q1 q ρ M E):VC P N c Q (.exit id) ρ M E:=VC.exit fun a w x y=>e a w (h a w x y)
def a4Q (P:Program) (N:Nat) (c:Cx) (ρ:Env) (M:Mo) (E:Ow) (a:Act) (w:World):Prop:=rW N ρ a∧St c M E w
theorem VC.a8S (ρ':Env) (h1:VC P N c (Exit.then (a4Q P N c ρ' M E) Q) p ρ M E) (h2:VC P N c Q q ρ' M E):VC P N c Q (.seq p q) ρ M E:=fun a w x y =>
  wp_seq (wp_mono (h1 a w x y) fun e a w hq=>by
    cases e <;> first | exact h2 a w hq.1 hq.2 | exact hq)
theorem Env.K5 {ks:List Nat} (e:ρ.keep ks=ρ') : ∀ t v,ρ'.get t=some v→ρ.get t=some v:=fun t v h=>by subst e; exact Env.PD ρ ks t v h
theorem VL.meet {ks:List Nat} (hq : ∀ a w,a4Q P N c ρ' M E a w→Q .normal a w) (e:ρ.keep ks=ρ'):VL P N c ops Q [] ρ M E:=VL.nil fun a w x y=>hq a w ⟨x.sub (Env.K5 e),y⟩
def Any {S:Type} (φ:S→Prop) (P:Program) (N:Nat) (c:Cx) (ρ:S→Env) (M:S→Mo) (E:S→Ow) (a:Act) (w:World):Prop := ∃ s,φ s∧rW N (ρ s) a∧St c (M s) (E s) w
theorem VC.cut {S:Type} (φ:S→Prop) (ρ':S→Env) (M':S→Mo) (E':S→Ow) (h1:VC P N c (Exit.then (Any φ P N c ρ' M' E') Q) p ρ M E) (h2 : ∀ s,φ s→VC P N c Q q (ρ' s) (M' s) (E' s)):VC P N c Q (.seq p q) ρ M E:=fun a w x y =>
  wp_seq (wp_mono (h1 a w x y) fun e a w hq=>by
    cases e <;> first | (obtain ⟨s,hs,h3,h4⟩:=hq; exact h2 s hs a w h3 h4) | exact hq)
theorem VL.any {S:Type} {φ:S→Prop} {ρ':S→Env} {M':S→Mo} {E':S→Ow} (s:S) (ks:List Nat) (hq : ∀ a w,Any φ P N c ρ' M' E' a w→Q .normal a w) (hφ:φ s) (e:ρ.keep ks=ρ' s) (hM : ∀ h,M.on h→(M' s).on h) (hE : ∀ e,E e→E' s e):VL P N c ops Q [] ρ M E:=VL.nil fun a w x y=>hq a w ⟨s,hφ,x.sub (Env.K5 e),y.mono hM hE⟩
theorem VD.any {S:Type} {D:List (Nat×Value)} {φ:S→Prop} {ρ':S→Env} {M':S→Mo} {E':S→Ow} (s:S) (ks:List Nat) (hq : ∀ a w,Any φ P N c ρ' M' E' a w→Q .normal a w) (hφ:φ s) (e:ρ.keep ks=ρ' s) (hM : ∀ h,M.on h→(M' s).on h) (hE : ∀ e,E e→E' s e):VD P N c ops Q [] D ρ M E:=VD.nil fun a w x y=>hq a w ⟨s,hφ,x.sub (Env.K5 e),y.mono hM hE⟩
theorem VC.aGp {S:Type} {φ:S→Prop} {ρ':S→Env} {M':S→Mo} {E':S→Ow} (s:S) (ks:List Nat) (hq : ∀ a w,Any φ P N c ρ' M' E' a w→Q .normal a w) (hφ:φ s) (e:ρ.keep ks=ρ' s) (hM : ∀ h,M.on h→(M' s).on h) (hE : ∀ e,E e→E' s e):VC P N c Q .skip ρ M E:=VC.skip fun a w x y=>hq a w ⟨s,hφ,x.sub (Env.K5 e),y.mono hM hE⟩
theorem VC.loop {S:Type} (φ:S→Prop) (ρ':S→Env) (M':S→Mo) (E':S→Ow) (μ:S→Nat) (s0:S) (ks:List Nat) (h0:φ s0) (e:ρ.keep ks=ρ' s0) (hM : ∀ h,M.on h→(M' s0).on h) (hE : ∀ e,E e→E' s0 e)
    (round : ∀ s,φ s→VC P N c (Exit.then (Any (fun s'=>φ s'∧μ s' < μ s) P N c ρ' M' E') Q) p (ρ' s) (M' s) (E' s)):VC P N c Q (.loop p) ρ M E:=fun a w x y b k cs=>by
  have key : ∀ n s a w,μ s=n→φ s→rW N (ρ' s) a→St c (M' s) (E' s) w →
      ∃ e a' w',Q e a' w'∧Arrives P (lone (b.at a (.code p :: .inLoop p::k)) cs w) b k cs e a' w':=by
    intro n
    induction n using Nat.strongRecOn with
    | _ n ih =>
      intro s a w hn hs hx hy
      obtain ⟨e,a₁,w₁,hq,harr⟩:=round s hs a w hx hy b (.inLoop p::k) cs
      cases e with
      | normal =>
        obtain ⟨s',⟨hs',hlt⟩,hx',hy'⟩:=hq
        obtain ⟨e₂,a₂,w₂,hq₂,harr₂⟩:=ih (μ s') (hn▸hlt) s' a₁ w₁ rfl hs' hx' hy'
        exact ⟨e₂,a₂,w₂,hq₂,.of_steps (Steps.trans harr (.one step_inLoop)) harr₂⟩
      | exit id=>exact ⟨_,a₁,w₁,hq,.pass (x := .inLoop p) rfl (fun _ _ => .inl (by simp)) harr⟩
      | goto l=>exact ⟨_,a₁,w₁,hq,.pass (x := .inLoop p) rfl (fun _ _ => .inl (by simp)) harr⟩
      | ret=>exact ⟨_,a₁,w₁,hq,.pass (x := .inLoop p) rfl (fun _ _ => .inl (by simp)) harr⟩
      | panic ch=>exact ⟨_,a₁,w₁,hq,.pass (x := .inLoop p) rfl (fun _ _ => .inl (by simp)) harr⟩
      | outgrown=>exact ⟨_,a₁,w₁,hq,.pass (x := .inLoop p) rfl (fun _ _ => .inl (by simp)) harr⟩
  obtain ⟨e',a',w',hq,harr⟩:=key _ s0 a w rfl h0 (x.sub (Env.K5 e)) (y.mono hM hE)
  exact ⟨e',a',w',hq,.of_steps (.one step_loop) harr⟩
theorem VL.F4 (t:Nat) {v v':Value} (h:ρ.get t=some v) (hv:v=v') (k:VL P N c ops Q rest ((t,v')::ρ) M E):VL P N c ops Q rest ρ M E:=fun a w x y =>
  k a w ⟨x.size,x.defers,fun s u e=>by
    simp only [Env.get] at e
    cases hb:Nat.beq t s with
    | true=>rw [hb] at e; have:=Nat.eq_of_beq_eq_true hb; subst this; cases e; subst hv; exact x.look t v h
    | false=>rw [hb] at e; exact x.look s u e⟩ y
theorem VL.split (t:Nat) {b:Bool} (h:ρ.get t=some (.bool b)) (h1:b=true→VL P N c ops Q rest ((t,.bool true)::ρ) M E) (h2:b=false→VL P N c ops Q rest ((t,.bool false)::ρ) M E):VL P N c ops Q rest ρ M E:=by
 cases b
 ·
  exact VL.F4 t h rfl (h2 rfl)
 exact VL.F4 t h rfl (h1 rfl)
theorem VL.wO (t:Nat) {φ:Prop} [Decidable φ] (h:ρ.get t=some (.bool (decide φ))) (h1:φ→VL P N c ops Q rest ((t,.bool true)::ρ) M E) (h2 : ¬ φ→VL P N c ops Q rest ((t,.bool false)::ρ) M E):VL P N c ops Q rest ρ M E :=
  VL.split t h (fun e=>h1 (of_decide_eq_true e)) (fun e=>h2 (of_decide_eq_false e))
theorem AN {j t:Nat} {w b:Bool} {a:Act} (hj:(ops[j]?).bind (·.dst)=some t) (ha:rW N ρ a) (h:ρ.get t=some (.bool b)) (o:Oper) (hg:o.guard=some (j,w)):Region.wanted o (yielded ops a.tmps)=(b==w):=by
 unfold Region.wanted
 rw [hg]
 simp only
 unfold yielded
 rw [hj]
 simp [ha.look t _ h]
theorem VL.gy {op:Op} {j t:Nat} {w:Bool} (hj:(ops[j]?).bind (·.dst)=some t) (hb:ρ.get t=some (.bool w)) (h:Qt P N c ⟨some d,op,ty,pos,after,some (j,w)⟩ v ρ M E) (hd:d < N)
    (k:VL P N c ops Q rest ((d,v)::ρ) M E):VL P N c ops Q (⟨some d,op,ty,pos,after,some (j,w)⟩::rest) ρ M E:=fun a w' x y=>by
  unfold wpList
  rw [if_pos (by rw [AN hj x hb _ rfl]; simp)]
  exact .inl (Oper.U2 (h a w' x y) fun _ g=>k _ _ (x.put hd v) (y.grow g))
theorem VL.gn {op:Op} {j t:Nat} {w b:Bool} (hj:(ops[j]?).bind (·.dst)=some t) (hb:ρ.get t=some (.bool b)) (hw:(b==w)=false) (hd:d < N)
    (k:VL P N c ops Q rest ((d,undef)::ρ) M E):VL P N c ops Q (⟨some d,op,ty,pos,after,some (j,w)⟩::rest) ρ M E:=fun a w' x y=>by
  unfold wpList
  rw [if_neg (by rw [AN hj x hb _ rfl,hw]; simp)]
  exact k _ _ (x.put hd undef) y
theorem VD.gy {op:Op} {k j t:Nat} {w:Bool} {r:List (Nat×Bool)} {D:List (Nat×Value)} (hk:ops[k]? = some ⟨some d,op,ty,pos,after,some (j,w)⟩) (hj:(ops[j]?).bind (·.dst)=some t) (hb:ρ.get t=some (.bool w)) (h:Qt P N c ⟨some d,op,ty,pos,after,some (j,w)⟩ v ρ M E) (hd:d < N)
    (n:VD P N c ops Q r (D3 ops k v D) ((d,v)::ρ) M E):VD P N c ops Q ((k,true)::r) D ρ M E:=fun a w' x y =>
  ⟨_,v,hk,.inl ⟨by rw [AN hj x hb _ rfl]; simp,fun w1 g=>h a w1 x (y.grow g)⟩,n _ _ (x.put hd v) y⟩
theorem VD.gn {op:Op} {k j t:Nat} {w b:Bool} {r:List (Nat×Bool)} {D:List (Nat×Value)} (hk:ops[k]? = some ⟨some d,op,ty,pos,after,some (j,w)⟩) (hj:(ops[j]?).bind (·.dst)=some t) (hb:ρ.get t=some (.bool b)) (hw:(b==w)=false) (hd:d < N)
    (n:VD P N c ops Q r (D3 ops k undef D) ((d,undef)::ρ) M E):VD P N c ops Q ((k,true)::r) D ρ M E:=fun a w' x y =>
  ⟨_,undef,hk,.inr ⟨by rw [AN hj x hb _ rfl,hw],rfl⟩,n _ _ (x.put hd undef) y⟩
theorem VD.wO (t:Nat) {r:List (Nat×Bool)} {D:List (Nat×Value)} {φ:Prop} [Decidable φ] (h:ρ.get t=some (.bool (decide φ))) (h1:φ→VD P N c ops Q r D ((t,.bool true)::ρ) M E) (h2 : ¬ φ→VD P N c ops Q r D ((t,.bool false)::ρ) M E):VD P N c ops Q r D ρ M E:=fun a w x y=>by
  have hx : ∀ b,decide φ=b→rW N ((t,.bool b)::ρ) a:=fun b hb=>⟨x.size,x.defers,fun s u e=>by
    simp only [Env.get] at e
    cases hq:Nat.beq t s with
    | true=>rw [hq] at e; have:=Nat.eq_of_beq_eq_true hq; subst this; cases e; subst hb; exact x.look t _ h
    | false=>rw [hq] at e; exact x.look s u e⟩
  by_cases hφ:φ
  . exact h1 hφ a w (hx true (by simp [hφ])) y
  . exact h2 hφ a w (hx false (by simp [hφ])) y
end
end Go.V
end

section
namespace Go.V
open Go.RowKit
def Hp.one (b:Nat) (o:Obj):Hp:=fun i=>if i=b then some o else none
theorem Hp.jS (b:Nat) (o:Obj):Hp.one b o b=some o:=by simp [Hp.one]
theorem Hp.NN {b i:Nat} {o:Obj} (h:Hp.one b o i≠none):i=b:=by
 unfold Hp.one at h
 split at h
 ·
  assumption
 exact absurd rfl h
section
variable {P:Program} {N:Nat} {c:Cx} {ops:Array Oper} {Q Q1:Exit→Act→World→Prop} {rest:List Oper} {o:Oper} {ρ ρ':Env} {M M' M1:Mo} {E E' E1 F A:Ow} {v u:Value} {X:Type}
  {d:Nat} {od:Option Nat} {ty:TypeId} {pos:String} {after:Array Edge} {gd:Option (Nat×Bool)} {x y:Operand} {t e T:TypeId} {α:Type} [bB α]
theorem St.aKR {w w':World} {h:Hp} {D:Nat→Prop} {o:Obj} (hm:M'.on (h.join (Hp.one w.heap.size o))) (l:h.le (wh w)) (g:Gr w w') (hn:w'.heap[w.heap.size]? = some o):St ⟨w,h,D⟩ M' Ow.emp w':=by
 have off1:h.off (Hp.one w.heap.size o):=fun b=>by
   cases hb:h b with
   | none=>exact .inl rfl
   | some p =>
     right
     have:=(Array.getElem?_eq_some_iff.1 (l b p hb)).1
     unfold Hp.one
     rw [if_neg (by omega)]
 refine ⟨⟨h.join (Hp.one w.heap.size o),Hp.nil,hm,trivial,Hp.EA _,Hp.join_le (l.trans g.le) (fun b p hb => ?_),(fun b p hb=>by cases hb),Hp.cU _ _,fun b hb => ?_,fun b hb=>absurd rfl hb⟩,fun b hb _=>g.block b hb,g.os,g.tape,g.output,g.size⟩
 ·
  have e:=Hp.NN (by rw [hb]; simp)
  subst e
  rw [Hp.jS] at hb
  cases hb
  exact hn
 by_cases q:h b=none
 ·
  have:Hp.one w.heap.size o b≠none:=fun p=>hb (Hp.join_none.2 ⟨q,p⟩)
  exact .inr (.inr (Nat.le_of_eq (Hp.NN this).symm))
 exact .inl q
theorem St.T0 {w w':World} {h:Hp} {D:Nat→Prop} {o:Obj} (hm:A (Hp.one w.heap.size o)) (hh:M.on h) (l:h.le (wh w)) (g:Gr w w') (hn:w'.heap[w.heap.size]? = some o):St ⟨w,h,D⟩ M A w':=by
 refine ⟨⟨h,Hp.one w.heap.size o,hh,hm,fun b => ?_,l.trans g.le,fun b p hb => ?_,Hp.le.refl h,fun b hb => .inl hb,fun b hb => .inr (Nat.le_of_eq (Hp.NN hb).symm)⟩,fun b hb _=>g.block b hb,g.os,g.tape,g.output,g.size⟩
 ·
  cases hb:h b with
  | none=>exact .inl rfl
  | some p =>
    right
    have:=(Array.getElem?_eq_some_iff.1 (l b p hb)).1
    unfold Hp.one
    rw [if_neg (by omega)]
 have e:=Hp.NN (by rw [hb]; simp)
 subst e
 rw [Hp.jS] at hb
 cases hb
 exact hn
theorem Gr.alloc (w:World) (o:Obj):Gr w (w.alloc o):=⟨rfl,rfl,rfl,by simp,fun k hk=>Below.heap_alloc w o k hk⟩
theorem St.aTc {w:World} (hE:nC E A F) (s:St c M E w):St c M F w:=by
 obtain ⟨⟨hp,e,m,ee,dd,l,kk,h0,hr,er⟩,f1,f2,f3,f4,f5⟩:=s
 obtain ⟨x,y,dxy,j,hx,hy⟩:=hE e ee
 exact ⟨⟨hp,y,m,hy,fun b=>(dd b).imp id fun z=>by rw [j] at z; exact (Hp.join_none.1 z).2,l,fun b o q=>kk b o (by rw [j]; exact Hp.fS dxy b o q),h0,hr,fun b hb=>er b fun q=>hb (by rw [j] at q; exact (Hp.join_none.1 q).2)⟩,f1,f2,f3,f4,f5⟩
theorem VL.drop (hE:nC E A F) (k:VL P N c ops Q rest ρ M F):VL P N c ops Q rest ρ M E:=fun a w x y=>k a w x (y.aTc hE)
theorem VC.drop {k:Code} (hE:nC E A F) (g:VC P N c Q k ρ M F):VC P N c Q k ρ M E:=fun a w x y=>g a w x (y.aTc hE)
theorem VL.strip {M2:Mo} (k:VL P N c ops Q rest ρ M E):VL P N c ops Q rest ρ (M2.and M) E:=VL.mono (fun _ h=>h.2) (fun _ h=>h) k
theorem VL.T0 {op:Op} {S:Type} {val:S→Value} {φ:S→Prop} {A:S→Ow} (H : ∀ a w,rW N ρ a → ∃ s w' o,(execOp a.eval ⟨some d,op,ty,pos,after,none⟩).run P w = .ok (.value (val s)) w'∧φ s∧Gr w w'∧w'.heap[w.heap.size]? = some o∧A s (Hp.one w.heap.size o)) (hd:d < N)
    (k : ∀ s,φ s→VL P N c ops Q rest ((d,val s)::ρ) M (Ow.star (A s) E)):VL P N c ops Q (⟨some d,op,ty,pos,after,none⟩::rest) ρ M E :=
  VL.big (φ:=φ) (val:=val) (M2:=fun _=>Mo.tt) (A2:=A) nC.none (fun a w h z g _ m _ l _=>by
    obtain ⟨s,w',o,h1,h2,h3,h4,h5⟩:=H a w g
    exact ⟨_,w',h1,s,h2,rfl,St.T0 h5 trivial l h3 h4⟩) hd fun s hs=>VL.strip (k s hs)
theorem VL.aKR {op:Op} {S:Type} {val:S→Value} {φ:S→Prop} {M2:S→Mo} (H : ∀ a w h,rW N ρ a→M.on h→h.le (wh w) → ∃ s w' o,(execOp a.eval ⟨some d,op,ty,pos,after,none⟩).run P w = .ok (.value (val s)) w'∧φ s∧Gr w w'∧w'.heap[w.heap.size]? = some o∧(M2 s).on (h.join (Hp.one w.heap.size o))) (hd:d < N)
    (k : ∀ s,φ s→VL P N c ops Q rest ((d,val s)::ρ) ((M2 s).and M) E):VL P N c ops Q (⟨some d,op,ty,pos,after,none⟩::rest) ρ M E :=
  VL.big (φ:=φ) (val:=val) (M2:=M2) (A2:=fun _=>Ow.emp) (nC.none (E:=E)) (fun a w h z g _ m _ l _=>by
    obtain ⟨s,w',o,h1,h2,h3,h4,h5⟩:=H a w h g m l
    exact ⟨_,w',h1,s,h2,rfl,St.aKR h5 l h3 h4⟩) hd fun s hs=>VL.drop nC.head (k s hs)
theorem aKM {xs:List Operand} {vs:List Value} {a:Act} (g:rW N ρ a) (h:ρ.lH xs=some vs) (parts:Array (Nat×Operand)) (hp:parts=((xs.zipIdx 0).map fun x=>(x.2,x.1)).toArray) :
 (parts.map fun (i,x)=>(i,a.eval x)).toList=(vs.zipIdx 0).map fun x=>(x.2,x.1):=by
 subst hp
 rw [← g.lH h]
 simp [List.zipIdx_map]
theorem VL.lit {n:Nat} {parts:Array (Nat×Operand)} {xs:List Operand} {vs:List Value} (zs:List α) (hu:P.underlying t=some (.slice e)) (hz:((P.info? e).map fun i=>(i.size,i.zero.isSome))=some (bB.sz α,true)) (hpos:0 < bB.sz α)
 (hp:parts=((xs.zipIdx 0).map fun x=>(x.2,x.1)).toArray) (hv:ρ.lH xs=some vs) (hc:vs.map (fun v=>v.cells.toList)=zs.map bB.enc) (hn:zs.length=n) (hs:n*bB.sz α≤16777216) (hdeep : ∀ h,M.on h → ∀ z∈zs,(bB.deep z).on h) (hd:d < N)
 (k : ∀ s:Sv α,s.l=zs→VL P N c ops Q rest ((d,s.val)::ρ) (s.ok.and M) E) (h0:0 < n):VL P N c ops Q (⟨some d,.buildSlice t n parts,ty,pos,after,none⟩::rest) ρ M E:=by
 cases hi:P.info? e with
 | none=>rw [hi] at hz; cases hz
 | some ie =>
   rw [hi] at hz
   obtain ⟨hsz,hzz⟩:ie.size=bB.sz α∧ie.zero.isSome=true:=by simpa using hz
   obtain ⟨z,hz1⟩:=Option.isSome_iff_exists.1 hzz
   refine VL.aKR (S:=Sv α) (val:=Sv.val) (φ:=fun s=>s.l=zs) (M2:=fun s=>s.ok) (fun a w h g m l => ?_) hd k
   have hlen:vs.length=n:=by rw [← hn]; simpa using congrArg List.length hc
   have hcs : ∀ v∈vs,v.cells.size=ie.size:=fun v hv=>by
     have:v.cells.toList∈zs.map bB.enc:=by rw [← hc]; exact List.mem_map.2 ⟨v,hv,rfl⟩
     obtain ⟨q,_,hq⟩:=List.mem_map.1 this
     rw [← Array.length_toList,← hq,bB.len,hsz]
   have hfill:=Great.fill_whole (s:=ie.size) (by omega) vs ((Array.range (n*ie.size)).map (z.cells[· % z.cells.size]!)) hcs (by simp [hlen])
   have hflat:(vs.flatMap fun v=>v.cells.toList)=zs.flatMap bB.enc:=by rw [List.flatMap_def,hc,← List.flatMap_def]
   rw [hflat] at hfill
   have hr:=run_buildSlice (P:=P) w t e n (parts.map fun (i,x)=>(i,a.eval x)) _ ie z hu hi hz1 (by rw [hsz]; omega) (by rw [hsz]; exact Nat.pos_iff_ne_zero.1 (Nat.mul_pos h0 hpos)) (by rw [aKM g hv parts hp]; exact hfill)
   refine ⟨⟨some ⟨w.heap.size,0,none⟩,n,zs⟩,_,.cells (zs.flatMap bB.enc).toArray e,?_,rfl,Gr.alloc w _,heap_alloc_new w _,?_⟩
   . simp only [execOp,Sem.run_bind,hr,Result.andThen_ok,Sem.run_pure,Sv.val,hn]
   . have hblk:(h.join (Hp.one w.heap.size (.cells (zs.flatMap bB.enc).toArray e))) w.heap.size=some (.cells (zs.flatMap bB.enc).toArray e (0,0)):=by
       have hh:h w.heap.size=none:=by
         cases hb:h w.heap.size with
         | none=>rfl
         | some p=>have:=(Array.getElem?_eq_some_iff.1 (l _ p hb)).1; omega
       unfold Hp.join
       rw [hh,Hp.jS]
     refine ⟨by simp [hn],?_,fun _=>by simp [Sv.b,Sv.o],fun i x hx => ?_,fun q hq=>(bB.deep q).up (Hp.cU _ _) (hdeep h m q hq)⟩
     . have:n≤n*bB.sz α:=Nat.le_mul_of_pos_right n hpos
       simp only [maxLen]; omega
     . intro j u hj
       have:=GK (α:=α) bB.len zs i x hx j u hj
       simp [Sv.b,Sv.o,Hp.cell,hblk,this]
theorem St.SK {w w':World} {h z:Hp} {b:Nat} {o o':Obj} (hz:z b=some o) (hoff:h.off z) (hm:M.on h) (l:h.le (wh w)) (hA:A (Hp.one b o')) (hs:w'.heap.size=w.heap.size) (hb:w'.heap[b]? = some o') (ho : ∀ i,i≠b→w'.heap[i]? = w.heap[i]?) (e1:w'.os=w.os) (e2:w'.tape=w.tape) (e3:w'.output=w.output) :
 St ⟨w,h,fun i=>z i≠none⟩ M A w':=by
 have hbn:h b=none:=(hoff b).resolve_right (by rw [hz]; simp)
 refine ⟨⟨h,Hp.one b o',hm,hA,fun i => ?_,fun i p hp => ?_,fun i p hp => ?_,Hp.le.refl h,fun i hi => .inl hi,fun i hi => .inl ?_⟩,fun i hi hd=>ho i ?_,e1,e2,e3,Nat.le_of_eq hs.symm⟩
 ·
  by_cases hib:i=b
  ·
   subst hib; exact .inl hbn
  right; unfold Hp.one; rw [if_neg hib]
 ·
  have hib:i≠b:=fun q=>by subst q; rw [hbn] at hp; cases hp
  unfold wh
  rw [ho i hib]
  exact l i p hp
 ·
  have:=Hp.NN (by rw [hp]; simp)
  subst this
  rw [Hp.jS] at hp
  cases hp
  exact hb
 ·
  have:=Hp.NN hi
  subst this
  show z i≠none
  rw [hz]; simp
 rintro rfl
 exact hd (show z i≠none by rw [hz]; simp)
theorem aJQ (l:List α) : ∀ u∈l.flatMap bB.enc,u.oneCell'=true:=fun u hu=>by
  obtain ⟨z,_,hz⟩:=List.mem_flatMap.1 hu
  exact bB.one z u hz
theorem gI (l:List α):(l.flatMap bB.enc).length=l.length*bB.sz α:=by
 induction l with
 | nil=>simp
 | cons z r ih=>rw [List.flatMap_cons,List.length_append,ih,bB.len,List.length_cons,Nat.add_mul]; omega
theorem QB {h:Hp} {b o:Nat} {l:List α} (H : ∀ i x,l[i]? = some x→h.at b (o+i*bB.sz α) (bB.enc x)) (hpos:0 < bB.sz α):h.at b o (l.flatMap bB.enc):=fun j v hj=>by
  have hlt:j < l.length*bB.sz α:=by rw [← gI]; exact (List.getElem?_eq_some_iff.1 hj).1
  have hi:j / bB.sz α < l.length:=(Nat.div_lt_iff_lt_mul hpos).2 hlt
  have hm:j % bB.sz α < bB.sz α:=Nat.mod_lt _ hpos
  have hx:l[j / bB.sz α]? = some l[j / bB.sz α]:=List.getElem?_eq_getElem hi
  have hjj:j / bB.sz α*bB.sz α+j % bB.sz α=j:=by rw [Nat.mul_comm]; exact Nat.div_add_mod j _
  obtain ⟨u,hu⟩ : ∃ u,(bB.enc l[j / bB.sz α])[j % bB.sz α]? = some u:=⟨_,List.getElem?_eq_getElem (show _ < (bB.enc l[j / bB.sz α]).length by rw [bB.len]; exact hm)⟩
  have h1:=GK (α:=α) bB.len l _ _ hx _ _ hu
  rw [hjj,hj] at h1
  have h2:=H _ _ hx _ _ hu
  rw [Nat.add_assoc,hjj] at h2
  rw [h2]
  exact h1.symm
theorem aLO {w:World} {h z:Hp} {s r:Sv α} {ts:TypeId} {i:TypeInfo} {zv:Value} (hu:P.underlying t=some (.slice e)) (hi:P.info? e=some i) (hz:i.zero=some zv) (hsz:i.size=bB.sz α) (hzs:zv.cells.size=i.size) (hpos:0 < bB.sz α)
 (hoff:h.off z) (l:h.le (wh w)) (k:z.le (wh w)) (ho:s.own e z) (hr:r.ok.on (h.join z)) (hlen:s.l.length+r.l.length≤9007199254740992) (hb:(s.l.length+r.l.length)*i.bytes≤140737488355328) :
 ∃ (s':Sv α) (w':World),(Builtin.append_ #[t,t] ts #[s.val,r.val]).run P w = .ok s'.val w'∧s'.l=s.l++r.l∧St ⟨w,h,fun b=>z b≠none⟩ Mo.tt (s'.own e) w':=by
 have hjoin:(h.join z).le (wh w):=Hp.join_le l k
 have hmax:s.l.length+r.l.length≤maxLen:=by unfold maxLen; omega
 obtain ⟨hlc,hcm,hcase⟩:=ho
 have hrl:=gI r.l
 by_cases hr0:r.l=[]
 ·
  have hrun:(Builtin.append_ #[t,t] ts #[s.val,r.val]).run P w = .ok s.val w:=by
    simp only [Sv.val,hr0,List.length_nil]
    have hroom:s.l.length+0≤s.c:=by omega
    cases ha:r.a <;> cases hsa:s.a <;> simp [Builtin.append_,run_underlying hu,sizeOf,typeInfo,hi,Builtin.lenOf,hlc,Builtin.firstCells,loadCells,loadCellsFrom,storeCells]
  refine ⟨s,w,hrun,by simp [hr0],?_⟩
  rcases hcase with ⟨hl,hc⟩ | ⟨g,cur,ha,hg,hcs,ht⟩
  ·
   exact ⟨⟨h,Hp.nil,trivial,⟨hlc,hcm,.inl ⟨hl,hc⟩⟩,Hp.EA _,l,(fun b p hb=>by cases hb),Hp.le.refl h,(fun b hb => .inl hb),(fun b hb=>absurd rfl hb)⟩,fun b _ _=>rfl,rfl,rfl,rfl,Nat.le_refl _⟩
  exact St.SK (A:=s.own e) hg hoff trivial l ⟨hlc,hcm,.inr ⟨g,cur,ha,Hp.jS _ _,hcs,ht⟩⟩ rfl (k _ _ hg) (fun _ _=>rfl) rfl rfl rfl
 have hrp:0 < r.l.length:=List.length_pos_iff.2 hr0
 have hra:=hr.2.2.1 hr0
 have hrv:r.val = .slice (some ⟨r.b,r.o,none⟩) r.l.length r.c:=by unfold Sv.val; rw [← hra]
 have hnews : ∀ j v,(r.l.flatMap bB.enc)[j]? = some v→w.cell? ((⟨r.b,r.o,none⟩:Addr).add j)=some v:=fun j v hj=>by
   rw [nM]
   exact tQ hjoin (QB (fun i x hx=>hr.2.2.2.1 i x hx) hpos j v hj)
 have hcap : ∀ old,s.l.length+r.l.length≤grownCap w (s.l.length+r.l.length) old e∧grownCap w (s.l.length+r.l.length) old e≤maxLen:=fun old=>⟨grownCap_ge _ _ _ _,grownCap_le_maxLen _ _ _ _ hmax⟩
 have hgrown : ∀ old,St ⟨w,h,fun b=>z b≠none⟩ Mo.tt ((⟨some ⟨w.heap.size,0,none⟩,grownCap w (s.l.length+r.l.length) old e,s.l++r.l⟩:Sv α).own e)
     (w.drew.alloc (.cells ((s.l.flatMap bB.enc).toArray++(r.l.flatMap bB.enc).toArray++Builtin.zeroCells zv.cells (grownCap w (s.l.length+r.l.length) old e - (s.l.length+r.l.length))) e)):=fun old=>by
   refine St.T0 (A:=Sv.own _ e) (o := .cells ((s.l.flatMap bB.enc).toArray++(r.l.flatMap bB.enc).toArray++Builtin.zeroCells zv.cells (grownCap w (s.l.length+r.l.length) old e - (s.l.length+r.l.length))) e) ?_ trivial l ((Gr.drew w).trans (Gr.alloc w.drew _)) (heap_alloc_new w.drew _)
   refine ⟨by simpa using (hcap old).1,(hcap old).2,.inr ⟨_,_,rfl,Hp.jS _ _,?_,?_⟩⟩
   . refine Nat.le_of_eq (Eq.symm ?_)
     simp only [Array.size_append,List.size_toArray,size_zeroCells,hzs,hsz,gI,← Nat.add_mul]
     congr 1
     have:=(hcap old).1
     omega
   . have e1:(s.l++r.l).length*bB.sz α=((s.l.flatMap bB.enc)++(r.l.flatMap bB.enc)).length:=by rw [List.length_append,List.length_append,gI,gI,Nat.add_mul]
     simp only [Array.toList_append,e1]
     rw [List.take_left]
     simp
 rcases hcase with ⟨hl,hc⟩ | ⟨g,cur,ha,hg,hcs,ht⟩
 ·
  have hg0:=hgrown 0
  rw [hl] at hg0
  simp only [List.flatMap_nil,List.length_nil,Nat.zero_add,List.nil_append,Array.empty_append] at hg0
  have hb0:r.l.length*i.bytes≤140737488355328:=by rw [hl] at hb; simpa using hb
  refine ⟨⟨some ⟨w.heap.size,0,none⟩,grownCap w r.l.length 0 e,r.l⟩,w.drew.alloc (.cells ((r.l.flatMap bB.enc).toArray++Builtin.zeroCells zv.cells (grownCap w r.l.length 0 e - r.l.length)) e),?_,by rw [hl]; rfl,hg0⟩
  cases hsa:s.a with
  | none =>
    have hsv:s.val = .slice none 0 0:=by unfold Sv.val; rw [hsa,hl,hc]; rfl
    have hrun:=run_append_nil (P:=P) w t ts e i zv hu hi hz ⟨r.b,r.o,none⟩ r.l.length r.c (r.l.flatMap bB.enc) (by rw [hrl,hsz]) hnews hrp (by omega) (by omega)
    rw [hsv,hrv]
    exact hrun
  | some ad =>
    have hsv:s.val = .slice (some ad) 0 0:=by unfold Sv.val; rw [hsa,hl,hc]; rfl
    have hrun:=run_append_grow (P:=P) w t ts e i zv hu hi hz ad 0 0 [] (by simp) (fun j v hj=>by simp at hj) ⟨r.b,r.o,none⟩ r.l.length r.c (r.l.flatMap bB.enc) (by rw [hrl,hsz]) hnews (by omega) (by omega) (growslice_fits (by omega) (by simpa using hb0))
    rw [hsv,hrv]
    simpa [Sv.val] using hrun
 have hsv:s.val = .slice (some ⟨g,0,none⟩) s.l.length s.c:=by unfold Sv.val; rw [ha]
 have hwg:w.heap[g]? = some (.cells cur e (0,0)):=k _ _ hg
 by_cases hroom:s.l.length+r.l.length≤s.c
 ·
  have hfit:s.l.length*i.size+(r.l.flatMap bB.enc).length≤cur.size:=by refine Nat.le_trans ?_ hcs; rw [hrl,hsz,← Nat.add_mul]; exact Nat.mul_le_mul_right _ hroom
  have hrun:=run_append_room (P:=P) w t ts e i hu hi g s.l.length s.c cur hwg ⟨r.b,r.o,none⟩ r.l.length r.c (r.l.flatMap bB.enc) (by rw [hrl,hsz]) hnews (aJQ _) hroom hfit
  refine ⟨⟨some ⟨g,0,none⟩,s.c,s.l++r.l⟩,w.setRow g (cur.toList.take (s.l.length*i.size)++(r.l.flatMap bB.enc)++cur.toList.drop (s.l.length*i.size+(r.l.flatMap bB.enc).length)).toArray,?_,rfl,?_⟩
  ·
   rw [hsv,hrv]; simpa [Sv.val] using hrun
  refine St.SK (A:=Sv.own _ e) (b:=g) hg hoff trivial l ⟨by simpa using hroom,hcm,.inr ⟨g,_,rfl,Hp.jS _ _,?_,?_⟩⟩ (by simp [World.setRow]) (setRow_heap w g cur _ e _ hwg) (fun j hj=>setRow_other w g j _ hj) rfl rfl rfl
  ·
   simp only [List.size_toArray,List.length_append,List.length_take,List.length_drop,Array.length_toList]
   rw [hsz] at hfit ⊢
   omega
  rw [hsz,ht]
  have e1:(s.l++r.l).length*bB.sz α=((s.l.flatMap bB.enc)++(r.l.flatMap bB.enc)).length:=by rw [List.length_append,List.length_append,gI,gI,Nat.add_mul]
  simp only [e1]
  rw [List.take_left]
  simp
 have holds : ∀ j v,(s.l.flatMap bB.enc)[j]? = some v→w.cell? ((⟨g,0,none⟩:Addr).add j)=some v:=fun j v hj=>by
   rw [nM]
   have hb':s.b=g:=by simp [Sv.b,ha]
   have ho':s.o=0:=by simp [Sv.o,ha]
   have hown:s.own e z:=⟨hlc,hcm,.inr ⟨g,cur,ha,hg,hcs,ht⟩⟩
   have:=QB (h:=z) (b:=s.b) (o:=s.o) (fun i x hx=>Sv.JS hown hx) hpos j v hj
   rw [hb',ho'] at this
   exact tQ k this
 have hrun:=run_append_grow (P:=P) w t ts e i zv hu hi hz ⟨g,0,none⟩ s.l.length s.c (s.l.flatMap bB.enc) (by rw [gI,hsz]) holds ⟨r.b,r.o,none⟩ r.l.length r.c (r.l.flatMap bB.enc) (by rw [hrl,hsz]) hnews (by omega) (by omega) (growslice_fits (by omega) hb)
 refine ⟨⟨some ⟨w.heap.size,0,none⟩,grownCap w (s.l.length+r.l.length) s.c e,s.l++r.l⟩,_,?_,rfl,hgrown s.c⟩
 rw [hsv,hrv]
 simpa [Sv.val] using hrun
theorem VL.app {s r:Sv α} {xs:List Operand} {bt:Nat} (hu:P.underlying t=some (.slice e)) (hi:((P.info? e).map fun i=>(i.size,i.bytes,(i.zero.map fun z=>z.cells.size)))=some (bB.sz α,bt,some (bB.sz α))) (hpos:0 < bB.sz α)
 (ha:ρ.lH xs=some [s.val,r.val]) (hE:nC E (s.own e) F) [hr:dM M r.ok] (hlen:s.l.length+r.l.length≤9007199254740992) (hb:(s.l.length+r.l.length)*bt≤140737488355328) (hd:d < N)
 (k : ∀ s':Sv α,s'.l=s.l++r.l→VL P N c ops Q rest ((d,s'.val)::ρ) M (Ow.star (s'.own e) F)) :
 VL P N c ops Q (⟨some d,.call { callee := .builtin .append,args:=xs.toArray,argTypes := #[t,t]},ty,pos,after,none⟩::rest) ρ M E:=by
 cases hj:P.info? e with
 | none=>rw [hj] at hi; cases hi
 | some j =>
   rw [hj] at hi
   simp only [Option.map_some,Option.some.injEq,Prod.mk.injEq] at hi
   obtain ⟨h1,h2,h3⟩:=hi
   cases hz:j.zero with
   | none=>rw [hz] at h3; cases h3
   | some zv =>
     rw [hz] at h3
     have h3':zv.cells.size=j.size:=by rw [h1]; simpa using h3
     refine VL.big (X:=Sv α) (φ:=fun s'=>s'.l=s.l++r.l) (val:=Sv.val) (M2:=fun _=>Mo.tt) (A2:=fun s'=>s'.own e) hE (fun a w h z g hoff m hA l kk => ?_) hd fun s' hs'=>VL.strip (k s' hs')
     obtain ⟨s',w',q1,q2,q3⟩:=aLO (P:=P) (ts:=ty) hu hj hz h1 h3' hpos hoff l kk hA (r.ok.up (Hp.cU h z) (hr.out h m)) hlen (by rw [h2]; exact hb)
     refine ⟨s'.val,w',?_,s',q2,rfl,q3⟩
     simp only [execOp,resolve,List.map_toArray,g.lH ha,Sem.run_bind,Sem.run_pure,Result.andThen_ok,invoke,builtin,q1]
end
end Go.V
end

section
namespace Go.V
open Go.RowKit
class oS (E:Ow) (b:Nat) (cs:outParam (List Value)) (T:outParam TypeId) (F:outParam Ow):Prop where
  out:nC E (bM b cs T) F
instance (priority:=2000) oS.here (b:Nat) (cs:List Value) (T:TypeId):oS (bM b cs T) b cs T Ow.emp:=⟨nC.all⟩
instance (priority:=1500) oS.head (b:Nat) (cs:List Value) (T:TypeId) (B:Ow):oS (Ow.star (bM b cs T) B) b cs T B:=⟨nC.head⟩
instance (priority:=1000) oS.tail (b:Nat) (cs:List Value) (T:TypeId) (A B F:Ow) [i:oS B b cs T F]:oS (Ow.star A B) b cs T (Ow.star A F):=⟨nC.tail i.out⟩
def Env.evp (ρ:Env):List (Nat×Operand)→Option (List (Nat×Value))
  | []=>some []
  | (i,x)::r=>match ρ.ev x,Env.evp ρ r with
    | some v,some l=>some ((i,v)::l)
    | _,_=>none
section
variable {P:Program} {N:Nat} {c:Cx} {ops:Array Oper} {Q Q1:Exit→Act→World→Prop} {rest:List Oper} {o:Oper} {ρ ρ':Env} {M M' M1:Mo} {E E' E1 F A:Ow} {v u:Value} {X:Type}
  {d:Nat} {od:Option Nat} {ty:TypeId} {pos:String} {after:Array Edge} {gd:Option (Nat×Bool)} {x y:Operand} {t e T:TypeId} {α:Type} [bB α]
theorem rW.evp {a:Act} (h:rW N ρ a) : ∀ {xs:List (Nat×Operand)} {vs:List (Nat×Value)},ρ.evp xs=some vs→(xs.map fun (i,x)=>(i,a.eval x))=vs
  | [],vs,e=>by cases e; rfl
  | (i,x)::r,vs,e=>by
    simp only [Env.evp] at e
    cases hx:ρ.ev x with
    | none=>rw [hx] at e; cases e
    | some v =>
      cases hr:ρ.evp r with
      | none=>rw [hx,hr] at e; cases e
      | some l =>
        rw [hx,hr] at e
        cases e
        simp [h.ev hx,h.evp hr]
theorem cA {xs:List (Nat×Operand)} {vs:List (Nat×Value)} {cs:Array Value} (e:ρ.evp xs=some vs) (h:P.built t vs=some cs):Qt P N c ⟨od,.build t xs.toArray,ty,pos,after,gd⟩ (.agg cs) ρ M E:=Qt.of_run fun a w g _=>by
  have hp:(xs.toArray.map fun (i,x)=>(i,a.eval x))=vs.toArray:=by rw [List.map_toArray,g.evp e]
  simp only [execOp,hp,Sem.run_bind,run_build w t vs.toArray cs h,Result.andThen_ok,Sem.run_pure]
theorem VL.box {cs:List Value} (e:ρ.ev x=some v) (hc:v.cells=cs.toArray) (hd:d < N)
    (k : ∀ b:Nat,VL P N c ops Q rest ((d,ptr b 0)::ρ) M (Ow.star (bM b cs T) E)):VL P N c ops Q (⟨some d,.box T x,ty,pos,after,none⟩::rest) ρ M E :=
  VL.T0 (S:=Nat) (val:=fun b=>ptr b 0) (φ:=fun _=>True) (A:=fun b=>bM b cs T) (fun a w g=>by
    refine ⟨w.heap.size,w.alloc (.cells cs.toArray T),.cells cs.toArray T,?_,trivial,Gr.alloc w _,heap_alloc_new w _,Hp.jS _ _⟩
    simp only [execOp,g.ev e,Instr.box,newVar,newRow,hc]; rfl) hd fun b _=>k b
theorem VL.alloc {cs:List Value} (hz:((P.info? T).bind (·.zero)).map (·.cells)=some cs.toArray) (hd:d < N)
 (k : ∀ b:Nat,VL P N c ops Q rest ((d,ptr b 0)::ρ) M (Ow.star (bM b cs T) E)):VL P N c ops Q (⟨some d,.alloc T,ty,pos,after,none⟩::rest) ρ M E:=by
 cases hi:P.info? T with
 | none=>rw [hi] at hz; cases hz
 | some i =>
   cases hzz:i.zero with
   | none=>rw [hi] at hz; simp [hzz] at hz
   | some z =>
     have hc:z.cells=cs.toArray:=by rw [hi] at hz; simpa [hzz] using hz
     refine VL.T0 (S:=Nat) (val:=fun b=>ptr b 0) (φ:=fun _=>True) (A:=fun b=>bM b cs T) (fun a w g => ?_) hd fun b _=>k b
     refine ⟨w.heap.size,w.alloc (.cells cs.toArray T),.cells cs.toArray T,?_,trivial,Gr.alloc w _,heap_alloc_new w _,Hp.jS _ _⟩
     have hzv:(zeroValue T).run P w = .ok z w:=by simp [zeroValue,typeInfo,hi,hzz,go_sem]
     simp only [execOp,Instr.alloc,Sem.run_bind,hzv,Result.andThen_ok,newVar,newRow,hc]; rfl
theorem VL.store {b j n:Nat} {cs vc cs':List Value} (e1:ρ.ev x=some (ptr b j)) (e2:ρ.ev y=some v) [hE:oS E b cs T F] (hv:v.cells=vc.toArray) (hs:(P.info? t).map (·.size)=some n) (hn:vc.length=n) (h1:vc.all (·.oneCell')=true) (hl:j+vc.length≤cs.length) (hc:cs.take j++vc++cs.drop (j+vc.length)=cs')
    (k:VL P N c ops Q rest ρ M (Ow.star (bM b cs' T) F)):VL P N c ops Q (⟨none,.store t x y,ty,pos,after,none⟩::rest) ρ M E :=
  VL.aT1 (A2:=bM b cs' T) hE.out (fun a w h z g hoff m hA l kk=>by
    have hz:z b=some (.cells cs.toArray T (0,0)):=hA
    have hw:w.heap[b]? = some (.cells cs.toArray T (0,0)):=kk _ _ hz
    cases hi:P.info? t with
    | none=>rw [hi] at hs; cases hs
    | some i =>
      have his:i.size=vc.length:=by rw [hi] at hs; rw [hn]; simpa using hs
      have hst:=run_storeCells_at P b j T vc 0 cs.toArray w hw (by simpa using hl) (fun u hu=>by simpa using (List.all_eq_true.1 h1) u hu)
      refine ⟨w.setRow b cs'.toArray,?_,St.SK (A:=bM b cs' T) hz hoff trivial l (Hp.jS _ _) (by simp [World.setRow]) (setRow_heap w b cs.toArray _ T _ hw) (fun i hi=>setRow_other w b i _ hi) rfl rfl rfl⟩
      simp only [Nat.add_zero] at hst
      rw [hc] at hst
      have hsz:(sizeOf t).run P w = .ok vc.length w:=by simp [sizeOf,typeInfo,hi,his,go_sem]
      simp only [execOp,g.ev e1,g.ev e2,Instr.storeAt,Instr.sureAddr,storeVar,Sem.run_bind,Sem.run_pure,Result.andThen_ok,hsz,hv,List.size_toArray,ne_eq,not_true_eq_false,if_false,hst]) k
theorem VL.make {k1 k2:IntKind} {n m:Int} {z:α} {bt:Nat} (hu:P.underlying t=some (.slice e)) (hi:((P.info? e).map fun i=>(i.size,i.bytes,i.zero.map fun z=>z.cells.toList))=some (bB.sz α,bt,some (bB.enc z))) (hpos:0 < bB.sz α)
 (e1:ρ.ev x=some (.int k1 n)) (e2:ρ.ev y=some (.int k2 m)) (h0:0≤n) (hnm:n≤m) (hm:m≤9007199254740992) (hb:(bt:Int)*m≤281474976710656) (hd:d < N)
 (k : ∀ s:Sv α,s.l=List.replicate n.toNat z→VL P N c ops Q rest ((d,s.val)::ρ) M (Ow.star (s.own e) E)):VL P N c ops Q (⟨some d,.makeSlice t x y,ty,pos,after,none⟩::rest) ρ M E:=by
 cases hj:P.info? e with
 | none=>rw [hj] at hi; cases hi
 | some i =>
   rw [hj] at hi
   simp only [Option.map_some,Option.some.injEq,Prod.mk.injEq] at hi
   obtain ⟨h1,h2,h3⟩:=hi
   cases hz:i.zero with
   | none=>rw [hz] at h3; cases h3
   | some zv =>
     rw [hz] at h3
     have h3':zv.cells.toList=bB.enc z:=by simpa using h3
     have hzs:zv.cells.size=bB.sz α:=by rw [← Array.length_toList,h3',bB.len]
     refine VL.T0 (S:=Sv α) (val:=Sv.val) (φ:=fun s=>s.l=List.replicate n.toNat z) (A:=fun s=>s.own e) (fun a w g => ?_) hd k
     have hr:=run_make (P:=P) w t e i zv hu hj hz k1 k2 n m h0 hnm (by rw [h2]; exact hb) (by omega)
     refine ⟨⟨some ⟨w.heap.size,0,none⟩,m.toNat,List.replicate n.toNat z⟩,_,.cells (madeCells zv.cells (m.toNat*i.size)) e,?_,rfl,Gr.alloc w _,heap_alloc_new w _,?_⟩
     . simp only [execOp,g.ev e1,g.ev e2,Sem.run_bind,hr,Result.andThen_ok,Sem.run_pure,Sv.val,List.length_replicate]
     . refine ⟨by simp; omega,(by show m.toNat≤maxLen; unfold maxLen; omega),.inr ⟨_,_,rfl,Hp.jS _ _,Nat.le_of_eq (by rw [size_madeCells,h1]),?_⟩⟩
       apply List.ext_getElem?
       intro j
       rw [List.getElem?_take]
       simp only [List.length_replicate]
       split
       . rename_i hlt
         have hjm:j < m.toNat*i.size:=by
           have:n.toNat*bB.sz α≤m.toNat*bB.sz α:=Nat.mul_le_mul_right _ (by omega)
           rw [h1]; omega
         have hmod:j % bB.sz α < bB.sz α:=Nat.mod_lt _ hpos
         have hdiv:j / bB.sz α < n.toNat:=(Nat.div_lt_iff_lt_mul hpos).2 hlt
         have hjj:j / bB.sz α*bB.sz α+j % bB.sz α=j:=by rw [Nat.mul_comm]; exact Nat.div_add_mod j _
         have hx:(List.replicate n.toNat z)[j / bB.sz α]? = some z:=by simp [hdiv]
         obtain ⟨q,hq⟩ : ∃ q,(bB.enc z)[j % bB.sz α]? = some q:=⟨_,List.getElem?_eq_getElem (by rw [bB.len]; exact hmod)⟩
         have:=GK (α:=α) bB.len _ _ _ hx _ _ hq
         rw [hjj] at this
         rw [this]
         simp only [madeCells,hzs,Array.toList_map,List.getElem?_map,Array.toList_range,List.getElem?_range hjm,Option.map_some]
         rw [← h3'] at hq
         rw [Array.getElem?_toList] at hq
         simp [getElem!_def,hq]
       . rename_i hlt
         rw [List.getElem?_eq_none]
         rw [gI]
         simp only [List.length_replicate]
         omega
theorem aJV (s:List UInt8) (l r:Nat):(⟨⟨s⟩⟩:ByteArray).extract l r=⟨⟨(s.drop l).take (r - l)⟩⟩:=ByteArray.ext (by simp)
theorem a6C {s:List UInt8} {k:IntKind} {n:Int} (hu:P.underlying t=some .string) (e1:ρ.ev x=some (str s)) (e2:ρ.ev y=some (.int k n)) (h0:0≤n) (h1:n≤s.length):Qt P N c ⟨od,.slice t x none (some y) none,ty,pos,after,gd⟩ (str (s.take n.toNat)) ρ M E:=Qt.of_run fun a w g _=>by
  have hs:(⟨⟨s⟩⟩:ByteArray).size=s.length:=rfl
  simp only [execOp,g.ev e1,Option.map_none,Option.map_some,g.ev e2,Sem.run_bind,run_sliceAt_string w t _ _ _ _ hu,run_slice_string_h w t _ hu k n h0 (by rw [hs]; exact h1),Result.andThen_ok,Sem.run_pure,aJV]
  simp
theorem aWn {s:List UInt8} {k:IntKind} {n:Int} (hu:P.underlying t=some .string) (e1:ρ.ev x=some (str s)) (e2:ρ.ev y=some (.int k n)) (h0:0≤n) (h1:n≤s.length):Qt P N c ⟨od,.slice t x (some y) none none,ty,pos,after,gd⟩ (str (s.drop n.toNat)) ρ M E:=Qt.of_run fun a w g _=>by
  have hs:(⟨⟨s⟩⟩:ByteArray).size=s.length:=rfl
  have ht:(s.drop n.toNat).take (s.length - n.toNat)=s.drop n.toNat:=List.take_of_length_le (by simp)
  simp only [execOp,g.ev e1,Option.map_none,Option.map_some,g.ev e2,Sem.run_bind,run_sliceAt_string w t _ _ _ _ hu,run_slice_string_l w t _ hu k n h0 (by rw [hs]; exact h1),Result.andThen_ok,Sem.run_pure,aJV,hs,ht]
def Sv.sub (s:Sv α) (l h m:Nat):Sv α:=⟨if m=l then s.a else s.a.map (·.add (l*bB.sz α)),m - l,(s.l.drop l).take (h - l)⟩
theorem Sv.aIB {s:Sv α} {l r m:Nat} (h1:l≤r) (h2:r≤s.l.length) (h3:r≤m) (h4:m≤s.c) {h:Hp} (k:s.ok.on h):(s.sub l r m).ok.on h:=by
 have hlen:((s.l.drop l).take (r - l)).length=r - l:=by simp; omega
 have hidx : ∀ i x,((s.l.drop l).take (r - l))[i]? = some x→i < r - l∧s.l[l+i]? = some x:=fun i x hx=>by
   rw [List.getElem?_take] at hx
   split at hx
   . rw [List.getElem?_drop] at hx; exact ⟨by assumption,hx⟩
   . cases hx
 have hb:r - l≠0→(s.sub l r m).a=some ⟨s.b,s.o+l*bB.sz α,none⟩:=fun hne=>by
   have hm:m≠l:=by omega
   have ha:=k.2.2.1 (fun e=>by rw [e] at h2; simp at h2; omega)
   simp only [Sv.sub,if_neg hm]
   rw [ha]
   simp [nM]
 refine ⟨by simp only [Sv.sub,hlen]; omega,by have:=k.2.1; simp only [Sv.sub]; omega,fun hne => ?_,fun i x hx => ?_,fun x hx => ?_⟩
 ·
  have hr:r - l≠0:=fun e=>hne (by simp [Sv.sub,e])
  simp [Sv.b,Sv.o,hb hr]
 ·
  obtain ⟨hi,hx'⟩:=hidx i x hx
  have:=k.2.2.2.1 _ _ hx'
  have e1:(s.sub l r m).b=s.b:=by simp [Sv.b,hb (by omega)]
  have e2:(s.sub l r m).o=s.o+l*bB.sz α:=by simp [Sv.o,hb (by omega)]
  rw [e1,e2,Nat.add_assoc,← Nat.add_mul]
  exact this
 obtain ⟨i,hi⟩:=List.mem_iff_getElem?.1 hx
 exact k.2.2.2.2 x (List.mem_of_getElem? (hidx i x hi).2)
def o6 (ρ:Env):Option Operand→Option (Option Int)
  | none=>some none
  | some x=>match ρ.ev x with
    | some (.int .i64 n)=>some (some n)
    | _=>none
theorem VL.LK (X:Mo) (h : ∀ h,M.on h→X.on h) (k:VL P N c ops Q rest ρ (X.and M) E):VL P N c ops Q rest ρ M E:=VL.mono (M':=X.and M) (fun hp m=>⟨h hp m,m⟩) (fun _ x=>x) k
theorem VC.LK (X:Mo) {k:Code} (h : ∀ h,M.on h→X.on h) (g:VC P N c Q k ρ (X.and M) E):VC P N c Q k ρ M E:=VC.mono (M':=X.and M) (fun hp m=>⟨h hp m,m⟩) (fun _ x=>x) g
theorem VD.mono {r:List (Nat×Bool)} {D:List (Nat×Value)} (h1 : ∀ h,M.on h→M'.on h) (h2 : ∀ e,E e→E' e) (k:VD P N c ops Q r D ρ M' E'):VD P N c ops Q r D ρ M E:=fun a w x y=>k a w x (y.mono h1 h2)
theorem VD.LK (X:Mo) {r:List (Nat×Bool)} {D:List (Nat×Value)} (h : ∀ h,M.on h→X.on h) (k:VD P N c ops Q r D ρ (X.and M) E):VD P N c ops Q r D ρ M E:=VD.mono (M':=X.and M) (fun hp m=>⟨h hp m,m⟩) (fun _ x=>x) k
theorem KD {s:Sv α} {lo hi mx:Option Operand} {lo' hi' mx':Option Int} (l r m:Nat) (hu:P.underlying t=some (.slice e)) (hz:(P.info? e).map (·.size)=some (bB.sz α)) (e0:ρ.ev x=some s.val)
    (e1:o6 ρ lo=some lo') (e2:o6 ρ hi=some hi') (e3:o6 ρ mx=some mx') (hl:lo'.getD 0=(l:Int)) (hr:hi'.getD s.l.length=(r:Int)) (hm:mx'.getD s.c=(m:Int)) (hmx:mx'.isSome=true→hi'.isSome=true) (h1:l≤r) (h2:r≤m) (h3:m≤s.c) (h4:r≤s.l.length) :
    Qt P N c ⟨od,.slice t x lo hi mx,ty,pos,after,gd⟩ (s.sub l r m).val ρ M E:=Qt.of_run fun a w g _=>by
  have key : ∀ (q:Option Operand) (q':Option Int),o6 ρ q=some q'→q.map a.eval=q'.map (fun n=>Value.int .i64 n):=fun q q' hq=>by
    cases q with
    | none=>simp only [o6] at hq; cases hq; rfl
    | some z =>
      simp only [o6] at hq
      split at hq
      . rename_i n hz; cases hq; simp [g.ev hz]
      . cases hq
  cases hj:P.info? e with
  | none=>rw [hj] at hz; cases hz
  | some j =>
    rw [hj] at hz
    have hzz:j.size=bB.sz α:=by simpa using hz
    have hel:P.elem t=e:=by simp [Program.elem,hu]
    have hu':P.underlying t=some (.slice (P.elem t)):=by rw [hel]; exact hu
    have hs:(sizeOf (P.elem t)).run P w = .ok (bB.sz α) w:=by rw [hel]; simp [sizeOf,typeInfo,hj,hzz,go_sem]
    have hlen:((s.l.drop l).take (r - l)).length=r - l:=by simp; omega
    have hfin:sliced s.a l r m (bB.sz α)=(s.sub l r m).val:=by simp only [sliced,Sv.val,Sv.sub,hlen]
    have hb:(Instr.sliceBounds true s.l.length s.c (lo'.map fun n=>Value.int .i64 n) (hi'.map fun n=>Value.int .i64 n) (mx'.map fun n=>Value.int .i64 n)).run P w = .ok (l,r,m) w:=by
      cases mx' with
      | none =>
        simp only [Option.getD_none] at hm
        have hm':m=s.c:=by omega
        subst hm'
        cases hi' with
        | none =>
          simp only [Option.getD_none] at hr
          have hr':r=s.l.length:=by omega
          subst hr'
          cases lo' with
          | none => simp only [Option.getD_none] at hl; have:l=0:=by omega
                    subst this; simp [Instr.sliceBounds,go_sem]
          | some q=>simp only [Option.getD_some] at hl; subst hl; simp [Instr.sliceBounds,run_sliceBound,go_sem,h1]
        | some p =>
          simp only [Option.getD_some] at hr; subst hr
          have hle:(r:Int)≤s.c:=by omega
          cases lo' with
          | none => simp only [Option.getD_none] at hl; have:l=0:=by omega
                    subst this; simp [Instr.sliceBounds,run_sliceBound,go_sem,hle,h2]
          | some q=>simp only [Option.getD_some] at hl; subst hl; simp [Instr.sliceBounds,run_sliceBound,go_sem,h1,h2]
      | some mm =>
        simp only [Option.getD_some] at hm; subst hm
        cases hi' with
        | none=>exact absurd (hmx rfl) (by simp)
        | some p =>
          simp only [Option.getD_some] at hr; subst hr
          cases lo' with
          | none => simp only [Option.getD_none] at hl; have:l=0:=by omega
                    subst this; simp [Instr.sliceBounds,run_sliceBound,go_sem,h2,h3]
          | some q=>simp only [Option.getD_some] at hl; subst hl; simp [Instr.sliceBounds,run_sliceBound,go_sem,h1,h2,h3]
    have hrun:(Instr.slice t s.val (lo'.map fun n=>Value.int .i64 n) (hi'.map fun n=>Value.int .i64 n) (mx'.map fun n=>Value.int .i64 n)).run P w = .ok (s.sub l r m).val w:=by
      unfold Sv.val
      rw [run_slice_any w t s.a s.l.length s.c hu' _ _ _,hb]
      simp only [Result.andThen_ok,hs,hfin]
      rfl
    simp only [execOp,g.ev e0,key _ _ e1,key _ _ e2,key _ _ e3,Sem.run_bind,run_sliceAt_slice w t _ _ _ _ hu',hrun,Result.andThen_ok,Sem.run_pure]
end
end Go.V
end

section
namespace Go.V
open Go.RowKit
class Fo (E A:Ow) (F:outParam Ow):Prop where
  out:nC E A F
instance (priority:=2000) Fo.here (A:Ow):Fo A A Ow.emp:=⟨nC.all⟩
instance (priority:=1900) Fo.emp (E:Ow):Fo E Ow.emp E:=⟨nC.none⟩
instance (priority:=1500) Fo.head (A B:Ow):Fo (Ow.star A B) A B:=⟨nC.head⟩
instance (priority:=1000) Fo.tail (A B C F:Ow) [i:Fo B A F]:Fo (Ow.star C B) A (Ow.star C F):=⟨nC.tail i.out⟩
section
variable {P:Program} {N:Nat} {c:Cx} {ops:Array Oper} {Q Q1:Exit→Act→World→Prop} {rest:List Oper} {o:Oper} {ρ ρ':Env} {M M' M1:Mo} {E E' E1 F A:Ow} {v u:Value} {X:Type}
  {d:Nat} {od:Option Nat} {ty:TypeId} {pos:String} {after:Array Edge} {gd:Option (Nat×Bool)} {x y:Operand} {t e T:TypeId} {α:Type} [bB α]
  {f:FuncId} {args:List Value} {val:X→Value} {φ:X→Prop} {M2:X→Mo} {E2:X→Ow} {xs:List Operand} {ts:Array TypeId}
theorem eT (h:Ct P f args M1 Ow.emp val φ M2 E2) (ha:ρ.lH xs=some args) [i:dM M M1] (hv : ∀ x,φ x→val x=v) :
    Qt P N c ⟨od,.call { callee := .value (.func f),args:=xs.toArray,argTypes:=ts },ty,pos,after,gd⟩ v ρ M E:=Qt.call h ha (fun a b _ m _=>M1.up (Hp.cU a b) (i.out a m)) hv
theorem VL.jF (h:Ct P f args M1 Ow.emp val φ M2 (fun _=>Ow.emp)) (ha:ρ.lH xs=some args) [i:dM M M1] (hd:d < N)
    (k : ∀ x,φ x→VL P N c ops Q rest ((d,val x)::ρ) ((M2 x).and M) E) :
    VL P N c ops Q (⟨some d,.call { callee := .value (.func f),args:=xs.toArray,argTypes:=ts },ty,pos,after,none⟩::rest) ρ M E :=
  VL.call h ha i.out nC.none hd fun x hx=>VL.drop nC.head (k x hx)
theorem VL.nW (h:Ct P f args M1 E1 val φ M2 E2) (ha:ρ.lH xs=some args) [i:dM M M1] [j:Fo E E1 F] (hd:d < N)
    (k : ∀ x,φ x→VL P N c ops Q rest ((d,val x)::ρ) ((M2 x).and M) (Ow.star (E2 x) F)) :
    VL P N c ops Q (⟨some d,.call { callee := .value (.func f),args:=xs.toArray,argTypes:=ts },ty,pos,after,none⟩::rest) ρ M E :=
  VL.call h ha i.out j.out hd k
theorem VL.shut (s:Sv α) (e:TypeId) [j:Fo E (s.own e) F] (hd : ∀ h,M.on h → ∀ z∈s.l,(bB.deep z).on h) (k:VL P N c ops Q rest ρ (s.ok.and M) F):VL P N c ops Q rest ρ M E :=
  VL.freeze j.out (fun a b dd m hA=>Sv.aD0 (e:=a.join b) (T:=e) (by
    obtain ⟨q1,q2,q3⟩:=hA
    refine ⟨q1,q2,q3.imp id fun ⟨g,cur,w1,w2,w3⟩=>⟨g,cur,w1,Hp.fS dd _ _ w2,w3⟩⟩) fun z hz=>(bB.deep z).up (Hp.cU a b) (hd a m z hz)) k
theorem VC.shut {k:Code} (s:Sv α) (e:TypeId) [j:Fo E (s.own e) F] (hd : ∀ h,M.on h → ∀ z∈s.l,(bB.deep z).on h) (g:VC P N c Q k ρ (s.ok.and M) F):VC P N c Q k ρ M E :=
  VC.freeze j.out (fun a b dd m hA=>Sv.aD0 (e:=a.join b) (T:=e) (by
    obtain ⟨q1,q2,q3⟩:=hA
    refine ⟨q1,q2,q3.imp id fun ⟨g,cur,w1,w2,w3⟩=>⟨g,cur,w1,Hp.fS dd _ _ w2,w3⟩⟩) fun z hz=>(bB.deep z).up (Hp.cU a b) (hd a m z hz)) g
theorem VL.DV (b:Nat) {cs:List Value} {T:TypeId} [j:oS E b cs T F] (k:VL P N c ops Q rest ρ ((Cells b 0 cs).and M) F):VL P N c ops Q rest ρ M E :=
  VL.freeze j.out (fun a q dd _ hA=>Hp.at.up (Hp.fS dd) (Hp.Y4 hA)) k
theorem VL.lU (s:Sv α) (e:TypeId) (h:s.c=0∧s.l=[]) (k:VL P N c ops Q rest ρ M (Ow.star (s.own e) E)):VL P N c ops Q rest ρ M E :=
  VL.mono (fun _ x=>x) (fun z hz=>⟨Hp.nil,z,fun _ => .inl rfl,rfl,⟨by rw [h.1,h.2]; exact Nat.le_refl _,by rw [h.1]; unfold maxLen; simp,.inl ⟨h.2,h.1⟩⟩,hz⟩) k
theorem VC.lU {k:Code} (s:Sv α) (e:TypeId) (h:s.c=0∧s.l=[]) (g:VC P N c Q k ρ M (Ow.star (s.own e) E)):VC P N c Q k ρ M E :=
  VC.mono (fun _ x=>x) (fun z hz=>⟨Hp.nil,z,fun _ => .inl rfl,rfl,⟨by rw [h.1,h.2]; exact Nat.le_refl _,by rw [h.1]; unfold maxLen; simp,.inl ⟨h.2,h.1⟩⟩,hz⟩) g
theorem VC.fact {φ:Prop} {k:Code} (h : ∀ h,M.on h→φ) (g:φ→VC P N c Q k ρ M E):VC P N c Q k ρ M E:=fun a w x y=>g (by
  obtain ⟨⟨hp,_,m,_⟩,_⟩:=y
  exact h hp m) a w x y
theorem VL.CC {φ:Prop} (h : ∀ h,M.on h→φ) (g:φ→VL P N c ops Q rest ρ M E):VL P N c ops Q rest ρ M E:=fun a w x y=>g (by
  obtain ⟨⟨hp,_,m,_⟩,_⟩:=y
  exact h hp m) a w x y
end
end Go.V
namespace Go.V
open Go.RowKit
section
variable {P:Program} {N:Nat} {c:Cx} {ops:Array Oper} {Q Q1:Exit→Act→World→Prop} {ρ:Env} {M:Mo} {E:Ow} {v:Value} {X:Type} {p:Code} {fn:Func} {val:X→Value} {φ:X→Prop} {M2:X→Mo} {E2:X→Ow}
theorem VC.a5i {S:Type} (φ:S→Prop) (ρ':S→Env) (E':S→Ow) (μ:S→Nat) (s0:S) (ks:List Nat) (h0:φ s0) (e:ρ.keep ks=ρ' s0) (hE : ∀ e,E e→E' s0 e)
    (round : ∀ s,φ s→VC P N c (Exit.then (Any (fun s'=>φ s'∧μ s' < μ s) P N c ρ' (fun _=>M) E') Q) p (ρ' s) M (E' s)):VC P N c Q (.loop p) ρ M E :=
  VC.loop φ ρ' (fun _=>M) E' μ s0 ks h0 e (fun _ x=>x) hE round
theorem VL.anyI {S:Type} {φ:S→Prop} {ρ':S→Env} {M':S→Mo} {E':S→Ow} (s:S) (ks:List Nat) (hq : ∀ a w,Any φ P N c ρ' M' E' a w→Q .normal a w) (hφ:φ s) (e:ρ.keep ks=ρ' s) [i:dM M (M' s)] (hE : ∀ e,E e→E' s e):VL P N c ops Q [] ρ M E:=VL.any s ks hq hφ e i.out hE
theorem VD.anyI {S:Type} {D:List (Nat×Value)} {φ:S→Prop} {ρ':S→Env} {M':S→Mo} {E':S→Ow} (s:S) (ks:List Nat) (hq : ∀ a w,Any φ P N c ρ' M' E' a w→Q .normal a w) (hφ:φ s) (e:ρ.keep ks=ρ' s) [i:dM M (M' s)] (hE : ∀ e,E e→E' s e):VD P N c ops Q [] D ρ M E:=VD.any s ks hq hφ e i.out hE
theorem VC.aMc {S:Type} {φ:S→Prop} {ρ':S→Env} {M':S→Mo} {E':S→Ow} (s:S) (ks:List Nat) (hq : ∀ a w,Any φ P N c ρ' M' E' a w→Q .normal a w) (hφ:φ s) (e:ρ.keep ks=ρ' s) [i:dM M (M' s)] (hE : ∀ e,E e→E' s e):VC P N c Q .skip ρ M E:=VC.aGp s ks hq hφ e i.out hE
theorem aME {t:Nat} {y:Exit} (hy:y = .normal∨y = .ret) (hres:fn.results = #[.tmp t]) (ht:ρ.get t=some v) (x:X) (hv:v=val x) (hφ:φ x) [i:dM M (M2 x)] (h2 : ∀ e,E e→E2 x e) :
    ∀ a w,rW N ρ a→St c M E w→bodyPost P fn (fun en w' => ∃ r,en = .returned r∧Post val φ M2 E2 c r w') y a w:=GI hy hres ht x hv hφ i.out h2
theorem aMF {t u:Nat} {v':Value} {y:Exit} (hy:y = .normal∨y = .ret) (hres:fn.results = #[.tmp t,.tmp u]) (ht:ρ.get t=some v) (hu:ρ.get u=some v') (x:X) (hv : .tuple #[v,v']=val x) (hφ:φ x) [i:dM M (M2 x)] (h2 : ∀ e,E e→E2 x e) :
    ∀ a w,rW N ρ a→St c M E w→bodyPost P fn (fun en w' => ∃ r,en = .returned r∧Post val φ M2 E2 c r w') y a w:=aUS hy hres ht hu x hv hφ i.out h2
theorem aMD {y:Exit} (hy:y = .normal∨y = .ret) (hres:fn.results = #[]) (x:X) (hv : .tuple #[]=val x) (hφ:φ x) [i:dM M (M2 x)] (h2 : ∀ e,E e→E2 x e) :
    ∀ a w,rW N ρ a→St c M E w→bodyPost P fn (fun en w' => ∃ r,en = .returned r∧Post val φ M2 E2 c r w') y a w:=rL hy hres x hv hφ i.out h2
theorem bK {P:Program} {s:TypeId} {i n:Nat} {fs:Array Field} {f:Field} (ht:P.underlying s=some (.struct fs)) (hf:fs[i]? = some f) (hz:(P.info? f.type).map (·.size)=some (n+1)):cC P s i f.offset:=by
 cases hi:P.info? f.type with
 | none=>rw [hi] at hz; cases hz
 | some j =>
   rw [hi] at hz
   exact aJ2 ht hf hi (by have:j.size=n+1:=by simpa using hz
                          omega)
end
end Go.V
end

section
namespace Go.V
open Go.RowKit
section
variable {P:Program} {N:Nat} {c:Cx} {ops:Array Oper} {Q Q1:Exit→Act→World→Prop} {rest:List Oper} {o:Oper} {ρ ρ':Env} {M M' M1:Mo} {E E' E1 F A:Ow} {v u:Value} {X:Type}
  {d:Nat} {od:Option Nat} {ty:TypeId} {pos:String} {after:Array Edge} {gd:Option (Nat×Bool)} {x y:Operand} {t t' e T:TypeId} {α:Type} [bB α] {f:FuncId} {args:List Value}
theorem Ct.aHu {v:Value} (he : ∀ (xs:Array Value) (w:World),(callFunc f xs).run P w = .ok (.enter f xs) w) (h : ∀ (w:World) (h:Hp),M.on h→h.le (wh w)→Calls P f args.toArray w fun e w'=>e = .returned v∧Gr w w'):Ct P f args M Ow.emp (X:=Unit) (fun _=>v) (fun _=>True) (fun _=>Mo.tt) (fun _=>Ow.emp) :=
  ⟨he,fun w hp z m _ _ l k=>(h w hp m l).mono fun e w' ⟨h1,g⟩=>⟨v,h1,(),rfl,trivial,⟨⟨hp,Hp.nil,trivial,trivial,Hp.EA _,l.trans g.le,(fun b p q=>by cases q),Hp.le.refl hp,(fun b q => .inl q),(fun b q=>absurd rfl q)⟩,fun b hb _=>g.block b hb,g.os,g.tape,g.output,g.size⟩⟩⟩
theorem Gr.aB8 {w w':World} (h:Below w.heap.size w w'):Gr w w':=⟨h.os,h.tape,h.output,h.size,h.block⟩
theorem Ct.weak {X:Type} {M M':Mo} {E:Ow} {val:X→Value} {φ φ':X→Prop} {M2:X→Mo} {E2:X→Ow} (h:Ct P f args M E val φ M2 E2) (hM : ∀ h,M'.on h→M.on h) (hφ : ∀ x,φ x→φ' x):Ct P f args M' E val φ' M2 E2 :=
  ⟨h.entry,fun w hp e m ee d l k=>(h.calls w hp e (hM _ m) ee d l k).mono fun en w' ⟨r,h1,x,h2,h3,h4⟩=>⟨r,h1,x,h2,hφ x h3,h4⟩⟩
theorem aD3 {k1 k2:IntKind} {n:Int} (h1:P.underlying t=some (.int k1)) (h2:P.underlying t'=some (.int k2)) (e1:ρ.ev x=some (.int k1 n)) (hw:k2.wrap n=n):Qt P N c ⟨od,.convert t t' x,ty,pos,after,gd⟩ (.int k2 n) ρ M E:=Qt.of_run fun a w g _=>by
  simp only [execOp,g.ev e1]
  simp [convert,run_underlying h1,run_underlying h2,Conv.intToInt,hw,go_sem]
theorem aWk {m n:Int} {xs:List Operand} {ts:Array TypeId} (h:ρ.lH xs=some [i64 m,i64 n]):Qt P N c ⟨od,.call { callee := .builtin .max,args:=xs.toArray,argTypes:=ts },ty,pos,after,gd⟩ (i64 (max m n)) ρ M E:=Qt.of_run fun a w g _=>by
  simp only [execOp,resolve,List.map_toArray,g.lH h]
  have hr:(Builtin.max_ ts ty #[i64 m,i64 n]).run P w = .ok (i64 (max m n)) w:=by
    simp [Builtin.max_,Builtin.max2,go_sem]
    rw [Int.max_def]
    split <;> split <;> first | rfl | omega
  simp only [Sem.run_bind,Sem.run_pure,Result.andThen_ok,invoke,builtin,hr]
theorem lC {s:Sv α} {k:IntKind} {i:Int} (ht:P.underlying t=some (.slice e)) (hi:(P.info? e).map (·.size)=some (bB.sz α)) (e1:ρ.ev x=some s.val) (e2:ρ.ev y=some (.int k i)) [hs:Fo E (s.own e) F] (h0:0≤i) (h1:i < s.l.length) :
    Qt P N c ⟨od,.indexAddr t x y,ty,pos,after,gd⟩ (ptr s.b (s.o+i.toNat*bB.sz α)) ρ M E:=Qt.of_run fun a w g st=>by
  obtain ⟨⟨hp,ee,m,eE,dd,l,kk,_⟩,_⟩:=st
  obtain ⟨z,y',_,_,hz,_⟩:=hs.out ee eE
  have hv:s.val = .slice (some ⟨s.b,s.o,none⟩) s.l.length s.c:=by
    obtain ⟨_,_,⟨hl,_⟩ | ⟨g',cur,ha,_⟩⟩:=hz
    . rw [hl] at h1; simp at h1; omega
    . simp [Sv.val,Sv.b,Sv.o,ha]
  rw [hv] at e1
  cases hj:P.info? e with
  | none=>rw [hj] at hi; cases hi
  | some j =>
    rw [hj] at hi
    have hz:j.size=bB.sz α:=by simpa using hi
    simp only [execOp,g.ev e1,g.ev e2]
    simp [Instr.indexAt,asIntOf,go_sem,run_underlying ht,h0,h1,sizeOf,typeInfo,hj,nM,hz]
theorem RdO {s:Sv α} {e:TypeId} [hs:Fo E (s.own e) F] {i:Nat} {z:α} (hz:s.l[i]? = some z):Rd M E s.b (s.o+i*bB.sz α) (bB.enc z):=Rd.aHv fun q hq=>by
  obtain ⟨p,r,dd,j,hp,_⟩:=hs.out q hq
  subst j
  exact (Sv.JS hp hz).up (Hp.cU p r)
theorem GS {s:Sv α} {i:Nat} {z:α} (e:TypeId) (h1:OneCell P t) (e1:ρ.ev x=some (ptr s.b (s.o+i*bB.sz α))) [hs:Fo E (s.own e) F] (hz:s.l[i]? = some z) (hv:bB.enc z=[v]):Qt P N c ⟨od,.load t x,ty,pos,after,gd⟩ v ρ M E :=
  V1 h1 e1 (by rw [← hv]; exact RdO (e:=e) hz)
end
end Go.V
end

section
namespace Go.V
open Go.RowKit
section
variable {P:Program} {N:Nat} {c:Cx} {ops:Array Oper} {Q Q1:Exit→Act→World→Prop} {rest:List Oper} {o:Oper} {ρ ρ':Env} {M M' M1:Mo} {E E' E1 F A:Ow} {v u:Value} {X:Type}
  {d:Nat} {od:Option Nat} {ty:TypeId} {pos:String} {after:Array Edge} {gd:Option (Nat×Bool)} {x y:Operand} {t t' e T:TypeId} {α:Type} [bB α] {f:FuncId} {args:List Value} {p q:Code}
theorem VC.aLq {φ:Prop} [Decidable φ] (e:ρ.ev x=some (.bool (!decide φ))) (h1 : ¬ φ→VC P N c Q p ρ M E) (h2:φ→VC P N c Q q ρ M E):VC P N c Q (.cond x p q) ρ M E :=
  VC.cond e (fun h=>h1 (by simpa using h)) (fun h=>h2 (by simpa using h))
theorem VL.aLS (t:Nat) {φ:Prop} [Decidable φ] (h:ρ.get t=some (.bool (!decide φ))) (h1 : ¬ φ→VL P N c ops Q rest ((t,.bool true)::ρ) M E) (h2:φ→VL P N c ops Q rest ((t,.bool false)::ρ) M E):VL P N c ops Q rest ρ M E :=
  VL.split t h (fun e=>h1 (by simpa using e)) (fun e=>h2 (by simpa using e))
theorem VD.split (t:Nat) {r:List (Nat×Bool)} {D:List (Nat×Value)} {b:Bool} (h:ρ.get t=some (.bool b)) (h1:b=true→VD P N c ops Q r D ((t,.bool true)::ρ) M E) (h2:b=false→VD P N c ops Q r D ((t,.bool false)::ρ) M E):VD P N c ops Q r D ρ M E:=by
 have hb : ∀ b',(b=b')=(decide (b=true)=b'):=fun b'=>by cases b <;> cases b' <;> simp
 refine VD.wO t (φ:=b=true) (by rw [h]; cases b <;> rfl) h1 (fun hn=>h2 (by simpa using hn))
theorem aEI {s:Sv α} (lo' hi' mx':Option Int) (l r:Nat) (hl:lo'.getD 0=(l:Int)) (hr:hi'.getD s.l.length=(r:Int)) (hm:mx'=none∨mx'=some (r:Int)) (h4:r≤s.l.length) (hc:s.l.length≤s.c) :
 ∃ m:Nat,mx'.getD s.c=(m:Int)∧r≤m∧m≤s.c:=by
 rcases hm with rfl | rfl
 ·
  exact ⟨s.c,rfl,by omega,Nat.le_refl _⟩
 exact ⟨r,rfl,Nat.le_refl _,by omega⟩
theorem VL.part {s:Sv α} {lo hi mx:Option Operand} {lo' hi' mx':Option Int} (l r:Nat) (hu:P.underlying t=some (.slice e)) (hz:(P.info? e).map (·.size)=some (bB.sz α)) (e0:ρ.ev x=some s.val)
    (e1:o6 ρ lo=some lo') (e2:o6 ρ hi=some hi') (e3:o6 ρ mx=some mx') [hs:dM M s.ok] (hl:lo'.getD 0=(l:Int)) (hr:hi'.getD s.l.length=(r:Int)) (hm:mx'=none∨mx'=some (r:Int)) (hmx:mx'.isSome=true→hi'.isSome=true) (h1:l≤r) (h4:r≤s.l.length) (hd:d < N)
    (k : ∀ q:Sv α,q.l=(s.l.drop l).take (r - l)→VL P N c ops Q rest ((d,q.val)::ρ) (q.ok.and M) E):VL P N c ops Q (⟨some d,.slice t x lo hi mx,ty,pos,after,none⟩::rest) ρ M E :=
  VL.CC (φ:=s.l.length≤s.c) (fun h m=>(hs.out h m).1) fun hc=>by
    obtain ⟨m,m1,m2,m3⟩:=aEI lo' hi' mx' l r hl hr hm h4 hc
    exact VL.q (KD l r m hu hz e0 e1 e2 e3 hl hr m1 hmx h1 m2 m3 h4) hd (VL.LK (s.sub l r m).ok (fun h q=>Sv.aIB h1 h4 m2 m3 (hs.out h q)) (k _ rfl))
theorem VD.CC {r:List (Nat×Bool)} {D:List (Nat×Value)} {φ:Prop} (h : ∀ h,M.on h→φ) (g:φ→VD P N c ops Q r D ρ M E):VD P N c ops Q r D ρ M E:=fun a w x y=>g (by
  obtain ⟨⟨hp,_,m,_⟩,_⟩:=y
  exact h hp m) a w x y
theorem VD.part {k:Nat} {rr:List (Nat×Bool)} {D:List (Nat×Value)} {s:Sv α} {lo hi mx:Option Operand} {lo' hi' mx':Option Int} (hk:ops[k]? = some ⟨some d,.slice t x lo hi mx,ty,pos,after,none⟩) (l r:Nat) (hu:P.underlying t=some (.slice e)) (hz:(P.info? e).map (·.size)=some (bB.sz α)) (e0:ρ.ev x=some s.val)
    (e1:o6 ρ lo=some lo') (e2:o6 ρ hi=some hi') (e3:o6 ρ mx=some mx') [hs:dM M s.ok] (hl:lo'.getD 0=(l:Int)) (hr:hi'.getD s.l.length=(r:Int)) (hm:mx'=none∨mx'=some (r:Int)) (hmx:mx'.isSome=true→hi'.isSome=true) (h1:l≤r) (h4:r≤s.l.length) (hd:d < N)
    (kk : ∀ (q:Sv α) (u:Value),q.l=(s.l.drop l).take (r - l)→VD P N c ops Q rr (D3 ops k u D) ((d,q.val)::ρ) (q.ok.and M) E):VD P N c ops Q ((k,true)::rr) D ρ M E :=
  VD.CC (φ:=s.l.length≤s.c) (fun h m=>(hs.out h m).1) fun hc=>by
    obtain ⟨m,m1,m2,m3⟩:=aEI lo' hi' mx' l r hl hr hm h4 hc
    exact VD.q hk (KD l r m hu hz e0 e1 e2 e3 hl hr m1 hmx h1 m2 m3 h4) hd (VD.LK (s.sub l r m).ok (fun h q=>Sv.aIB h1 h4 m2 m3 (hs.out h q)) (kk _ _ rfl))
theorem aRC (op:BinOp) (a b:Option Addr) (l1 l2 c1 c2:Nat) (w:World):(eqGuard op t x y (.slice a l1 c1) (.slice b l2 c2)).run P w = .ok () w:=by
 unfold eqGuard
 cases op <;> simp [go_sem] <;> rfl
theorem J1 {s:Sv α} (hu:P.underlying t=some (.slice e)) (e0:ρ.ev x=some s.val):Qt P N c ⟨od,.binOp .eql t x (.const (.slice none 0 0)) t',ty,pos,after,gd⟩ (.bool s.a.isNone) ρ M E:=pY e0 rfl (fun w=>by unfold Sv.val; exact aRC _ _ _ _ _ _ _ w) fun w=>by
  unfold Sv.val
  exact Lib.run_eql_slice_nil w t e s.a s.l.length s.c 0 0 hu
theorem VL.aCq (hu:P.underlying t=some (.slice e)) (hi:((P.info? e).map (·.size)).isSome=true) (hd:d < N)
 (k : ∀ s:Sv α,s.l=[]→s.c=0→VL P N c ops Q rest ((d,s.val)::ρ) M E):VL P N c ops Q (⟨some d,.buildSlice t 0 #[],ty,pos,after,none⟩::rest) ρ M E:=by
 cases hj:P.info? e with
 | none=>rw [hj] at hi; cases hi
 | some i =>
   refine VL.aKR (S:=Sv α) (val:=Sv.val) (φ:=fun s=>s.l=[]∧s.c=0) (M2:=fun _=>Mo.tt) (fun a w h g _ _ => ?_) hd fun s hs=>VL.strip (k s hs.1 hs.2)
   refine ⟨⟨some ⟨w.heap.size,0,none⟩,0,[]⟩,w.alloc (.cells #[] e),.cells #[] e,?_,⟨rfl,rfl⟩,Gr.alloc w _,heap_alloc_new w _,trivial⟩
   have hr:(Instr.buildSlice t 0 #[]).run P w = .ok (.slice (some ⟨w.heap.size,0,none⟩) 0 0) (w.alloc (.cells #[] e)):=by
     simp [Instr.buildSlice,run_underlying hu,sizeOf,typeInfo,hj,newRow,Instr.fill,Array.range_zero']
   simp only [execOp,List.map_toArray,List.map_nil,Sem.run_bind,hr,Result.andThen_ok,Sem.run_pure,Sv.val,List.length_nil]
end
end Go.V
end

section
namespace Go.V
open Go.RowKit
section
variable {P:Program} {N:Nat} {c:Cx} {ops:Array Oper} {Q Q1:Exit→Act→World→Prop} {rest:List Oper} {o:Oper} {ρ ρ':Env} {M M' M1:Mo} {E E' E1 F A:Ow} {v u:Value} {X:Type}
  {d:Nat} {od:Option Nat} {ty:TypeId} {pos:String} {after:Array Edge} {gd:Option (Nat×Bool)} {x y:Operand} {t t' e T:TypeId} {α:Type} [bB α] {f:FuncId} {args:List Value} {p q:Code}
  {R:List (Nat×Value)→Act→World→Prop} {D:List (Nat×Value)} {r:List (Nat×Bool)} {k:Nat} {op:Op}
theorem VC.len {k:Code} (s:Sv α) [hs:dM M s.ok] (g:s.l.length≤9223372036854775807→VC P N c Q k ρ M E):VC P N c Q k ρ M E :=
  VC.fact (fun h m=>by have:=hs.out h m; exact Nat.le_trans this.1 this.2.1) g
theorem VL.len (s:Sv α) [hs:dM M s.ok] (g:s.l.length≤9223372036854775807→VL P N c ops Q rest ρ M E):VL P N c ops Q rest ρ M E :=
  VL.CC (fun h m=>by have:=hs.out h m; exact Nat.le_trans this.1 this.2.1) g
def bR (P:Program) (N:Nat) (c:Cx) (ops:Array Oper) (D:List (Nat×Value)) (ρ:Env) (M:Mo) (E:Ow):Prop := ∀ a w,rW N ρ a→St c M E w → ∀ p∈D,YI P ops p a w
theorem bR.nil:bR P N c ops [] ρ M E:=fun _ _ _ _ _ h=>by cases h
theorem bR.cons (hk:ops[k]? = some ⟨od,op,ty,pos,after,none⟩) (h:Qt P N c ⟨od,op,ty,pos,after,none⟩ v ρ M E) (n:bR P N c ops D ρ M E):bR P N c ops ((k,v)::D) ρ M E:=fun a w x y p hp=>by
  rcases List.mem_cons.1 hp with rfl | hp
  . intro o ho
    have ho':ops[k]? = some o:=ho
    rw [hk] at ho'
    cases ho'
    exact .inl ⟨rfl,fun w1 g=>h a w1 x (y.grow g)⟩
  . exact n a w x y p hp
abbrev toR (P:Program) (N:Nat) (c:Cx) (ops:Array Oper) (K:Act→World→Prop):Exit→Act→World→Prop:=fun e a w=>e = .normal∧K a w
theorem aEU {K:Act→World→Prop} {a:Act} {w:World} (hk:ops[k]? = some ⟨od,op,ty,pos,after,none⟩) (h:wpList P ops (fun e a w=>e = .normal∧K a w) [⟨od,op,ty,pos,after,none⟩] a w):HR P ops k K a w:=by
 unfold HR
 simp only [hk]
 unfold wpList at h
 have hw:Region.wanted (⟨od,op,ty,pos,after,none⟩:Oper) (yielded ops a.tmps)=true:=rfl
 rw [if_pos hw] at h
 rw [if_pos hw]
 rcases h with h | ⟨_,a',w',h,_⟩
 ·
  unfold Oper.wp at h
  generalize (execOp a.eval ⟨od,op,ty,pos,after,none⟩).run P w=rr at *
  cases rr with
  | ok n w' =>
    cases n <;> simp only [Oper.upon,GL] at h ⊢
    case value u=>exact h.2
    case skip=>exact h.2
    case defer dd=>exact h.2
    case enter f args =>
      refine h.mono fun e w'' he => ?_
      cases e with
      | returned v=>exact ⟨v,rfl,he.2⟩
      | panicked ch=>cases he.1
      | outgrown=>obtain ⟨_,_,h,_⟩:=he; cases h
    case row row args=>exact Rows.mono h fun v w'' he=>he.2
  | halt x w' =>
    cases x <;> simp only [Oper.upon] at h
    case panic=>cases h.1
 cases h
theorem VD.one (hk:ops[k]? = some ⟨od,op,ty,pos,after,none⟩) (h:VL P N c ops (toR P N c ops fun a w=>(∀ p∈gM ops k D,YI P ops p a w)∧wpD P ops R r (gM ops k D) a w) [⟨od,op,ty,pos,after,none⟩] ρ M E):HA P N c ops R ((k,false)::r) D ρ M E:=fun a w x y =>
  ⟨_,hk,fun w1 g=>aEU hk (h a w1 x (y.grow g))⟩
theorem VL.back {D':List (Nat×Value)} (hD:gM ops k D=D') (hp:bR P N c ops D' ρ M E) (h:HA P N c ops R r D' ρ M E):VL P N c ops (toR P N c ops fun a w=>(∀ p∈gM ops k D,YI P ops p a w)∧wpD P ops R r (gM ops k D) a w) [] ρ M E:=by
 subst hD
 exact VL.nil fun a w x y=>⟨rfl,hp a w x y,h a w x y⟩
def VG (P:Program) (N:Nat) (c:Cx) (ops:Array Oper) (Q:Exit→Act→World→Prop) (f:Nat) (D:List (Nat×Value)) (listed:Array Bool) (ρ:Env) (M:Mo) (E:Ow):Prop := ∀ a w,rW N ρ a→St c M E w→(∀ p∈D,YI P ops p a w)→IG P ops Q f D listed a w
def pX (P:Program) (N:Nat) (c:Cx) (ops:Array Oper) (Q:Exit→Act→World→Prop) (f:Nat) (D:List (Nat×Value)) (listed:Array Bool) (ρ:Env) (M:Mo) (E:Ow) (i:Nat):Prop :=
  ∀ a w,rW N ρ a→St c M E w→HR P ops i (fun a' w'=>(∀ p∈gM ops i D,YI P ops p a' w')∧IG P ops Q f (gM ops i D) (listed.setIfInBounds i true) a' w') a w
theorem VG.fork {l:List Nat} {n:Nat} {listed:Array Bool} (hr:Region.ready .any ops listed=l) (hl:l.isEmpty=false) (h : ∀ i∈l,pX P N c ops Q n D listed ρ M E i):VG P N c ops Q (n+1) D listed ρ M E:=fun a w x y _ w1 g =>
  ⟨fun e=>(by rw [hr] at e; rw [e] at hl; cases hl),fun i hi=>h i (by rw [← hr]; exact hi) a w1 x (y.grow g)⟩
theorem pX.of {n:Nat} {listed:Array Bool} (hk:ops[k]? = some ⟨od,op,ty,pos,after,none⟩) (h:VL P N c ops (toR P N c ops fun a w=>(∀ p∈gM ops k D,YI P ops p a w)∧IG P ops Q n (gM ops k D) (listed.setIfInBounds k true) a w) [⟨od,op,ty,pos,after,none⟩] ρ M E):pX P N c ops Q n D listed ρ M E k:=fun a w x y =>
  aEU hk (h a w x y)
theorem VG.ord {listed:Array Bool} (ord:List (Nat×Bool)) (hs:Region.noSelect ops=true) (hc:wQ ops listed) (hB:(okD ops ord (D.map (·.1)) listed&&(Region.ready .any ops (marked ord listed)).isEmpty)=true) (h:VD P N c ops Q ord D ρ M E):VG P N c ops Q ord.length D listed ρ M E:=fun a w x y hY=>by
  simp only [Bool.and_eq_true,List.isEmpty_iff] at hB
  have:=F7 (Q:=Q) (R:=toQ Q) hs 0 ord D listed a w hB.1 hc hY (fun D a w _ _ h=>⟨hB.2,h⟩) (h a w x y)
  simpa using this
theorem VC.GA {id n:Nat} {listed:Array Bool} (ord:List (Nat×Bool)) (hm:P.follows .mixedOrders=true) (hs:Region.noSelect ops=true) (hn:ord.length+n=ops.size) (hB:okD ops ord [] (Array.replicate ops.size false)=true) (hL:marked ord (Array.replicate ops.size false)=listed)
    (h:HA P N c ops (fun D a w=>wQ ops listed→(∀ p∈D,YI P ops p a w)→IG P ops Q n D listed a w) ord [] ρ M E):VC P N c Q (.region id ops true) ρ M E:=fun a _ x y=>by
  subst hL
  exact U3 n ord hm hs hn hB (fun D a w hc hY h=>h hc hY) fun w1 g=>h a w1 x (y.grow g)
theorem VD.SY {n:Nat} {listed:Array Bool} (h:wQ ops listed→VG P N c ops Q n D listed ρ M E):HA P N c ops (fun D a w=>wQ ops listed→(∀ p∈D,YI P ops p a w)→IG P ops Q n D listed a w) [] D ρ M E:=fun a w x y hc hY=>h hc a w x y hY
theorem VG.first {n:Nat} {listed:Array Bool} (ord:List (Nat×Bool)) (hs:Region.noSelect ops=true) (hc:wQ ops listed) (hB:okD ops ord (D.map (·.1)) listed=true) {listed':Array Bool} (hL:marked ord listed=listed') (h:HA P N c ops (fun D a w=>wQ ops listed'→(∀ p∈D,YI P ops p a w)→IG P ops Q n D listed' a w) ord D ρ M E):VG P N c ops Q (ord.length+n) D listed ρ M E:=fun a w x y hY=>by
  subst hL
  exact F7 (Q:=Q) hs n ord D listed a w hB hc hY (fun D a w hc hY h=>h hc hY) (h a w x y)
end
end Go.V
end

section
namespace Go.V
open Go.RowKit
theorem ZM {α:Type} {sz:Nat} {enc:α→List Value} (hl : ∀ x,(enc x).length=sz) : ∀ (l:List α) (i j:Nat) (z z':α) (vc:List Value),l[i]? = some z→j+vc.length≤sz→(enc z).take j++vc++(enc z).drop (j+vc.length)=enc z' →
    (l.flatMap enc).take (i*sz+j)++vc++(l.flatMap enc).drop (i*sz+j+vc.length)=(l.set i z').flatMap enc
  | [],_,_,_,_,_,h,_,_=>by simp at h
  | y::r,0,j,z,z',vc,h,hj,e=>by
    simp at h; subst h
    have hy:=hl y
    simp only [List.flatMap_cons,List.set_cons_zero,Nat.zero_mul,Nat.zero_add,← e]
    rw [List.take_append_of_le_length (by omega),List.drop_append_of_le_length (by omega)]
    simp [List.append_assoc]
  | y::r,i+1,j,z,z',vc,h,hj,e=>by
    simp only [List.getElem?_cons_succ] at h
    have ih:=ZM hl r i j z z' vc h hj e
    have hy:=hl y
    simp only [List.flatMap_cons,List.set_cons_succ,← ih]
    rw [show (i+1)*sz+j=(enc y).length+(i*sz+j) by rw [hy,Nat.add_mul]; omega,List.take_length_add_append,Nat.add_assoc,List.drop_length_add_append]
    simp [List.append_assoc]
theorem aGs {β:Type} (l vc:List β) (k n:Nat) (h:k+vc.length≤n) (hn:n≤l.length):(l.take k++vc++l.drop (k+vc.length)).take n=(l.take n).take k++vc++(l.take n).drop (k+vc.length):=by
 apply List.ext_getElem?
 intro i
 simp only [List.getElem?_take,List.getElem?_append,List.getElem?_drop,List.length_append,List.length_take]
 repeat' split
 all_goals first | rfl | omega | (congr 1; omega) | skip
class S3 (M:Mo) (E:Ow) (X:Mo):Prop where
  out : ∀ h e,h.off e→M.on h→E e→X.on (h.join e)
instance (priority:=500) S3.mo (M:Mo) (E:Ow) (X:Mo) [i:dM M X]:S3 M E X:=⟨fun h e _ m _=>X.up (Hp.cU h e) (i.out h m)⟩
instance (priority:=2000) S3.both (M:Mo) (E:Ow) (X Y:Mo) [x:S3 M E X] [y:S3 M E Y]:S3 M E (X.and Y):=⟨fun h e d m q=>⟨x.out h e d m q,y.out h e d m q⟩⟩
theorem S3.cells {M:Mo} {E:Ow} {b:Nat} {cs:List Value} {T:TypeId} [i:BR E b cs T]:S3 M E (Cells b 0 cs):=⟨fun _ _ d _ q=>Hp.at.up (Hp.fS d) (Hp.Y4 (i.out _ q))⟩
instance (priority:=1000) S3.cells' (M:Mo) (E:Ow) (b:Nat) (cs:List Value) (T:TypeId) [i:BR E b cs T]:S3 M E (Cells b 0 cs):=S3.cells
class Flat (α:Type) [bB α]:Prop where
  out : ∀ x:α,bB.deep x=Mo.tt
instance:Flat bI:=⟨fun _=>rfl⟩
instance:Flat Int:=⟨fun _=>rfl⟩
instance:Flat Bool:=⟨fun _=>rfl⟩
class fL (E E':Ow):Prop where
  out : ∀ e,E e→E' e
instance (priority:=2000) fL.refl (E:Ow):fL E E:=⟨fun _ x=>x⟩
instance (priority:=1900) fL.emp (E:Ow):fL E Ow.emp:=⟨fun _ _=>trivial⟩
instance (priority:=1000) fL.star (E A F B:Ow) [i:Fo E A F] [j:fL F B]:fL E (Ow.star A B):=⟨fun e h=>by
  obtain ⟨x,y,d,q,hx,hy⟩:=i.out e h
  exact ⟨x,y,d,q,hx,j.out y hy⟩⟩
section
variable {P:Program} {N:Nat} {c:Cx} {ops:Array Oper} {Q Q1:Exit→Act→World→Prop} {rest:List Oper} {o:Oper} {ρ ρ':Env} {M M' M1:Mo} {E E' E1 F A:Ow} {v u:Value} {X:Type}
  {d:Nat} {od:Option Nat} {ty:TypeId} {pos:String} {after:Array Edge} {gd:Option (Nat×Bool)} {x y:Operand} {t t' e T:TypeId} {α:Type} [bB α] {f:FuncId} {args:List Value} {p q:Code}
theorem Sv.aO3 {s:Sv α} {T:TypeId} {x y:Hp} (l:x.le y) (h:s.own T x):s.own T y:=by
 obtain ⟨q1,q2,q3⟩:=h
 exact ⟨q1,q2,q3.imp id fun ⟨g,cur,w1,w2,w3⟩=>⟨g,cur,w1,l _ _ w2,w3⟩⟩
class KP (E:Ow) (s:Sv α) (T:outParam TypeId):Prop where
  out : ∀ e,E e→s.own T e
instance (priority:=2000) KP.here (s:Sv α) (T:TypeId):KP (s.own T) s T:=⟨fun _ h=>h⟩
instance (priority:=1500) KP.left (A B:Ow) (s:Sv α) (T:TypeId) [i:KP A s T]:KP (Ow.star A B) s T:=⟨fun e ⟨x,y,_,j,hx,_⟩=>by subst j; exact Sv.aO3 (Hp.cU x y) (i.out x hx)⟩
instance (priority:=1000) KP.right (A B:Ow) (s:Sv α) (T:TypeId) [i:KP B s T]:KP (Ow.star A B) s T:=⟨fun e ⟨x,y,d,j,_,hy⟩=>by subst j; exact Sv.aO3 (Hp.fS d) (i.out y hy)⟩
instance (priority:=900) S3.own (M:Mo) (E:Ow) (s:Sv α) (T:TypeId) [i:KP E s T] [fl:Flat α]:S3 M E s.ok:=⟨fun h e d _ q=>s.ok.up (Hp.fS d) (Sv.aD0 (i.out e q) fun z _=>by rw [fl.out z]; exact trivial)⟩
instance (priority:=800) fL.ownS (E:Ow) (s:Sv α) (T:TypeId) [i:KP E s T]:fL E (s.own T):=⟨i.out⟩
instance (priority:=800) fL.blkS (E:Ow) (b:Nat) (cs:List Value) (T:TypeId) [i:BR E b cs T]:fL E (bM b cs T):=⟨i.out⟩
theorem lW {φ:X→Prop} {val:X→Value} {M2:X→Mo} {E2:X→Ow} {xs:List Operand} {ts:Array TypeId} (h:Ct P f args M1 Ow.emp val φ M2 E2) (ha:ρ.lH xs=some args) [i:S3 M E M1] (hv : ∀ x,φ x→val x=v) :
    Qt P N c ⟨od,.call { callee := .value (.func f),args:=xs.toArray,argTypes:=ts },ty,pos,after,gd⟩ v ρ M E:=Qt.call h ha i.out hv
theorem V0 {s:Sv α} {i n:Nat} {z:α} (h1:rO P t n) (hn:bB.sz α=n) (e1:ρ.ev x=some (ptr s.b (s.o+i*bB.sz α))) [hs:KP E s e] (hz:s.l[i]? = some z):Qt P N c ⟨od,.load t x,ty,pos,after,gd⟩ (.agg (bB.enc z).toArray) ρ M E :=
  UJ h1 (by rw [bB.len,hn]) e1 (Rd.aHv fun q hq=>Sv.JS (hs.out q hq) hz)
theorem yQ {s:Sv α} {i j:Nat} {z:α} (h1:OneCell P t) (e1:ρ.ev x=some (ptr s.b (s.o+i*bB.sz α+j))) [hs:KP E s e] (hz:s.l[i]? = some z) (hv:(bB.enc z)[j]? = some v):Qt P N c ⟨od,.load t x,ty,pos,after,gd⟩ v ρ M E :=
  V1 h1 e1 ((Rd.aHv fun q hq=>Sv.JS (hs.out q hq) hz).drop hv)
theorem VL.nD {s:Sv α} {i j n:Nat} {z:α} {vc:List Value} (z':α) (hpos:0 < bB.sz α) (e1:ρ.ev x=some (ptr s.b (s.o+i*bB.sz α+j))) (e2:ρ.ev y=some v) [hE:Fo E (s.own T) F] (hz:s.l[i]? = some z) (hv:v.cells=vc.toArray) (hs:(P.info? t).map (·.size)=some n) (hn:vc.length=n) (h1:vc.all (·.oneCell')=true) (hl:j+vc.length≤bB.sz α) (hc:(bB.enc z).take j++vc++(bB.enc z).drop (j+vc.length)=bB.enc z')
    (k : ∀ s':Sv α,s'.l=s.l.set i z'→s'.a=s.a→s'.c=s.c→s'.val=s.val→s'.b=s.b→s'.o=s.o→VL P N c ops Q rest ρ M (Ow.star (s'.own T) F)):VL P N c ops Q (⟨none,.store t x y,ty,pos,after,none⟩::rest) ρ M E :=
  VL.aT1 (A2:=(⟨s.a,s.c,s.l.set i z'⟩:Sv α).own T) hE.out (fun a w h zz g hoff m hA l kk=>by
    have hi:i < s.l.length:=(List.getElem?_eq_some_iff.1 hz).1
    obtain ⟨hlc,hcm,⟨hl0,_⟩ | ⟨b,cur,ha,hg,hcs,ht⟩⟩:=hA
    . rw [hl0] at hi; simp at hi
    have hb:s.b=b:=by simp [Sv.b,ha]
    have ho:s.o=0:=by simp [Sv.o,ha]
    rw [hb,ho,Nat.zero_add] at e1
    have hw:w.heap[b]? = some (.cells cur T (0,0)):=kk _ _ hg
    have hmul:(i+1)*bB.sz α≤s.l.length*bB.sz α:=Nat.mul_le_mul_right _ hi
    have hmul2:s.l.length*bB.sz α≤s.c*bB.sz α:=Nat.mul_le_mul_right _ hlc
    rw [Nat.add_mul,Nat.one_mul] at hmul
    have hfit:i*bB.sz α+j+vc.length≤cur.size:=by omega
    cases hi':P.info? t with
    | none=>rw [hi'] at hs; cases hs
    | some ii =>
      have his:ii.size=vc.length:=by rw [hi'] at hs; rw [hn]; simpa using hs
      have hst:=run_storeCells_at P b (i*bB.sz α+j) T vc 0 cur w hw (by simpa using hfit) (fun u hu=>by simpa using (List.all_eq_true.1 h1) u hu)
      refine ⟨w.setRow b (cur.toList.take (i*bB.sz α+j)++vc++cur.toList.drop (i*bB.sz α+j+vc.length)).toArray,?_,St.SK (A:=Sv.own _ T) hg hoff trivial l ⟨by simpa using hlc,hcm,.inr ⟨b,_,ha,Hp.jS _ _,?_,?_⟩⟩ (by simp [World.setRow]) (setRow_heap w b cur _ T _ hw) (fun i hi=>setRow_other w b i _ hi) rfl rfl rfl⟩
      . simp only [Nat.add_zero] at hst
        have hsz:(sizeOf t).run P w = .ok vc.length w:=by simp [sizeOf,typeInfo,hi',his,go_sem]
        simp only [execOp,g.ev e1,g.ev e2,Instr.storeAt,Instr.sureAddr,storeVar,Sem.run_bind,Sem.run_pure,Result.andThen_ok,hsz,hv,List.size_toArray,ne_eq,not_true_eq_false,if_false,hst]
      . simp only [List.size_toArray,List.length_append,List.length_take,List.length_drop,Array.length_toList]
        omega
      . simp only [List.length_set]
        rw [aGs _ _ _ _ (by omega) (by rw [Array.length_toList]; exact Nat.le_trans hmul2 hcs),ht]
        exact ZM bB.len s.l i j z z' vc hz hl hc) (k ⟨s.a,s.c,s.l.set i z'⟩ rfl rfl rfl (by simp [Sv.val]) rfl rfl)
theorem RL {j t:Nat} {w:Bool} {a:Act} (hj:(ops[j]?).bind (·.dst)=some t) (ha:rW N ρ a) (h:ρ.get t=some undef) (o:Oper) (hg:o.guard=some (j,w)):Region.wanted o (yielded ops a.tmps)=false:=by
 unfold Region.wanted
 rw [hg]
 simp only
 unfold yielded
 rw [hj]
 simp [ha.look t _ h,undef]
theorem VL.gu {op:Op} {j t:Nat} {w:Bool} (hj:(ops[j]?).bind (·.dst)=some t) (hb:ρ.get t=some undef) (hd:d < N)
    (k:VL P N c ops Q rest ((d,undef)::ρ) M E):VL P N c ops Q (⟨some d,op,ty,pos,after,some (j,w)⟩::rest) ρ M E:=fun a w' x y=>by
  unfold wpList
  rw [if_neg (by rw [RL hj x hb _ rfl]; simp)]
  exact k _ _ (x.put hd undef) y
theorem VD.gu {op:Op} {k j t:Nat} {w:Bool} {r:List (Nat×Bool)} {D:List (Nat×Value)} (hk:ops[k]? = some ⟨some d,op,ty,pos,after,some (j,w)⟩) (hj:(ops[j]?).bind (·.dst)=some t) (hb:ρ.get t=some undef) (hd:d < N)
    (n:VD P N c ops Q r (D3 ops k undef D) ((d,undef)::ρ) M E):VD P N c ops Q ((k,true)::r) D ρ M E:=fun a w' x y =>
  ⟨_,undef,hk,.inr ⟨by rw [RL hj x hb _ rfl],rfl⟩,n _ _ (x.put hd undef) y⟩
end
end Go.V
end

section
namespace Go.V
open Go.RowKit
theorem RG {α:Type} [bB α] (h1:bB.sz α=1) (l:List α) (n:Nat):(l.take n).flatMap bB.enc=(l.flatMap bB.enc).take n:=by
 induction l generalizing n with
 | nil=>simp
 | cons x r ih =>
   cases n with
   | zero=>simp
   | succ n =>
     have hx:(bB.enc x).length=1:=by rw [bB.len,h1]
     simp only [List.take_succ_cons,List.flatMap_cons,ih]
     have e1:(bB.enc x).take (n+1)=bB.enc x:=List.take_of_length_le (by omega)
     rw [List.take_append,hx,show n+1 - 1=n by omega,e1]
theorem aLv {α:Type} [bB α] (h1:bB.sz α=1) (l:List α) (n:Nat):(l.drop n).flatMap bB.enc=(l.flatMap bB.enc).drop n:=by
 induction l generalizing n with
 | nil=>simp
 | cons x r ih =>
   cases n with
   | zero=>simp
   | succ n =>
     have hx:(bB.enc x).length=1:=by rw [bB.len,h1]
     simp only [List.drop_succ_cons,List.flatMap_cons,ih]
     have e1:(bB.enc x).drop (n+1)=[]:=List.drop_of_length_le (by omega)
     rw [List.drop_append,hx,show n+1 - 1=n by omega,e1,List.nil_append]
section
variable {P:Program} {N:Nat} {c:Cx} {ops:Array Oper} {Q Q1:Exit→Act→World→Prop} {rest:List Oper} {o:Oper} {ρ ρ':Env} {M M' M1:Mo} {E E' E1 F A:Ow} {v u:Value} {X:Type}
  {d:Nat} {od:Option Nat} {ty:TypeId} {pos:String} {after:Array Edge} {gd:Option (Nat×Bool)} {x y:Operand} {t t' e T:TypeId} {α:Type} [bB α] {f:FuncId} {args:List Value} {p q:Code}
theorem VL.copy {s:Sv α} {xs:List Operand} {k n cp sc:Nat} {a da:Option Addr} {sr:List α} (h1:bB.sz α=1) (hu:P.underlying t=some (.slice e)) (hz:(P.info? e).map (·.size)=some 1) (hE:nC E (s.own T) F)
 (ha:ρ.lH xs=some [.slice da n cp,.slice a sr.length sc]) (hkn:k+n=s.l.length) (hda:n≠0→da=s.a.map (·.add (k*bB.sz α))∨(k=0∧da=s.a))
 (hs : ∀ h z,h.off z→M.on h→s.own T z→sr≠[] → ∃ b o,a=some ⟨b,o,none⟩∧(h.join z).at b o (sr.flatMap bB.enc)) (hd:d < N)
 (kk : ∀ s':Sv α,s'.l=s.l.take k++sr.take n++s.l.drop (k+min sr.length n)→s'.val=s.val→s'.a=s.a→s'.c=s.c→VL P N c ops Q rest ((d,i64 (min sr.length n:Nat))::ρ) M (Ow.star (s'.own T) F)) :
 VL P N c ops Q (⟨some d,.call { callee := .builtin .copy,args:=xs.toArray,argTypes := #[t,t']},ty,pos,after,none⟩::rest) ρ M E:=by
 have hsrc:(sr.take n).length=min sr.length n:=by rw [List.length_take,Nat.min_comm]
 have hfl:((sr.take n).flatMap bB.enc).length=min sr.length n:=by rw [gI,h1,Nat.mul_one,hsrc]
 refine VL.big (X:=Unit) (φ:=fun _=>True) (val:=fun _=>i64 (min sr.length n:Nat)) (M2:=fun _=>Mo.tt) (A2:=fun _=>(⟨s.a,s.c,s.l.take k++sr.take n++s.l.drop (k+min sr.length n)⟩:Sv α).own T) hE (fun ac w h z g hoff m hA l kk' => ?_) hd fun _ _=>VL.strip (kk ⟨s.a,s.c,s.l.take k++sr.take n++s.l.drop (k+min sr.length n)⟩ rfl ?_ rfl rfl)
 ·
  by_cases h0:min sr.length n=0
  ·
   have hrun:=run_copy_none (P:=P) w t t' ty e da a n cp sr.length sc hu hz h0
   refine ⟨_,w,?_,(),trivial,rfl,?_⟩
   ·
    simp only [execOp,resolve,List.map_toArray,g.lH ha,Sem.run_bind,Sem.run_pure,Result.andThen_ok,invoke,builtin,hrun,goInt,h0]; rfl
   have e1:s.l.take k++sr.take n++s.l.drop (k+min sr.length n)=s.l:=by
     rw [List.eq_nil_of_length_eq_zero (hsrc.trans h0),h0]; simp
   rw [e1]
   refine ⟨⟨h,z,trivial,hA,hoff,l,kk',Hp.le.refl h,fun b hb => .inl hb,fun b hb => .inl hb⟩,fun b _ _=>rfl,rfl,rfl,rfl,Nat.le_refl _⟩
  have hn0:n≠0:=by omega
  have hsr:sr≠[]:=fun q=>by rw [q] at h0; simp at h0
  obtain ⟨sb,so,hsa,hat⟩:=hs h z hoff m hA hsr
  have hA0:=hA
  obtain ⟨hlc,hcm,⟨hl0,_⟩ | ⟨b,cur,hsa',hg,hcs,ht⟩⟩:=hA
  ·
   rw [hl0,List.length_nil] at hkn
   omega
  have hw:w.heap[b]? = some (.cells cur T (0,0)):=kk' _ _ hg
  have hda':da=some ⟨b,k,none⟩:=by
    rcases hda hn0 with q | ⟨q1,q2⟩
    . rw [q,hsa',h1]; simp [nM]
    . rw [q2,hsa',q1]
  have hrun:=run_copy_row (P:=P) w t t' ty e b k n cp ⟨sb,so,none⟩ sr.length sc cur T ((sr.take n).flatMap bB.enc) hu hz hw hfl (fun j v hj=>by
    rw [nM]
    refine tQ (Hp.join_le l kk') (hat j v ?_)
    rw [RG h1,List.getElem?_take] at hj
    split at hj
    . exact hj
    . cases hj) (by rw [h1] at hcs; rw [hfl]; omega) (aJQ _)
  rw [hda',hsa] at ha
  rw [hfl] at hrun
  refine ⟨_,w.setRow b (cur.toList.take k++(sr.take n).flatMap bB.enc++cur.toList.drop (k+min sr.length n)).toArray,?_,(),trivial,rfl,St.SK (A:=Sv.own _ T) hg hoff trivial l ⟨?_,hcm,.inr ⟨b,_,hsa',Hp.jS _ _,?_,?_⟩⟩ (by simp [World.setRow]) (setRow_heap w b cur _ T _ hw) (fun i hi=>setRow_other w b i _ hi) rfl rfl rfl⟩
  ·
   simp only [execOp,resolve,List.map_toArray,g.lH ha,Sem.run_bind,Sem.run_pure,Result.andThen_ok,invoke,builtin,hrun,goInt]
  ·
   simp only [List.length_append,List.length_take,List.length_drop]; omega
  ·
   rw [h1] at hcs ⊢
   simp only [List.size_toArray,List.length_append,List.length_take,List.length_drop,Array.length_toList,hfl]
   omega
  have hlen:(s.l.take k++sr.take n++s.l.drop (k+min sr.length n)).length=s.l.length:=by simp only [List.length_append,List.length_take,List.length_drop]; omega
  simp only [hlen,List.flatMap_append,RG h1,aLv h1]
  have htp:=aGs cur.toList ((sr.take n).flatMap bB.enc) k (s.l.length*bB.sz α) (by rw [hfl,h1]; omega) (by rw [Array.length_toList]; exact Nat.le_trans (Nat.mul_le_mul_right _ hlc) hcs)
  rw [hfl,RG h1] at htp
  rw [htp,ht]
 simp only [Sv.val,List.length_append,List.length_take,List.length_drop]
 congr 1
 omega
theorem VC.a4e {k:Code} (s:Sv α) [hs:KP E s T] (g:s.l.length≤s.c→s.c≤9223372036854775807→VC P N c Q k ρ M E):VC P N c Q k ρ M E:=fun a w x y=>by
  obtain ⟨⟨hp,ee,m,eE,_⟩,_⟩:=id y
  have:=hs.out ee eE
  exact g this.1 this.2.1 a w x y
theorem a0z {r:Sv α} (h1:bB.sz α=1) [i:dM M r.ok] {s:Sv α} : ∀ h z,h.off z→M.on h→s.own T z→r.l≠[] → ∃ b o,r.a=some ⟨b,o,none⟩∧(h.join z).at b o (r.l.flatMap bB.enc):=fun h z _ m _ hne=>by
  have k:=i.out h m
  exact ⟨r.b,r.o,k.2.2.1 hne,Hp.at.up (Hp.cU h z) (QB (fun j x hx=>Sv.aAM k hx) (by omega))⟩
theorem aVr {s:Sv α} (h1:bB.sz α=1) {m:Nat} (hm:m≤s.l.length) : ∀ h z,h.off z→M.on h→s.own T z→(s.l.drop 0).take (m - 0)≠[] → ∃ b o,(s.sub 0 m s.c).a=some ⟨b,o,none⟩∧(h.join z).at b o (((s.l.drop 0).take (m - 0)).flatMap bB.enc):=fun h z off _ k hne=>by
  have hs:=k
  obtain ⟨hlc,_,⟨hl,_⟩ | ⟨g,cur,ha,hg,_⟩⟩:=k
  . rw [hl] at hne; simp at hne
  . have e:(s.sub 0 m s.c).a=some ⟨g,0,none⟩:=by
      unfold Sv.sub
      simp only
      split
      . exact ha
      . rw [ha]; simp [nM]
    refine ⟨g,0,e,Hp.at.up (Hp.fS off) ?_⟩
    have hb:s.b=g:=by simp [Sv.b,ha]
    have ho:s.o=0:=by simp [Sv.o,ha]
    have hall:=QB (h:=z) (b:=s.b) (o:=s.o) (l:=s.l) (fun j x hx=>Sv.JS hs hx) (by omega)
    rw [hb,ho] at hall
    rw [RG h1]
    intro j v hj
    refine hall j v ?_
    rw [List.getElem?_take] at hj
    split at hj
    . simpa using hj
    . cases hj
theorem wrap_u64 {n:Int} (h0:0≤n) (h1:n≤9223372036854775807):IntKind.u64.wrap n=n:=IntWalk.u64_in _ (by omega)
end
end Go.V
end

section
namespace Go.V
open Go.RowKit
def Hp.lt (h:Hp) (b:Nat):Hp:=fun i=>if i < b then h i else none
theorem Hp.a5l (h:Hp) (b:Nat):(h.lt b).le h:=fun i o e=>by unfold Hp.lt at e; split at e; exact e; cases e
theorem Hp.aVf {h k:Hp} (l:h.le k) (b:Nat):(h.lt b).le (k.lt b):=fun i o e=>by
  unfold Hp.lt at *
  split at e
  . rename_i q; rw [if_pos q]; exact l i o e
  . cases e
def Mo.cut (M:Mo) (b:Nat):Mo:=⟨fun h=>M.on (h.lt b),fun l x=>M.up (Hp.aVf l b) x⟩
instance (priority:=1200) dM.cut (M X:Mo) (b:Nat) [i:dM M X]:dM (M.cut b) X:=⟨fun h x=>X.up (Hp.a5l h b) (i.out _ x)⟩
section
variable {P:Program} {N:Nat} {c:Cx} {ops:Array Oper} {Q Q1:Exit→Act→World→Prop} {rest:List Oper} {o:Oper} {ρ ρ':Env} {M M' M1:Mo} {E E' E1 F A:Ow} {v u:Value} {X:Type}
  {d:Nat} {od:Option Nat} {ty:TypeId} {pos:String} {after:Array Edge} {gd:Option (Nat×Bool)} {x y:Operand} {t t' e T:TypeId} {α:Type} [bB α] {f:FuncId} {args:List Value} {p q:Code}
end
end Go.V
end

section
namespace Go.V
open Go.RowKit
section
variable {P:Program} {N:Nat} {c:Cx} {ops:Array Oper} {Q Q1:Exit→Act→World→Prop} {rest:List Oper} {o:Oper} {ρ ρ':Env} {M M' M1:Mo} {E E' E1 F A:Ow} {v u:Value} {X:Type}
  {d:Nat} {od:Option Nat} {ty:TypeId} {pos:String} {after:Array Edge} {gd:Option (Nat×Bool)} {x y:Operand} {t t' e T:TypeId} {D:List (Nat×Value)} {k n:Nat} {listed:Array Bool}
theorem VC.aXd (M':Mo) {k:Code} [i:dM M M'] (g:VC P N c Q k ρ M' E):VC P N c Q k ρ M E:=VC.mono i.out (fun _ x=>x) g
theorem VG.via {S:Type} (φ:S→Prop) (n':Nat) (D':S→List (Nat×Value)) (listed':Array Bool) (ρ':S→Env) (M':S→Mo) (E':S→Ow)
    (h1 : ∀ s,φ s→VG P N c ops Q n' (D' s) listed' (ρ' s) (M' s) (E' s)) (h2:(∀ s,φ s→VG P N c ops Q n' (D' s) listed' (ρ' s) (M' s) (E' s))→VG P N c ops Q n D listed ρ M E):VG P N c ops Q n D listed ρ M E:=h2 h1
def aJN (ops:Array Oper) (listed:Array Bool):Bool:=(List.range ops.size).all fun j=>match ops[j]? with
  | some o => !(listed.getD j false)||o.after.all (fun e => !(Region.binds .any e)||listed.getD e.on false)
  | none=>true
theorem eF (h:aJN ops listed=true):wQ ops listed:=fun j o ho hj e he hb=>by
  unfold aJN at h
  rw [List.all_eq_true] at h
  have:=h j (List.mem_range.2 (Array.getElem?_eq_some_iff.1 ho).1)
  rw [ho] at this
  simp only [hj,Bool.not_true,Bool.false_or] at this
  rw [Array.all_eq_true_iff_forall_mem] at this
  have:=this e he
  rw [hb] at this
  simpa using this
end
end Go.V
end

section
namespace Go.V
open Go.RowKit
section
variable {P:Program} {N:Nat} {c:Cx} {M M' M1:Mo} {E E' E1 F A B G:Ow} {X:Type} {α:Type} [bB α] {f:FuncId} {args:List Value} {val:X→Value} {φ:X→Prop} {M2:X→Mo} {E2:X→Ow} {w:World}
theorem nC.comp (h1:nC E A F) (h2:nC F B G):nC E (Ow.star A B) G:=fun e he=>by
  obtain ⟨x,y,d,j,hx,hy⟩:=h1 e he
  obtain ⟨x2,y2,d2,j2,hx2,hy2⟩:=h2 y hy
  subst j2
  refine ⟨x.join x2,y2,fun b => ?_,by rw [j,Hp.join_assoc],⟨x,x2,fun b => ?_,rfl,hx,hx2⟩,hy2⟩
  . rcases d2 b with q | q
    . rcases d b with p | p
      . exact .inl (Hp.join_none.2 ⟨p,q⟩)
      . exact .inr (Hp.join_none.1 p).2
    . exact .inr q
  . rcases d b with q | q
    . exact .inl q
    . exact .inr (Hp.join_none.1 q).1
instance (priority:=1400) Fo.comp (E A B F G:Ow) [i:Fo E A F] [j:Fo F B G]:Fo E (Ow.star A B) G:=⟨nC.comp i.out j.out⟩
theorem nC.inn (h1:nC A B G):nC (Ow.star A F) B (Ow.star G F):=fun e he=>by
  obtain ⟨x,y,d,j,hx,hy⟩:=he
  obtain ⟨x2,y2,d2,j2,hx2,hy2⟩:=h1 x hx
  subst j2
  refine ⟨x2,y2.join y,fun b => ?_,by rw [j,Hp.join_assoc],hx2,y2,y,fun b => ?_,rfl,hy2,hy⟩
  . rcases d b with q | q
    . exact .inl (Hp.join_none.1 q).1
    . rcases d2 b with p | p
      . exact .inl p
      . exact .inr (Hp.join_none.2 ⟨p,q⟩)
  . rcases d b with q | q
    . exact .inl (Hp.join_none.1 q).2
    . exact .inr q
instance (priority:=700) Fo.inn (A B F G:Ow) [i:Fo A B G]:Fo (Ow.star A F) B (Ow.star G F):=⟨nC.inn i.out⟩
theorem St.freeze (hE:nC E A F) (h1 : ∀ h e,h.off e→M.on h→A e→M'.on (h.join e)) (s:St c M E w):St c (M'.and M) F w:=by
 obtain ⟨⟨hp,e,m,ee,dd,l,kk,h0,hr,er⟩,f,o,t,u,z⟩:=s
 obtain ⟨x,y,dxy,j,hx,hy⟩:=hE e ee
 have dx:hp.off x:=fun b=>(dd b).imp id fun z=>by rw [j] at z; exact (Hp.join_none.1 z).1
 refine ⟨⟨hp.join x,y,⟨h1 _ _ dx m hx,M.up (Hp.cU _ _) m⟩,hy,fun b => ?_,Hp.join_le l fun b o q=>kk b o (by rw [j]; exact Hp.cU x y b o q),fun b o q=>kk b o (by rw [j]; exact Hp.fS dxy b o q),h0.trans (Hp.cU _ _),fun b hb => ?_,fun b hb=>er b fun q=>hb (by rw [j] at q; exact (Hp.join_none.1 q).2)⟩,f,o,t,u,z⟩
 ·
  rcases dxy b with q | q
  ·
   rcases dd b with p | p
   ·
    exact .inl (Hp.join_none.2 ⟨p,q⟩)
   rw [j] at p; exact .inr (Hp.join_none.1 p).2
  exact .inr q
 by_cases q:hp b=none
 ·
  have:x b≠none:=fun p=>hb (Hp.join_none.2 ⟨q,p⟩)
  rcases er b (fun p=>this (by rw [j] at p; exact (Hp.join_none.1 p).1)) with p | p
  ·
   exact .inr (.inl p)
  exact .inr (.inr p)
 exact hr b q
theorem VC.a5j {S:Type} {P:Program} {Q:Exit→Act→World→Prop} {ρ:Env} {p:Code} (φ:S→Prop) (ρ':S→Env) (M':S→Mo) (E':S→Ow) (μ:S→Nat) (s0:S) (ks:List Nat) (h0:φ s0) (e:ρ.keep ks=ρ' s0) (hM : ∀ h,M.on h→(M' s0).on h) (hE : ∀ e,E e→E' s0 e)
    (round : ∀ s,φ s→VC P N c (Exit.then (Any (fun s'=>φ s'∧μ s' < μ s) P N c ρ' M' E') Q) p (ρ' s) (M' s) (E' s)):VC P N c Q (.loop p) ρ M E :=
  VC.loop φ ρ' M' E' μ s0 ks h0 e hM hE round
theorem MG {P:Program} {N:Nat} {ρ:Env} {v:Value} {od:Option Nat} {ty:TypeId} {pos:String} {after:Array Edge} {gd:Option (Nat×Bool)} {x:Operand} {xs:List Operand} {ts:Array TypeId} {f:FuncId} {args:List Value} {val:X→Value} {φ:X→Prop} {M2:X→Mo} {E2:X→Ow} (h:Ct P f args M1 Ow.emp val φ M2 E2) (hx:ρ.ev x=some (.func (.func f) #[] #[])) (ha:ρ.lH xs=some args) [i:dM M M1] (hv : ∀ y,φ y→val y=v) :
    Qt P N c ⟨od,.call { callee := .value x,args:=xs.toArray,argTypes:=ts },ty,pos,after,gd⟩ v ρ M E:=fun a w g s=>by
  have hr:(execOp a.eval ⟨od,.call { callee := .value x,args:=xs.toArray,argTypes:=ts },ty,pos,after,gd⟩).run P w = .ok (.enter f args.toArray) w:=by
    have e1:=g.ev hx
    have e2:=g.lH ha
    subst e2
    simp [execOp,resolve,e1,Deferred.ofValue,invoke,h.entry]
  unfold Oper.quietAt
  rw [hr]
  exact ⟨rfl,h.gr (fun p q _ m _=>M1.up (Hp.cU p q) (i.out p m)) s hv⟩
end
end Go.V
end

section
namespace Go.V
open Go.RowKit Go.S
class Ext (M0 M:Mo):Prop where
  out : ∀ h,M.on h→M0.on h
instance (priority:=2000) Ext.refl (M:Mo):Ext M M:=⟨fun _ x=>x⟩
instance (priority:=1000) Ext.tail (M0 A B:Mo) [i:Ext M0 B]:Ext M0 (A.and B):=⟨fun h x=>i.out h x.2⟩
instance Ext.tt (M:Mo):Ext Mo.tt M:=⟨fun _ _=>trivial⟩
instance (priority:=2500) dM.svNil {α:Type} [bB α] (M:Mo):dM M (⟨none,0,[]⟩:Sv α).ok:=⟨fun _ _=>⟨Nat.le_refl _,by simp [maxLen],fun h=>absurd rfl h,fun _ _ h=>by simp at h,fun _ h=>by cases h⟩⟩
def qB {α:Type} [bB α] (l:List α):Mo:=⟨fun h => ∀ z∈l,(bB.deep z).on h,fun u x z hz=>(bB.deep z).up u (x z hz)⟩
section
variable {P:Program} {N:Nat} {c:Cx} {ops:Array Oper} {Q Q1:Exit→Act→World→Prop} {rest:List Oper} {o:Oper} {ρ:Env} {M M' M1 M0:Mo} {E E1 F A:Ow} {v u:Value} {X S T R:Type}
  {d:Nat} {od:Option Nat} {ty:TypeId} {pos:String} {after:Array Edge} {gd:Option (Nat×Bool)} {x y:Operand} {t t' e:TypeId} {α:Type} [bB α] {f:FuncId} {args:List Value} {p q:Code}
theorem VC.wT {K:T→Option R} {G:(T→Option R)→Option R} {r:R} (pu:S→T) (ρ':S→Env) (Mx:S→Mo) (E':S→Ow) (hS:jn K G=some r)
    (h1 : ∀ k:T→Option R,G k=some r→VC P N c (Exit.then (Any (fun s=>k (pu s)=some r) P N c ρ' (fun s=>(Mx s).and M) E') Q) p ρ M E) (h2 : ∀ s,K (pu s)=some r→VC P N c Q q (ρ' s) ((Mx s).and M) (E' s)):VC P N c Q (.seq p q) ρ M E:=VC.cut (fun s=>K (pu s)=some r) ρ' _ E' (h1 K hS) h2
theorem VL.mt {φ:S→Prop} {ρ':S→Env} {Mx:S→Mo} {E':S→Ow} (s:S) (ks:List Nat) (hq : ∀ a w,Any φ P N c ρ' (fun s=>(Mx s).and M0) E' a w→Q .normal a w) (hφ:φ s) (e:ρ.keep ks=ρ' s) [i:dM M (Mx s)] [j:Ext M0 M] [l:fL E (E' s)]:VL P N c ops Q [] ρ M E :=
  VL.any s ks hq hφ e (fun h m=>⟨i.out h m,j.out h m⟩) l.out
theorem VD.mt {D:List (Nat×Value)} {φ:S→Prop} {ρ':S→Env} {Mx:S→Mo} {E':S→Ow} (s:S) (ks:List Nat) (hq : ∀ a w,Any φ P N c ρ' (fun s=>(Mx s).and M0) E' a w→Q .normal a w) (hφ:φ s) (e:ρ.keep ks=ρ' s) [i:dM M (Mx s)] [j:Ext M0 M] [l:fL E (E' s)]:VD P N c ops Q [] D ρ M E :=
  VD.any s ks hq hφ e (fun h m=>⟨i.out h m,j.out h m⟩) l.out
theorem VC.PZ {φ:S→Prop} {ρ':S→Env} {Mx:S→Mo} {E':S→Ow} (s:S) (ks:List Nat) (hq : ∀ a w,Any φ P N c ρ' (fun s=>(Mx s).and M0) E' a w→Q .normal a w) (hφ:φ s) (e:ρ.keep ks=ρ' s) [i:dM M (Mx s)] [j:Ext M0 M] [l:fL E (E' s)]:VC P N c Q .skip ρ M E :=
  VC.aGp s ks hq hφ e (fun h m=>⟨i.out h m,j.out h m⟩) l.out
theorem VC.D8 {id:Nat} {φ:S→Prop} {ρ':S→Env} {Mx:S→Mo} {E':S→Ow} (s:S) (ks:List Nat) (hq : ∀ a w,Any φ P N c ρ' (fun s=>(Mx s).and M0) E' a w→Q (.exit id) a w) (hφ:φ s) (e:ρ.keep ks=ρ' s) [i:dM M (Mx s)] [j:Ext M0 M] [l:fL E (E' s)]:VC P N c Q (.exit id) ρ M E :=
  VC.exit fun a w g st=>hq a w ⟨s,hφ,g.sub (Env.K5 e),st.mono (fun h m=>⟨i.out h m,j.out h m⟩) l.out⟩
def Rnd {S T R:Type} (B:T→Option (T⊕R)) (e:R) (m:Nat) (pu:S→T) (P:Program) (N:Nat) (c:Cx) (ρ':S→Env) (Mx:S→Mo) (M0:Mo) (E':S→Ow) (a:Act) (w:World):Prop :=
  ∃ (s:S) (k:Nat),wD B k (pu s)=some e∧k < m+1∧rW N (ρ' s) a∧St c ((Mx s).and M0) (E' s) w
theorem VC.iter {B:T→Option (T⊕R)} {r:R} (pu:S→T) (ρ':S→Env) (Mx:S→Mo) (E':S→Ow) (s0:S) (ks:List Nat) (he:iter B (pu s0)=some r) (hρ:ρ.keep ks=ρ' s0) [i:dM M (Mx s0)] [l:fL E (E' s0)]
 (round : ∀ s m y,B (pu s)=some y→Step B m r y→VC P N c (Exit.then (Rnd B r m pu P N c ρ' Mx M E') Q) p (ρ' s) ((Mx s).and M) (E' s)):VC P N c Q (.loop p) ρ M E:=by
 obtain ⟨n,hn⟩:=aV0 he
 refine VC.loop (S:=S×Nat) (fun s=>wD B s.2 (pu s.1)=some r) (fun s=>ρ' s.1) (fun s=>(Mx s.1).and M) (fun s=>E' s.1) (fun s=>s.2) (s0,n) ks hn hρ (fun h m=>⟨i.out h m,m⟩) l.out ?_
 rintro ⟨s,k⟩ hk
 obtain ⟨m,y,h1,h2,h3⟩:=aVZ hk
 subst h1
 intro a w g st
 refine Code.wp_mono ?_ (round s m y h2 h3 a w g st)
 intro ex a' w' hx
 cases ex with
 | normal =>
   obtain ⟨s',k',q1,q2,q3,q4⟩:=hx
   exact ⟨(s',k'),⟨q1,q2⟩,q3,q4⟩
 | _=>exact hx
theorem VL.PX {B:T→Option (T⊕R)} {r:R} {m:Nat} {pu:S→T} {ρ':S→Env} {Mx:S→Mo} {E':S→Ow} (s:S) (ks:List Nat) (hq : ∀ a w,Rnd B r m pu P N c ρ' Mx M0 E' a w→Q .normal a w) (hφ:wD B m (pu s)=some r) (e:ρ.keep ks=ρ' s) [i:dM M (Mx s)] [j:Ext M0 M] [l:fL E (E' s)]:VL P N c ops Q [] ρ M E :=
  VL.nil fun a w g st=>hq a w ⟨s,m,hφ,Nat.lt_succ_self m,g.sub (Env.K5 e),st.mono (fun h m=>⟨i.out h m,j.out h m⟩) l.out⟩
theorem VC.aSX {B:T→Option (T⊕R)} {r:R} {m:Nat} {pu:S→T} {ρ':S→Env} {Mx:S→Mo} {E':S→Ow} (s:S) (ks:List Nat) (hq : ∀ a w,Rnd B r m pu P N c ρ' Mx M0 E' a w→Q .normal a w) (hφ:wD B m (pu s)=some r) (e:ρ.keep ks=ρ' s) [i:dM M (Mx s)] [j:Ext M0 M] [l:fL E (E' s)]:VC P N c Q .skip ρ M E :=
  VC.skip fun a w g st=>hq a w ⟨s,m,hφ,Nat.lt_succ_self m,g.sub (Env.K5 e),st.mono (fun h m=>⟨i.out h m,j.out h m⟩) l.out⟩
theorem VC.aQS {id:Nat} {B:T→Option (T⊕R)} {r:R} {m:Nat} {pu:S→T} {ρ':S→Env} {Mx:S→Mo} {E':S→Ow} (s:S) (ks:List Nat) (hq : ∀ a w,Rnd B r m pu P N c ρ' Mx M0 E' a w→Q (.exit id) a w) (hφ:wD B m (pu s)=some r) (e:ρ.keep ks=ρ' s) [i:dM M (Mx s)] [j:Ext M0 M] [l:fL E (E' s)]:VC P N c Q (.exit id) ρ M E :=
  VC.exit fun a w g st=>hq a w ⟨s,m,hφ,Nat.lt_succ_self m,g.sub (Env.K5 e),st.mono (fun h m=>⟨i.out h m,j.out h m⟩) l.out⟩
theorem lQ {B:T→Option (T⊕R)} {o:Option R} {y:T⊕R} {m:Nat} {e:R} (h:up o=some y) (k:Step B m e y):o=some e:=by
 obtain ⟨c,h1,rfl⟩:=a9d h
 rw [h1]; exact congrArg some k
theorem go2 {B:T→Option (T⊕R)} {t:T} {y:T⊕R} {m:Nat} {e:R} (h:go t=some y) (k:Step B m e y):wD B m t=some e:=by
 cases a83 h; exact k
theorem aOH {β:Type} {b:Bool} {x y:Option β} {r:β} (hb:b=false) (h:(if b=true then x else y)=some r):y=some r:=by
 rw [hb] at h; exact h
theorem yP {s s' z:List UInt8} (e1:ρ.ev x=some (str s)) (e2:ρ.ev y=some (str s')) (h:s.length+s'.length≤9223372036854775807) (q:s++s'=z):Qt P N c ⟨od,.binOp .add t x y t',ty,pos,after,gd⟩ (str z) ρ M E:=by
 subst q; exact a5x e1 e2 h
theorem NU {s z:List UInt8} {k:IntKind} {n:Int} (hu:P.underlying t=some .string) (e1:ρ.ev x=some (str s)) (e2:ρ.ev y=some (.int k n)) (h0:0≤n) (h1:n≤s.length) (q:s.take n.toNat=z):Qt P N c ⟨od,.slice t x none (some y) none,ty,pos,after,gd⟩ (str z) ρ M E:=by
 subst q; exact a6C hu e1 e2 h0 h1
theorem F0 {s z:List UInt8} {k:IntKind} {n:Int} (hu:P.underlying t=some .string) (e1:ρ.ev x=some (str s)) (e2:ρ.ev y=some (.int k n)) (h0:0≤n) (h1:n≤s.length) (q:s.drop n.toNat=z):Qt P N c ⟨od,.slice t x (some y) none none,ty,pos,after,gd⟩ (str z) ρ M E:=by
 subst q; exact aWn hu e1 e2 h0 h1
theorem aJg (op:BinOp) (a b:Bool) (w:World):(eqGuard op t x y (.bool a) (.bool b)).run P w = .ok () w:=by
 unfold eqGuard
 cases op <;> simp [go_sem] <;> rfl
theorem a1O {a b:Bool} (hu:P.underlying t=some .bool) (e1:ρ.ev x=some (.bool a)) (e2:ρ.ev y=some (.bool b)):Qt P N c ⟨od,.binOp .eql t x y t',ty,pos,after,gd⟩ (.bool (decide (a=b))) ρ M E:=pY e1 e2 (aJg _ _ _) fun w=>by
  rw [Go.run_eql_bool w t a b hu]; cases a <;> cases b <;> rfl
theorem VD.freeze {rr:List (Nat×Bool)} {D:List (Nat×Value)} (hE:nC E A F) (h1 : ∀ h e,h.off e→M.on h→A e→M'.on (h.join e)) (k:VD P N c ops Q rr D ρ (M'.and M) F):VD P N c ops Q rr D ρ M E:=fun a w g s=>k a w g (s.freeze hE h1)
theorem VD.DV {rr:List (Nat×Bool)} {D:List (Nat×Value)} (b:Nat) {cs:List Value} {Tb:TypeId} [j:oS E b cs Tb F] (k:VD P N c ops Q rr D ρ ((Cells b 0 cs).and M) F):VD P N c ops Q rr D ρ M E :=
  VD.freeze j.out (fun a q dd _ hA=>Hp.at.up (Hp.fS dd) (Hp.Y4 hA)) k
theorem VC.slnil {s:Sv α} (e0:ρ.ev x=some (.bool s.a.isNone)) [i:dM M s.ok] (h1:s.l=[]→VC P N c Q p ρ M E) (h2:VC P N c Q q ρ M E):VC P N c Q (.cond x p q) ρ M E :=
  VC.cond e0 (fun h=>VC.fact (φ:=s.l=[]) (fun hp m=>by
    have k:=(i.out hp m).2.2.1
    by_cases hl:s.l=[]
    . exact hl
    . rw [k hl] at h; cases h) h1) (fun _=>h2)
theorem wW {β:Type} (g:α→β) {s:Sv α} {xs:List Operand} (ht:P.underlying t=some (.slice e)) (h:ρ.lH xs=some [s.val]):Qt P N c ⟨od,.call { callee := .builtin .len,args:=xs.toArray,argTypes := #[t]},ty,pos,after,gd⟩ (i64 (s.l.map g).length) ρ M E:=by
 rw [List.length_map]; exact J0 ht h
theorem aB6 {γ β:Type} {g:γ→β} {l:List γ} {n:Int} (h:n≤(l.map g).length):n≤l.length:=by simpa using h
theorem aX1 {n:Int} {z:UInt8} (h:0≤n∧n≤255) (e:UInt8.ofNat n.toNat=z):n=(z.toNat:Int):=by
 subst e
 have:(UInt8.ofNat n.toNat).toNat=n.toNat:=by
   rw [UInt8.toNat_ofNat']
   omega
 rw [this]
 omega
theorem ap1 {a b:Nat} (h:a+b≤4294967296):a+b≤9007199254740992:=by omega
theorem ap2 {a b bt:Nat} (h:a+b≤4294967296) (hb:bt≤32768):(a+b)*bt≤140737488355328:=Nat.le_trans (Nat.mul_le_mul h hb) (by decide)
theorem Y3 {γ β:Type} {g:γ→β} {l r:List γ} (h:(l.map g).length+(r.map g).length≤4294967296):l.length+r.length≤4294967296:=by simpa using h
theorem VL.sto {s:Sv α} {n:Int} (hu:P.underlying t=some (.slice e)) (hz:(P.info? e).map (·.size)=some (bB.sz α)) (e0:ρ.ev x=some s.val) (e1:ρ.ev y=some (i64 n)) [hs:dM M s.ok] (h0:0≤n) (h1:n≤s.l.length) (hd:d < N)
    (kk : ∀ q:Sv α,q.l=s.l.take n.toNat→VL P N c ops Q rest ((d,q.val)::ρ) (q.ok.and M) E):VL P N c ops Q (⟨some d,.slice t x none (some y) none,ty,pos,after,none⟩::rest) ρ M E :=
  VL.part (lo':=none) (hi':=some n) (mx':=none) 0 n.toNat hu hz e0 rfl (by simp [o6,e1]) rfl rfl (by simp; omega) (.inl rfl) (fun _=>rfl) (by omega) (by omega) hd fun q hq=>kk q (by rw [hq]; simp)
theorem VL.aXO {s:Sv α} {n:Int} (hu:P.underlying t=some (.slice e)) (hz:(P.info? e).map (·.size)=some (bB.sz α)) (e0:ρ.ev x=some s.val) (e1:ρ.ev y=some (i64 n)) [hs:dM M s.ok] (h0:0≤n) (h1:n≤s.l.length) (hd:d < N)
    (kk : ∀ q:Sv α,q.l=s.l.drop n.toNat→VL P N c ops Q rest ((d,q.val)::ρ) (q.ok.and M) E):VL P N c ops Q (⟨some d,.slice t x (some y) none none,ty,pos,after,none⟩::rest) ρ M E :=
  VL.part (lo':=some n) (hi':=none) (mx':=none) n.toNat s.l.length hu hz e0 (by simp [o6,e1]) rfl rfl (by simp; omega) rfl (.inl rfl) (fun h=>by cases h) (by omega) (by omega) hd fun q hq=>kk q (by rw [hq,List.take_of_length_le (by simp)])
theorem VL.SH {s:Sv α} {z:Operand} {n:Int} (hu:P.underlying t=some (.slice e)) (hz:(P.info? e).map (·.size)=some (bB.sz α)) (e0:ρ.ev x=some s.val) (e1:ρ.ev y=some (i64 n)) (e2:ρ.ev z=some (i64 n)) [hs:dM M s.ok] (h0:0≤n) (h1:n≤s.l.length) (hd:d < N)
    (kk : ∀ q:Sv α,q.l=s.l.take n.toNat→VL P N c ops Q rest ((d,q.val)::ρ) (q.ok.and M) E):VL P N c ops Q (⟨some d,.slice t x none (some y) (some z),ty,pos,after,none⟩::rest) ρ M E :=
  VL.part (lo':=none) (hi':=some n) (mx':=some n) 0 n.toNat hu hz e0 rfl (by simp [o6,e1]) (by simp [o6,e2]) rfl (by simp; omega) (.inr (by congr 1; omega)) (fun _=>rfl) (by omega) (by omega) hd fun q hq=>kk q (by rw [hq]; simp)
theorem oY {b j n:Nat} {cs vs:List Value} {Tb:TypeId} (h1:rO P t n) (e1:ρ.ev x=some (ptr b j)) [i:BR E b cs Tb] (hv:(cs.drop j).take n=vs) (hn:vs.length=n):Qt P N c ⟨od,.load t x,ty,pos,after,gd⟩ (.agg vs.toArray) ρ M E :=
  UJ h1 hn e1 fun a b' dd m ee k u hk=>by
    have:=Rd.blk (M:=M) (i:=i) a b' dd m ee (j+k) u (by
      subst hv
      rw [List.getElem?_take] at hk
      split at hk
      . rw [List.getElem?_drop] at hk; exact hk
      . cases hk)
    rwa [Nat.zero_add] at this
theorem aOx {n:Int} (h:0≤n∧n≤255):IntKind.u8.wrap n=n:=IntWalk.u8_in _ (by omega)
theorem VL.deep (X:Mo) {s:Sv α} {i:Nat} {z:α} (hz:s.l[i]? = some z) [hs:dM M s.ok] (hX : ∀ h,(bB.deep z).on h→X.on h) (k:VL P N c ops Q rest ρ (X.and M) E):VL P N c ops Q rest ρ M E :=
  VL.LK X (fun h m=>hX h ((hs.out h m).2.2.2.2 z (List.mem_of_getElem? hz))) k
theorem VD.deep {rr:List (Nat×Bool)} {D:List (Nat×Value)} (X:Mo) {s:Sv α} {i:Nat} {z:α} (hz:s.l[i]? = some z) [hs:dM M s.ok] (hX : ∀ h,(bB.deep z).on h→X.on h) (k:VD P N c ops Q rr D ρ (X.and M) E):VD P N c ops Q rr D ρ M E :=
  VD.LK X (fun h m=>hX h ((hs.out h m).2.2.2.2 z (List.mem_of_getElem? hz))) k
theorem VL.X7 {s s' r:Sv α} (h:s'.l=s.l++r.l) [i:dM M (qB s.l)] [j:dM M r.ok] (k:VL P N c ops Q rest ρ ((qB s'.l).and M) E):VL P N c ops Q rest ρ M E :=
  VL.LK (qB s'.l) (fun hp m z hz=>by
    rw [h] at hz
    rcases List.mem_append.1 hz with q | q
    . exact i.out hp m z q
    . exact (j.out hp m).2.2.2.2 z q) k
theorem VL.X8 {s:Sv α} (h:s.l=[]) (k:VL P N c ops Q rest ρ ((qB s.l).and M) E):VL P N c ops Q rest ρ M E :=
  VL.LK (qB s.l) (fun hp m z hz=>by rw [h] at hz; cases hz) k
theorem VC.X8 {s:Sv α} {q:Code} (h:s.l=[]) (k:VC P N c Q q ρ ((qB s.l).and M) E):VC P N c Q q ρ M E :=
  VC.LK (qB s.l) (fun hp m z hz=>by rw [h] at hz; cases hz) k
end
end Go.V
end

section
namespace Go.V
open Go.RowKit Go.S
class O0 where
  no:TypeId
  pf:TypeId
inductive Er where
  | nil
  | no (n:Int)
  | fault (b:Nat) (part:bI) (at_:Int) (e:Er)
def Er.val [i:O0]:Er→Value
  | .nil => .nilIface
  | .no n => .iface i.no (i64 n)
  | .fault b _ _ _ => .iface i.pf (ptr b 0)
def Er.ok [O0]:Er→Mo
  | .nil=>Mo.tt
  | .no _=>Mo.tt
  | .fault b p a e=>(Cells b 0 [str p,i64 a,e.val]).and e.ok
def Er.pl:Er→cS
  | .nil => .nil
  | .no n => .no n
  | .fault _ p a e => .fault p a e.pl
def Er.isNil:Er→Bool
  | .nil=>true
  | _=>false
section
variable [O0]
instance (priority:=2500) dM.erNil (M:Mo):dM M Er.nil.ok:=⟨fun _ _=>trivial⟩
instance (priority:=2500) dM.erNo (M:Mo) (n:Int):dM M (Er.no n).ok:=⟨fun _ _=>trivial⟩
instance (priority:=2500) dM.erFault (M:Mo) (b:Nat) (p:bI) (a:Int) (e:Er) [i:dM M (Cells b 0 [str p,i64 a,e.val])] [j:dM M e.ok]:dM M (Er.fault b p a e).ok:=⟨fun h x=>⟨i.out h x,j.out h x⟩⟩
instance:bB Er:=⟨1,fun e=>[e.val],fun _=>rfl,fun _ u h=>by cases List.mem_singleton.1 h; rename_i e; cases e <;> rfl,Er.ok⟩
variable {P:Program} {N:Nat} {c:Cx} {ops:Array Oper} {Q Q1:Exit→Act→World→Prop} {rest:List Oper} {o:Oper} {ρ:Env} {M M' M1 M0:Mo} {E E1 F A:Ow} {v u:Value} {X S T R:Type}
  {d:Nat} {od:Option Nat} {ty:TypeId} {pos:String} {after:Array Edge} {gd:Option (Nat×Bool)} {x y:Operand} {t t' e:TypeId}
theorem aD5 {ms:Array (String×TypeId)} (ht:P.underlying t=some (.interface ms)) {z:Er} (h:ρ.ev x=some z.val):Qt P N c ⟨od,.binOp .eql t x (.const .nilIface) t',ty,pos,after,gd⟩ (.bool (decide (z.pl.isNil=true))) ρ M E:=by
 cases z with
 | nil=>exact aLG ht h
 | no n=>exact aO8 ht h
 | fault b p a e=>exact aO8 ht h
theorem aO7 {ms:Array (String×TypeId)} (ht:P.underlying t=some (.interface ms)) {z:Er} (h:ρ.ev x=some z.val):Qt P N c ⟨od,.binOp .neq t x (.const .nilIface) t',ty,pos,after,gd⟩ (.bool (!decide (z.pl.isNil=true))) ρ M E:=by
 cases z with
 | nil=>exact aLH ht h
 | no n=>exact aO9 ht h
 | fault b p a e=>exact aO9 ht h
end
section
variable {P:Program} {N:Nat} {c:Cx} {ops:Array Oper} {Q Q1:Exit→Act→World→Prop} {rest:List Oper} {o:Oper} {ρ:Env} {M M' M1 M0:Mo} {E E1 F A:Ow} {v u:Value} {X S T R:Type}
  {d:Nat} {od:Option Nat} {ty:TypeId} {pos:String} {after:Array Edge} {gd:Option (Nat×Bool)} {x y:Operand} {t t' e:TypeId} {α:Type} [bB α] {f:FuncId} {args:List Value}
theorem VL.guard {op:Op} {j s:Nat} {w:Bool} (hj:(ops[j]?).bind (·.dst)=some s) (hb:ρ.get s=some (.bool w))
    (k:VL P N c ops Q (⟨od,op,ty,pos,after,none⟩::rest) ρ M E):VL P N c ops Q (⟨od,op,ty,pos,after,some (j,w)⟩::rest) ρ M E:=fun a w' x y=>by
  have h:=k a w' x y
  unfold wpList at h ⊢
  rw [if_pos (by rw [AN hj x hb _ rfl]; simp)]
  rw [if_pos (by rfl)] at h
  exact h
inductive S4 (P:Program) (ρ:Env) (M:Mo) (E:Ow):List ResultVar→List Value→Prop
  | nil:S4 P ρ M E [] []
  | tmp {t:Nat} {v:Value} {rs:List ResultVar} {vs:List Value} (h:ρ.get t=some v) (r:S4 P ρ M E rs vs):S4 P ρ M E (.tmp t::rs) (v::vs)
  | cell {t b n:Nat} {T:TypeId} {cs:List Value} {rs:List ResultVar} {vs:List Value} (hT:rO P T n) (h:ρ.get t=some (ptr b 0)) (hn:cs.length=n) (hb:Rd M E b 0 cs) (r:S4 P ρ M E rs vs):S4 P ρ M E (.cell t T::rs) (.agg cs.toArray::vs)
  | cell1 {t b:Nat} {T:TypeId} {v:Value} {rs:List ResultVar} {vs:List Value} (hT:OneCell P T) (h:ρ.get t=some (ptr b 0)) (hb:Rd M E b 0 [v]) (r:S4 P ρ M E rs vs):S4 P ρ M E (.cell t T::rs) (v::vs)
theorem aEo {β γ:Type} (g:β→Sem γ) (w:World) : ∀ (l:List β) (r:List γ),(∀ (i:Nat) (x:β) (y:γ),l[i]? = some x→r[i]? = some y→(g x).run P w = .ok y w)→l.length=r.length→(l.mapM g).run P w = .ok r w
  | [],[],_,_=>by simp
  | [],_::_,_,h=>by simp at h
  | _::_,[],_,h=>by simp at h
  | x::l,y::r,h,hl=>by
    have ih:=aEo g w l r (fun i=>h (i+1)) (by simpa using hl)
    rw [List.mapM_cons]
    simp only [Sem.run_bind,h 0 x y rfl rfl,Result.andThen_ok,ih,Sem.run_pure]
theorem S4.len {rs:List ResultVar} {vs:List Value} (h:S4 P ρ M E rs vs):rs.length=vs.length:=by induction h <;> simp_all
theorem S4.run {rs:List ResultVar} {vs:List Value} (h:S4 P ρ M E rs vs) {a:Act} {w:World} (g:rW N ρ a) (s:St c M E w) : ∀ (i:Nat) (x:ResultVar) (y:Value),rs[i]? = some x→vs[i]? = some y →
 ((match x with
 | .tmp t=>pure (a.tmps.getD t undef)
 | .cell b t=>do loadVar t (← asAddr (a.tmps.getD b undef)):Sem Value)).run P w = .ok y w:=by
 induction h with
 | nil=>intro i x y hx; simp at hx
 | tmp h r ih =>
   intro i x y hx hy
   cases i with
   | zero=>simp only [List.getElem?_cons_zero,Option.some.injEq] at hx hy; subst hx; subst hy; simp [g.tmp h]
   | succ i=>exact ih i x y (by simpa using hx) (by simpa using hy)
 | @cell t b n T cs rs vs hT h hn hb r ih =>
   intro i x y hx hy
   cases i with
   | zero =>
     simp only [List.getElem?_cons_zero,Option.some.injEq] at hx hy; subst hx; subst hy
     have hl:=run_loadCells_list (P:=P) w ⟨b,0,none⟩ cs (fun j u hj=>by rw [nM]; exact hb.cell s hj)
     have hlv:(loadVar T ⟨b,0,none⟩).run P w = .ok (.agg cs.toArray) w:=by
       simp only [loadVar,Sem.run_bind,(hT w).1,(hT w).2,Result.andThen_ok,if_true,← hn,hl,Sem.run_pure]
     have ha:(asAddr (ptr b 0)).run P w = .ok ⟨b,0,none⟩ w:=rfl
     simp only [g.tmp h,Sem.run_bind,ha,Result.andThen_ok,hlv]
   | succ i=>exact ih i x y (by simpa using hx) (by simpa using hy)
 | @cell1 t b T v rs vs hT h hb r ih =>
   intro i x y hx hy
   cases i with
   | zero =>
     simp only [List.getElem?_cons_zero,Option.some.injEq] at hx hy; subst hx; subst hy
     have hc:=hb.cell s (j:=0) rfl
     simp only [Nat.add_zero] at hc
     have hlv:(loadVar T ⟨b,0,none⟩).run P w = .ok v w:=by
       simp only [loadVar,Sem.run_bind,hT w,Result.andThen_ok]
       simp [load,Sem.run,hc,go_sem]
     have ha:(asAddr (ptr b 0)).run P w = .ok ⟨b,0,none⟩ w:=rfl
     simp only [g.tmp h,Sem.run_bind,ha,Result.andThen_ok,hlv]
   | succ i=>exact ih i x y (by simpa using hx) (by simpa using hy)
def aOf:List Value→Value
  | [v]=>v
  | vs => .tuple vs.toArray
theorem a8X {fn:Func} {val:X→Value} {φ:X→Prop} {M2:X→Mo} {E2:X→Ow} {rs:List ResultVar} {vs:List Value} {y:Exit} (hy:y = .normal∨y = .ret) (hres:fn.results=rs.toArray) (hv:S4 P ρ M E rs vs) (x:X) (hx:aOf vs=val x) (hφ:φ x) (h1 : ∀ h,M.on h→(M2 x).on h) (h2 : ∀ e,E e→E2 x e) :
    ∀ a w,rW N ρ a→St c M E w→bodyPost P fn (fun en w' => ∃ r,en = .returned r∧Post val φ M2 E2 c r w') y a w:=fun a w g s=>by
  refine PI hy (v:=aOf vs) ?_ g.defers ⟨_,rfl,x,hx,hφ,s.mono h1 h2⟩
  unfold results
  rw [hres]
  have h:=aEo (P:=P) _ w rs vs (hv.run g s) hv.len
  simp only [List.mapM_toArray,Sem.run_bind,Sem.run_map]
  erw [h]
  simp only [Result.andThen_ok,Sem.run_pure]
  congr 1
  cases vs with
  | nil=>rfl
  | cons v vs=>cases vs <;> simp [aOf]
end
end Go.V
end

section
namespace Go.V
open Go.RowKit
section
variable {P:Program} {t t' e:TypeId}
theorem aM2 {w:World} {ts:TypeId} {i:TypeInfo} (hu:P.underlying t=some (.slice e)) (hs:P.underlying t'=some .string) (hi:P.info? e=some i) (hsz:i.size=1) (a:Option Addr) (n c:Nat) (hlc:n≤c) :
 (Builtin.append_ #[t,t'] ts #[.slice a n c,.string ⟨⟨[]⟩⟩]).run P w = .ok (.slice a n c) w:=by
 have hf:=Lib.run_firstCells_string (P:=P) w 1 ⟨⟨[]⟩⟩
 have h0:(⟨⟨[]⟩⟩:ByteArray).size=0:=rfl
 rw [h0] at hf
 cases a <;> simp [Builtin.append_,run_underlying hu,run_underlying hs,sizeOf,typeInfo,hi,hsz,Builtin.lenOf,h0,hlc,hf,Lib.strCells,storeCells]
end
open Go.S
instance:bB UInt8:=⟨1,fun u=>[.int .u8 u.toNat],fun _=>rfl,fun _ _ h=>by cases List.mem_singleton.1 h; rfl,fun _=>Mo.tt⟩
instance:Flat UInt8:=⟨fun _=>rfl⟩
theorem aJR (l:bI):l.flatMap (bB.enc (α:=UInt8))=Lib.strCells ⟨⟨l⟩⟩:=by
 unfold Lib.strCells
 induction l with
 | nil=>rfl
 | cons x r ih=>simp only [List.flatMap_cons,ih]; rfl
section
variable {P:Program} {N:Nat} {c:Cx} {ops:Array Oper} {Q Q1:Exit→Act→World→Prop} {rest:List Oper} {o:Oper} {ρ:Env} {M M' M1 M0:Mo} {E E1 F A:Ow} {v u:Value} {X S T R:Type}
  {d:Nat} {od:Option Nat} {ty:TypeId} {pos:String} {after:Array Edge} {gd:Option (Nat×Bool)} {x y:Operand} {t t' e tb:TypeId} {f:FuncId} {args:List Value}
theorem aSV {w:World} {h z:Hp} {s:Sv UInt8} {r:bI} {ts:TypeId} {i:TypeInfo} (hu:P.underlying t=some (.slice e)) (hs:P.underlying t'=some .string) (hi:P.info? e=some i) (hz:i.zero=some (.int .u8 0)) (hsz:i.size=1) (hby:i.bytes=1)
 (hoff:h.off z) (l:h.le (wh w)) (k:z.le (wh w)) (ho:s.own e z) (hlen:s.l.length+r.length≤4294967296) :
 ∃ (s':Sv UInt8) (w':World),(Builtin.append_ #[t,t'] ts #[s.val,str r]).run P w = .ok s'.val w'∧s'.l=s.l++r∧((s.c=0→s.a=none)→s'.c=0→s'.a=none)∧St ⟨w,h,fun b=>z b≠none⟩ Mo.tt (s'.own e) w':=by
 have hmax:s.l.length+r.length≤maxLen:=by unfold maxLen; omega
 have hd:bB.sz UInt8=1:=rfl
 have hrs:(⟨⟨r⟩⟩:ByteArray).size=r.length:=rfl
 obtain ⟨hlc,hcm,hcase⟩:=ho
 by_cases hr0:r=[]
 ·
  have hrun:(Builtin.append_ #[t,t'] ts #[s.val,str r]).run P w = .ok s.val w:=by
    rw [hr0]; exact aM2 hu hs hi hsz _ _ _ hlc
  refine ⟨s,w,hrun,by simp [hr0],fun q=>q,?_⟩
  rcases hcase with ⟨hl,hc⟩ | ⟨g,cur,ha,hg,hcs,ht⟩
  ·
   exact ⟨⟨h,Hp.nil,trivial,⟨hlc,hcm,.inl ⟨hl,hc⟩⟩,Hp.EA _,l,(fun b p hb=>by cases hb),Hp.le.refl h,(fun b hb => .inl hb),(fun b hb=>absurd rfl hb)⟩,fun b _ _=>rfl,rfl,rfl,rfl,Nat.le_refl _⟩
  exact St.SK (A:=s.own e) hg hoff trivial l ⟨hlc,hcm,.inr ⟨g,cur,ha,Hp.jS _ _,hcs,ht⟩⟩ rfl (k _ _ hg) (fun _ _=>rfl) rfl rfl rfl
 have hrp:0 < r.length:=List.length_pos_iff.2 hr0
 have hcap : ∀ old,s.l.length+r.length≤grownCap w (s.l.length+r.length) old e∧grownCap w (s.l.length+r.length) old e≤maxLen:=fun old=>⟨grownCap_ge _ _ _ _,grownCap_le_maxLen _ _ _ _ hmax⟩
 have hz1:(Value.int IntKind.u8 0).cells.size=1:=rfl
 have hgrown : ∀ old,St ⟨w,h,fun b=>z b≠none⟩ Mo.tt ((⟨some ⟨w.heap.size,0,none⟩,grownCap w (s.l.length+r.length) old e,s.l++r⟩:Sv UInt8).own e)
     (w.drew.alloc (.cells ((s.l.flatMap bB.enc).toArray++(Lib.strCells ⟨⟨r⟩⟩).toArray++Builtin.zeroCells (Value.int .u8 0).cells (grownCap w (s.l.length+r.length) old e - (s.l.length+r.length))) e)):=fun old=>by
   rw [← aJR]
   refine St.T0 (A:=Sv.own _ e) (o := .cells ((s.l.flatMap bB.enc).toArray++(r.flatMap bB.enc).toArray++Builtin.zeroCells (Value.int .u8 0).cells (grownCap w (s.l.length+r.length) old e - (s.l.length+r.length))) e) ?_ trivial l ((Gr.drew w).trans (Gr.alloc w.drew _)) (heap_alloc_new w.drew _)
   refine ⟨by simpa using (hcap old).1,(hcap old).2,.inr ⟨_,_,rfl,Hp.jS _ _,?_,?_⟩⟩
   . simp only [Array.size_append,List.size_toArray,size_zeroCells,hz1,hd,gI,Nat.mul_one]
     have:=(hcap old).1
     omega
   . have e1:(s.l++r).length*bB.sz UInt8=((s.l.flatMap bB.enc)++(r.flatMap bB.enc)).length:=by rw [List.length_append,List.length_append,gI,gI,Nat.add_mul]
     simp only [Array.toList_append,e1]
     rw [List.take_left]
     simp
 rcases hcase with ⟨hl,hc⟩ | ⟨g,cur,ha,hg,hcs,ht⟩
 ·
  have hg0:=hgrown 0
  rw [hl] at hg0 hcap
  simp only [List.flatMap_nil,List.length_nil,Nat.zero_add,List.nil_append,Array.empty_append] at hg0 hcap
  refine ⟨⟨some ⟨w.heap.size,0,none⟩,grownCap w r.length 0 e,r⟩,_,?_,by rw [hl]; rfl,fun _ q=>by have:=(hcap 0).1; simp only at q; omega,hg0⟩
  cases hsa:s.a with
  | none =>
    have hsv:s.val = .slice none 0 0:=by unfold Sv.val; rw [hsa,hl,hc]; rfl
    have hrun:=run_append_nil_string (P:=P) w t t' ts e i (.int .u8 0) hu hs hi hz ⟨⟨r⟩⟩ (by rw [hrs]; omega) (by rw [hrs]; omega) (by rw [hrs,hby]; omega)
    have e1:((⟨⟨r⟩⟩:ByteArray).data.map fun b=>Value.int .u8 b.toNat)=(Lib.strCells ⟨⟨r⟩⟩).toArray:=by
      apply Array.ext'
      simp [Lib.strCells]
    rw [e1,hrs] at hrun
    rw [hsv]
    exact hrun
  | some ad =>
    have hsv:s.val = .slice (some ad) 0 0:=by unfold Sv.val; rw [hsa,hl,hc]; rfl
    have hrun:=Lib.run_append_grow_string (P:=P) w t t' ts e i (.int .u8 0) hu hs hi hz ad 0 0 [] (by simp) (fun j v hj=>by simp at hj) ⟨⟨r⟩⟩ (by rw [hrs]; omega) (by rw [hrs]; omega) (by rw [hrs,hby]; exact growslice_fits (by omega) (by omega))
    rw [hrs] at hrun
    rw [hsv]
    simpa [Sv.val] using hrun
 have hsv:s.val = .slice (some ⟨g,0,none⟩) s.l.length s.c:=by unfold Sv.val; rw [ha]
 have hwg:w.heap[g]? = some (.cells cur e (0,0)):=k _ _ hg
 rw [hd,Nat.mul_one] at hcs ht
 by_cases hroom:s.l.length+r.length≤s.c
 ·
  have hrun:=Lib.run_append_room_string (P:=P) w t t' ts e i hu hs hi hsz g s.l.length s.c cur hwg ⟨⟨r⟩⟩ (by rw [hrs]; exact hroom) (by rw [hrs]; omega)
  rw [hrs] at hrun
  refine ⟨⟨some ⟨g,0,none⟩,s.c,s.l++r⟩,w.setRow g (cur.toList.take s.l.length++Lib.strCells ⟨⟨r⟩⟩++cur.toList.drop (s.l.length+r.length)).toArray,?_,rfl,fun _ q=>by simp only at q; omega,?_⟩
  ·
   rw [hsv]; simpa [Sv.val] using hrun
  refine St.SK (A:=Sv.own _ e) (b:=g) hg hoff trivial l ⟨by simpa using hroom,hcm,.inr ⟨g,_,rfl,Hp.jS _ _,?_,?_⟩⟩ (by simp [World.setRow]) (setRow_heap w g cur _ e _ hwg) (fun j hj=>setRow_other w g j _ hj) rfl rfl rfl
  ·
   simp only [List.size_toArray,List.length_append,List.length_take,List.length_drop,Array.length_toList,Lib.strCells_length,hd]
   rw [hrs]
   omega
  rw [ht,← aJR]
  have e1:(s.l++r).length*bB.sz UInt8=((s.l.flatMap bB.enc)++(r.flatMap bB.enc)).length:=by rw [List.length_append,List.length_append,gI,gI,Nat.add_mul]
  simp only [e1]
  rw [List.take_left]
  simp
 have holds : ∀ j v,(s.l.flatMap bB.enc)[j]? = some v→w.cell? ((⟨g,0,none⟩:Addr).add j)=some v:=fun j v hj=>by
   rw [nM]
   have hb':s.b=g:=by simp [Sv.b,ha]
   have ho':s.o=0:=by simp [Sv.o,ha]
   have hown:s.own e z:=⟨hlc,hcm,.inr ⟨g,cur,ha,hg,by rw [hd,Nat.mul_one]; exact hcs,by rw [hd,Nat.mul_one]; exact ht⟩⟩
   have:=QB (h:=z) (b:=s.b) (o:=s.o) (fun i x hx=>Sv.JS hown hx) (by decide) j v hj
   rw [hb',ho'] at this
   exact tQ k this
 have hrun:=Lib.run_append_grow_string (P:=P) w t t' ts e i (.int .u8 0) hu hs hi hz ⟨g,0,none⟩ s.l.length s.c (s.l.flatMap bB.enc) (by rw [gI,hsz]; rfl) holds ⟨⟨r⟩⟩ (by rw [hrs]; omega) (by rw [hrs]; omega) (by rw [hrs,hby]; exact growslice_fits (by omega) (by omega))
 rw [hrs] at hrun
 refine ⟨⟨some ⟨w.heap.size,0,none⟩,grownCap w (s.l.length+r.length) s.c e,s.l++r⟩,_,?_,rfl,fun _ q=>by have:=(hcap s.c).1; simp only at q; omega,hgrown s.c⟩
 rw [hsv]
 simpa [Sv.val] using hrun
theorem VL.a4U {s:Sv UInt8} {r:bI} {xs:List Operand} (hu:P.underlying t=some (.slice e)) (hs:P.underlying t'=some .string) (hi:((P.info? e).map fun i=>(i.size,i.bytes,i.zero))=some (1,1,some (.int .u8 0)))
 (ha:ρ.lH xs=some [s.val,str r]) (hE:nC E (s.own e) F) (hlen:s.l.length+r.length≤4294967296) (hd:d < N)
 (k : ∀ s':Sv UInt8,s'.l=s.l++r→((s.c=0→s.a=none)→s'.c=0→s'.a=none)→VL P N c ops Q rest ((d,s'.val)::ρ) M (Ow.star (s'.own e) F)) :
 VL P N c ops Q (⟨some d,.call { callee := .builtin .append,args:=xs.toArray,argTypes := #[t,t']},ty,pos,after,none⟩::rest) ρ M E:=by
 cases hj:P.info? e with
 | none=>rw [hj] at hi; cases hi
 | some j =>
   rw [hj] at hi
   simp only [Option.map_some,Option.some.injEq,Prod.mk.injEq] at hi
   obtain ⟨h1,h2,h3⟩:=hi
   . refine VL.big (X:=Sv UInt8) (φ:=fun s'=>s'.l=s.l++r∧((s.c=0→s.a=none)→s'.c=0→s'.a=none)) (val:=Sv.val) (M2:=fun _=>Mo.tt) (A2:=fun s'=>s'.own e) hE (fun a w h z g hoff m hA l kk => ?_) hd fun s' hs'=>VL.strip (k s' hs'.1 hs'.2)
     obtain ⟨s',w',q1,q2,q3,q4⟩:=aSV (P:=P) (ts:=ty) hu hs hj h3 h1 h2 hoff l kk hA hlen
     refine ⟨s'.val,w',?_,s',⟨q2,q3⟩,rfl,q4⟩
     simp only [execOp,resolve,List.map_toArray,g.lH ha,Sem.run_bind,Sem.run_pure,Result.andThen_ok,invoke,builtin,q1]
theorem aEe (op:BinOp) (a b:Option Addr) (w:World):(eqGuard op t x y (.pointer a) (.pointer b)).run P w = .ok () w:=by
 unfold eqGuard
 cases op <;> simp [go_sem] <;> rfl
theorem aMX (e1:ρ.ev x=some v) (h : ∀ a w,rW N ρ a→St c M E w→(convert t t' v).run P w = .ok u w):Qt P N c ⟨od,.convert t t' x,ty,pos,after,gd⟩ u ρ M E:=Qt.of_run fun a w g s=>by
  simp only [execOp,g.ev e1,Sem.run_bind,h a w g s,Result.andThen_ok,Sem.run_pure]
theorem aWi {xs:List Operand} {ts:Array TypeId} {f:FuncId} {vs:List Value} (ha:ρ.lH xs=some vs) (h : ∀ w,(callFunc f vs.toArray).run P w = .ok (.value v) w):Qt P N c ⟨od,.call { callee := .value (.func f),args:=xs.toArray,argTypes:=ts },ty,pos,after,gd⟩ v ρ M E:=Qt.of_run fun a w g s=>by
  have e:=g.lH ha
  subst e
  simp [execOp,resolve,Act.eval,Deferred.ofValue,invoke,h]
theorem aWm {s:Sv UInt8} {xs:List Operand} {ts:Array TypeId} (ha:ρ.lH xs=some [s.val]) (hc:s.c=0→s.a=none):Qt P N c ⟨od,.call { callee := .builtin .unsafeSliceData,args:=xs.toArray,argTypes:=ts },ty,pos,after,gd⟩ (.pointer s.a) ρ M E:=Qt.of_run fun a w g _=>by
  have h:(Builtin.unsafeSliceData_ ts ty #[s.val]).run P w = .ok (.pointer s.a) w:=by
    unfold Sv.val
    cases ha:s.a with
    | none=>rfl
    | some q =>
      obtain ⟨k,hk⟩ : ∃ k,s.c=k+1:=⟨s.c - 1,by
        have:s.c≠0:=fun e=>by have:=hc e; rw [ha] at this; cases this
        omega⟩
      rw [hk]; rfl
  simp only [execOp,resolve,List.map_toArray,g.lH ha,Sem.run_bind,Sem.run_pure,Result.andThen_ok,invoke,builtin,h]
theorem VL.aX4 {s:Sv UInt8} {xs:List Operand} {pt it:TypeId} (ha:ρ.lH xs=some [.pointer s.a,i64 s.l.length]) (hE:nC E (s.own e) F) (hd:d < N)
 (H : ∀ w (h z:Hp),h.off z→h.le (wh w)→z.le (wh w)→s.own e z → ∃ w',(Builtin.unsafeString_ #[pt,it] ty #[.pointer s.a,i64 s.l.length]).run P w = .ok (str s.l) w'∧St ⟨w,h,fun b=>z b≠none⟩ Mo.tt Ow.emp w')
 (k:VL P N c ops Q rest ((d,str s.l)::ρ) M F):VL P N c ops Q (⟨some d,.call { callee := .builtin .unsafeString,args:=xs.toArray,argTypes := #[pt,it]},ty,pos,after,none⟩::rest) ρ M E:=by
 refine VL.big (X:=Unit) (φ:=fun _=>True) (val:=fun _=>str s.l) (M2:=fun _=>Mo.tt) (A2:=fun _=>Ow.emp) hE (fun a w h z g hoff m hA l kk => ?_) hd fun _ _=>VL.strip (VL.drop nC.head k)
 obtain ⟨w',q1,q2⟩:=H w h z hoff l kk hA
 refine ⟨str s.l,w',?_,(),trivial,rfl,q2⟩
 simp only [execOp,resolve,List.map_toArray,g.lH ha,Sem.run_bind,Sem.run_pure,Result.andThen_ok,invoke,builtin,q1]
def Bd (T e:TypeId) (b:Nat) (l:bI):Ow:=fun z => ∃ (p:Value) (s:Sv UInt8),(p = .pointer none∨p=ptr b 0)∧s.l=l∧(s.c=0→s.a=none)∧Ow.star (bM b [p,s.val] T) (s.own e) z
theorem Bd.mk {T e:TypeId} {b:Nat} {l:bI} {p:Value} {s:Sv UInt8} (h1:p = .pointer none∨p=ptr b 0) (h2:s.l=l) (h3:s.c=0→s.a=none) {z:Hp} (h:Ow.star (bM b [p,s.val] T) (s.own e) z):Bd T e b l z:=⟨p,s,h1,h2,h3,h⟩
theorem Ct.exE {P:Program} {f:FuncId} {args:List Value} {M:Mo} {S X:Type} {φ0:S→Prop} {E0:S→Ow} {val:X→Value} {φ:X→Prop} {M2:X→Mo} {E2:X→Ow} (he : ∀ (xs:Array Value) (w:World),(callFunc f xs).run P w = .ok (.enter f xs) w)
    (h : ∀ s,φ0 s→Ct P f args M (E0 s) val φ M2 E2):Ct P f args M (fun z => ∃ s,φ0 s∧E0 s z) val φ M2 E2:=⟨he,fun w hp e m ⟨s,q,ee⟩=>(h s q).calls w hp e m ee⟩
theorem Ct.aVi {P:Program} {f:FuncId} {args:List Value} {M:Mo} {X:Type} {E0 E1:Ow} {val:X→Value} {φ:X→Prop} {M2:X→Mo} {E2:X→Ow} (h:Ct P f args M E1 val φ M2 E2) (hE : ∀ z,E0 z→E1 z):Ct P f args M E0 val φ M2 E2:=⟨h.entry,fun w hp e m ee=>h.calls w hp e m (hE e ee)⟩
theorem aFZ {xs:List Operand} {a:Act} {w:World} {ts:Array TypeId} {f:FuncId} {vs caps:List Value} (hf : ∀ (xs:Array Value) (w:World),(callFunc f xs).run P w = .ok (.enter f xs) w) (hx:a.eval x = .func (.func f) #[] caps.toArray) (ha:xs.map a.eval=vs) :
 (execOp a.eval ⟨od,.call { callee := .value x,args:=xs.toArray,argTypes:=ts },ty,pos,after,gd⟩).run P w = .ok (.enter f (vs++caps).toArray) w:=by
 subst ha
 simp [execOp,resolve,hx,Deferred.ofValue,invoke,hf]
theorem sQ {φ:X→Prop} {val:X→Value} {M2:X→Mo} {E2:X→Ow} {xs:List Operand} {ts:Array TypeId} {f:FuncId} {vs caps:List Value} (h:Ct P f (vs++caps) M1 Ow.emp val φ M2 E2) (hx:ρ.ev x=some (.func (.func f) #[] caps.toArray)) (ha:ρ.lH xs=some vs) [i:S3 M E M1] (hv : ∀ y,φ y→val y=v) :
    Qt P N c ⟨od,.call { callee := .value x,args:=xs.toArray,argTypes:=ts },ty,pos,after,gd⟩ v ρ M E:=fun a w g s=>by
  unfold Oper.quietAt
  rw [aFZ h.entry (g.ev hx) (g.lH ha)]
  exact ⟨rfl,h.gr i.out s hv⟩
theorem VL.M7 {φ:X→Prop} {val:X→Value} {M2:X→Mo} {E2:X→Ow} {xs:List Operand} {ts:Array TypeId} {f:FuncId} {vs caps:List Value} (h:Ct P f (vs++caps) M1 E1 val φ M2 E2) (hx:ρ.ev x=some (.func (.func f) #[] caps.toArray)) (ha:ρ.lH xs=some vs) [i:dM M M1] [j:Fo E E1 F] (hd:d < N)
    (k : ∀ x,φ x→VL P N c ops Q rest ((d,val x)::ρ) ((M2 x).and M) (Ow.star (E2 x) F)) :
    VL P N c ops Q (⟨some d,.call { callee := .value x,args:=xs.toArray,argTypes:=ts },ty,pos,after,none⟩::rest) ρ M E:=fun a w g s =>
  wpList_plain rfl fun K hK=>by
    unfold Oper.wp
    rw [aFZ h.entry (g.ev hx) (g.lH ha)]
    simp only [Oper.upon]
    exact (h.at i.out j.out s).mono fun en w' ⟨r,e1,z,e2,e3,e4⟩=>by subst e1; subst e2; exact hK _ _ (k z e3 _ _ (g.put hd _) e4)
theorem Ct.atR {P:Program} {f:FuncId} {args:List Value} {val:X→Value} {φ:X→Prop} {E2:X→Ow} (h:Ct P f args M1 Ow.emp val φ (fun _=>Mo.tt) E2) (hM : ∀ h e,h.off e→M.on h→E e→M1.on (h.join e)) {w:World} (s:St c M E w) :
 Calls P f args.toArray w fun en w' => ∃ r,en = .returned r ∧ ∃ x,r=val x∧φ x∧St c M (Ow.star (E2 x) E) w':=by
 have s0:=s
 obtain ⟨⟨hp,e,m,ee,d,l,k,h0,hr,er⟩,fr,os,tp,out,sz⟩:=s
 refine (h.calls w (hp.join e) Hp.nil (hM _ _ d m ee) trivial (Hp.EA _) (Hp.join_le l k) (fun b o q=>by cases q)).mono fun en w' ⟨r,e1,z,e2,e3,e4⟩=>⟨r,e1,z,e2,e3,?_⟩
 obtain ⟨⟨h',e',_,ee',d',l',k',hh,hn,en'⟩,fr',os',tp',out',sz'⟩:=e4
 simp only at fr' os' tp' out' sz' hh hn en'
 have old : ∀ b o,hp.join e b=some o→b < w.heap.size:=fun b o q=>(Array.getElem?_eq_some_iff.1 (Hp.join_le l k b o q)).1
 have keep : ∀ b o,hp.join e b=some o→wh w' b=some o:=fun b o q=>by
   unfold wh
   rw [fr' b (old b o q) (by simp [Hp.nil])]
   exact Hp.join_le l k b o q
 have new : ∀ b,e' b≠none→w.heap.size≤b:=fun b q=>(en' b q).elim (fun x=>absurd rfl x) id
 have eoff:e'.off e:=fun b=>by
   cases he:e b with
   | none=>exact .inr rfl
   | some o =>
     left
     cases he':e' b with
     | none=>rfl
     | some o' =>
       have:=new b (by rw [he']; simp)
       have h2:hp.join e b=some o:=Hp.fS d b o he
       have:=old b o h2
       omega
 refine ⟨⟨hp,e'.join e,m,⟨e',e,eoff,rfl,ee',ee⟩,fun b => ?_,fun b o q=>keep b o (Hp.cU hp e b o q),Hp.join_le k' (fun b o q=>keep b o (Hp.fS d b o q)),h0,hr,fun b hb => ?_⟩,fun b hb hd => ?_,os'.trans os,tp'.trans tp,out'.trans out,Nat.le_trans sz sz'⟩
 ·
  cases hb:hp b with
  | none=>exact .inl rfl
  | some o =>
    right
    refine Hp.join_none.2 ⟨?_,?_⟩
    . cases he':e' b with
      | none=>rfl
      | some o' =>
        have:=new b (by rw [he']; simp)
        have:=old b o (Hp.cU hp e b o hb)
        omega
    . rcases d b with q | q
      . rw [hb] at q; cases q
      . exact q
 ·
  by_cases he:e' b=none
  ·
   exact er b fun q=>hb (Hp.join_none.2 ⟨he,q⟩)
  exact .inr (Nat.le_trans sz (new b he))
 rw [fr' b (Nat.lt_of_lt_of_le hb sz) (by simp [Hp.nil])]
 exact fr b hb hd
theorem VL.aDK {φ:X→Prop} {val:X→Value} {E2:X→Ow} {xs:List Operand} {ts:Array TypeId} {f:FuncId} {args:List Value} (h:Ct P f args M1 Ow.emp val φ (fun _=>Mo.tt) E2) (ha:ρ.lH xs=some args) [i:S3 M E M1] (hd:d < N)
    (k : ∀ x,φ x→VL P N c ops Q rest ((d,val x)::ρ) M (Ow.star (E2 x) E)) :
    VL P N c ops Q (⟨some d,.call { callee := .value (.func f),args:=xs.toArray,argTypes:=ts },ty,pos,after,none⟩::rest) ρ M E:=fun a w g s =>
  wpList_plain rfl fun K hK=>by
    unfold Oper.wp
    rw [aBs h.entry (g.lH ha)]
    simp only [Oper.upon]
    exact (h.atR i.out s).mono fun en w' ⟨r,e1,z,e2,e3,e4⟩=>by subst e1; subst e2; exact hK _ _ (k z e3 _ _ (g.put hd _) e4)
theorem VL.a9a {Tb:TypeId} (e:TypeId) (b:Nat) [j:oS E b [.pointer none,.slice none 0 0] Tb F] (k:VL P N c ops Q rest ρ M (Ow.star (Bd Tb e b []) F)):VL P N c ops Q rest ρ M E :=
  VL.mono (fun _ x=>x) (fun z hz=>by
    obtain ⟨x,y,d,q,hx,hy⟩:=j.out z hz
    exact ⟨x,y,d,q,⟨.pointer none,⟨none,0,[]⟩,.inl rfl,rfl,fun _=>rfl,x,Hp.nil,fun _ => .inr rfl,(Hp.join_nil x).symm,hx,Nat.le_refl _,by unfold maxLen; simp,.inl ⟨rfl,rfl⟩⟩,hy⟩) k
end
end Go.V
end

section
namespace Go.V
open Go.RowKit
section
variable {P:Program} {N:Nat} {c:Cx} {ops:Array Oper} {Q Q1:Exit→Act→World→Prop} {rest:List Oper} {o:Oper} {ρ:Env} {M M' M1 M0:Mo} {E E1 F A:Ow} {v u:Value} {X S T R:Type}
  {d:Nat} {od:Option Nat} {ty:TypeId} {pos:String} {after:Array Edge} {gd:Option (Nat×Bool)} {x y:Operand} {t t' e tb:TypeId} {f:FuncId} {args:List Value}
theorem aOa {te:TypeId} {a:Option Addr} (ht:P.underlying t=some (.pointer te)) (e1:ρ.ev x=some (.pointer a)):Qt P N c ⟨od,.binOp .eql t x (.const (.pointer none)) t',ty,pos,after,gd⟩ (.bool a.isNone) ρ M E :=
  pY e1 rfl (aEe _ _ _) fun w=>run_eql_pointer_nil (P:=P) w t a (by rw [ht]; simp [Program.pointee,ht])
theorem a6B {te:TypeId} {j:Nat} {a:Addr} (ht:P.underlying t=some (.pointer te)) (hi:(P.info? te).map (·.size)=some j) (e1:ρ.ev x=some (.pointer (some a))) (e2:ρ.ev y=some (.pointer (some a))):Qt P N c ⟨od,.binOp .neq t x y t',ty,pos,after,gd⟩ (.bool false) ρ M E:=by
 cases hj:P.info? te with
 | none=>rw [hj] at hi; cases hi
 | some i=>exact pY e1 e2 (aEe _ _ _) fun w=>Lib.run_neq_ptr_same (P:=P) w a ht hj
theorem aGo {b:Nat} {cs:List Value} {T:TypeId} [i:BR E b cs T] {w:World} (s:St c M E w):w.shape? b=some (T,cs.length):=by
 obtain ⟨⟨hp,e,m,ee,dd,l,k,_⟩,_⟩:=s
 have h:=k _ _ (i.out e ee)
 simp only [wh] at h
 simp [World.shape?,h]
theorem a6D {te T:TypeId} {n b:Nat} {cs:List Value} (hs:P.underlying t=some (.pointer te)) (hd:P.underlying t'=some .unsafePointer) (ht:(P.info? te).map (·.size)=some (n+1)) (e1:ρ.ev x=some (ptr b 0)) [i:BR E b cs T] (hl:0 < cs.length):Qt P N c ⟨od,.convert t t' x,ty,pos,after,gd⟩ (ptr b 0) ρ M E:=by
 cases hj:P.info? te with
 | none=>rw [hj] at ht; cases ht
 | some j =>
   rw [hj] at ht
   have hz:j.size≠0:=by
     have:j.size=n+1:=by simpa using ht
     omega
   exact aMX e1 fun a w _ s=>Lib.run_to_unsafe w ⟨b,0,none⟩ hs hd hj hz (aGo (i:=i) s) hl
theorem aWj {te T:TypeId} {n b:Nat} {cs:List Value} (hs:P.underlying t=some .unsafePointer) (hd:P.underlying t'=some (.pointer te)) (ht:(P.info? te).map (·.size)=some n) (e1:ρ.ev x=some (ptr b 0)) [i:BR E b cs T] (hl:liesAt P P.depth T (cs.length / P.cellsOf T) 0 te 1=true):Qt P N c ⟨od,.convert t t' x,ty,pos,after,gd⟩ (ptr b 0) ρ M E:=by
 cases hj:P.info? te with
 | none=>rw [hj] at ht; cases ht
 | some j=>exact aMX e1 fun a w _ s=>Lib.run_from_unsafe w ⟨b,0,none⟩ hs hd hj (aGo (i:=i) s) hl
theorem aLI {fn:Func} {xs:List Operand} {ts:Array TypeId} (hf:P.funcs[f]? = some fn) (hname:(fn.name == "runtime.NumGoroutine")=false) (hb:fn.body.isNone=true) (hn:Extern.findNext fn=none) (he:Extern.find fn=some Extern.AbiNoEscape.same) (ha:ρ.lH xs=some [v]) :
    Qt P N c ⟨od,.call { callee := .value (.func f),args:=xs.toArray,argTypes:=ts },ty,pos,after,gd⟩ v ρ M E:=aWi ha fun w=>by
  rw [run_callFunc_extern hf hname hb hn he,Lib.run_noEscape]; rfl
theorem St.aX4 {w:World} {h z:Hp} {s:Sv UInt8} {pt it e:TypeId} (hp:P.underlying pt=some (.pointer e)) (hc:P.cellsOf e=1) (hoff:h.off z) (l:h.le (wh w)) (k:z.le (wh w)) (ho:s.own e z) :
 ∃ w',(Builtin.unsafeString_ #[pt,it] ty #[.pointer s.a,i64 s.l.length]).run P w = .ok (str s.l) w'∧St ⟨w,h,fun b=>z b≠none⟩ Mo.tt Ow.emp w':=by
 by_cases h0:s.l=[]
 ·
  refine ⟨w,?_,⟨⟨h,Hp.nil,trivial,trivial,Hp.EA _,l,(fun b p hb=>by cases hb),Hp.le.refl h,(fun b hb => .inl hb),(fun b hb=>absurd rfl hb)⟩,fun b _ _=>rfl,rfl,rfl,rfl,Nat.le_refl _⟩⟩
  rw [h0]
  exact Lib.run_unsafeString_none w pt it ty s.a
 have ho':=ho
 obtain ⟨hlc,hcm,⟨hl,_⟩ | ⟨g,cur,ha,hg,hcs,ht⟩⟩:=ho
 ·
  exact absurd hl h0
 have hwg:w.heap[g]? = some (.cells cur e (0,0)):=k _ _ hg
 have hd:bB.sz UInt8=1:=rfl
 rw [hd,Nat.mul_one] at hcs
 have hcell : ∀ j x,s.l[j]? = some x→w.cell? ((⟨g,0,none⟩:Addr).add j)=some (.int .u8 x.toNat):=fun j x hx=>by
   have:=Sv.JS ho' hx 0 (.int .u8 x.toNat) rfl
   have hb:s.b=g:=by simp [Sv.b,ha]
   have ho2:s.o=0:=by simp [Sv.o,ha]
   rw [hb,ho2,hd] at this
   rw [nM]
   exact tQ k (by simpa using this)
 have hr:=Lib.run_unsafeString_row (P:=P) w pt it ty e hp hc g cur.size (by simp [World.shape?,hwg]) s.l h0 (by omega) (by unfold maxLen at hcm; omega) hcell
 rw [ha]
 refine ⟨w.freeze ⟨g,0,none⟩ s.l.length,hr,?_⟩
 have hfz:(w.freeze ⟨g,0,none⟩ s.l.length).heap.size=w.heap.size∧(∀ i,i≠g→(w.freeze ⟨g,0,none⟩ s.l.length).heap[i]? = w.heap[i]?)∧(w.freeze ⟨g,0,none⟩ s.l.length).os=w.os∧(w.freeze ⟨g,0,none⟩ s.l.length).tape=w.tape∧(w.freeze ⟨g,0,none⟩ s.l.length).output=w.output:=by
   unfold World.freeze
   split
   . exact ⟨rfl,fun _ _=>rfl,rfl,rfl,rfl⟩
   . refine ⟨by simp,fun i hi => ?_,rfl,rfl,rfl⟩
     simp only [Array.getElem?_modify]
     rw [if_neg (by simpa using Ne.symm hi)]
 obtain ⟨f1,f2,f3,f4,f5⟩:=hfz
 have hne : ∀ i p,h i=some p→i≠g:=fun i p hi q=>by
   subst q
   rcases hoff i with q | q
   . rw [q] at hi; cases hi
   . rw [q] at hg; cases hg
 refine ⟨⟨h,Hp.nil,trivial,trivial,Hp.EA _,fun i p hi => ?_,(fun b p hb=>by cases hb),Hp.le.refl h,(fun b hb => .inl hb),(fun b hb=>absurd rfl hb)⟩,fun i hi hn => ?_,f3,f4,f5,by rw [f1]; exact Nat.le_refl _⟩
 ·
  unfold wh
  rw [f2 i (hne i p hi)]
  exact l i p hi
 exact f2 i fun q=>hn (by show z i≠none; rw [q,hg]; simp)
end
end Go.V
end

section
namespace Go.V
open Go.RowKit
section
variable {P:Program} {N:Nat} {c:Cx} {ops:Array Oper} {Q Q1:Exit→Act→World→Prop} {rest:List Oper} {o:Oper} {ρ:Env} {M M' M1 M0:Mo} {E E1 F A:Ow} {v u:Value} {X S T R:Type}
  {d:Nat} {od:Option Nat} {ty:TypeId} {pos:String} {after:Array Edge} {gd:Option (Nat×Bool)} {x y:Operand} {t t' e tb:TypeId} {f:FuncId} {args:List Value} {k k':IntKind} {m n:Int}
theorem aOc (e1:ρ.ev x=some (.int k m)) (e2:ρ.ev y=some (.int k n)) {z:Int} (hk:k.wrap (m - n)=z):Qt P N c ⟨od,.binOp .sub t x y t',ty,pos,after,gd⟩ (.int k z) ρ M E:=pY e1 e2 (pG _ _ _) fun w=>by
  simp [binOp,Op.intArith,go_sem,hk]
theorem aXB {w:World} {s:Sv UInt8} (hs:P.underlying t=some (.slice e)) (he:P.underlying e=some (.int .u8)) (hd:P.underlying t'=some .string) (ha:s.l≠[]→s.a=some ⟨s.b,s.o,none⟩) (hc : ∀ i x,s.l[i]? = some x→w.cell? ⟨s.b,s.o+i,none⟩=some (.int .u8 x.toNat)) :
 (convert t t' s.val).run P w = .ok (str s.l) w:=by
 unfold Sv.val
 rw [run_convert_bytes_string w t t' e s.a s.l.length s.c hs he hd]
 by_cases hl:s.l=[]
 ·
  rw [hl]
  cases hq:s.a with
  | none=>simp [Conv.bytesToString]; rfl
  | some a=>rw [run_bytesToString w a _ s.c [] (by simp [loadCells,loadCellsFrom,go_sem])]; rfl
 rw [ha hl]
 have hld:(loadCells ⟨s.b,s.o,none⟩ s.l.length).run P w = .ok ((s.l.map fun b=>(b.toNat:Int)).map (Value.int .u8)).toArray w:=by
   have:=run_loadCells_list (P:=P) w ⟨s.b,s.o,none⟩ ((s.l.map fun b=>(b.toNat:Int)).map (Value.int .u8)) (fun j v hj=>by
     rw [nM]
     rw [List.getElem?_map,List.getElem?_map] at hj
     cases hz:s.l[j]? with
     | none=>rw [hz] at hj; cases hj
     | some z=>rw [hz] at hj; cases hj; exact hc j z hz)
   simpa using this
 rw [run_bytesToString w _ _ s.c _ hld,foldl_push_byteCells]
 congr 2
 exact ByteArray.ext (by simp)
theorem aJM {s:Sv UInt8} (hs : ∀ h e,h.off e→M.on h→E e→s.ok.on (h.join e)) {w:World} (st:St c M E w):(s.l≠[]→s.a=some ⟨s.b,s.o,none⟩) ∧ ∀ (i:Nat) x,s.l[i]? = some x→w.cell? ⟨s.b,s.o+i,none⟩=some (.int .u8 x.toNat):=by
 obtain ⟨⟨hp,ee,m,eE,dd,l,k,_⟩,_⟩:=st
 have q:=hs hp ee dd m eE
 refine ⟨q.2.2.1,fun i x hx => ?_⟩
 have:=Sv.aAM q hx 0 (.int .u8 x.toNat) rfl
 have hsz:bB.sz UInt8=1:=rfl
 rw [hsz] at this
 exact tQ (Hp.join_le l k) (by simpa using this)
theorem aWh {s:Sv UInt8} (hs:P.underlying t=some (.slice e)) (he:P.underlying e=some (.int .u8)) (hd:P.underlying t'=some .string) (e1:ρ.ev x=some s.val) [i:S3 M E s.ok]:Qt P N c ⟨od,.convert t t' x,ty,pos,after,gd⟩ (str s.l) ρ M E :=
  aMX e1 fun a w _ st=>by
    obtain ⟨h1,h2⟩:=aJM i.out st
    exact aXB hs he hd h1 h2
end
end Go.V
end

section
namespace Go.S
open Go
def FN (k:IntKind) (x y:Int):Int:=k.wrap (BitVec.ofInt k.bits x &&& BitVec.ofInt k.bits y).toNat
def XN (k:IntKind) (x y:Int):Int:=k.wrap (BitVec.ofInt k.bits x ||| BitVec.ofInt k.bits y).toNat
def M6 (k:IntKind) (x y:Int):Int:=k.wrap (BitVec.ofInt k.bits x ^^^ BitVec.ofInt k.bits y).toNat
def sHl (k:IntKind) (x y:Int):Int:=k.wrap (x*2 ^ min y.toNat k.bits)
def J3 (k:IntKind) (x y:Int):Int:=x.fdiv (2 ^ min y.toNat k.bits)
end Go.S
namespace Go.V
open Go.RowKit Go.S
section
variable {P:Program} {N:Nat} {c:Cx} {ops:Array Oper} {Q Q1:Exit→Act→World→Prop} {rest:List Oper} {o:Oper} {ρ:Env} {M M' M1 M0:Mo} {E E1 F A:Ow} {v u:Value} {X S T R:Type}
  {d:Nat} {od:Option Nat} {ty:TypeId} {pos:String} {after:Array Edge} {gd:Option (Nat×Bool)} {x y:Operand} {t t' e tb:TypeId} {f:FuncId} {args:List Value} {k k':IntKind} {m n:Int}
theorem aMW (e1:ρ.ev x=some (.int k m)) (e2:ρ.ev y=some (.int k n)):Qt P N c ⟨od,.binOp .and t x y t',ty,pos,after,gd⟩ (.int k (FN k m n)) ρ M E:=pY e1 e2 (pG _ _ _) fun w=>by
  simp [binOp,Op.intBits,go_sem,FN]
theorem a4k (e1:ρ.ev x=some (.int k m)) (e2:ρ.ev y=some (.int k n)):Qt P N c ⟨od,.binOp .or t x y t',ty,pos,after,gd⟩ (.int k (XN k m n)) ρ M E:=pY e1 e2 (pG _ _ _) fun w=>by
  simp [binOp,Op.intBits,go_sem,XN]
theorem aWp (e1:ρ.ev x=some (.int k m)) (e2:ρ.ev y=some (.int k n)):Qt P N c ⟨od,.binOp .xor t x y t',ty,pos,after,gd⟩ (.int k (M6 k m n)) ρ M E:=pY e1 e2 (pG _ _ _) fun w=>by
  simp [binOp,Op.intBits,go_sem,M6]
theorem aWo (e1:ρ.ev x=some (.int k m)) (e2:ρ.ev y=some (.int k' n)) (h:0≤n):Qt P N c ⟨od,.binOp .shl t x y t',ty,pos,after,gd⟩ (.int k (sHl k m n)) ρ M E:=pY e1 e2 (pG _ _ _) fun w=>by
  simp [binOp,Op.shift,go_sem,sHl,Int.not_lt.2 h]
theorem aFS (e1:ρ.ev x=some (.int k m)) (e2:ρ.ev y=some (.int k' n)) (h:0≤n):Qt P N c ⟨od,.binOp .shr t x y t',ty,pos,after,gd⟩ (.int k (J3 k m n)) ρ M E:=pY e1 e2 (pG _ _ _) fun w=>by
  simp [binOp,Op.shift,go_sem,J3,Int.not_lt.2 h]
theorem yW {k1 k2:IntKind} (h1:P.underlying t=some (.int k1)) (h2:P.underlying t'=some (.int k2)) (e1:ρ.ev x=some (.int k1 n)):Qt P N c ⟨od,.convert t t' x,ty,pos,after,gd⟩ (.int k2 (k2.wrap n)) ρ M E:=Qt.of_run fun a w g _=>by
  simp only [execOp,g.ev e1]
  simp [convert,run_underlying h1,run_underlying h2,Conv.intToInt,go_sem]
theorem a6A (e1:ρ.ev x=some (.int k m)):Qt P N c ⟨od,.unOp .neg t x,ty,pos,after,gd⟩ (.int k (k.wrap (0 - m))) ρ M E:=Qt.of_run fun a w g _=>by
  simp only [execOp,g.ev e1]; simp [go_sem,Op.unary,Op.intArith]
end
end Go.V
end

section
namespace Go.V
open Go.RowKit Go.S
section
variable {P:Program} {N:Nat} {c:Cx} {ops:Array Oper} {Q Q1:Exit→Act→World→Prop} {rest:List Oper} {o:Oper} {ρ:Env} {M M' M1 M0:Mo} {E E1 F A:Ow} {v u:Value} {X S T R:Type}
  {d:Nat} {od:Option Nat} {ty:TypeId} {pos:String} {after:Array Edge} {gd:Option (Nat×Bool)} {x y:Operand} {t t' e tb:TypeId} {f:FuncId} {args:List Value} {k k':IntKind} {m n:Int}
theorem PV {xs ys:Array Value} {b:Bool} (hg:P.eqGuardType P.depth t=false) (h : ∀ w,(Op.equalIn 10000 t (.agg xs) (.agg ys)).run P w = .ok b w) (e1:ρ.ev x=some (.agg xs)) (e2:ρ.ev y=some (.agg ys)):Qt P N c ⟨od,.binOp .eql t x y t',ty,pos,after,gd⟩ (.bool b) ρ M E:=pY e1 e2 (fun w=>run_eqGuard_agg w .eql t x y xs ys hg) fun w=>by
  rw [run_eql_struct,h w]; rfl
theorem aFT {xs ys:Array Value} {b:Bool} (hg:P.eqGuardType P.depth t=false) (h : ∀ w,(Op.equalIn 10000 t (.agg xs) (.agg ys)).run P w = .ok b w) (e1:ρ.ev x=some (.agg xs)) (e2:ρ.ev y=some (.agg ys)):Qt P N c ⟨od,.binOp .neq t x y t',ty,pos,after,gd⟩ (.bool (!b)) ρ M E:=pY e1 e2 (fun w=>run_eqGuard_agg w .neq t x y xs ys hg) fun w=>by
  rw [run_neq_struct,h w]; rfl
theorem a1S {s s':List UInt8} (e1:ρ.ev x=some (str s)) (e2:ρ.ev y=some (str s')):Qt P N c ⟨od,.binOp .lss t x y t',ty,pos,after,gd⟩ (.bool (Op.bytesLess s s')) ρ M E:=pY e1 e2 (LV _ _ _) fun w=>by
  simp [binOp,Op.stringOp,go_sem]
theorem a1R {s s':List UInt8} (e1:ρ.ev x=some (str s)) (e2:ρ.ev y=some (str s')):Qt P N c ⟨od,.binOp .gtr t x y t',ty,pos,after,gd⟩ (.bool (!(Op.bytesLess s s'||decide (s=s')))) ρ M E:=pY e1 e2 (LV _ _ _) fun w=>by
  have h:(s==s')=decide (s=s'):=TC _ _
  simp [binOp,Op.stringOp,go_sem,h]
end
end Go.V
end

section
namespace Go.S
open Go
noncomputable def ixB (s:List UInt8) (c:Int):Int:=Lib.indexByte s c.toNat.toUInt8
noncomputable def aJP (s:List UInt8) (c:Int):Int:=(Lib.countByte s c.toNat.toUInt8:Nat)
end Go.S
namespace Go.V
open Go.RowKit Go.S
section
variable {P:Program} {N:Nat} {c:Cx} {ops:Array Oper} {Q Q1:Exit→Act→World→Prop} {rest:List Oper} {o:Oper} {ρ:Env} {M M' M1 M0:Mo} {E E1 F A:Ow} {v u:Value} {X S T R:Type}
  {d:Nat} {od:Option Nat} {ty:TypeId} {pos:String} {after:Array Edge} {gd:Option (Nat×Bool)} {x y:Operand} {t t' e tb:TypeId} {f:FuncId} {args:List Value} {k k':IntKind} {m n:Int}
theorem VL.s2b {s:bI} {u:TypeDesc} (hs:P.underlying t=some u) (hu:P.underlying t'=some (.slice e)) (he:P.underlying e=some (.int .u8)) (e1:ρ.ev x=some (str s)) (hlen:s.length≤4294967296) (hd:d < N)
 (kk : ∀ q:Sv UInt8,q.l=s→VL P N c ops Q rest ((d,q.val)::ρ) (q.ok.and M) E):VL P N c ops Q (⟨some d,.convert t t' x,ty,pos,after,none⟩::rest) ρ M E:=by
 refine VL.aKR (S:=Sv UInt8) (val:=Sv.val) (φ:=fun q=>q.l=s) (M2:=fun q=>q.ok) (fun a w h g m l => ?_) hd kk
 have hr:=Lib.run_convert_string_bytes (P:=P) w t t' e ⟨⟨s⟩⟩ hs hu he
 have hsz:(⟨⟨s⟩⟩:ByteArray).size=s.length:=rfl
 have hmax:s.length≤maxLen:=by unfold maxLen; omega
 rw [hsz] at hr
 refine ⟨⟨some ⟨w.heap.size,0,none⟩,grownCap w s.length 0 e,s⟩,Lib.bytesWorld w e ⟨⟨s⟩⟩,.cells (Lib.bytesCells w e ⟨⟨s⟩⟩) e ((Lib.bytesCells w e ⟨⟨s⟩⟩).size,(Lib.bytesCells w e ⟨⟨s⟩⟩).size+1),?_,rfl,⟨?_,?_,?_,by rw [Lib.bytesWorld_size]; omega,fun j hj=>Lib.bytesWorld_at_old w e _ j hj⟩,Lib.bytesWorld_at_new w e _,?_⟩
 ·
  simp only [execOp,g.ev e1,Sem.run_bind,hr,Result.andThen_ok,Sem.run_pure]; rfl
 ·
  simp [Lib.bytesWorld,World.freeze,World.alloc,World.drew,-World.alloc_eq,-World.drew_eq]
 ·
  simp [Lib.bytesWorld,World.freeze,World.alloc,World.drew,-World.alloc_eq,-World.drew_eq]
 ·
  simp [Lib.bytesWorld,World.freeze,World.alloc,World.drew,-World.alloc_eq,-World.drew_eq]
 have hblk:(h.join (Hp.one w.heap.size (.cells (Lib.bytesCells w e ⟨⟨s⟩⟩) e ((Lib.bytesCells w e ⟨⟨s⟩⟩).size,(Lib.bytesCells w e ⟨⟨s⟩⟩).size+1)))) w.heap.size=some (.cells (Lib.bytesCells w e ⟨⟨s⟩⟩) e ((Lib.bytesCells w e ⟨⟨s⟩⟩).size,(Lib.bytesCells w e ⟨⟨s⟩⟩).size+1)):=by
   have hh:h w.heap.size=none:=by
     cases hb:h w.heap.size with
     | none=>rfl
     | some p=>have:=(Array.getElem?_eq_some_iff.1 (l _ p hb)).1; omega
   unfold Hp.join
   rw [hh,Hp.jS]
 refine ⟨grownCap_ge _ _ _ _,grownCap_le_maxLen _ _ _ _ hmax,fun _=>by simp [Sv.b,Sv.o],fun i z hz => ?_,fun _ _=>trivial⟩
 intro j v hj
 have hd1:bB.sz UInt8=1:=rfl
 have hj0:j=0:=by
   cases j with
   | zero=>rfl
   | succ j=>simp [bB.enc] at hj
 subst hj0
 have hv:v = .int .u8 z.toNat:=by simp [bB.enc] at hj; exact hj.symm
 subst hv
 have hi:=(List.getElem?_eq_some_iff.1 hz).1
 simp only at hz hi
 have hzz:=(List.getElem?_eq_some_iff.1 hz).2
 have hcell:(Lib.bytesCells w e ⟨⟨s⟩⟩)[i]? = some (.int .u8 z.toNat):=by
   simp only [Lib.bytesCells,Array.getElem?_append]
   simp [hi,hzz]
 show (h.join _).cell w.heap.size (0+i*1+0)=_
 unfold Hp.cell
 rw [hblk]
 simpa using hcell
theorem aGn {fn:Func} {ex:Array Value→Sem Value} {xs:List Operand} {vs:List Value} {ts:Array TypeId} (hf:P.funcs[f]? = some fn) (hname:(fn.name == "runtime.NumGoroutine")=false) (hb:fn.body.isNone=true) (hn:Extern.findNext fn=none) (he:Extern.find fn=some ex) (ha:ρ.lH xs=some vs) (h : ∀ w:World,(ex vs.toArray).run P w = .ok v w) :
    Qt P N c ⟨od,.call { callee := .value (.func f),args:=xs.toArray,argTypes:=ts },ty,pos,after,gd⟩ v ρ M E:=aWi ha fun w=>by
  rw [run_callFunc_extern hf hname hb hn he,h w]; rfl
theorem a68 {P:Program} (s:bI) (c:Int) (w:World):(Extern.BytealgIndexByte.indexByte #[str s,.int .u8 c]).run P w = .ok (i64 (ixB s c)) w:=Lib.run_indexByteString ⟨⟨s⟩⟩ c w
theorem a1z {P:Program} (s:bI) (c:Int) (w:World):(Extern.BytealgCount.count #[str s,.int .u8 c]).run P w = .ok (i64 (aJP s c)) w:=Lib.run_countString ⟨⟨s⟩⟩ c w
theorem aA7 {g:FuncId} {xs:List Operand} {vs:List Value} (ha:ρ.lH xs=some vs):Qt P N c ⟨od,.makeFunc (.func g) #[] xs.toArray,ty,pos,after,gd⟩ (.func (.func g) #[] vs.toArray) ρ M E:=Qt.of_run fun a w h _=>by
  have e:=h.lH ha
  subst e
  simp [execOp,Instr.makeFunc]
theorem aJ3 {K:Act→World→Prop} {a:Act} {w:World} {i:Nat} {op:Op} (hk:ops[i]? = some ⟨od,op,ty,pos,after,gd⟩) (hw:Region.wanted (⟨od,op,ty,pos,after,gd⟩:Oper) (yielded ops a.tmps)=true) (h:wpList P ops (fun e a w=>e = .normal∧K a w) [⟨od,op,ty,pos,after,gd⟩] a w):HR P ops i K a w:=by
 unfold HR
 simp only [hk]
 unfold wpList at h
 rw [if_pos hw] at h
 rw [if_pos hw]
 rcases h with h | ⟨_,a',w',h,_⟩
 ·
  unfold Oper.wp at h
  generalize (execOp a.eval ⟨od,op,ty,pos,after,gd⟩).run P w=rr at *
  cases rr with
  | ok n w' =>
    cases n <;> simp only [Oper.upon,GL] at h ⊢
    case value u=>exact h.2
    case skip=>exact h.2
    case defer dd=>exact h.2
    case enter f args =>
      refine h.mono fun e w'' he => ?_
      cases e with
      | returned v=>exact ⟨v,rfl,he.2⟩
      | panicked ch=>cases he.1
      | outgrown=>obtain ⟨_,_,h,_⟩:=he; cases h
    case row row args=>exact Rows.mono h fun v w'' he=>he.2
  | halt x w' =>
    cases x <;> simp only [Oper.upon] at h
    case panic=>cases h.1
 cases h
theorem VD.a4j {r:List (Nat×Bool)} {D:List (Nat×Value)} {R:List (Nat×Value)→Act→World→Prop} {op:Op} {i j s:Nat} {b:Bool} (hk:ops[i]? = some ⟨od,op,ty,pos,after,some (j,b)⟩) (hj:(ops[j]?).bind (·.dst)=some s) (hb:ρ.get s=some (.bool b))
    (h:VL P N c ops (toR P N c ops fun a w=>(∀ p∈gM ops i D,YI P ops p a w)∧wpD P ops R r (gM ops i D) a w) [⟨od,op,ty,pos,after,some (j,b)⟩] ρ M E):HA P N c ops R ((i,false)::r) D ρ M E:=fun a w x y =>
  ⟨_,hk,fun w1 g=>aJ3 hk (by rw [AN hj x hb _ rfl]; simp) (h a w1 x (y.grow g))⟩
theorem VD.aVp {r:List (Nat×Bool)} {D D':List (Nat×Value)} {R:List (Nat×Value)→Act→World→Prop} {op:Op} {i j s:Nat} {b b':Bool} (hk:ops[i]? = some ⟨some d,op,ty,pos,after,some (j,b)⟩) (hj:(ops[j]?).bind (·.dst)=some s) (hb:ρ.get s=some (.bool b')) (hw:(b'==b)=false) (hd:d < N)
    (hD:gM ops i D=D') (hp:bR P N c ops D' ((d,undef)::ρ) M E) (h:HA P N c ops R r D' ((d,undef)::ρ) M E):HA P N c ops R ((i,false)::r) D ρ M E:=fun a w x y=>by
  subst hD
  refine ⟨_,hk,fun w1 g => ?_⟩
  have hn:Region.wanted (⟨some d,op,ty,pos,after,some (j,b)⟩:Oper) (yielded ops a.tmps)=false:=by rw [AN hj x hb _ rfl,hw]
  unfold HR
  simp only [hk]
  rw [if_neg (by rw [hn]; decide)]
  exact ⟨hp _ _ (x.put hd undef) (y.grow g),h _ _ (x.put hd undef) (y.grow g)⟩
theorem VD.a8h {r:List (Nat×Bool)} {D D':List (Nat×Value)} {R:List (Nat×Value)→Act→World→Prop} {op:Op} {i j s:Nat} {b:Bool} (hk:ops[i]? = some ⟨some d,op,ty,pos,after,some (j,b)⟩) (hj:(ops[j]?).bind (·.dst)=some s) (hb:ρ.get s=some undef) (hd:d < N)
    (hD:gM ops i D=D') (hp:bR P N c ops D' ((d,undef)::ρ) M E) (h:HA P N c ops R r D' ((d,undef)::ρ) M E):HA P N c ops R ((i,false)::r) D ρ M E:=fun a w x y=>by
  subst hD
  refine ⟨_,hk,fun w1 g => ?_⟩
  have hn:Region.wanted (⟨some d,op,ty,pos,after,some (j,b)⟩:Oper) (yielded ops a.tmps)=false:=by rw [RL hj x hb _ rfl]
  unfold HR
  simp only [hk]
  rw [if_neg (by rw [hn]; decide)]
  exact ⟨hp _ _ (x.put hd undef) (y.grow g),h _ _ (x.put hd undef) (y.grow g)⟩
theorem Er.one [O0] (z:Er):z.val.oneCell'=true:=by cases z <;> rfl
theorem a1y (u:UInt8):IntKind.i32.wrap (u.toNat:Int)=(u.toNat:Int):=IntWalk.i32_in _ (by have:=u.toNat_lt; omega)
theorem aWl {m n:Int} {xs:List Operand} {ts:Array TypeId} (h:ρ.lH xs=some [i64 m,i64 n]):Qt P N c ⟨od,.call { callee := .builtin .min,args:=xs.toArray,argTypes:=ts },ty,pos,after,gd⟩ (i64 (min m n)) ρ M E:=Qt.of_run fun a w g _=>by
  simp only [execOp,resolve,List.map_toArray,g.lH h]
  have hr:(Builtin.min_ ts ty #[i64 m,i64 n]).run P w = .ok (i64 (min m n)) w:=by
    simp [Builtin.min_,Builtin.min2,go_sem]
    rw [Int.min_def]
    split <;> split <;> first | rfl | (congr 1; omega) | omega | (simp; omega)
  simp [go_sem,invoke,builtin,hr]
instance (priority:=700) oS.inn (A F G:Ow) (b:Nat) (cs:List Value) (T:TypeId) [i:oS A b cs T G]:oS (Ow.star A F) b cs T (Ow.star G F):=⟨nC.inn i.out⟩
theorem VL.YA (b:Nat) {cs cs':List Value} {T:TypeId} [j:oS E b cs T F] (h:cs=cs') (k:VL P N c ops Q rest ρ M (Ow.star (bM b cs' T) F)):VL P N c ops Q rest ρ M E:=by
 subst h
 exact VL.mono (fun _ x=>x) (fun z hz=>j.out z hz) k
theorem VC.YA {p:Code} (b:Nat) {cs cs':List Value} {T:TypeId} [j:oS E b cs T F] (h:cs=cs') (k:VC P N c Q p ρ M (Ow.star (bM b cs' T) F)):VC P N c Q p ρ M E:=by
 subst h
 exact fun a w g st=>k a w g (st.mono (fun _ x=>x) (fun z hz=>j.out z hz))
theorem bR.aLs {D:List (Nat×Value)} {i:Nat} {op:Op} (hk:ops[i]? = some ⟨od,op,ty,pos,after,gd⟩) (h : ∀ a w,rW N ρ a→St c M E w→YU P ops ⟨od,op,ty,pos,after,gd⟩ v a w) (n:bR P N c ops D ρ M E):bR P N c ops ((i,v)::D) ρ M E:=fun a w x y p hp=>by
  rcases List.mem_cons.1 hp with rfl | hp
  . intro o ho
    have ho':ops[i]? = some o:=ho
    rw [hk] at ho'
    cases ho'
    exact h a w x y
  . exact n a w x y p hp
theorem bR.aHQ {D:List (Nat×Value)} {i j s:Nat} {b:Bool} {op:Op} (hk:ops[i]? = some ⟨od,op,ty,pos,after,some (j,b)⟩) (hj:(ops[j]?).bind (·.dst)=some s) (hb:ρ.get s=some (.bool b)) (h:Qt P N c ⟨od,op,ty,pos,after,some (j,b)⟩ v ρ M E) (n:bR P N c ops D ρ M E):bR P N c ops ((i,v)::D) ρ M E :=
  bR.aLs hk (fun a w x y => .inl ⟨by rw [AN hj x hb _ rfl]; simp,fun w1 g=>h a w1 x (y.grow g)⟩) n
theorem bR.aEH {D:List (Nat×Value)} {i j s:Nat} {b b':Bool} {op:Op} (hk:ops[i]? = some ⟨od,op,ty,pos,after,some (j,b)⟩) (hj:(ops[j]?).bind (·.dst)=some s) (hb:ρ.get s=some (.bool b')) (hw:(b'==b)=false) (n:bR P N c ops D ρ M E):bR P N c ops ((i,undef)::D) ρ M E :=
  bR.aLs hk (fun a w x y => .inr ⟨by rw [AN hj x hb _ rfl,hw],rfl⟩) n
theorem bR.aLr {D:List (Nat×Value)} {i j s:Nat} {b:Bool} {op:Op} (hk:ops[i]? = some ⟨od,op,ty,pos,after,some (j,b)⟩) (hj:(ops[j]?).bind (·.dst)=some s) (hb:ρ.get s=some undef) (n:bR P N c ops D ρ M E):bR P N c ops ((i,undef)::D) ρ M E :=
  bR.aLs hk (fun a w x y => .inr ⟨by rw [RL hj x hb _ rfl],rfl⟩) n
end
end Go.V
end

section
namespace Go.V
open Go.RowKit Go.S
section
variable {P:Program} {N:Nat} {c:Cx} {ops:Array Oper} {Q Q1:Exit→Act→World→Prop} {rest:List Oper} {o:Oper} {ρ:Env} {M M' M1 M0:Mo} {E E1 F A:Ow} {v u:Value} {X S T R:Type}
  {d:Nat} {od:Option Nat} {ty:TypeId} {pos:String} {after:Array Edge} {gd:Option (Nat×Bool)} {x y:Operand} {t t' e tb:TypeId} {f:FuncId} {args:List Value} {k k':IntKind} {m n:Int}
theorem qE {α:Type} [bB α] (l:List α) (n:Nat):(l.flatMap bB.enc).take (n*bB.sz α)=(l.take n).flatMap bB.enc:=by
 induction l generalizing n with
 | nil=>simp
 | cons x r ih =>
   cases n with
   | zero=>simp
   | succ n =>
     simp only [List.flatMap_cons,List.take_succ_cons]
     rw [List.take_append,bB.len,← ih n]
     congr 1
     . rw [List.take_of_length_le]; rw [bB.len]; exact Nat.le_mul_of_pos_left _ (Nat.succ_pos n)
     . congr 1
       rw [Nat.succ_mul,Nat.add_sub_cancel]
theorem VL.a8i {α:Type} [bB α] {s:Sv α} (hu:P.underlying t=some (.slice e)) (hz:(P.info? e).map (·.size)=some (bB.sz α)) (e0:ρ.ev x=some s.val) (e1:ρ.ev y=some (i64 n)) (h0:0≤n) (h1:n≤s.l.length) (hE:nC E (s.own e) F) (hd:d < N)
    (kk : ∀ q:Sv α,q.l=s.l.take n.toNat→VL P N c ops Q rest ((d,q.val)::ρ) M (Ow.star (q.own e) F)):VL P N c ops Q (⟨some d,.slice t x none (some y) none,ty,pos,after,none⟩::rest) ρ M E:=fun a w xx yy=>by
  have hlc:s.l.length≤s.c:=by
    obtain ⟨⟨hp,ee,m,eE,_⟩,_⟩:=yy
    obtain ⟨a1,b1,_,_,⟨q1,_⟩,_⟩:=hE ee eE
    exact q1
  refine VL.q (KD (lo':=none) (hi':=some n) (mx':=none) 0 n.toNat s.c hu hz e0 rfl (by simp [o6,e1]) rfl rfl (by simp; omega) (by simp) (fun h=>by cases h) (Nat.zero_le _) (by omega) (Nat.le_refl _) (by omega)) hd (VL.mono (fun _ h=>h) (fun z hz=>by
    obtain ⟨a,b,d1,d2,ha,hb⟩:=hE z hz
    refine ⟨a,b,d1,d2,?_,hb⟩
    obtain ⟨q1,q2,q3⟩:=ha
    refine ⟨by simp [Sv.sub]; omega,by simpa [Sv.sub] using q2,?_⟩
    rcases q3 with ⟨w1,w2⟩ | ⟨g,cur,w1,w2,w3,w4⟩
    . exact .inl ⟨by simp [Sv.sub,w1],by simp [Sv.sub,w2]⟩
    . refine .inr ⟨g,cur,?_,w2,by simpa [Sv.sub] using w3,?_⟩
      . simp [Sv.sub,w1,Addr.add]
      . simp only [Sv.sub,List.drop_zero,Nat.sub_zero,List.length_take]
        rw [show min n.toNat s.l.length=n.toNat by omega,← qE,← w4,List.take_take]
        congr 1
        exact (Nat.min_eq_left (Nat.mul_le_mul (by omega) (Nat.le_refl _))).symm) (kk (s.sub 0 n.toNat s.c) (by simp [Sv.sub]))) a w xx yy
theorem VL.aKL {α:Type} [bB α] {n:Nat} {parts:Array (Nat×Operand)} {xs:List Operand} {vs:List Value} (zs:List α) (hu:P.underlying t=some (.slice e)) (hz:((P.info? e).map fun i=>(i.size,i.zero.isSome))=some (bB.sz α,true)) (hpos:0 < bB.sz α)
 (hp:parts=((xs.zipIdx 0).map fun x=>(x.2,x.1)).toArray) (hv:ρ.lH xs=some vs) (hc:vs.map (fun v=>v.cells.toList)=zs.map bB.enc) (hn:zs.length=n) (hs:n*bB.sz α≤16777216) (hd:d < N)
 (k : ∀ s:Sv α,s.l=zs→VL P N c ops Q rest ((d,s.val)::ρ) M (Ow.star (s.own e) E)) (h0:0 < n):VL P N c ops Q (⟨some d,.buildSlice t n parts,ty,pos,after,none⟩::rest) ρ M E:=by
 cases hi:P.info? e with
 | none=>rw [hi] at hz; cases hz
 | some ie =>
   rw [hi] at hz
   obtain ⟨hsz,hzz⟩:ie.size=bB.sz α∧ie.zero.isSome=true:=by simpa using hz
   obtain ⟨z,hz1⟩:=Option.isSome_iff_exists.1 hzz
   refine VL.T0 (S:=Sv α) (val:=Sv.val) (φ:=fun s=>s.l=zs) (A:=fun s=>s.own e) (fun a w g => ?_) hd k
   have hlen:vs.length=n:=by rw [← hn]; simpa using congrArg List.length hc
   have hcs : ∀ v∈vs,v.cells.size=ie.size:=fun v hv=>by
     have:v.cells.toList∈zs.map bB.enc:=by rw [← hc]; exact List.mem_map.2 ⟨v,hv,rfl⟩
     obtain ⟨q,_,hq⟩:=List.mem_map.1 this
     rw [← Array.length_toList,← hq,bB.len,hsz]
   have hfill:=Great.fill_whole (s:=ie.size) (by omega) vs ((Array.range (n*ie.size)).map (z.cells[· % z.cells.size]!)) hcs (by simp [hlen])
   have hflat:(vs.flatMap fun v=>v.cells.toList)=zs.flatMap bB.enc:=by rw [List.flatMap_def,hc,← List.flatMap_def]
   rw [hflat] at hfill
   have hr:=run_buildSlice (P:=P) w t e n (parts.map fun (i,x)=>(i,a.eval x)) _ ie z hu hi hz1 (by rw [hsz]; omega) (by rw [hsz]; exact Nat.pos_iff_ne_zero.1 (Nat.mul_pos h0 hpos)) (by rw [aKM g hv parts hp]; exact hfill)
   have hle:n≤n*bB.sz α:=Nat.le_mul_of_pos_right _ hpos
   refine ⟨⟨some ⟨w.heap.size,0,none⟩,n,zs⟩,_,.cells (zs.flatMap bB.enc).toArray e,?_,rfl,Gr.alloc w _,heap_alloc_new w _,?_⟩
   . simp only [execOp,Sem.run_bind,hr,Result.andThen_ok,Sem.run_pure,Sv.val,hn]
   . refine ⟨by simp [hn],by unfold maxLen; simp only; omega,.inr ⟨_,_,rfl,Hp.jS _ _,?_,?_⟩⟩
     . simp only [List.size_toArray]; rw [gI,hn]; exact Nat.le_refl _
     . simp only
       rw [List.take_of_length_le (by rw [gI]; exact Nat.le_refl _)]
end
end Go.V
end

section
namespace Go.S
open Go
def ZA:Nat→Nat→List UInt8
  | 0,_=>[]
  | f+1,u=>if u < 10 then [UInt8.ofNat (48+u)] else ZA f (u / 10)++[UInt8.ofNat (48+u % 10)]
def sO (n:Int):List UInt8:=if n < 0 then 45::ZA 20 n.natAbs else ZA 20 n.toNat
theorem aEJ : ∀ (f u:Nat),u < 10 ^ (f+1)→ZA (f+1) u=Lib.decDigits u
  | 0,u,h=>by
    rw [Lib.decDigits,ZA,if_pos (by simpa using h),dif_pos (by simpa using h)]
  | f+1,u,h=>by
    rw [Lib.decDigits,ZA]
    by_cases h10:u < 10
    . simp [h10]
    . simp only [h10,if_false,dif_neg,not_false_eq_true]
      rw [aEJ f (u / 10) (by rw [Nat.pow_succ] at h; omega)]
theorem aRF {n:Int} (h:bP n):sO n=Lib.itoa n:=by
 obtain ⟨h1,h2⟩:=h
 unfold sO Lib.itoa
 rw [aEJ 19 n.natAbs (by omega),aEJ 19 n.toNat (by omega)]
end Go.S
end

section
namespace Go.V
open Go.RowKit Go.S
def O1 (g:Nat) (cs:Array Value):Mo:=⟨fun h => ∃ t f,h g=some (.cells cs t f),fun k ⟨t,f,e⟩=>⟨t,f,k _ _ e⟩⟩
theorem O1.var {P:Program} {g:Nat} {cs:Array Value} {h:Hp} {w:World} {name:String} (hg:P.globalNamed name=some g) (m:(O1 g cs).on h) (l:h.le (wh w)):w.var? P name=some cs:=by
 obtain ⟨t,f,e⟩:=m
 have:=l _ _ e
 unfold wh at this
 simp [World.var?,hg,this]
theorem O1.aO1 {P:Program} {g:Nat} {cs:Array Value} {w:World} {name:String} (hg:P.globalNamed name=some g) (h:w.var? P name=some cs):(O1 g cs).on (wh w):=by
 unfold World.var? at h
 rw [hg] at h
 simp only [Option.bind_some] at h
 split at h
 ·
  next c t f hc =>
  cases h
  exact ⟨t,f,hc⟩
 cases h
theorem Gr.grown (w:World) (k:Nat) (os:Array Obj):Gr w (Go.Sort.grow (w.drewN k) os):=by
 refine ⟨rfl,rfl,rfl,by simp [Go.Sort.grow,World.drewN],fun b hb => ?_⟩
 simp only [Go.Sort.grow,World.drewN]
 rw [Array.getElem?_append_left hb]
theorem aS6 {P:Program} {W:World} {name:String} {k:IntKind} {zs:List Int} {L:List (String×DataW Unit)} {g:Nat} {t e:TypeId} {n:Nat}
 (hg:P.globalNamed name=some g) (hty:(P.globals[g]?).map (·.type)=some t) (ht:P.underlying t=some (.array n e)) (he:P.underlying e=some (.int k)) (hce:P.cellsOf e=1) (hct:P.cellsOf t=n)
 (hf:(L.filter fun x=>x.2.handleName?.isNone).filter (fun x=>x.1==name)=[(name,Lib.tabData k zs)]) (h:laidMetH P L W):(O1 g (zs.map fun z=>Value.int k z).toArray).on (wh W):=by
 have h1:=(laidMetH_iff.1 h).1.filter (fun x=>x.1==name)
 rw [hf] at h1
 exact O1.aO1 hg (Lib.tabIs_of_head hg hty ht he hce hct h1)
end Go.V
end

section
namespace Go.S
end Go.S
namespace Go.V
open Go.RowKit Go.S
section
variable {P:Program} {N:Nat} {c:Cx} {ops:Array Oper} {Q Q1:Exit→Act→World→Prop} {rest:List Oper} {o:Oper} {ρ:Env} {M M' M1 M0:Mo} {E E1 F A:Ow} {v u:Value} {X S T R:Type}
  {d:Nat} {od:Option Nat} {ty:TypeId} {pos:String} {after:Array Edge} {gd:Option (Nat×Bool)} {x y:Operand} {t t' e tb:TypeId} {f:FuncId} {args:List Value} {k k':IntKind} {m n:Int}
structure a4R (P:Program) (v:Value) (name:String) (f:FuncId) (rv:Value):Prop where
  run : ∀ w:World,(callMethod v name #[]).run P w=(callFunc f #[rv]).run P w
theorem a4R.of {tv:TypeId} {name:String} {rv:Value} (h : ∀ w,(Go.method (P.types.size+Made.depth) tv v name).run P w = .ok (f,rv) w):a4R P (.iface tv v) name f rv:=⟨fun w=>by
  simp only [callMethod,Sem.run_bind,Go.program,Sem.run,go_sem] at h ⊢
  simp [h]⟩
theorem St.a1s {w w1 w':World} {h z:Hp} {t:Nat} {T:TypeId} {u v:Value} (hb:w.heap[t]? = some (.cells #[u] T (0,0))) (hz:z t=some (.cells #[u] T (0,0))) (hoff:h.off z) (l:h.le (wh w)) (g:Gr w w1) (e:w'=w1.setCell ⟨t,0,none⟩ v):St ⟨w,h,fun i=>z i≠none⟩ Mo.tt (bM t [v] T) w':=by
 subst e
 have hbn:h t=none:=(hoff t).resolve_right (by rw [hz]; simp)
 have htl:=(Array.getElem?_eq_some_iff.1 hb).1
 have h1:w1.heap[t]? = some (.cells #[u] T (0,0)):=by rw [g.block t htl]; exact hb
 have hnew:=one_setCell (u:=v) h1
 have hold : ∀ i,i≠t→(w1.setCell ⟨t,0,none⟩ v).heap[i]? = w1.heap[i]? := fun i hi=>Below.heap_setCell w1 ⟨t,0,none⟩ v i hi
 have hB:Below 0 w1 (w1.setCell ⟨t,0,none⟩ v):=(Below.refl 0 w1).setCell (Nat.zero_le _) v
 refine ⟨⟨h,Hp.one t (.cells #[v] T (0,0)),trivial,Hp.jS _ _,fun i => ?_,fun i p hp => ?_,fun i p hp => ?_,Hp.le.refl h,fun i hi => .inl hi,fun i hi => .inl ?_⟩,fun i hi hd => ?_,hB.os.trans g.os,hB.tape.trans g.tape,hB.output.trans g.output,Nat.le_trans g.size hB.size⟩
 ·
  by_cases hib:i=t
  ·
   subst hib; exact .inl hbn
  right; unfold Hp.one; rw [if_neg hib]
 ·
  have hib:i≠t:=fun q=>by subst q; rw [hbn] at hp; cases hp
  unfold wh
  rw [hold i hib]
  have:=l i p hp
  unfold wh at this
  rw [g.block i (Array.getElem?_eq_some_iff.1 this).1]
  exact this
 ·
  have:=Hp.NN (by rw [hp]; simp)
  subst this
  rw [Hp.jS] at hp
  cases hp
  exact hnew
 ·
  have:=Hp.NN hi
  subst this
  show z i≠none
  rw [hz]; simp
 have hit:i≠t:=by
   rintro rfl
   exact hd (show z i≠none by rw [hz]; simp)
 rw [hold i hit]
 exact g.block i hi
end
end Go.V
end

section
set_option linter.unusedVariables false
namespace Go.V
open Go.RowKit Go.ChangeShapes Go.WideShapes
theorem Ct.law {P:Program} {f:FuncId} {args:List Value} {M:Mo} {v:Value} {φ:Unit→Prop} {M2:Unit→Mo} {E2:Unit→Ow} (h:Ct P f args M Ow.emp (fun _=>v) φ M2 E2) {w:World} (hM:M.on (wh w)) :
    Calls P f args.toArray w fun en w'=>en = .returned v∧Gr w w' :=
  (h.calls w (wh w) Hp.nil hM trivial (Hp.EA _) (fun _ _ e=>e) (fun b o q=>by cases q)).mono fun en w' ⟨r,e1,z,e2,e3,e4⟩=>⟨by rw [e1,e2],e4.os,e4.tape,e4.output,e4.size,fun b hb=>e4.frame b hb (by simp [Hp.nil])⟩
section
variable {H:Type} {enc:TypeId×Value→H} {P:Program} {W W':World}
theorem U0 (hl:laidOutB P=true) {sp':Nat→Bool} : ∀ {ts:List TypeId} {vs:List Value} {ds:List (DataW H)} {ps:List MemPlace},ts.all (fun t=>P.readableRec t&&decide (t < P.types.size))=true →
    DataW.TrodAll enc P W 0 (fun _=>true) true ts vs ds ps→(∀ p∈ps,W.sameAt W' p)→(∀ p∈ps,sp' p.block=true)→DataW.TrodAll enc P W' 0 sp' true ts vs ds ps
  | [],[],[],_,_,h,_,_=>h
  | t::ts,v::vs,d::ds,_,ha,⟨p,q,h1,h2,rfl⟩,hs,hb=>by
    simp only [List.all_cons,Bool.and_eq_true,decide_eq_true_eq] at ha
    exact ⟨p,q,WideElems.Trod_stays hl ha.1.1 ha.1.2 h1 (fun x hx=>hs x (List.mem_append_left _ hx)) (fun x hx=>hb x (List.mem_append_left _ hx)),
      U0 hl ha.2 h2 (fun x hx=>hs x (List.mem_append_right _ hx)) (fun x hx=>hb x (List.mem_append_right _ hx)),rfl⟩
  | [],_::_,_,_,_,h,_,_=>by simp [DataW.TrodAll] at h
  | [],[],_::_,_,_,h,_,_=>by simp [DataW.TrodAll] at h
  | _::_,[],_,_,_,h,_,_=>by simp [DataW.TrodAll] at h
  | _::_,_::_,[],_,_,h,_,_=>by simp [DataW.TrodAll] at h
theorem Gr.below (h:Gr W W'):Below W.heap.size W W':=⟨h.os,h.tape,h.output,h.size,h.block⟩
theorem aRM {f:Func} {s:ChangeSpec} {args:Array Value} {ds gs:List (DataW H)} {before:List MemPlace} {tb:TypeId} {fresh handsOn:Bool}
 (hl:laidOutB P=true) (hp:f.params.toList.all (fun t=>P.readableRec t&&decide (t < P.types.size))=true) (hr:f.resultTypes = #[tb]) (htb:P.underlying tb=some .bool) (hv:s.vars=[])
 (hW:DataW.Whole enc P f.params.toList s.vars false W args.toList ds gs before) (hg:Gr W W') (hs:s.fn H ds=⟨[.lit (.bool true)],ds,[]⟩):s.post enc P f false fresh handsOn false W args (.bool true) W':=by
 have hW':=hW
 obtain ⟨p,q,hA,hV,rfl,hfz,hnd⟩:=hW
 rw [hv] at hV
 obtain ⟨rfl,rfl⟩:gs=[]∧q=[]:=by
   cases gs
   . exact ⟨rfl,hV⟩
   . simp [DataW.TrodVars] at hV
 have hb : ∀ x∈p,x.block < W.heap.size:=fun x hx=>by simpa using hW'.lt x (List.mem_append_left _ hx)
 refine ⟨ds,[],_,[],p,[],hW',?_,?_,?_,hg.below.frame _,fun h=>by cases h⟩
 ·
  rw [List.append_nil,hs,hr]
  exact trodAll_mk1 (shut_bool htb true)
 ·
  rw [List.append_nil,hs]
  exact U0 hl hp hA (fun x hx=>hg.below.same (hb x hx)) (fun x hx=>by simpa using hb x hx)
 rw [List.append_nil,hs,hv]
 rfl
theorem aDt (a:Addr) (i:Nat):(a.add i).block=a.block:=by unfold Addr.add; split <;> rfl
theorem aJC (a:Addr) (i:Nat):(a.add i).off=a.off+i:=by unfold Addr.add; split <;> simp_all
theorem a1A {t:TypeId} {v:Value} {r:Reach} {b0:Nat} (ht:P.underlying t=some .string) (hv:Value.okWide P W r b0 t v) : ∃ s:bI,v=str s:=by
 obtain ⟨s,rfl⟩:=okWide_string ht hv
 exact ⟨s.data.toList,rfl⟩
end
end Go.V
end

section
set_option linter.unusedVariables false
namespace Go.V
open Go.RowKit Go.ChangeShapes Go.WideShapes
instance:bB Bool:=⟨1,fun b=>[.bool b],fun _=>rfl,fun _ _ h=>by cases List.mem_singleton.1 h; rfl,fun _=>Mo.tt⟩
class Rg (α:Type) where
  rg:α→Prop
instance:Rg Int:=⟨Go.S.bP⟩
instance:Rg Bool:=⟨fun _=>True⟩
instance:Rg UInt8:=⟨fun _=>True⟩
instance:Rg bI:=⟨fun _=>True⟩
instance {α:Type} [Rg α]:Rg (Sv α):=⟨fun s => ∀ z∈s.l,Rg.rg z⟩
section
variable {P:Program}
def JD (P:Program) (t:TypeId) (α:Type) [bB α] [Rg α]:Prop := ∀ {H:Type} {enc:TypeId×Value→H} {W:World} {b0:Nat} {sp:Nat→Bool} {hd:Bool} {fuel:Nat} {cs:List Value} {x:DataW H×List MemPlace},
  DataW.trod enc P W b0 sp hd fuel t cs=some x → ∃ z:α,cs=bB.enc z∧(bB.deep z).on (wh W)∧Rg.rg z
theorem JD.i64 {t:TypeId} (ht:P.underlying t=some (.int .i64)):JD P t Int:=fun h=>by
  obtain ⟨n,rfl,_,hw⟩:=DataW.trod_int ht h
  refine ⟨n,rfl,trivial,?_⟩
  have hb : -9223372036854775808≤n∧n≤9223372036854775807:=by simpa [Lit.wf,IntKind.min,IntKind.max,IntKind.signed,IntKind.bits] using hw
  exact hb
theorem JD.bool {t:TypeId} (ht:P.underlying t=some .bool):JD P t Bool:=fun h=>by
  obtain ⟨n,rfl,_⟩:=DataW.trod_bool ht h
  exact ⟨n,rfl,trivial,trivial⟩
theorem JD.u8 {t:TypeId} (ht:P.underlying t=some (.int .u8)):JD P t UInt8:=fun h=>by
  obtain ⟨n,rfl,_,hw⟩:=DataW.trod_int ht h
  have hb:0≤n∧n≤255:=by simpa [Lit.wf,IntKind.min,IntKind.max,IntKind.signed,IntKind.bits] using hw
  refine ⟨UInt8.ofNat n.toNat,?_,trivial,trivial⟩
  show [Value.int .u8 n]=[.int .u8 ((UInt8.ofNat n.toNat).toNat:Int)]
  rw [← aX1 hb rfl]
theorem JD.str {t:TypeId} (ht:P.underlying t=some .string):JD P t bI:=fun h=>by
  obtain ⟨s,rfl,_,_⟩:=DataW.trod_string ht h
  exact ⟨s.data.toList,rfl,trivial,trivial⟩
theorem aEw {α:Type} {Q:Nat→α→Prop} : ∀ (n:Nat),(∀ i,i < n → ∃ z,Q i z) → ∃ l:List α,l.length=n ∧ ∀ i z,l[i]? = some z→Q i z
  | 0,_=>⟨[],rfl,fun i z h=>by simp at h⟩
  | n+1,h=>by
    obtain ⟨l,hl,hq⟩:=aEw n fun i hi=>h i (by omega)
    obtain ⟨z,hz⟩:=h n (by omega)
    refine ⟨l++[z],by simp [hl],fun i y hy => ?_⟩
    rw [List.getElem?_append] at hy
    split at hy
    . exact hq i y hy
    . have:i=n:=by
        have:=(List.getElem?_eq_some_iff.1 hy).1
        simp at this; omega
      subst this
      rw [hl] at hy
      simp at hy
      subst hy
      exact hz
theorem aG4 {W:World} {b0 n:Nat} {a:Addr} {cs:List Value} (h:W.cells? b0 a n=some cs) (hn:0 < n):a.spot=none∧(wh W).at a.block a.off cs:=by
 unfold World.cells? at h
 split at h
 ·
  have hl:=mapM_some_length h
  rw [List.length_range] at hl
  have hg : ∀ i,i < n→W.cell? (a.add i)=cs[i]? := fun i hi=>mapM_some_get h i i (by simp [hi])
  have key : ∀ (c:Addr) (v:Value),W.cell? c=some v→c.spot=none∧(wh W).cell c.block c.off=some v:=fun c v hc=>by
    unfold World.cell? at hc
    unfold Hp.cell wh
    split at hc
    . next hb =>
      split at hc
      . cases hc
      . next hsp=>exact ⟨by simpa using hsp,by rw [hb]; simpa using hc⟩
    . cases hc
  refine ⟨?_,fun j v hj => ?_⟩
  ·
   obtain ⟨v,hv⟩ : ∃ v,cs[0]? = some v:=⟨_,List.getElem?_eq_getElem (by omega)⟩
   have:=(key _ v ((hg 0 hn).trans hv)).1
   unfold Addr.add at this
   split at this <;> simp_all
  have hjn:j < n:=by have:=(List.getElem?_eq_some_iff.1 hj).1; omega
  have:=(key _ v ((hg j hjn).trans hj)).2
  rwa [aDt,aJC] at this
 cases h
theorem JD.sv {t e:TypeId} {α:Type} [bB α] [Rg α] (ht:P.underlying t=some (.slice e)) (hc:P.cellsOf e=bB.sz α) (hpos:0 < bB.sz α) (he:JD P e α):JD P t (Sv α):=fun {H enc W b0 sp hd fuel cs x} h=>by
  rcases DataW.trod_slice ht h with ⟨rfl,_⟩ | ⟨a,len,cap,elems,rest,n,_,rfl,_,hb,hl,hm,hlen,hel,_⟩
  . exact ⟨⟨none,0,[]⟩,rfl,⟨Nat.le_refl _,by simp [maxLen],fun h=>absurd rfl h,fun _ _ h=>by simp at h,fun _ h=>by cases h⟩,fun _ h=>(by cases h)⟩
  . have each : ∀ i,i < len → ∃ z:α,W.cells? b0 (a.add (i*bB.sz α)) (bB.sz α)=some (bB.enc z)∧(bB.deep z).on (wh W)∧Rg.rg z:=fun i hi=>by
      have h1:=hel i hi
      rw [List.getElem?_eq_getElem (by omega),hc] at h1
      cases h2:W.cells? b0 (a.add (i*bB.sz α)) (bB.sz α) with
      | none=>rw [h2] at h1; cases h1
      | some cs' =>
        rw [h2] at h1
        obtain ⟨z,rfl,hz⟩:=he h1
        exact ⟨z,rfl,hz⟩
    obtain ⟨l,h1,h2⟩:=aEw len each
    refine ⟨⟨some a,cap,l⟩,by rw [← h1]; rfl,⟨by simpa [h1] using hl,hm,fun hne => ?_,fun i z hz => ?_,fun z hz => ?_⟩,fun z hz => ?_⟩
    . simp only at hne
      obtain ⟨z,hz⟩ : ∃ z,l[0]? = some z:=⟨_,List.getElem?_eq_getElem (List.length_pos_iff.2 hne)⟩
      have:=(aG4 (h2 0 z hz).1 hpos).1
      simp only [Nat.zero_mul] at this
      cases a
      simp [Addr.add] at this
      simp_all [Sv.b,Sv.o]
    . have:=(aG4 (h2 i z hz).1 hpos).2
      rw [aDt,aJC] at this
      exact this
    . obtain ⟨i,hi,rfl⟩:=List.mem_iff_getElem.1 hz
      exact (h2 i l[i] (List.getElem?_eq_getElem hi)).2.1
    . obtain ⟨i,hi,rfl⟩:=List.mem_iff_getElem.1 hz
      exact (h2 i l[i] (List.getElem?_eq_getElem hi)).2.2
theorem aID {H:Type} {enc:TypeId×Value→H} {W:World} {b0:Nat} {sp:Nat→Bool} {hd:Bool} {fuel:Nat} {cs:List Value} {x:DataW H×List MemPlace} {t:TypeId} {fs:Array Field} (ht:P.underlying t=some (.struct fs)) (h:DataW.trod enc P W b0 sp hd fuel t cs=some x) :
 cs.length=P.cellsOf t ∧ ∀ (i:Nat) (f:Field),fs[i]? = some f → ∃ (n:Nat) (y:DataW H×List MemPlace),DataW.trod enc P W b0 sp hd n f.type ((cs.drop f.offset).take (P.cellsOf f.type))=some y:=by
 obtain ⟨xs,n,_,_,hl,hx,hf⟩:=DataW.trod_struct ht h
 refine ⟨hl,fun i f hi=>⟨n,?_⟩⟩
 have h1:=hf i f hi
 have hi':=(Array.getElem?_eq_some_iff.1 hi).1
 rw [List.getElem?_eq_getElem (by omega)] at h1
 exact ⟨_,h1⟩
theorem JD.fld {H:Type} {enc:TypeId×Value→H} {W:World} {b0:Nat} {sp:Nat→Bool} {hd:Bool} {cs cs':List Value} {t:TypeId} {α:Type} [bB α] [Rg α] (ho:JD P t α) {off k:Nat} (hk:P.cellsOf t=k) (h : ∃ (n:Nat) (y:DataW H×List MemPlace),DataW.trod enc P W b0 sp hd n t ((cs.drop off).take (P.cellsOf t))=some y) (hc:(cs.drop off).take k=cs') :
 ∃ z:α,cs'=bB.enc z∧(bB.deep z).on (wh W)∧Rg.rg z:=by
 subst hk
 subst hc
 obtain ⟨n,y,h⟩:=h
 exact ho h
theorem JD.arg {t:TypeId} {α:Type} [bB α] [Rg α] (ho:JD P t α) {H:Type} {enc:TypeId×Value→H} {W:World} {b0:Nat} {sp:Nat→Bool} {hd:Bool} {v:Value} {d:DataW H} {p:List MemPlace} (h:DataW.Trod enc P W b0 sp hd t v d p) : ∃ z:α,v.cells.toList=bB.enc z∧(bB.deep z).on (wh W)∧Rg.rg z:=by
 obtain ⟨f,h⟩:=h
 exact ho h
theorem aMR {W:World} {r:Reach} {b0:Nat} {t e:TypeId} {v:Value} {α:Type} [bB α] {z:Sv α} (ht:P.underlying t=some (.slice e)) (h:Value.okWide P W r b0 t v) (hc:v.cells.toList=bB.enc z):v=z.val:=by
 obtain ⟨a0,len,cap,rfl⟩:=okWide_slice ht h
 have:[Value.slice a0 len cap]=[z.val]:=hc
 exact List.head_eq_of_cons_eq this
end
end Go.V
end

section
set_option linter.unusedVariables false
namespace Go.V
open Go.RowKit
theorem aH8 {P:Program} {W:World} {name:String} {nm:List UInt8} {u0 ty0:TypeId} {g:Nat} {d:DataW Unit} {v:Value} {L:List (String×DataW Unit)} (hg:P.globalNamed name=some g) (hm:L.find? (fun x=>x.1==name)=some (name,d)) (hn:d.handleName? = some nm) (hfn:d.funcsIn? = none)
 (hu:(P.cutTypes.find? (·.1 == "internal/reflectlite.rtype")).map (·.2)=some u0) (hone:((List.range P.types.size).filter fun t=>P.rowNamed t nm)=[ty0]) (hv:typeHandle P ty0=v) (h:laidMetH P L W):(O1 g #[.iface u0 (.agg #[v])]).on (wh W):=by
 have hL:(name,d)∈L.filter fun x=>x.2.handleName?.isSome:=List.mem_filter.2 ⟨List.mem_of_find?_eq_some hm,by simp [hn]⟩
 have h':=(laidMetH_iff.1 h).2 _ hL
 simp only [hfn] at h'
 obtain ⟨nm',u,ty,e1,e2,e3,e4,e5⟩:=h'
 rw [hn] at e1
 obtain rfl:=Option.some.inj e1
 obtain rfl:=Option.some.inj (hu.symm.trans e2)
 have hm:ty∈(List.range P.types.size).filter fun t=>P.rowNamed t nm:=List.mem_filter.2 ⟨List.mem_range.2 e3,e4⟩
 rw [hone] at hm
 obtain rfl:=List.mem_singleton.1 hm
 rw [hv] at e5
 exact O1.aO1 hg e5
theorem aKI {P:Program} {w0:World} {laid:List (String×DataW Unit)} (args:Array Value) (hf:w0.layFits P laid []=true) (hi:w0.layIfaces P laid (w0.layVars P laid)=true) :
 laidMet P laid ((w0.layVars P laid).forCall (fun _ _=>0) ⟨#[],args,[]⟩).memory:=by
 have e1:(laid.filter fun x=>(laid.map (·.1)).contains x.1)=laid:=List.filter_eq_self.2 fun x hx=>List.contains_iff_mem.2 (List.mem_map.2 ⟨x,hx,rfl⟩)
 have e2:(laid.filter fun x => !(laid.map (·.1)).contains x.1)=[]:=List.filter_eq_nil_iff.2 fun x hx=>by rw [List.contains_iff_mem.2 (List.mem_map.2 ⟨x,hx,rfl⟩)]; simp
 have h:laidMet P laid (w0.layVars P laid):=laidMet_layVars (w0:=w0) (laid.map (·.1)) [] (by rw [e1]) (by rw [e1]; exact hf) (by rw [e1]; exact hi) (by rw [e2]; exact LaidIn.none)
 exact h.of_heap (by simp [World.memory,World.forCall,Input.heap])
noncomputable def aML (P:Program) (os:Os) (g:Nat) (v:Value):World :=
  { World.holding P os ⟨#[],#[],[]⟩ with heap:=(World.holding P os ⟨#[],#[],[]⟩).heap.modify g fun
      | .cells _ t frozen => .cells #[v] t frozen
      | o=>o }
end Go.V
end

section
namespace Go.V
open Go.RowKit
section
variable {P:Program} {N:Nat} {c:Cx} {ops:Array Oper} {Q:Exit→Act→World→Prop} {ρ:Env} {M:Mo} {E:Ow} {D:List (Nat×Value)} {k:Nat}
theorem VL.ER {n:Nat} {listed listed':Array Bool} {D':List (Nat×Value)} (hp:bR P N c ops D' ρ M E) (hD:gM ops k D=D') (hL:listed.setIfInBounds k true=listed') (h:VG P N c ops Q n D' listed' ρ M E) :
 VL P N c ops (toR P N c ops fun a w=>(∀ p∈gM ops k D,YI P ops p a w)∧IG P ops Q n (gM ops k D) (listed.setIfInBounds k true) a w) [] ρ M E:=by
 subst hD
 subst hL
 exact VL.nil fun a w x y=>⟨rfl,hp a w x y,h a w x y (hp a w x y)⟩
end
end Go.V
end

section
set_option linter.unusedVariables false
set_option linter.unusedSimpArgs false
set_option linter.unusedSectionVars false
def Go.S.TV (l:List (List UInt8)) (sep:List UInt8):List UInt8:=Go.Lib.join l sep
namespace Go.V
open Go.RowKit Go.S
section
variable {P:Program} {N:Nat} {c:Cx} {ops:Array Oper} {Q Q1:Exit→Act→World→Prop} {rest:List Oper} {o:Oper} {ρ:Env} {M M' M1 M0:Mo} {E E1 F A:Ow} {v u:Value} {X S T R:Type}
  {d:Nat} {od:Option Nat} {ty:TypeId} {pos:String} {after:Array Edge} {gd:Option (Nat×Bool)} {x y:Operand} {t t' e tb:TypeId} {f:FuncId} {args:List Value} {k k':IntKind} {m n:Int} {α:Type} [bB α]
theorem BE {α:Type} [bB α] (l:List α) (n:Nat):(l.flatMap bB.enc).drop (n*bB.sz α)=(l.drop n).flatMap bB.enc:=by
 induction l generalizing n with
 | nil=>simp
 | cons x r ih =>
   cases n with
   | zero=>simp
   | succ n =>
     simp only [List.flatMap_cons,List.drop_succ_cons]
     rw [List.drop_append,bB.len,← ih n]
     have h1:(bB.enc x).drop ((n+1)*bB.sz α)=[]:=List.drop_of_length_le (by rw [bB.len]; exact Nat.le_mul_of_pos_left _ (Nat.succ_pos n))
     rw [h1,List.nil_append]
     congr 1
     rw [Nat.succ_mul,Nat.add_sub_cancel]
theorem aF0 (w:World) (dT sT ty elem:TypeId) (g o dLen dCap:Nat) (a:Addr) (sLen sCap:Nat) (cur:Array Value) (t:TypeId) (cs:List Value) (k:Nat)
 (hu:P.underlying dT=some (.slice elem)) (hs:(P.info? elem).map (·.size)=some k)
 (hg:w.heap[g]? = some (.cells cur t (0,0))) (hn:cs.length=Nat.min sLen dLen*k)
 (hsrc : ∀ j v,cs[j]? = some v→w.cell? (a.add j)=some v) (hfit:o+cs.length≤cur.size) (h1 : ∀ v∈cs,v.oneCell'=true) :
 (Builtin.copy_ #[dT,sT] ty #[.slice (some ⟨g,o,none⟩) dLen dCap,.slice (some a) sLen sCap]).run P w =
 .ok (goInt (Nat.min sLen dLen)) (w.setRow g (cur.toList.take o++cs++cur.toList.drop (o+cs.length)).toArray):=by
 have hl:=run_loadCells_list (P:=P) w a cs hsrc
 have hst:=run_storeCells_at P g o t cs 0 cur w hg (by simpa using hfit) h1
 cases hq:P.info? elem with
 | none=>simp [hq] at hs
 | some i =>
   have hi:i.size=k:=by simpa [hq] using hs
   simp [Builtin.copy_,run_underlying hu,Builtin.lenOf,Builtin.firstCells,sizeOf,typeInfo,hq,hi,← hn,hl,hst]
theorem aDB (w:World) (t ty e:TypeId) (z:Value) (k:Nat) (hu:P.underlying t=some (.slice e)) (hv : ∀ w,(zeroValue e).run P w = .ok z w) (hk:z.cells.size=k) (h1 : ∀ v∈z.cells.toList,v.oneCell'=true)
 (g o n c:Nat) (cur:Array Value) (T:TypeId) (hn:0 < n) (hg:w.heap[g]? = some (.cells cur T (0,0))) (hfit:o+n*k≤cur.size) :
 ∃ cs:List Value,cs.length=n*k∧(Builtin.clear_ #[t] ty #[.slice (some ⟨g,o,none⟩) n c]).run P w = .ok (.tuple #[]) (w.setRow g (cur.toList.take o++cs++cur.toList.drop (o+cs.length)).toArray):=by
 have hlen:(Builtin.zeroCells z.cells n).toList.length=n*k:=by simp [Builtin.zeroCells,hk]
 refine ⟨(Builtin.zeroCells z.cells n).toList,hlen,?_⟩
 have hone : ∀ v∈(Builtin.zeroCells z.cells n).toList,v.oneCell'=true:=by
   intro v hv
   simp only [Builtin.zeroCells,Array.toList_map,List.mem_map,Array.toList_range,List.mem_range] at hv
   obtain ⟨i,hi,rfl⟩:=hv
   have hk0:0 < z.cells.size:=by
     rcases Nat.eq_zero_or_pos z.cells.size with q | q
     . rw [q,Nat.mul_zero] at hi; omega
     . exact q
   have hm:=Nat.mod_lt i hk0
   rw [getElem!_pos z.cells (i % z.cells.size) hm]
   exact h1 _ (Array.mem_toList_iff.2 (Array.getElem_mem hm))
 have hst:=run_storeCells_at P g o T _ 0 cur w hg (by rw [hlen]; simpa using hfit) hone
 obtain ⟨n,rfl⟩ : ∃ j,n=j+1:=⟨n - 1,by omega⟩
 simp only [Nat.add_zero] at hst
 simp [Builtin.clear_,run_underlying hu,hv,hst]
theorem VL.a8Q {op:Op} {A2:Ow} (hE:nC E A F)
    (H : ∀ a w h z,rW N ρ a→h.off z→M.on h→A z→h.le (wh w)→z.le (wh w) → ∃ u w',(execOp a.eval ⟨none,op,ty,pos,after,none⟩).run P w = .ok (.value u) w'∧St ⟨w,h,fun b=>z b≠none⟩ Mo.tt A2 w')
    (k:VL P N c ops Q rest ρ M (Ow.star A2 F)):VL P N c ops Q (⟨none,op,ty,pos,after,none⟩::rest) ρ M E:=fun a w g s =>
  wpList_plain rfl fun _ hK=>by
    have s0:=s
    obtain ⟨⟨hp,e,m,ee,dd,l,kk,h0,hr,er⟩,_⟩:=s
    obtain ⟨x,y,dxy,j,hx,hy⟩:=hE e ee
    have dx:hp.off x:=fun b=>(dd b).imp id fun z=>by rw [j] at z; exact (Hp.join_none.1 z).1
    obtain ⟨u,w',hr',s'⟩:=H a w hp x g dx m hx l (fun b o z=>kk b o (by rw [j]; exact Hp.cU x y b o z))
    unfold Oper.wp
    rw [hr']
    simp only [Oper.upon]
    have s2:=St.call s0 m dd l kk h0 hr er dxy j hy (fun b=>Iff.rfl) s'
    exact hK _ _ (k _ _ ⟨g.size,g.defers,g.look⟩ (s2.mono (fun _ z=>z.2) fun _ z=>z))
theorem VL.aCm {s:Sv α} {i:Nat} {xs:List Operand} (z:Value) (hu:P.underlying t=some (.slice e)) (hv : ∀ w,(zeroValue e).run P w = .ok z w) (hk:z.cells.size=bB.sz α) (h1':z.cells.toList.all (fun v=>v.oneCell')=true)
 (ha:ρ.lH xs=some [(s.sub i s.l.length s.c).val]) (hi:i≤s.l.length) (hE:nC E (s.own e) F)
 (kk : ∀ q:Sv α,q.l=s.l.take i→q.val = .slice s.a i s.c→VL P N c ops Q rest ρ M (Ow.star (q.own e) F)) :
 VL P N c ops Q (⟨none,.call { callee := .builtin .clear,args:=xs.toArray,argTypes := #[t]},ty,pos,after,none⟩::rest) ρ M E:=by
 have h1 : ∀ v∈z.cells.toList,v.oneCell'=true:=fun v hv=>List.all_eq_true.1 h1' v hv
 have hsub:(s.sub i s.l.length s.c).l.length=s.l.length - i:=by simp [Sv.sub]
 refine VL.a8Q (A2:=(⟨s.a,s.c,s.l.take i⟩:Sv α).own e) hE (fun ac w h z' g hoff m hA l kk' => ?_) (kk ⟨s.a,s.c,s.l.take i⟩ rfl ?_)
 ·
  obtain ⟨hlc,hcm,hcase⟩:=hA
  by_cases h0:s.l.length - i=0
  ·
   have hil:i=s.l.length:=by omega
   have hrun:(Builtin.clear_ #[t] ty #[(s.sub i s.l.length s.c).val]).run P w = .ok (.tuple #[]) w:=by
     simp only [Sv.val,hsub,h0]
     cases (s.sub i s.l.length s.c).a <;> simp [Builtin.clear_,run_underlying hu]
   refine ⟨.tuple #[],w,?_,?_⟩
   ·
    simp only [execOp,resolve,List.map_toArray,g.lH ha,Sem.run_bind,Sem.run_pure,Result.andThen_ok,invoke,builtin,hrun]
   have e1:s.l.take i=s.l:=by rw [hil,List.take_length]
   rw [e1]
   refine ⟨⟨h,z',trivial,⟨hlc,hcm,hcase⟩,hoff,l,kk',Hp.le.refl h,fun b hb => .inl hb,fun b hb => .inl hb⟩,fun b _ _=>rfl,rfl,rfl,rfl,Nat.le_refl _⟩
  rcases hcase with ⟨hl0,_⟩ | ⟨b,cur,hsa,hg,hcs,ht⟩
  ·
   rw [hl0] at h0; simp at h0
  have hw:w.heap[b]? = some (.cells cur e (0,0)):=kk' _ _ hg
  have hsa':(s.sub i s.l.length s.c).a=some ⟨b,i*bB.sz α,none⟩:=by
    unfold Sv.sub
    simp only
    split
    . rename_i q
      omega
    . rw [hsa]; simp [nM]
  have hle:i*bB.sz α+(s.l.length - i)*bB.sz α=s.l.length*bB.sz α:=by rw [← Nat.add_mul]; congr 1; omega
  have hle2:s.l.length*bB.sz α≤s.c*bB.sz α:=Nat.mul_le_mul_right _ hlc
  obtain ⟨cs,hcl,hrun⟩:=aDB (P:=P) w t ty e z (bB.sz α) hu hv hk h1 b (i*bB.sz α) (s.l.length - i) ((s.sub i s.l.length s.c).c) cur e (by omega) hw (by omega)
  refine ⟨.tuple #[],w.setRow b (cur.toList.take (i*bB.sz α)++cs++cur.toList.drop (i*bB.sz α+cs.length)).toArray,?_,St.SK (A:=Sv.own _ e) hg hoff trivial l ⟨?_,hcm,.inr ⟨b,_,hsa,Hp.jS _ _,?_,?_⟩⟩ (by simp [World.setRow]) (setRow_heap w b cur _ e _ hw) (fun i hi=>setRow_other w b i _ hi) rfl rfl rfl⟩
  ·
   have hval:(s.sub i s.l.length s.c).val = .slice (some ⟨b,i*bB.sz α,none⟩) (s.l.length - i) (s.sub i s.l.length s.c).c:=by unfold Sv.val; rw [hsa',hsub]
   simp only [execOp,resolve,List.map_toArray,g.lH ha,Sem.run_bind,Sem.run_pure,Result.andThen_ok,invoke,builtin,hval,hrun]
  ·
   simp only [List.length_take]; omega
  ·
   simp only [List.size_toArray,List.length_append,List.length_take,List.length_drop,Array.length_toList]
   omega
  simp only [List.length_take]
  rw [show min i s.l.length=i by omega,← qE,← ht]
  rw [List.append_assoc,List.take_append_of_le_length (by have q:i*bB.sz α≤s.c*bB.sz α:=Nat.mul_le_mul_right _ (by omega); rw [List.length_take,Array.length_toList]; omega),List.take_take,List.take_take]
  congr 1
  omega
 simp only [Sv.val,List.length_take]
 congr 1
 omega
theorem VZ {s q:Sv α} (hu:P.underlying t=some (.slice e)) (hz:(P.info? e).map (·.size)=some (bB.sz α)) (e0:ρ.ev x=some s.val) (e1:ρ.ev y=some (i64 n)) (h0:0≤n) (h1:n≤s.l.length) (hc:s.l.length≤s.c) (hq:q.val = .slice s.a n.toNat s.c) :
 Qt P N c ⟨od,.slice t x none (some y) none,ty,pos,after,gd⟩ q.val ρ M E:=by
 have:=KD (P:=P) (N:=N) (c:=c) (M:=M) (E:=E) (od:=od) (ty:=ty) (pos:=pos) (after:=after) (gd:=gd) (lo:=none) (hi:=some y) (mx:=none) (lo':=none) (hi':=some n) (mx':=none) 0 n.toNat s.c hu hz e0 rfl (by simp [o6,e1]) rfl rfl (by simp; omega) (by simp) (fun h=>by cases h) (Nat.zero_le _) (by omega) (Nat.le_refl _) (by omega)
 rw [hq]
 have e2:(s.sub 0 n.toNat s.c).val = .slice s.a n.toNat s.c:=by
   simp only [Sv.val,Sv.sub,List.drop_zero,Nat.sub_zero,List.length_take]
   rw [show min n.toNat s.l.length=n.toNat by omega]
   split
   . rfl
   . rw [Nat.zero_mul]; cases s.a <;> simp [Addr.add] <;> rfl
 rwa [e2] at this
theorem EM {s:Sv α} (hu:P.underlying t=some (.slice e)) (hz:(P.info? e).map (·.size)=some (bB.sz α)) (e0:ρ.ev x=some s.val) (e1:ρ.ev y=some (i64 n)) (h0:0≤n) (h1:n≤s.l.length) (hc:s.l.length≤s.c) :
    Qt P N c ⟨od,.slice t x (some y) none none,ty,pos,after,gd⟩ (s.sub n.toNat s.l.length s.c).val ρ M E :=
  KD (lo:=some y) (hi:=none) (mx:=none) (lo':=some n) (hi':=none) (mx':=none) n.toNat s.l.length s.c hu hz e0 (by simp [o6,e1]) rfl rfl (by simp; omega) rfl (by simp) (fun h=>by cases h) (by omega) hc (Nat.le_refl _) (Nat.le_refl _)
theorem VL.fits {s:Sv α} (hE:nC E (s.own e) F) (kk:s.l.length≤s.c→VL P N c ops Q rest ρ M E):VL P N c ops Q rest ρ M E:=fun a w xx yy=>kk (by
  obtain ⟨⟨hp,ee,m,eE,_⟩,_⟩:=yy
  obtain ⟨a1,b1,_,_,⟨q1,_⟩,_⟩:=hE ee eE
  exact q1) a w xx yy
theorem VD.aMS {k:Nat} {rr:List (Nat×Bool)} {D:List (Nat×Value)} {s:Sv α} {lo hi mx:Option Operand} {lo' hi' mx':Option Int} (hk:ops[k]? = some ⟨some d,.slice t x lo hi mx,ty,pos,after,none⟩) (l r:Nat) (hu:P.underlying t=some (.slice e)) (hz:(P.info? e).map (·.size)=some (bB.sz α)) (e0:ρ.ev x=some s.val)
    (e1:o6 ρ lo=some lo') (e2:o6 ρ hi=some hi') (e3:o6 ρ mx=some mx') [hs:dM M s.ok] (hl:lo'.getD 0=(l:Int)) (hr:hi'.getD s.l.length=(r:Int)) (hm:mx'=none∨mx'=some (r:Int)) (hmx:mx'.isSome=true→hi'.isSome=true) (h1:l≤r) (h4:r≤s.l.length) (hd:d < N)
    (kk : ∀ (q:Sv α),q.l=(s.l.drop l).take (r - l)→(∀ {ρ':Env} {M':Mo} {E':Ow},ρ'.ev x=some s.val→o6 ρ' lo=some lo'→o6 ρ' hi=some hi'→o6 ρ' mx=some mx'→Qt P N c ⟨some d,.slice t x lo hi mx,ty,pos,after,none⟩ q.val ρ' M' E')→VD P N c ops Q rr (D3 ops k q.val D) ((d,q.val)::ρ) (q.ok.and M) E):VD P N c ops Q ((k,true)::rr) D ρ M E :=
  VD.CC (φ:=s.l.length≤s.c) (fun h m=>(hs.out h m).1) fun hc=>by
    obtain ⟨m,m1,m2,m3⟩:=aEI lo' hi' mx' l r hl hr hm h4 hc
    exact VD.q hk (KD l r m hu hz e0 e1 e2 e3 hl hr m1 hmx h1 m2 m3 h4) hd (VD.LK (s.sub l r m).ok (fun h q=>Sv.aIB h1 h4 m2 m3 (hs.out h q)) (kk _ rfl fun e0 e1 e2 e3=>KD l r m hu hz e0 e1 e2 e3 hl hr m1 hmx h1 m2 m3 h4))
theorem VD.a4q {k':Nat} {rr:List (Nat×Bool)} {D:List (Nat×Value)} {s:Sv α} {n:Int} (hk:ops[k']? = some ⟨some d,.slice t x none (some y) none,ty,pos,after,none⟩) (hu:P.underlying t=some (.slice e)) (hz:(P.info? e).map (·.size)=some (bB.sz α)) (e0:ρ.ev x=some s.val) (e1:ρ.ev y=some (i64 n)) [hs:dM M s.ok] (h0:0≤n) (h1:n≤s.l.length) (hd:d < N)
    (kk : ∀ (q:Sv α),q.l=s.l.take n.toNat→(∀ {ρ':Env} {M':Mo} {E':Ow},ρ'.ev x=some s.val→ρ'.ev y=some (i64 n)→Qt P N c ⟨some d,.slice t x none (some y) none,ty,pos,after,none⟩ q.val ρ' M' E')→VD P N c ops Q rr (D3 ops k' q.val D) ((d,q.val)::ρ) (q.ok.and M) E):VD P N c ops Q ((k',true)::rr) D ρ M E :=
  VD.aMS (lo':=none) (hi':=some n) (mx':=none) hk 0 n.toNat hu hz e0 rfl (by simp [o6,e1]) rfl rfl (by simp; omega) (.inl rfl) (fun _=>rfl) (by omega) (by omega) hd fun q hq h=>kk q (by rw [hq]; simp) fun a b=>h a rfl (by simp [o6,b]) rfl
theorem VD.a1l {k':Nat} {rr:List (Nat×Bool)} {D:List (Nat×Value)} {s:Sv α} {n:Int} (hk:ops[k']? = some ⟨some d,.slice t x (some y) none none,ty,pos,after,none⟩) (hu:P.underlying t=some (.slice e)) (hz:(P.info? e).map (·.size)=some (bB.sz α)) (e0:ρ.ev x=some s.val) (e1:ρ.ev y=some (i64 n)) [hs:dM M s.ok] (h0:0≤n) (h1:n≤s.l.length) (hd:d < N)
    (kk : ∀ (q:Sv α),q.l=s.l.drop n.toNat→(∀ {ρ':Env} {M':Mo} {E':Ow},ρ'.ev x=some s.val→ρ'.ev y=some (i64 n)→Qt P N c ⟨some d,.slice t x (some y) none none,ty,pos,after,none⟩ q.val ρ' M' E')→VD P N c ops Q rr (D3 ops k' q.val D) ((d,q.val)::ρ) (q.ok.and M) E):VD P N c ops Q ((k',true)::rr) D ρ M E :=
  VD.aMS (lo':=some n) (hi':=none) (mx':=none) hk n.toNat s.l.length hu hz e0 (by simp [o6,e1]) rfl rfl (by simp; omega) rfl (.inl rfl) (fun h=>by cases h) (by omega) (by omega) hd fun q hq h=>kk q (by rw [hq,List.take_of_length_le (by simp)]) fun a b=>h a (by simp [o6,b]) rfl rfl
theorem VD.a6X {k':Nat} {rr:List (Nat×Bool)} {D:List (Nat×Value)} {s:Sv α} {z:Operand} {m n:Int} (hk:ops[k']? = some ⟨some d,.slice t x (some y) (some z) none,ty,pos,after,none⟩) (hu:P.underlying t=some (.slice e)) (hz:(P.info? e).map (·.size)=some (bB.sz α)) (e0:ρ.ev x=some s.val) (e1:ρ.ev y=some (i64 m)) (e2:ρ.ev z=some (i64 n)) [hs:dM M s.ok] (h0:0≤m) (h1:m≤n) (h2:n≤s.l.length) (hd:d < N)
    (kk : ∀ (q:Sv α),q.l=(s.l.drop m.toNat).take (n.toNat - m.toNat)→(∀ {ρ':Env} {M':Mo} {E':Ow},ρ'.ev x=some s.val→ρ'.ev y=some (i64 m)→ρ'.ev z=some (i64 n)→Qt P N c ⟨some d,.slice t x (some y) (some z) none,ty,pos,after,none⟩ q.val ρ' M' E')→VD P N c ops Q rr (D3 ops k' q.val D) ((d,q.val)::ρ) (q.ok.and M) E):VD P N c ops Q ((k',true)::rr) D ρ M E :=
  VD.aMS (lo':=some m) (hi':=some n) (mx':=none) hk m.toNat n.toNat hu hz e0 (by simp [o6,e1]) (by simp [o6,e2]) rfl (by simp; omega) (by simp; omega) (.inl rfl) (fun h=>by cases h) (by omega) (by omega) hd fun q hq h=>kk q hq fun a b c'=>h a (by simp [o6,b]) (by simp [o6,c']) rfl
end
end Go.V
end
