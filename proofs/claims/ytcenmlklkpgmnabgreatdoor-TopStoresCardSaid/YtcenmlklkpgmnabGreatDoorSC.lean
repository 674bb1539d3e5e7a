/- Part of the proofs of: a folder's tree, put into a store, file by file, is there again, told in bytes and loaded; each file's bytes are there once, named by one name (any tree) -/
import Derived.Test.YtcenmlklkpgmnabGreatDoorProg
import Derived.Test.YtcenmlklkpgmnabGreatDoorSB
set_option linter.unusedVariables false
set_option linter.unusedSimpArgs false
set_option linter.unusedSectionVars false
section
namespace Go.V
open Go.RowKit
open Go.S hiding bB
instance:aKy:=⟨75,74⟩
instance:bM aC:=⟨3,fun x=>[str x.path,i64 x.mode,str x.data],fun _=>rfl,fun _ u h=>by simp only [List.mem_cons,List.not_mem_nil,or_false] at h; rcases h with rfl | rfl | rfl <;> first | rfl | exact Er.one _,fun _=>Mo.tt⟩
instance:Flat aC:=⟨fun _=>rfl⟩
instance:bM eV:=⟨2,fun x=>[str x.name,i64 x.dO],fun _=>rfl,fun _ u h=>by simp only [List.mem_cons,List.not_mem_nil,or_false] at h; rcases h with rfl | rfl <;> first | rfl | exact Er.one _,fun _=>Mo.tt⟩
instance:Flat eV:=⟨fun _=>rfl⟩
instance:bM aI:=⟨6,fun x=>[str x.path,i64 x.gY,i64 x.mode,str x.data,i64 x.time,i64 x.size],fun _=>rfl,fun _ u h=>by simp only [List.mem_cons,List.not_mem_nil,or_false] at h; rcases h with rfl | rfl | rfl | rfl | rfl | rfl <;> first | rfl | exact Er.one _,fun _=>Mo.tt⟩
instance:Flat aI:=⟨fun _=>rfl⟩
structure dZ where
  base:Int
  index:Sv aC
  work:Sv aC
  text:bB
@[reducible] def dZ.m (x:dZ):Mo:=(x.index.ok.and x.work.ok)
def dZ.pl (x:dZ):pK:=⟨x.base,x.index.l,x.work.l,x.text⟩
instance:bM dZ:=⟨4,fun x=>[i64 x.base,x.index.val,x.work.val,str x.text],fun _=>rfl,fun _ u h=>by simp only [List.mem_cons,List.not_mem_nil,or_false] at h; rcases h with rfl | rfl | rfl | rfl <;> first | rfl | exact Er.one _,dZ.m⟩
instance:bM cZ:=⟨3,fun x=>[str x.verb,i64 x.dO,str x.text],fun _=>rfl,fun _ u h=>by simp only [List.mem_cons,List.not_mem_nil,or_false] at h; rcases h with rfl | rfl | rfl <;> first | rfl | exact Er.one _,fun _=>Mo.tt⟩
instance:Flat cZ:=⟨fun _=>rfl⟩
structure cI where
  tree:Sv aC
  parents:Sv Int
  time:Int
  text:bB
@[reducible] def cI.m (x:cI):Mo:=(x.tree.ok.and x.parents.ok)
def cI.pl (x:cI):l5:=⟨x.tree.l,x.parents.l,x.time,x.text⟩
instance:bM cI:=⟨4,fun x=>[x.tree.val,x.parents.val,i64 x.time,str x.text],fun _=>rfl,fun _ u h=>by simp only [List.mem_cons,List.not_mem_nil,or_false] at h; rcases h with rfl | rfl | rfl | rfl <;> first | rfl | exact Er.one _,cI.m⟩
structure cF where
  bH:Sv aC
  aX:Sv aI
  bQ:Sv eV
  aQ:bB
  aG:Int
  bK:bB
  bI:Int
  bP:bB
  aN:Sv cZ
  aR:Sv cZ
  bO:Int
  aZ:bB
  aL:bB
  aM:Int
  aO:Sv aI
  aS:Sv aC
  bC:Sv dZ
  bE:Sv cI
  bT:Sv bB
  bJ:Sv bB
  time:Int
@[reducible] def cF.m (x:cF):Mo:=(x.bH.ok.and (x.aX.ok.and (x.bQ.ok.and (x.aN.ok.and (x.aR.ok.and (x.aO.ok.and (x.aS.ok.and (x.bC.ok.and (x.bE.ok.and (x.bT.ok.and x.bJ.ok))))))))))
def cF.pl (x:cF):bR:=⟨x.bH.l,x.aX.l,x.bQ.l,x.aQ,x.aG,x.bK,x.bI,x.bP,x.aN.l,x.aR.l,x.bO,x.aZ,x.aL,x.aM,x.aO.l,x.aS.l,(x.bC.l.map dZ.pl),(x.bE.l.map cI.pl),x.bT.l,x.bJ.l,x.time⟩
instance:bM cF:=⟨21,fun x=>[x.bH.val,x.aX.val,x.bQ.val,str x.aQ,i64 x.aG,str x.bK,i64 x.bI,str x.bP,x.aN.val,x.aR.val,i64 x.bO,str x.aZ,str x.aL,i64 x.aM,x.aO.val,x.aS.val,x.bC.val,x.bE.val,x.bT.val,x.bJ.val,i64 x.time],fun _=>rfl,fun _ u h=>by simp only [List.mem_cons,List.not_mem_nil,or_false] at h; rcases h with rfl | rfl | rfl | rfl | rfl | rfl | rfl | rfl | rfl | rfl | rfl | rfl | rfl | rfl | rfl | rfl | rfl | rfl | rfl | rfl | rfl <;> first | rfl | exact Er.one _,cF.m⟩
structure eS where
  eU:Sv UInt8
@[reducible] def eS.m (x:eS):Mo:=x.eU.ok
def eS.pl (x:eS):dK:=⟨x.eU.l⟩
instance:bM eS:=⟨1,fun x=>[x.eU.val],fun _=>rfl,fun _ u h=>by simp only [List.mem_cons,List.not_mem_nil,or_false] at h; rcases h with rfl <;> first | rfl | exact Er.one _,eS.m⟩
structure jV where
  work:Sv aC
  index:Sv aI
  refs:Sv eV
  dA:bB
  dB:Int
  l9:bB
  j9:Int
  mB:bB
  gO:Sv cZ
  iE:Sv cZ
  mA:Int
  jC:bB
  fG:bB
  fH:Int
  gP:Sv aI
  iF:Sv aC
  fK:Sv dZ
@[reducible] def jV.m (x:jV):Mo:=(x.work.ok.and (x.index.ok.and (x.refs.ok.and (x.gO.ok.and (x.iE.ok.and (x.gP.ok.and (x.iF.ok.and x.fK.ok)))))))
def jV.pl (x:jV):mF:=⟨x.work.l,x.index.l,x.refs.l,x.dA,x.dB,x.l9,x.j9,x.mB,x.gO.l,x.iE.l,x.mA,x.jC,x.fG,x.fH,x.gP.l,x.iF.l,(x.fK.l.map dZ.pl)⟩
instance:bM jV:=⟨17,fun x=>[x.work.val,x.index.val,x.refs.val,str x.dA,i64 x.dB,str x.l9,i64 x.j9,str x.mB,x.gO.val,x.iE.val,i64 x.mA,str x.jC,str x.fG,i64 x.fH,x.gP.val,x.iF.val,x.fK.val],fun _=>rfl,fun _ u h=>by simp only [List.mem_cons,List.not_mem_nil,or_false] at h; rcases h with rfl | rfl | rfl | rfl | rfl | rfl | rfl | rfl | rfl | rfl | rfl | rfl | rfl | rfl | rfl | rfl | rfl <;> first | rfl | exact Er.one _,jV.m⟩
instance:bM pJ:=⟨2,fun x=>[str x.branch,i64 x.dO],fun _=>rfl,fun _ u h=>by simp only [List.mem_cons,List.not_mem_nil,or_false] at h; rcases h with rfl | rfl <;> first | rfl | exact Er.one _,fun _=>Mo.tt⟩
instance:Flat pJ:=⟨fun _=>rfl⟩
structure yS where
  kind:bB
  other:Int
  text:bB
  oK:Sv cZ
  todo:Sv cZ
  made:Int
  branch:bB
  dA:bB
  dB:Int
  index:Sv aI
  work:Sv aC
@[reducible] def yS.m (x:yS):Mo:=(x.oK.ok.and (x.todo.ok.and (x.index.ok.and x.work.ok)))
def yS.pl (x:yS):KL:=⟨x.kind,x.other,x.text,x.oK.l,x.todo.l,x.made,x.branch,x.dA,x.dB,x.index.l,x.work.l⟩
instance:bM yS:=⟨11,fun x=>[str x.kind,i64 x.other,str x.text,x.oK.val,x.todo.val,i64 x.made,str x.branch,str x.dA,i64 x.dB,x.index.val,x.work.val],fun _=>rfl,fun _ u h=>by simp only [List.mem_cons,List.not_mem_nil,or_false] at h; rcases h with rfl | rfl | rfl | rfl | rfl | rfl | rfl | rfl | rfl | rfl | rfl <;> first | rfl | exact Er.one _,yS.m⟩
structure cH where
  b:Sv UInt8
  at_:Int
  err:Er
@[reducible] def cH.m (x:cH):Mo:=(x.b.ok.and x.err.ok)
def cH.pl (x:cH):bL:=⟨x.b.l,x.at_,x.err.pl⟩
instance:bM cH:=⟨3,fun x=>[x.b.val,i64 x.at_,x.err.val],fun _=>rfl,fun _ u h=>by simp only [List.mem_cons,List.not_mem_nil,or_false] at h; rcases h with rfl | rfl | rfl <;> first | rfl | exact Er.one _,cH.m⟩
structure rT where
  verb:bB
  name:bB
  n:Int
  text:bB
  force:Bool
  todo:Sv cZ
@[reducible] def rT.m (x:rT):Mo:=x.todo.ok
def rT.pl (x:rT):qR:=⟨x.verb,x.name,x.n,x.text,x.force,x.todo.l⟩
instance:bM rT:=⟨6,fun x=>[str x.verb,str x.name,i64 x.n,str x.text,.bool x.force,x.todo.val],fun _=>rfl,fun _ u h=>by simp only [List.mem_cons,List.not_mem_nil,or_false] at h; rcases h with rfl | rfl | rfl | rfl | rfl | rfl <;> first | rfl | exact Er.one _,rT.m⟩
structure jA where
  files:Sv aC
  entries:Sv aI
  conflicts:Sv bB
@[reducible] def jA.m (x:jA):Mo:=(x.files.ok.and (x.entries.ok.and x.conflicts.ok))
def jA.pl (x:jA):jY:=⟨x.files.l,x.entries.l,x.conflicts.l⟩
instance:bM jA:=⟨3,fun x=>[x.files.val,x.entries.val,x.conflicts.val],fun _=>rfl,fun _ u h=>by simp only [List.mem_cons,List.not_mem_nil,or_false] at h; rcases h with rfl | rfl | rfl <;> first | rfl | exact Er.one _,jA.m⟩
instance:bM aAq:=⟨4,fun x=>[str x.dW,i64 x.dI,str x.dH,.bool x.is],fun _=>rfl,fun _ u h=>by simp only [List.mem_cons,List.not_mem_nil,or_false] at h; rcases h with rfl | rfl | rfl | rfl <;> first | rfl | exact Er.one _,fun _=>Mo.tt⟩
instance:Flat aAq:=⟨fun _=>rfl⟩
instance:bM QK:=⟨4,fun x=>[str x.dW,i64 x.dI,str x.dH,.bool x.is],fun _=>rfl,fun _ u h=>by simp only [List.mem_cons,List.not_mem_nil,or_false] at h; rcases h with rfl | rfl | rfl | rfl <;> first | rfl | exact Er.one _,fun _=>Mo.tt⟩
instance:Flat QK:=⟨fun _=>rfl⟩
structure A6 where
  back:Sv bB
  N5:Sv bB
@[reducible] def A6.m (x:A6):Mo:=(x.back.ok.and x.N5.ok)
def A6.pl (x:A6):KK:=⟨x.back.l,x.N5.l⟩
instance:bM A6:=⟨2,fun x=>[x.back.val,x.N5.val],fun _=>rfl,fun _ u h=>by simp only [List.mem_cons,List.not_mem_nil,or_false] at h; rcases h with rfl | rfl <;> first | rfl | exact Er.one _,A6.m⟩
instance:bM b5:=⟨3,fun x=>[str x.path,i64 x.mode,i64 x.oJ],fun _=>rfl,fun _ u h=>by simp only [List.mem_cons,List.not_mem_nil,or_false] at h; rcases h with rfl | rfl | rfl <;> first | rfl | exact Er.one _,fun _=>Mo.tt⟩
instance:Flat b5:=⟨fun _=>rfl⟩
structure cN where
  kind:Int
  data:Sv UInt8
  items:Sv b5
  tree:Int
  parents:Sv Int
  time:Int
  text:bB
@[reducible] def cN.m (x:cN):Mo:=(x.data.ok.and (x.items.ok.and x.parents.ok))
def cN.pl (x:cN):aY:=⟨x.kind,x.data.l,x.items.l,x.tree,x.parents.l,x.time,x.text⟩
instance:bM cN:=⟨7,fun x=>[i64 x.kind,x.data.val,x.items.val,i64 x.tree,x.parents.val,i64 x.time,str x.text],fun _=>rfl,fun _ u h=>by simp only [List.mem_cons,List.not_mem_nil,or_false] at h; rcases h with rfl | rfl | rfl | rfl | rfl | rfl | rfl <;> first | rfl | exact Er.one _,cN.m⟩
structure mE where
  l:Sv cN
  mY:Mv bB Int
@[reducible] def mE.m (x:mE):Mo:=x.l.ok
def mE.pl (x:mE):kK:=⟨(x.l.l.map cN.pl),x.mY.l⟩
instance:bM mE:=⟨2,fun x=>[x.l.val,x.mY.val],fun _=>rfl,fun _ u h=>by simp only [List.mem_cons,List.not_mem_nil,or_false] at h; rcases h with rfl | rfl <;> first | rfl | exact Er.one _,mE.m⟩
structure nZ where
  b:Sv UInt8
@[reducible] def nZ.m (x:nZ):Mo:=x.b.ok
def nZ.pl (x:nZ):mX:=⟨x.b.l⟩
instance:bM nZ:=⟨1,fun x=>[x.b.val],fun _=>rfl,fun _ u h=>by simp only [List.mem_cons,List.not_mem_nil,or_false] at h; rcases h with rfl <;> first | rfl | exact Er.one _,nZ.m⟩
@[reducible] def aH (x:cF):List Value:=[x.bH.val,x.aX.val,x.bQ.val,str x.aQ,i64 x.aG,str x.bK,i64 x.bI,str x.bP,x.aN.val,x.aR.val,i64 x.bO,str x.aZ,str x.aL,i64 x.aM,x.aO.val,x.aS.val,x.bC.val,x.bE.val,x.bT.val,x.bJ.val,i64 x.time]
@[reducible] def mK (x:jV):List Value:=[x.work.val,x.index.val,x.refs.val,str x.dA,i64 x.dB,str x.l9,i64 x.j9,str x.mB,x.gO.val,x.iE.val,i64 x.mA,str x.jC,str x.fG,i64 x.fH,x.gP.val,x.iF.val,x.fK.val]
@[reducible] def aHZ (x:yS):List Value:=[str x.kind,i64 x.other,str x.text,x.oK.val,x.todo.val,i64 x.made,str x.branch,str x.dA,i64 x.dB,x.index.val,x.work.val]
end Go.V
end

section
set_option linter.unusedVariables false
namespace Go.Proofs.YtcenmlklkpgmnabGreatDoor
set_option maxHeartbeats 4000000
set_option maxRecDepth 100000
set_option synthInstance.maxSize 2000
set_option synthInstance.maxHeartbeats 1000000
open Go.RowKit Go.V
open Go.S hiding bB
theorem mixed:Tryz.prog.follows .mixedOrders=true:=by kernel_rfl
theorem qM:OneCell Tryz.prog 30:=jB Tryz.underlying30 rfl
theorem LF:(Tryz.prog.info? 30).map (·.size)=some 1:=by kernel_rfl
theorem aEV:OneCell Tryz.prog 26:=jB Tryz.underlying26 rfl
theorem gG:(Tryz.prog.info? 66).map (·.size)=some 21:=by kernel_rfl
theorem cL:pI Tryz.prog 66 21:=mS Tryz.underlying66 rfl (by kernel_rfl)
theorem fS:(Tryz.prog.info? 36).map (·.size)=some 3:=by kernel_rfl
theorem eC:dL Tryz.prog 66 0 0:=cK (n:=16) (f:=⟨_,_,0,_,_,_,_⟩) Tryz.underlying66 rfl (by kernel_rfl)
theorem tI:dL Tryz.prog 60 0 0:=cK (n:=0) (f:=⟨_,_,0,_,_,_,_⟩) Tryz.underlying60 rfl (by kernel_rfl)
theorem jS:OneCell Tryz.prog 23:=jB Tryz.underlying23 rfl
theorem jZ:pI Tryz.prog 36 3:=mS Tryz.underlying36 rfl (by kernel_rfl)
theorem qS:dL Tryz.prog 36 0 0:=cK (n:=0) (f:=⟨_,_,0,_,_,_,_⟩) Tryz.underlying36 rfl (by kernel_rfl)
theorem dD:OneCell Tryz.prog 9:=jB Tryz.underlying9 rfl
theorem X9:((Tryz.prog.info? 36).map fun i=>(i.size,i.zero.isSome))=some (3,true):=by kernel_rfl
theorem a4b:((Tryz.prog.info? 9).map fun i=>(i.size,i.bytes,i.zero.map fun z=>z.cells.toList))=some (1,16,some [str []]):=by kernel_rfl
theorem vA:(Tryz.prog.info? 9).map (·.size)=some 1:=by kernel_rfl
theorem AD:(Tryz.prog.info? 5).map (·.size)=some 1:=by kernel_rfl
theorem RS:OneCell Tryz.prog 5:=jB Tryz.underlying5 rfl
theorem LA:dL Tryz.prog 36 1 1:=cK (n:=0) (f:=⟨_,_,1,_,_,_,_⟩) Tryz.underlying36 rfl (by kernel_rfl)
theorem eP:OneCell Tryz.prog 3:=jB Tryz.underlying3 rfl
theorem E8:dL Tryz.prog 36 2 2:=cK (n:=0) (f:=⟨_,_,2,_,_,_,_⟩) Tryz.underlying36 rfl (by kernel_rfl)
theorem a1B:((Tryz.prog.info? 36).map (·.size)).isSome=true:=by kernel_rfl
theorem RO:((Tryz.prog.info? 36).map fun i=>(i.size,i.bytes,(i.zero.map fun z=>z.cells.size)))=some (3,40,some 3):=by kernel_rfl
theorem aWV : ∀ w:World,(zeroValue 36).run Tryz.prog w = .ok (.agg #[str [],i64 0,str []]) w:=by intro w; kernel_rfl
theorem JP:pI Tryz.prog 60 17:=mS Tryz.underlying60 rfl (by kernel_rfl)
theorem eG:dL Tryz.prog 185 0 0:=cK (n:=0) (f:=⟨_,_,0,_,_,_,_⟩) Tryz.underlying185 rfl (by kernel_rfl)
theorem kI:((Tryz.prog.info? 3).map fun i=>(i.size,i.zero.isSome))=some (1,true):=by kernel_rfl
theorem u9:(Tryz.prog.info? 3).map (·.size)=some 1:=by kernel_rfl
theorem u5:dL Tryz.prog 97 0 0:=cK (n:=0) (f:=⟨_,_,0,_,_,_,_⟩) Tryz.underlying97 rfl (by kernel_rfl)
theorem U0:((Tryz.prog.info? 5).map fun i=>(i.size,i.zero.isSome))=some (1,true):=by kernel_rfl
theorem RP:((Tryz.prog.info? 5).map fun i=>(i.size,i.bytes,(i.zero.map fun z=>z.cells.size)))=some (1,1,some 1):=by kernel_rfl
theorem x4:((Tryz.prog.info? 9).map fun i=>(i.size,i.zero.isSome))=some (1,true):=by kernel_rfl
theorem aWD:((Tryz.prog.info? 5).map fun i=>(i.size,i.bytes,i.zero))=some (1,1,some (.int .u8 0)):=by kernel_rfl
theorem rI:dL Tryz.prog 60 1 1:=cK (n:=0) (f:=⟨_,_,1,_,_,_,_⟩) Tryz.underlying60 rfl (by kernel_rfl)
theorem nG:OneCell Tryz.prog 50:=jB Tryz.underlying50 rfl
theorem iN:(Tryz.prog.info? 274).map (·.size)=some 6:=by kernel_rfl
theorem oV:pI Tryz.prog 274 6:=mS Tryz.underlying274 rfl (by kernel_rfl)
theorem wQ:dL Tryz.prog 274 0 0:=cK (n:=0) (f:=⟨_,_,0,_,_,_,_⟩) Tryz.underlying274 rfl (by kernel_rfl)
theorem G1:dL Tryz.prog 274 1 1:=cK (n:=0) (f:=⟨_,_,1,_,_,_,_⟩) Tryz.underlying274 rfl (by kernel_rfl)
theorem X7:dL Tryz.prog 274 2 2:=cK (n:=0) (f:=⟨_,_,2,_,_,_,_⟩) Tryz.underlying274 rfl (by kernel_rfl)
theorem X8:dL Tryz.prog 274 3 3:=cK (n:=0) (f:=⟨_,_,3,_,_,_,_⟩) Tryz.underlying274 rfl (by kernel_rfl)
theorem aS7:dL Tryz.prog 274 4 4:=cK (n:=0) (f:=⟨_,_,4,_,_,_,_⟩) Tryz.underlying274 rfl (by kernel_rfl)
theorem aS8:dL Tryz.prog 274 5 5:=cK (n:=0) (f:=⟨_,_,5,_,_,_,_⟩) Tryz.underlying274 rfl (by kernel_rfl)
theorem kZ:dL Tryz.prog 60 2 2:=cK (n:=0) (f:=⟨_,_,2,_,_,_,_⟩) Tryz.underlying60 rfl (by kernel_rfl)
theorem u6:OneCell Tryz.prog 51:=jB Tryz.underlying51 rfl
theorem pP:(Tryz.prog.info? 241).map (·.size)=some 2:=by kernel_rfl
theorem aF6:pI Tryz.prog 241 2:=mS Tryz.underlying241 rfl (by kernel_rfl)
theorem aIE:dL Tryz.prog 241 0 0:=cK (n:=0) (f:=⟨_,_,0,_,_,_,_⟩) Tryz.underlying241 rfl (by kernel_rfl)
theorem X6:dL Tryz.prog 241 1 1:=cK (n:=0) (f:=⟨_,_,1,_,_,_,_⟩) Tryz.underlying241 rfl (by kernel_rfl)
theorem pO:dL Tryz.prog 60 3 3:=cK (n:=1) (f:=⟨_,_,3,_,_,_,_⟩) Tryz.underlying60 rfl (by kernel_rfl)
theorem aBR:pI Tryz.prog 53 2:=mS Tryz.underlying53 rfl (by kernel_rfl)
theorem UY:dL Tryz.prog 53 0 0:=cK (n:=0) (f:=⟨_,_,0,_,_,_,_⟩) Tryz.underlying53 rfl (by kernel_rfl)
theorem E9:dL Tryz.prog 53 1 1:=cK (n:=0) (f:=⟨_,_,1,_,_,_,_⟩) Tryz.underlying53 rfl (by kernel_rfl)
theorem tJ:dL Tryz.prog 60 4 5:=cK (n:=10) (f:=⟨_,_,5,_,_,_,_⟩) Tryz.underlying60 rfl (by kernel_rfl)
theorem aPB:pI Tryz.prog 56 11:=mS Tryz.underlying56 rfl (by kernel_rfl)
theorem H6:dL Tryz.prog 56 0 0:=cK (n:=0) (f:=⟨_,_,0,_,_,_,_⟩) Tryz.underlying56 rfl (by kernel_rfl)
theorem aWF:dL Tryz.prog 56 1 1:=cK (n:=0) (f:=⟨_,_,1,_,_,_,_⟩) Tryz.underlying56 rfl (by kernel_rfl)
theorem aWG:dL Tryz.prog 56 2 2:=cK (n:=0) (f:=⟨_,_,2,_,_,_,_⟩) Tryz.underlying56 rfl (by kernel_rfl)
theorem aLZ:dL Tryz.prog 56 3 3:=cK (n:=0) (f:=⟨_,_,3,_,_,_,_⟩) Tryz.underlying56 rfl (by kernel_rfl)
theorem JQ:OneCell Tryz.prog 54:=jB Tryz.underlying54 rfl
theorem aJa:(Tryz.prog.info? 173).map (·.size)=some 3:=by kernel_rfl
theorem aWB:pI Tryz.prog 173 3:=mS Tryz.underlying173 rfl (by kernel_rfl)
theorem aWH:dL Tryz.prog 56 4 4:=cK (n:=0) (f:=⟨_,_,4,_,_,_,_⟩) Tryz.underlying56 rfl (by kernel_rfl)
theorem aWI:dL Tryz.prog 56 5 5:=cK (n:=0) (f:=⟨_,_,5,_,_,_,_⟩) Tryz.underlying56 rfl (by kernel_rfl)
theorem aWJ:dL Tryz.prog 56 6 6:=cK (n:=0) (f:=⟨_,_,6,_,_,_,_⟩) Tryz.underlying56 rfl (by kernel_rfl)
theorem aWK:dL Tryz.prog 56 7 7:=cK (n:=1) (f:=⟨_,_,7,_,_,_,_⟩) Tryz.underlying56 rfl (by kernel_rfl)
theorem aWL:dL Tryz.prog 56 8 9:=cK (n:=0) (f:=⟨_,_,9,_,_,_,_⟩) Tryz.underlying56 rfl (by kernel_rfl)
theorem aWM:dL Tryz.prog 56 9 10:=cK (n:=0) (f:=⟨_,_,10,_,_,_,_⟩) Tryz.underlying56 rfl (by kernel_rfl)
theorem AB:dL Tryz.prog 60 5 16:=cK (n:=0) (f:=⟨_,_,16,_,_,_,_⟩) Tryz.underlying60 rfl (by kernel_rfl)
theorem MY:OneCell Tryz.prog 58:=jB Tryz.underlying58 rfl
theorem aJb:(Tryz.prog.info? 245).map (·.size)=some 4:=by kernel_rfl
theorem aWC:pI Tryz.prog 245 4:=mS Tryz.underlying245 rfl (by kernel_rfl)
theorem nA:dL Tryz.prog 66 1 17:=cK (n:=0) (f:=⟨_,_,17,_,_,_,_⟩) Tryz.underlying66 rfl (by kernel_rfl)
theorem sW:OneCell Tryz.prog 61:=jB Tryz.underlying61 rfl
theorem aAO:(Tryz.prog.info? 73).map (·.size)=some 4:=by kernel_rfl
theorem aPD:pI Tryz.prog 73 4:=mS Tryz.underlying73 rfl (by kernel_rfl)
theorem aL1:dL Tryz.prog 73 0 0:=cK (n:=0) (f:=⟨_,_,0,_,_,_,_⟩) Tryz.underlying73 rfl (by kernel_rfl)
theorem aBW:dL Tryz.prog 73 1 1:=cK (n:=0) (f:=⟨_,_,1,_,_,_,_⟩) Tryz.underlying73 rfl (by kernel_rfl)
theorem x5:OneCell Tryz.prog 32:=jB Tryz.underlying32 rfl
theorem aWO:dL Tryz.prog 73 2 2:=cK (n:=0) (f:=⟨_,_,2,_,_,_,_⟩) Tryz.underlying73 rfl (by kernel_rfl)
theorem aWP:dL Tryz.prog 73 3 3:=cK (n:=0) (f:=⟨_,_,3,_,_,_,_⟩) Tryz.underlying73 rfl (by kernel_rfl)
theorem UZ:dL Tryz.prog 66 2 18:=cK (n:=1) (f:=⟨_,_,18,_,_,_,_⟩) Tryz.underlying66 rfl (by kernel_rfl)
theorem aL0:dL Tryz.prog 64 0 0:=cK (n:=0) (f:=⟨_,_,0,_,_,_,_⟩) Tryz.underlying64 rfl (by kernel_rfl)
theorem x6:OneCell Tryz.prog 62:=jB Tryz.underlying62 rfl
theorem aWN:dL Tryz.prog 64 1 1:=cK (n:=0) (f:=⟨_,_,1,_,_,_,_⟩) Tryz.underlying64 rfl (by kernel_rfl)
theorem aBV:dL Tryz.prog 66 3 20:=cK (n:=0) (f:=⟨_,_,20,_,_,_,_⟩) Tryz.underlying66 rfl (by kernel_rfl)
theorem a5C:((Tryz.prog.info? 5).map (·.size)).isSome=true:=by kernel_rfl
theorem c7:OneCell Tryz.prog 212:=jB Tryz.underlying212 rfl
theorem cQ:dL Tryz.prog 214 0 0:=cK (n:=0) (f:=⟨_,_,0,_,_,_,_⟩) Tryz.underlying214 rfl (by kernel_rfl)
theorem c5:OneCell Tryz.prog 90:=jB Tryz.underlying90 rfl
theorem O9:dL Tryz.prog 127 2 2:=cK (n:=0) (f:=⟨_,_,2,_,_,_,_⟩) Tryz.underlying127 rfl (by kernel_rfl)
theorem uW:dL Tryz.prog 127 1 1:=cK (n:=0) (f:=⟨_,_,1,_,_,_,_⟩) Tryz.underlying127 rfl (by kernel_rfl)
theorem O8:dL Tryz.prog 127 0 0:=cK (n:=0) (f:=⟨_,_,0,_,_,_,_⟩) Tryz.underlying127 rfl (by kernel_rfl)
theorem a5E:(Tryz.prog.info? 26).map (·.size)=some 1:=by kernel_rfl
theorem jX:dL Tryz.prog 214 1 1:=cK (n:=0) (f:=⟨_,_,1,_,_,_,_⟩) Tryz.underlying214 rfl (by kernel_rfl)
theorem o9:OneCell Tryz.prog 4:=jB Tryz.underlying4 rfl
theorem rJ:(Tryz.prog.info? 4).map (·.size)=some 1:=by kernel_rfl
theorem aCw:(Tryz.prog.info? 23).map (·.size)=some 1:=by kernel_rfl
theorem aFe:((Tryz.prog.info? 274).map fun i=>(i.size,i.zero.isSome))=some (6,true):=by kernel_rfl
theorem UX:((Tryz.prog.info? 274).map fun i=>(i.size,i.bytes,(i.zero.map fun z=>z.cells.size)))=some (6,64,some 6):=by kernel_rfl
theorem aNo:(Tryz.prog.info? 50).map (·.size)=some 1:=by kernel_rfl
theorem aCz:(Tryz.prog.info? 60).map (·.size)=some 17:=by kernel_rfl
theorem aL3:((Tryz.prog.info? 241).map fun i=>(i.size,i.zero.isSome))=some (2,true):=by kernel_rfl
theorem aBS:((Tryz.prog.info? 241).map fun i=>(i.size,i.bytes,(i.zero.map fun z=>z.cells.size)))=some (2,24,some 2):=by kernel_rfl
theorem aCy:(Tryz.prog.info? 51).map (·.size)=some 1:=by kernel_rfl
theorem aAM:(Tryz.prog.info? 53).map (·.size)=some 2:=by kernel_rfl
theorem aWS:((Tryz.prog.info? 173).map fun i=>(i.size,i.zero.isSome))=some (3,true):=by kernel_rfl
theorem aWE:((Tryz.prog.info? 173).map fun i=>(i.size,i.bytes,(i.zero.map fun z=>z.cells.size)))=some (3,40,some 3):=by kernel_rfl
theorem a5G:(Tryz.prog.info? 54).map (·.size)=some 1:=by kernel_rfl
theorem aAN:(Tryz.prog.info? 56).map (·.size)=some 11:=by kernel_rfl
theorem aNp:(Tryz.prog.info? 58).map (·.size)=some 1:=by kernel_rfl
theorem IV:((Tryz.prog.info? 3).map fun i=>(i.size,i.bytes,(i.zero.map fun z=>z.cells.size)))=some (1,8,some 1):=by kernel_rfl
theorem aCx:(Tryz.prog.info? 32).map (·.size)=some 1:=by kernel_rfl
theorem aJ9:((Tryz.prog.info? 73).map fun i=>(i.size,i.zero.isSome))=some (4,true):=by kernel_rfl
theorem aEU:((Tryz.prog.info? 73).map fun i=>(i.size,i.bytes,(i.zero.map fun z=>z.cells.size)))=some (4,72,some 4):=by kernel_rfl
theorem aJc:(Tryz.prog.info? 61).map (·.size)=some 1:=by kernel_rfl
theorem aF8:((Tryz.prog.info? 9).map fun i=>(i.size,i.bytes,(i.zero.map fun z=>z.cells.size)))=some (1,16,some 1):=by kernel_rfl
theorem a5H:(Tryz.prog.info? 62).map (·.size)=some 1:=by kernel_rfl
theorem aNq:(Tryz.prog.info? 64).map (·.size)=some 2:=by kernel_rfl
theorem RT:(Tryz.prog.info? 112).map (·.size)=some 6:=by kernel_rfl
theorem aCu:dL Tryz.prog 112 3 3:=cK (n:=0) (f:=⟨_,_,3,_,_,_,_⟩) Tryz.underlying112 rfl (by kernel_rfl)
theorem rH:pI Tryz.prog 112 6:=mS Tryz.underlying112 rfl (by kernel_rfl)
theorem rX:dL Tryz.prog 112 0 0:=cK (n:=0) (f:=⟨_,_,0,_,_,_,_⟩) Tryz.underlying112 rfl (by kernel_rfl)
theorem qE:dL Tryz.prog 112 1 1:=cK (n:=0) (f:=⟨_,_,1,_,_,_,_⟩) Tryz.underlying112 rfl (by kernel_rfl)
theorem aIC:dL Tryz.prog 112 2 2:=cK (n:=0) (f:=⟨_,_,2,_,_,_,_⟩) Tryz.underlying112 rfl (by kernel_rfl)
theorem a1H:((Tryz.prog.info? 75).map fun i=>(i.size,i.zero.isSome))=some (1,true):=by kernel_rfl
theorem a5I:(Tryz.prog.info? 75).map (·.size)=some 1:=by kernel_rfl
theorem a1I:OneCell Tryz.prog 75:=jB Tryz.underlying75 rfl
theorem aWR:((Tryz.prog.info? 274).map (·.size)).isSome=true:=by kernel_rfl
theorem aPI : ∀ w:World,(zeroValue 274).run Tryz.prog w = .ok (.agg #[str [],i64 0,i64 0,str [],i64 0,i64 0]) w:=by intro w; kernel_rfl
theorem a1A : ∀ (x0:List UInt8) (x1:Int) (x2:List UInt8) (y0:List UInt8) (y1:Int) (y2:List UInt8) (w:World),(Op.equalIn 10000 36 (.agg #[str x0,i64 x1,str x2]) (.agg #[str y0,i64 y1,str y2])).run Tryz.prog w = .ok (decide (x0=y0∧x1=y1∧x2=y2)) w:=by
 intro x0 x1 x2 y0 y1 y2 w
 have hS:Tryz.prog.underlying 36=some (.struct (Tryz.prog.fieldsOf 36)):=by kernel_rfl
 rw [show (10000:Nat)=9999+1 from rfl,run_equalIn_agg w 9999 36 _ _ hS (by kernel_rfl)]
 simp only [Program.fieldsOf,Tryz.underlying36]
 go_simp
 by_cases h0:x0=y0 <;> by_cases h1:x1=y1 <;> by_cases h2:x2=y2 <;> simp [h0,h1,h2]
theorem a0y:Tryz.prog.eqGuardType Tryz.prog.depth 36=false:=by kernel_rfl
theorem a6d : ∀ w:World,(zeroValue 3).run Tryz.prog w = .ok (i64 0) w:=by intro w; kernel_rfl
theorem a1D:((Tryz.prog.info? 73).map (·.size)).isSome=true:=by kernel_rfl
theorem aWQ:((Tryz.prog.info? 241).map (·.size)).isSome=true:=by kernel_rfl
theorem aS6:dL Tryz.prog 112 4 4:=cK (n:=0) (f:=⟨_,_,4,_,_,_,_⟩) Tryz.underlying112 rfl (by kernel_rfl)
theorem AA:pI Tryz.prog 293 3:=mS Tryz.underlying293 rfl (by kernel_rfl)
theorem tE:dL Tryz.prog 293 0 0:=cK (n:=0) (f:=⟨_,_,0,_,_,_,_⟩) Tryz.underlying293 rfl (by kernel_rfl)
theorem aJ8:((Tryz.prog.info? 23).map fun i=>(i.size,i.zero.isSome))=some (1,true):=by kernel_rfl
theorem aEW:(Tryz.prog.info? 362).map (·.size)=some 4:=by kernel_rfl
theorem aF7:pI Tryz.prog 362 4:=mS Tryz.underlying362 rfl (by kernel_rfl)
theorem aFb : ∀ (x0:List UInt8) (x1:Int) (x2:List UInt8) (x3:Bool) (y0:List UInt8) (y1:Int) (y2:List UInt8) (y3:Bool) (w:World),(Op.equalIn 10000 362 (.agg #[str x0,i64 x1,str x2,.bool x3]) (.agg #[str y0,i64 y1,str y2,.bool y3])).run Tryz.prog w = .ok (decide (x0=y0∧x1=y1∧x2=y2∧x3=y3)) w:=by
 intro x0 x1 x2 x3 y0 y1 y2 y3 w
 have hS:Tryz.prog.underlying 362=some (.struct (Tryz.prog.fieldsOf 362)):=by kernel_rfl
 rw [show (10000:Nat)=9999+1 from rfl,run_equalIn_agg w 9999 362 _ _ hS (by kernel_rfl)]
 simp only [Program.fieldsOf,Tryz.underlying362]
 go_simp
 by_cases h0:x0=y0 <;> by_cases h1:x1=y1 <;> by_cases h2:x2=y2 <;> by_cases h3:x3=y3 <;> simp [h0,h1,h2,h3]
theorem aF9:Tryz.prog.eqGuardType Tryz.prog.depth 362=false:=by kernel_rfl
theorem D7:dL Tryz.prog 293 2 2:=cK (n:=0) (f:=⟨_,_,2,_,_,_,_⟩) Tryz.underlying293 rfl (by kernel_rfl)
theorem aIG:dL Tryz.prog 362 1 3:=cK (n:=0) (f:=⟨_,_,3,_,_,_,_⟩) Tryz.underlying362 rfl (by kernel_rfl)
theorem aCv:dL Tryz.prog 362 0 0:=cK (n:=2) (f:=⟨_,_,0,_,_,_,_⟩) Tryz.underlying362 rfl (by kernel_rfl)
theorem a5B:((Tryz.prog.info? 3).map (·.size)).isSome=true:=by kernel_rfl
theorem a1F:((Tryz.prog.info? 32).map fun i=>(i.size,i.zero.isSome))=some (1,true):=by kernel_rfl
theorem a0w:((Tryz.prog.info? 32).map fun i=>(i.size,i.bytes,(i.zero.map fun z=>z.cells.size)))=some (1,24,some 1):=by kernel_rfl
theorem a69:((Tryz.prog.info? 4).map fun i=>(i.size,i.bytes,i.zero.map fun z=>z.cells.toList))=some (1,1,some [.bool false]):=by kernel_rfl
theorem aEX:(Tryz.prog.info? 420).map (·.size)=some 4:=by kernel_rfl
theorem K8:pI Tryz.prog 420 4:=mS Tryz.underlying420 rfl (by kernel_rfl)
theorem aFc : ∀ (x0:List UInt8) (x1:Int) (x2:List UInt8) (x3:Bool) (y0:List UInt8) (y1:Int) (y2:List UInt8) (y3:Bool) (w:World),(Op.equalIn 10000 420 (.agg #[str x0,i64 x1,str x2,.bool x3]) (.agg #[str y0,i64 y1,str y2,.bool y3])).run Tryz.prog w = .ok (decide (x0=y0∧x1=y1∧x2=y2∧x3=y3)) w:=by
 intro x0 x1 x2 x3 y0 y1 y2 y3 w
 have hS:Tryz.prog.underlying 420=some (.struct (Tryz.prog.fieldsOf 420)):=by kernel_rfl
 rw [show (10000:Nat)=9999+1 from rfl,run_equalIn_agg w 9999 420 _ _ hS (by kernel_rfl)]
 simp only [Program.fieldsOf,Tryz.underlying420]
 go_simp
 by_cases h0:x0=y0 <;> by_cases h1:x1=y1 <;> by_cases h2:x2=y2 <;> by_cases h3:x3=y3 <;> simp [h0,h1,h2,h3]
theorem aFa:Tryz.prog.eqGuardType Tryz.prog.depth 420=false:=by kernel_rfl
theorem aIH:dL Tryz.prog 420 0 0:=cK (n:=2) (f:=⟨_,_,0,_,_,_,_⟩) Tryz.underlying420 rfl (by kernel_rfl)
theorem G2:dL Tryz.prog 420 1 3:=cK (n:=0) (f:=⟨_,_,3,_,_,_,_⟩) Tryz.underlying420 rfl (by kernel_rfl)
theorem aIF:dL Tryz.prog 293 1 1:=cK (n:=0) (f:=⟨_,_,1,_,_,_,_⟩) Tryz.underlying293 rfl (by kernel_rfl)
theorem YA:(Tryz.prog.info? 293).map (·.size)=some 3:=by kernel_rfl
theorem aPC:pI Tryz.prog 64 2:=mS Tryz.underlying64 rfl (by kernel_rfl)
theorem a5D:((Tryz.prog.info? 9).map (·.size)).isSome=true:=by kernel_rfl
theorem qJ:(Tryz.prog.info? 34).map (·.size)=some 7:=by kernel_rfl
theorem iY:pI Tryz.prog 34 7:=mS Tryz.underlying34 rfl (by kernel_rfl)
theorem E7:dL Tryz.prog 34 0 0:=cK (n:=0) (f:=⟨_,_,0,_,_,_,_⟩) Tryz.underlying34 rfl (by kernel_rfl)
theorem HZ:dL Tryz.prog 34 1 1:=cK (n:=0) (f:=⟨_,_,1,_,_,_,_⟩) Tryz.underlying34 rfl (by kernel_rfl)
theorem sQ:dL Tryz.prog 34 2 2:=cK (n:=0) (f:=⟨_,_,2,_,_,_,_⟩) Tryz.underlying34 rfl (by kernel_rfl)
theorem BH:OneCell Tryz.prog 31:=jB Tryz.underlying31 rfl
theorem G3:(Tryz.prog.info? 40).map (·.size)=some 3:=by kernel_rfl
theorem aET:pI Tryz.prog 40 3:=mS Tryz.underlying40 rfl (by kernel_rfl)
theorem LB:dL Tryz.prog 40 0 0:=cK (n:=0) (f:=⟨_,_,0,_,_,_,_⟩) Tryz.underlying40 rfl (by kernel_rfl)
theorem aFd:dL Tryz.prog 40 1 1:=cK (n:=0) (f:=⟨_,_,1,_,_,_,_⟩) Tryz.underlying40 rfl (by kernel_rfl)
theorem aBU:dL Tryz.prog 40 2 2:=cK (n:=0) (f:=⟨_,_,2,_,_,_,_⟩) Tryz.underlying40 rfl (by kernel_rfl)
theorem K9:dL Tryz.prog 34 4 4:=cK (n:=0) (f:=⟨_,_,4,_,_,_,_⟩) Tryz.underlying34 rfl (by kernel_rfl)
theorem CI:dL Tryz.prog 34 3 3:=cK (n:=0) (f:=⟨_,_,3,_,_,_,_⟩) Tryz.underlying34 rfl (by kernel_rfl)
theorem CJ:dL Tryz.prog 34 5 5:=cK (n:=0) (f:=⟨_,_,5,_,_,_,_⟩) Tryz.underlying34 rfl (by kernel_rfl)
theorem CK:dL Tryz.prog 34 6 6:=cK (n:=0) (f:=⟨_,_,6,_,_,_,_⟩) Tryz.underlying34 rfl (by kernel_rfl)
theorem aPF:((Tryz.prog.info? 30).map fun i=>(i.size,i.zero.isSome))=some (1,true):=by kernel_rfl
theorem a6a:((Tryz.prog.info? 5).map fun i=>(i.size,i.bytes,i.zero.map fun z=>z.cells.toList))=some (1,1,some [.int .u8 0]):=by kernel_rfl
theorem wR:dL Tryz.prog 82 0 0:=cK (n:=0) (f:=⟨_,_,0,_,_,_,_⟩) Tryz.underlying82 rfl (by kernel_rfl)
theorem C5:OneCell Tryz.prog 80:=jB Tryz.underlying80 rfl
theorem aL2:dL Tryz.prog 82 1 1:=cK (n:=0) (f:=⟨_,_,1,_,_,_,_⟩) Tryz.underlying82 rfl (by kernel_rfl)
theorem aPH:OneCell Tryz.prog 79:=jB Tryz.underlying79 rfl
theorem a6c : ∀ w:World,(zeroValue 3).run Tryz.prog w = .ok (.int .i64 0) w:=by intro w; kernel_rfl
theorem a1C:((Tryz.prog.info? 40).map (·.size)).isSome=true:=by kernel_rfl
theorem aJ7:((Tryz.prog.info? 40).map fun i=>(i.size,i.bytes,(i.zero.map fun z=>z.cells.size)))=some (3,32,some 3):=by kernel_rfl
theorem aNn:(Tryz.prog.info? 31).map (·.size)=some 1:=by kernel_rfl
theorem a1G:((Tryz.prog.info? 34).map fun i=>(i.size,i.zero.isSome))=some (7,true):=by kernel_rfl
theorem a0x:((Tryz.prog.info? 34).map fun i=>(i.size,i.bytes,(i.zero.map fun z=>z.cells.size)))=some (7,112,some 7):=by kernel_rfl
theorem a5J:(Tryz.prog.info? 80).map (·.size)=some 1:=by kernel_rfl
theorem aPG:((Tryz.prog.info? 40).map fun i=>(i.size,i.zero.isSome))=some (3,true):=by kernel_rfl
theorem qF:dL Tryz.prog 134 0 0:=cK (n:=0) (f:=⟨_,_,0,_,_,_,_⟩) Tryz.underlying134 rfl (by kernel_rfl)
theorem aID:dL Tryz.prog 134 1 1:=cK (n:=0) (f:=⟨_,_,1,_,_,_,_⟩) Tryz.underlying134 rfl (by kernel_rfl)
theorem JR:(Tryz.prog.info? 103).map (·.size)=some 8:=by kernel_rfl
theorem u0:pI Tryz.prog 103 8:=mS Tryz.underlying103 rfl (by kernel_rfl)
theorem aBY:(Tryz.prog.info? 105).map (·.size)=some 64:=by kernel_rfl
theorem aBQ:pI Tryz.prog 105 64:=mS Tryz.underlying105 rfl (by kernel_rfl)
theorem gC:(Tryz.prog.info? 102).map (·.size)=some 1:=by kernel_rfl
theorem fY:OneCell Tryz.prog 102:=jB Tryz.underlying102 rfl
theorem aPA:pI Tryz.prog 47 32:=mS Tryz.underlying47 rfl (by kernel_rfl)
theorem a5F:(Tryz.prog.info? 47).map (·.size)=some 32:=by kernel_rfl
theorem a0z:Tryz.prog.eqGuardType Tryz.prog.depth 47=false:=by kernel_rfl
theorem aNV (v:Value):Ct Tryz.prog 119 [.nilIface,v] Mo.tt Ow.emp (X:=Unit) (fun _ => .bool false) (fun _=>True) (fun _=>Mo.tt) (fun _=>Ow.emp):=by
 refine Zo Tryz.func119 Tryz.ntmps119 fun c => ?_
 refine Zq (Zr ?_)
 refine Zy ?_
 refine Zq (Zq (Zr ?_))
 refine Zm ?_
 refine Zu (aMr Tryz.underlying26 rfl) ?_
 refine Zl ?_
 refine VC.RD rfl ?_
 refine Zq (Zr ?_)
 refine Zy ?_
 exact Ze
theorem aHn  {r:bR} (hS:Sh.aA7=some r) :
 Ct Tryz.prog 14 [] Mo.tt (Ow.emp) (X:=Unit) (fun _ => .agg #[.slice none 0 0,.slice none 0 0,.slice none 0 0,str [109,97,105,110],i64 0,str [],i64 0,str [],.slice none 0 0,.slice none 0 0,i64 0,str [],str [],i64 0,.slice none 0 0,.slice none 0 0,.slice none 0 0,.slice none 0 0,.slice none 0 0,.slice none 0 0,i64 0]) (fun _=>True) (fun _=>Mo.tt) (fun _=>Ow.emp):=by
 refine Zo Tryz.func14 Tryz.ntmps14 fun c => ?_
 unfold Sh.aA7 at hS
 refine Zq (Zr ?_)
 refine VL.alloc (cs:=[.slice none 0 0,.slice none 0 0,.slice none 0 0,str [],i64 0,str [],i64 0,str [],.slice none 0 0,.slice none 0 0,i64 0,str [],str [],i64 0,.slice none 0 0,.slice none 0 0,.slice none 0 0,.slice none 0 0,.slice none 0 0,.slice none 0 0,i64 0]) (by kernel_rfl) (by decide) fun a48 => ?_
 refine Zl ?_
 refine Zq (Zr ?_)
 refine Zu (eN (vs:=[(0,str [109,97,105,110])]) (cs := #[str [109,97,105,110],i64 0]) rfl (by kernel_rfl)) ?_
 refine Zu (eN (vs:=[(3,.agg #[str [109,97,105,110],i64 0])]) (cs := #[.slice none 0 0,.slice none 0 0,.slice none 0 0,str [109,97,105,110],i64 0,str [],i64 0,str [],.slice none 0 0,.slice none 0 0,i64 0,str [],str [],i64 0,.slice none 0 0,.slice none 0 0,.slice none 0 0]) rfl (by kernel_rfl)) ?_
 refine Zu (eN (vs:=[(0,.agg #[.slice none 0 0,.slice none 0 0,.slice none 0 0,str [109,97,105,110],i64 0,str [],i64 0,str [],.slice none 0 0,.slice none 0 0,i64 0,str [],str [],i64 0,.slice none 0 0,.slice none 0 0,.slice none 0 0])]) (cs := #[.slice none 0 0,.slice none 0 0,.slice none 0 0,str [109,97,105,110],i64 0,str [],i64 0,str [],.slice none 0 0,.slice none 0 0,i64 0,str [],str [],i64 0,.slice none 0 0,.slice none 0 0,.slice none 0 0,.slice none 0 0,.slice none 0 0,.slice none 0 0,i64 0]) rfl (by kernel_rfl)) ?_
 refine Zv (cs':=[.slice none 0 0,.slice none 0 0,.slice none 0 0,str [109,97,105,110],i64 0,str [],i64 0,str [],.slice none 0 0,.slice none 0 0,i64 0,str [],str [],i64 0,.slice none 0 0,.slice none 0 0,.slice none 0 0,.slice none 0 0,.slice none 0 0,.slice none 0 0,i64 0]) rfl gG ?_
 refine Zl ?_
 cases hS
 exact VC.ret (hG (vs:=[.agg #[.slice none 0 0,.slice none 0 0,.slice none 0 0,str [109,97,105,110],i64 0,str [],i64 0,str [],.slice none 0 0,.slice none 0 0,i64 0,str [],str [],i64 0,.slice none 0 0,.slice none 0 0,.slice none 0 0,.slice none 0 0,.slice none 0 0,.slice none 0 0,i64 0]]) (.inr rfl) rfl (dS.cell cL rfl rfl Rd.blk (dS.nil)) () rfl trivial (by (try dsimp only); exact cA.out) (fun _ _=>trivial))
theorem HX (fL:bB) {r:Bool} (hS:Sh.cmp_isNaN_string fL=some r) :
 Ct Tryz.prog 113 [str fL] Mo.tt (Ow.emp) (X:=Unit) (fun _ => .bool r) (fun _=>True) (fun _=>Mo.tt) (fun _=>Ow.emp):=by
 refine Zo Tryz.func113 Tryz.ntmps113 fun c => ?_
 unfold Sh.cmp_isNaN_string at hS
 refine Zq (Zr ?_)
 refine Zy ?_
 refine Zq (Zr ?_)
 refine Zy ?_
 refine Zu (wZ rfl rfl) ?_
 refine Zy ?_
 cases hS
 exact Ze
theorem EV (fL:bB) (yR:bB) {r:Int} (hS:Sh.qB fL yR=some r) :
 Ct Tryz.prog 76 [str fL,str yR] Mo.tt (Ow.emp) (X:=Unit) (fun _=>i64 r) (fun _=>True) (fun _=>Mo.tt) (fun _=>Ow.emp):=by
 refine Zo Tryz.func76 Tryz.ntmps76 fun c => ?_
 unfold Sh.qB at hS
 refine Zq (Zr ?_)
 refine Zy ?_
 refine Zq (Zr ?_)
 refine Zm ?_
 obtain ⟨sS,DH,hS⟩:=aK hS
 refine Zu (bZ (HX fL DH) rfl (fun _ _=>rfl)) ?_
 refine Zy ?_
 refine Zq (Zr ?_)
 refine Zm ?_
 obtain ⟨fW,JI,hS⟩:=aK hS
 refine Zu (bZ (HX yR JI) rfl (fun _ _=>rfl)) ?_
 refine Zy ?_
 refine Zq (Zq (Zr ?_))
 refine Zy ?_
 refine iL hS (fun h11 hS => ?_) (fun h11 hS => ?_)
 ·
  refine Zq (Zq (Zr ?_))
  refine Zy ?_
  refine VC.keep (ρ':=[(12,.bool fW)]) [12] rfl ?_
  refine iL hS (fun h12 hS => ?_) (fun h12 hS => ?_)
  ·
   refine Zq (Zr ?_)
   refine Zy ?_
   cases hS
   exact Ze
  refine Zk ?_
  refine Zq (Zr ?_)
  refine Zy ?_
  cases hS
  exact Ze
 refine Zk ?_
 refine Zq (Zq (Zr ?_))
 refine Zy ?_
 refine VC.keep (ρ':=[(0,str fL),(1,str yR),(13,.bool fW)]) [0,1,13] rfl ?_
 refine iL hS (fun h13 hS => ?_) (fun h13 hS => ?_)
 ·
  refine Zq (Zr ?_)
  refine Zy ?_
  cases hS
  exact Ze
 refine Zk ?_
 refine Zq (Zq (Zr ?_))
 refine Zy ?_
 refine Zu (a2U rfl rfl) ?_
 refine Zl ?_
 refine iL hS (fun h16 hS => ?_) (fun h16 hS => ?_)
 ·
  refine Zq (Zr ?_)
  refine Zy ?_
  cases hS
  exact Ze
 refine Zk ?_
 refine Zq (Zq (Zr ?_))
 refine Zy ?_
 refine Zu (a2T rfl rfl) ?_
 refine Zl ?_
 refine iL hS (fun h19 hS => ?_) (fun h19 hS => ?_)
 ·
  refine Zq (Zr ?_)
  refine Zy ?_
  cases hS
  exact Ze
 refine Zk ?_
 refine Zq (Zr ?_)
 refine Zy ?_
 cases hS
 exact Ze
theorem BN (cX:bB) (b_1:bB) {r:Int} (hS:Sh.pH cX b_1=some r) :
 Ct Tryz.prog 41 [str cX,str b_1] Mo.tt (Ow.emp) (X:=Unit) (fun _=>i64 r) (fun _=>True) (fun _=>Mo.tt) (fun _=>Ow.emp):=by
 refine Zo Tryz.func41 Tryz.ntmps41 fun c => ?_
 unfold Sh.pH at hS
 refine Zq (Zr ?_)
 refine Zy ?_
 refine Zq (Zr ?_)
 refine Zy ?_
 obtain ⟨iD,kL,hS⟩:=aK hS
 refine Zu (bZ (EV cX b_1 kL) rfl (fun _ _=>rfl)) ?_
 refine Zy ?_
 cases hS
 exact Ze
theorem HY (DI:aC) (p_1:bB) {r:Int} (hS:Sh.zL DI p_1=some r) :
 Ct Tryz.prog 110 [.agg #[str DI.path,i64 DI.mode,str DI.data],str p_1] Mo.tt (Ow.emp) (X:=Unit) (fun _=>i64 r) (fun _=>True) (fun _=>Mo.tt) (fun _=>Ow.emp):=by
 refine Zo Tryz.func110 Tryz.ntmps110 fun c => ?_
 unfold Sh.zL at hS
 refine Zq (Zr ?_)
 refine VL.box (cs:=[str DI.path,i64 DI.mode,str DI.data]) rfl rfl (by decide) fun dQ => ?_
 refine Zy ?_
 refine Zq (Zr ?_)
 refine Zu (aB qS rfl) ?_
 refine Zu (aJ dD rfl rfl) ?_
 refine Zm ?_
 obtain ⟨iT,tG,hS⟩:=aK hS
 refine Zu (bZ (BN DI.path p_1 tG) rfl (fun _ _=>rfl)) ?_
 refine Zy ?_
 cases hS
 exact Ze
theorem rS (fL:Sv aC) (mD:bB) {r:Int×Bool} (hS:Sh.i6 fL.l mD=some r) :
 Ct Tryz.prog 109 [fL.val,str mD,.func (.func 110) #[] #[]] fL.ok (Ow.emp) (X:=Unit) (fun _ => .tuple #[i64 r.1,.bool r.2]) (fun _=>True) (fun _=>Mo.tt) (fun _=>Ow.emp):=by
 refine Zo Tryz.func109 Tryz.ntmps109 fun c => ?_
 unfold Sh.i6 at hS
 refine Zq (Zr ?_)
 refine Zy ?_
 refine Zq (Zr ?_)
 refine Zm ?_
 refine Zu (dX (s:=fL) Tryz.underlying23 rfl) ?_
 refine Zy ?_
 refine Zq (Zr ?_)
 refine Zy ?_
 refine Zq (Zb ?_)
 refine VC.iter (S:=Int×Int) (fun sg=>(sg.1,sg.2)) (fun sg=>[(0,fL.val),(1,str mD),(2,.func (.func 110) #[] #[]),(8,i64 (fL.l.length:Int)),(9,i64 sg.1),(10,i64 sg.2)]) (fun sg=>Mo.tt) (fun sg=>Ow.emp) (0,(fL.l.length:Int)) [0,1,2,8,9,10] hS rfl ?_
 clear hS
 rintro ⟨n4,oL⟩ m1 y1 hS hK1
 refine Zq (Zq (Zr ?_))
 refine Zy ?_
 refine Zu (c4 rfl rfl) ?_
 refine Zl ?_
 refine Zc hS (fun h17 hS => ?_) (fun h17 hS => ?_)
 ·
  refine Zk ?_
  refine Zb (Zq (Zr ?_))
  refine Zy ?_
  obtain ⟨b20,hS⟩:=bU hS
  refine Zu (cR rfl rfl b20) ?_
  refine Zu (jK Tryz.underlying3 Tryz.underlying108 rfl) ?_
  refine Zu (yZ rfl rfl (by decide)) ?_
  refine Zu (jK Tryz.underlying108 Tryz.underlying3 rfl) ?_
  refine Zy ?_
  refine VC.keep (ρ':=[(0,fL.val),(1,str mD),(2,.func (.func 110) #[] #[]),(8,i64 (fL.l.length:Int)),(9,i64 n4),(10,i64 oL),(11,i64 (IntKind.wrap .i64 (nD .u64 (IntKind.wrap .u64 (n4+oL)) 1)))]) [0,1,2,8,9,10,11] rfl ?_
  refine Zq (Zr ?_)
  refine Zy ?_
  obtain ⟨aAn,aBj,aB5,hS⟩:=c6 hS
  refine Zu (e8 (s:=fL) Tryz.underlying23 fS rfl rfl aBj (bN aBj aB5)) ?_
  refine Zu (nR (s:=fL) jZ rfl rfl aB5) ?_
  refine Zm ?_
  obtain ⟨MM,aBM,hS⟩:=aK hS
  refine Zu (IC (HY aAn mD aBM) rfl rfl (fun _ _=>rfl)) ?_
  refine Zu (c4 rfl rfl) ?_
  refine Zl ?_
  refine VC.keep (ρ':=[(0,fL.val),(1,str mD),(2,.func (.func 110) #[] #[]),(8,i64 (fL.l.length:Int)),(9,i64 n4),(10,i64 oL),(11,i64 (IntKind.wrap .i64 (nD .u64 (IntKind.wrap .u64 (n4+oL)) 1))),(31,.bool (decide (MM < 0)))]) [0,1,2,8,9,10,11,31] rfl ?_
  refine Zc hS (fun h31 hS => ?_) (fun h31 hS => ?_)
  ·
   refine Zr ?_
   refine Zm ?_
   obtain ⟨b33,hS⟩:=bU hS
   refine Zu (cR rfl rfl b33) ?_
   refine Za ?_
   refine VL.iP (((IntKind.wrap .i64 (nD .u64 (IntKind.wrap .u64 (n4+oL)) 1))+1),oL) [0,1,2,8,9,10] (fun _ _ h=>h) (go2 hS hK1) rfl
  refine Zr ?_
  refine Zy ?_
  refine VL.iP (n4,(IntKind.wrap .i64 (nD .u64 (IntKind.wrap .u64 (n4+oL)) 1))) [0,1,2,8,9,10] (fun _ _ h=>h) (go2 hS hK1) rfl
 replace hS:=gA hS hK1
 refine Zx ?_
 refine Zq (Zr ?_)
 refine Zy ?_
 refine Zu (c4 rfl rfl) ?_
 refine Zm ?_
 refine pL 39 hS (fun h39 hS => ?_) (fun h39 hS => ?_)
 ·
  refine Zy ?_
  obtain ⟨aAo,aBk,aB6,hS⟩:=c6 hS
  refine Zh (e8 (s:=fL) Tryz.underlying23 fS rfl rfl aBk (bN aBk aB6)) ?_
  refine Zh (nR (s:=fL) jZ rfl rfl aB6) ?_
  refine Zg ?_
  obtain ⟨aAk,aJ6,hS⟩:=aK hS
  refine Zh (IC (HY aAo mD aJ6) rfl rfl (fun _ _=>rfl)) ?_
  refine Zh (gV rfl rfl) ?_
  refine Zy ?_
  refine VC.keep (ρ':=[(6,i64 n4),(7,.bool (decide (aAk=0)))]) [6,7] rfl ?_
  cases hS
  exact VC.ret (s6 (.inr rfl) rfl rfl rfl () rfl trivial (fun _ _=>trivial) (fun _ _=>trivial))
 refine VL.runs 9 [(48,some false)] (by kernel_rfl) ?_
 refine Zy ?_
 refine VC.keep (ρ':=[(6,i64 n4),(7,.bool false)]) [6,7] rfl ?_
 cases hS
 exact VC.ret (s6 (.inr rfl) rfl rfl rfl () rfl trivial (fun _ _=>trivial) (fun _ _=>trivial))
theorem K7 (cJ:Sv aC) (p_1:bB) {r:Int×Bool} (hS:Sh.C4 cJ.l p_1=some r) :
 Ct Tryz.prog 73 [cJ.val,str p_1] cJ.ok (Ow.emp) (X:=Unit) (fun _ => .tuple #[i64 r.1,.bool r.2]) (fun _=>True) (fun _=>Mo.tt) (fun _=>Ow.emp):=by
 refine Zo Tryz.func73 Tryz.ntmps73 fun c => ?_
 unfold Sh.C4 at hS
 refine Zq (Zr ?_)
 refine Zy ?_
 refine Zq (Zr ?_)
 refine Zy ?_
 obtain ⟨sS,DH,hS⟩:=aK hS
 refine Zu (bZ (rS cJ p_1 DH) rfl (fun _ _=>rfl)) ?_
 refine Zu (aW rfl rfl) ?_
 refine Zu (aW rfl rfl) ?_
 refine Zy ?_
 cases hS
 exact VC.ret (s6 (.inr rfl) rfl rfl rfl () rfl trivial (fun _ _=>trivial) (fun _ _=>trivial))
theorem rW (cJ:Sv aC) (p_1:bB) {r:aC×Bool} (hS:Sh.rG cJ.l p_1=some r) :
 Ct Tryz.prog 39 [cJ.val,str p_1] cJ.ok (Ow.emp) (X:=Unit) (fun _ => .tuple #[.agg #[str r.1.path,i64 r.1.mode,str r.1.data],.bool r.2]) (fun _=>True) (fun _=>Mo.tt) (fun _=>Ow.emp):=by
 refine Zo Tryz.func39 Tryz.ntmps39 fun c => ?_
 unfold Sh.rG at hS
 refine Zq (Zr ?_)
 refine VL.alloc (cs:=[str [],i64 0,str []]) (by kernel_rfl) (by decide) fun wM => ?_
 refine Zy ?_
 refine Zq (Zr ?_)
 refine Zy ?_
 obtain ⟨xN,aBA,hS⟩:=aK hS
 refine Zu (bZ (K7 cJ p_1 aBA) rfl (fun _ _=>rfl)) ?_
 refine Zm ?_
 refine Zu (aW rfl rfl) ?_
 refine Zu (aW rfl rfl) ?_
 refine Zy ?_
 refine VC.keep (ρ':=[(0,cJ.val),(4,ptr wM 0),(6,i64 xN.1),(7,.bool xN.2)]) [0,4,6,7] rfl ?_
 refine Zq (Zq (Zr ?_))
 refine Zm ?_
 refine Zu (lQ rfl) ?_
 refine Zl ?_
 refine iL hS (fun h15 hS => ?_) (fun h15 hS => ?_)
 ·
  refine Zq (Zr ?_)
  refine Zu (eN (vs:=[]) (cs := #[str [],i64 0,str []]) rfl (by kernel_rfl)) ?_
  refine Zv (cs':=[str [],i64 0,str []]) rfl fS ?_
  refine Zy ?_
  cases hS
  exact VC.ret (hG (vs:=[.agg #[str [],i64 0,str []],.bool false]) (.inr rfl) rfl (dS.cell jZ rfl rfl Rd.blk (dS.tmp rfl (dS.nil))) () rfl trivial (by (try dsimp only); exact cA.out) (fun _ _=>trivial))
 refine Zk ?_
 refine Zq (Zr ?_)
 refine Zy ?_
 obtain ⟨OW,aPu,aPS,hS⟩:=c6 hS
 refine Zu (e8 (s:=cJ) Tryz.underlying23 fS rfl rfl aPu (bN aPu aPS)) ?_
 refine Zu (nR (s:=cJ) jZ rfl rfl aPS) ?_
 refine Zv (cs':=[str OW.path,i64 OW.mode,str OW.data]) rfl fS ?_
 refine Zy ?_
 refine VC.keep (ρ':=[(4,ptr wM 0),(5,.bool true)]) [4,5] rfl ?_
 cases hS
 exact VC.ret (hG (vs:=[.agg #[str OW.path,i64 OW.mode,str OW.data],.bool true]) (.inr rfl) rfl (dS.cell jZ rfl rfl Rd.blk (dS.tmp rfl (dS.nil))) () rfl trivial (by (try dsimp only); exact cA.out) (fun _ _=>trivial))
theorem tW (aA:bB) {r:Int} (hS:Sh.mW aA=some r) :
 Ct Tryz.prog 259 [str aA] Mo.tt (Ow.emp) (X:=Unit) (fun _=>i64 r) (fun _=>True) (fun _=>Mo.tt) (fun _=>Ow.emp):=by
 refine Zo Tryz.func259 Tryz.ntmps259 fun c => ?_
 unfold Sh.mW at hS
 refine Zq (Zr ?_)
 refine Zy ?_
 refine Zq (Zq (Zr ?_))
 refine Zm ?_
 cases hS
theorem zY (aA:bB) {r:Int×Int} (hS:Sh.nU aA=some r) :
 Ct Tryz.prog 271 [str aA] Mo.tt (Ow.emp) (X:=Unit) (fun _ => .tuple #[.int .i32 r.1,i64 r.2]) (fun _=>True) (fun _=>Mo.tt) (fun _=>Ow.emp):=by
 refine Zo Tryz.func271 Tryz.ntmps271 fun c => ?_
 unfold Sh.nU at hS
 refine Zq (Zr ?_)
 refine Zy ?_
 refine Zq (Zr ?_)
 refine Zm ?_
 refine Zu (pU Tryz.underlying9 rfl) ?_
 refine Zy ?_
 refine Zq (Zq (Zr ?_))
 refine Zm ?_
 refine Zu (c4 rfl rfl) ?_
 refine Zl ?_
 refine Zc hS (fun h16 hS => ?_) (fun h16 hS => ?_)
 ·
  refine Zq (Zr ?_)
  refine Zy ?_
  cases hS
  exact VC.ret (s6 (.inr rfl) rfl rfl rfl () rfl trivial (fun _ _=>trivial) (fun _ _=>trivial))
 refine Zk ?_
 refine Zq (Zr ?_)
 refine Zm ?_
 obtain ⟨aZb,a2B,a1p,hS⟩:=c6 hS
 refine Zu (SC Tryz.underlying9 rfl rfl a2B a1p) ?_
 refine Zy ?_
 refine VC.keep (ρ':=[(0,str aA),(4,i64 (aA.length:Int)),(5,.int .u8 (aZb.toNat:Int))]) [0,4,5] rfl ?_
 refine Zq (Zr ?_)
 refine Zm ?_
 cases hS
theorem C3 (aA:bB) {r:Int×Int} (hS:Sh.p5 aA=some r) :
 Ct Tryz.prog 196 [str aA] Mo.tt (Ow.emp) (X:=Unit) (fun _ => .tuple #[.int .i32 r.1,i64 r.2]) (fun _=>True) (fun _=>Mo.tt) (fun _=>Ow.emp):=by
 refine Zo Tryz.func196 Tryz.ntmps196 fun c => ?_
 unfold Sh.p5 at hS
 refine Zq (Zr ?_)
 refine Zy ?_
 refine Zq ?_
 refine VC.gK (S:=Bool) (fun (W8:Bool)=>W8) (fun (W8:Bool)=>[(0,str aA),(10,.bool W8)]) (fun (W8:Bool)=>Mo.tt) (fun (W8:Bool)=>Ow.emp) hS ?_ ?_
 ·
  clear hS
  intro k2 hS
  refine Zr ?_
  refine Zm ?_
  refine Zu (wZ rfl rfl) ?_
  refine Zm ?_
  refine OZ 6 hS (fun h6 hS => ?_) (fun h6 hS => ?_)
  ·
   refine Zg ?_
   obtain ⟨aZh,a5V,a5P,hS⟩:=c6 hS
   refine Zh (SC Tryz.underlying9 rfl rfl a5V a5P) ?_
   refine Zh (c4 rfl rfl) ?_
   refine Zt ?_
   refine VL.mt (decide ((aZh.toNat:Int) < 128)) [0,10] (fun _ _ h=>h) hS rfl
  refine VL.runs 4 [(10,some false)] (by kernel_rfl) ?_
  refine VL.mt false [0,10] (fun _ _ h=>h) hS rfl
 clear hS
 rintro W8 hS
 refine iL hS (fun h10 hS => ?_) (fun h10 hS => ?_)
 ·
  refine Zq (Zr ?_)
  refine Zm ?_
  obtain ⟨aOa,a2A,a1o,hS⟩:=c6 hS
  refine Zu (SC Tryz.underlying9 rfl rfl a2A a1o) ?_
  refine Zu (a2O Tryz.underlying5 Tryz.underlying21 rfl (a3T aOa)) ?_
  refine Zy ?_
  cases hS
  exact VC.ret (s6 (.inr rfl) rfl rfl rfl () rfl trivial (fun _ _=>trivial) (fun _ _=>trivial))
 refine Zr ?_
 refine Zm ?_
 obtain ⟨aDn,aZz,hS⟩:=aK hS
 refine Zu (bZ (zY aA aZz) rfl (fun _ _=>rfl)) ?_
 refine Zm ?_
 refine Zu (aW rfl rfl) ?_
 refine Zu (aW rfl rfl) ?_
 refine Zy ?_
 cases hS
 exact VC.ret (s6 (.inr rfl) rfl rfl rfl () rfl trivial (fun _ _=>trivial) (fun _ _=>trivial))
theorem ZB (aA:bB) (n_1:Int) {r:List bB} (hS:Sh.HC aA n_1=some r) :
 Ct Tryz.prog 178 [str aA,i64 n_1] Mo.tt (Ow.emp) (X:=Sv bB) (fun x=>x.val) (fun x=>r=x.l) (fun x=>Mo.tt) (fun x=>Sv.own x 9):=by
 refine Zo Tryz.func178 Tryz.ntmps178 fun c => ?_
 unfold Sh.HC at hS
 refine Zq (Zr ?_)
 refine Zy ?_
 refine Zq (Zr ?_)
 refine Zm ?_
 obtain ⟨iJ,JK,hS⟩:=aK hS
 refine Zu (bZ (tW aA JK) rfl (fun _ _=>rfl)) ?_
 refine Zy ?_
 refine VC.gK (S:=Int) (fun (FD:Int)=>FD) (fun (FD:Int)=>[(0,str aA),(1,i64 FD)]) (fun (FD:Int)=>Mo.tt) (fun (FD:Int)=>Ow.emp) hS ?_ ?_
 ·
  clear hS
  intro k3 hS
  refine VC.gK (S:=Bool) (fun (XC:Bool)=>XC) (fun (XC:Bool)=>[(0,str aA),(1,i64 n_1),(5,i64 iJ),(18,.bool XC)]) (fun (XC:Bool)=>Mo.tt) (fun (XC:Bool)=>Ow.emp) hS ?_ ?_
  ·
   clear hS
   intro k5 hS
   refine Zr ?_
   refine Zm ?_
   refine Zu (c4 rfl rfl) ?_
   refine Zm ?_
   refine pL 14 hS (fun h14 hS => ?_) (fun h14 hS => ?_)
   ·
    refine VL.runs 4 [(18,some true)] (by kernel_rfl) ?_
    refine VL.mt true [0,1,5,18] (fun _ _ h=>h) hS rfl
   refine Zy ?_
   refine Zh (iZ rfl rfl) ?_
   refine Zf ?_
   refine VL.mt (decide (iJ < n_1)) [0,1,5,18] (fun _ _ h=>h) hS rfl
  clear hS
  rintro XC hS
  refine iL hS (fun h18 hS => ?_) (fun h18 hS => ?_)
  ·
   refine Zr ?_
   refine Zy ?_
   refine VL.mt iJ [0,1] (fun _ _ h=>h) hS rfl
  refine VC.iC n_1 [0,1] (fun _ _ h=>h) hS rfl
 clear hS
 rintro FD hS
 refine Zq (Zr ?_)
 refine Zm ?_
 obtain ⟨b21,hS⟩:=bU hS
 refine VL.make (α:=bB) (z:=[]) Tryz.underlying62 a4b (by decide) rfl rfl b21.1 (Int.le_refl _) (by omega) (by omega) (by decide) (fun a5s a13 => ?_)
 replace hS:=bV a13 hS
 refine Zy ?_
 refine Zq (Zq (Zr ?_))
 refine Zy ?_
 refine Zb ?_
 refine VC.iter (S:=bB×Sv bB×Int) (fun sg=>(sg.1,sg.2.1.l,sg.2.2)) (fun sg=>[(0,str sg.1),(1,i64 FD),(6,sg.2.1.val),(7,i64 sg.2.2)]) (fun sg=>Mo.tt) (fun sg=>Ow.star (Sv.own sg.2.1 9) (Ow.emp)) (aA,a5s,0) [0,1,6,7] hS rfl ?_
 clear hS
 rintro ⟨WL,O0,RW⟩ m1 y1 hS hK1
 refine Zq (Zq (Zr ?_))
 refine Zy ?_
 obtain ⟨b24,hS⟩:=bU hS
 refine Zu (qK rfl rfl b24) ?_
 refine Zu (c4 rfl rfl) ?_
 refine Zl ?_
 refine Zc hS (fun h25 hS => ?_) (fun h25 hS => ?_)
 ·
  refine Zk ?_
  refine Zq (Zb (Zq (Zr ?_)))
  refine Zm ?_
  obtain ⟨NX,aU2,hS⟩:=aK hS
  refine Zu (bZ (C3 WL aU2) rfl (fun _ _=>rfl)) ?_
  refine Zm ?_
  refine Zu (aW rfl rfl) ?_
  refine Zu (aW rfl rfl) ?_
  refine Zy ?_
  refine VC.keep (ρ':=[(0,str WL),(1,i64 FD),(6,O0.val),(7,i64 RW),(9,i64 NX.2)]) [0,1,6,7,9] rfl ?_
  refine Zq (Zr ?_)
  refine Zy ?_
  obtain ⟨b37,hS⟩:=bU hS
  obtain ⟨aEf,aUh,hS⟩:=qT hS
  refine Zu (aE4 Tryz.underlying9 rfl rfl b37.1 b37.2 aUh) ?_
  obtain ⟨a4Q,aMP,aLb,hS⟩:=c6 hS
  refine Zu (lJ (s:=O0) Tryz.underlying62 vA rfl rfl aMP (bN aMP aLb)) ?_
  refine VL.wD (s:=O0) (T:=9) (j:=0) (vc:=[str aEf]) (aEf:bB) (by decide) rfl rfl aLb rfl vA rfl rfl (Nat.le_of_ble_eq_true rfl) rfl (fun w14 hw14 haw14 hcw14 hvw14 hbw14 how14 => ?_)
  rw [← hvw14]
  replace hS:=bV hw14 hS
  refine Zl ?_
  refine Zr ?_
  refine Zy ?_
  obtain ⟨b41,hS⟩:=bU hS
  obtain ⟨TD,aFS,hS⟩:=qT hS
  refine Zu (YO Tryz.underlying9 rfl rfl b41.1 b41.2 aFS) ?_
  refine Zy ?_
  refine VC.keep (ρ':=[(0,str TD),(1,i64 FD),(6,w14.val),(7,i64 RW)]) [0,1,6,7] rfl ?_
  refine Zr ?_
  refine Zm ?_
  obtain ⟨b27,hS⟩:=bU hS
  refine Zu (cR rfl rfl b27) ?_
  refine Za ?_
  refine VL.iP (TD,w14,(RW+1)) [0,1,6,7] (fun _ _ h=>h) (go2 hS hK1) rfl
 replace hS:=gA hS hK1
 refine Zx ?_
 refine Zq (Zq (Zr ?_))
 refine Zm ?_
 refine Zu (iZ rfl rfl) ?_
 refine Zl ?_
 refine Zc hS (fun h43 hS => ?_) (fun h43 hS => ?_)
 ·
  refine Zr ?_
  refine Zy ?_
  obtain ⟨b46,hS⟩:=bU hS
  refine Zu (qK rfl rfl b46) ?_
  refine Zm ?_
  obtain ⟨uI,PJ,H8,hS⟩:=c6 hS
  refine Zu (lJ (s:=O0) Tryz.underlying62 vA rfl rfl PJ (bN PJ H8)) ?_
  refine VL.wD (s:=O0) (T:=9) (j:=0) (vc:=[str WL]) (WL:bB) (by decide) rfl rfl H8 rfl vA rfl rfl (Nat.le_of_ble_eq_true rfl) rfl (fun w18 hw18 haw18 hcw18 hvw18 hbw18 how18 => ?_)
  rw [← hvw18]
  replace hS:=bV hw18 hS
  refine Zl ?_
  refine VC.keep (ρ':=[(6,w18.val)]) [6] rfl ?_
  refine Zq (Zr ?_)
  refine Zy ?_
  cases hS
  exact VC.ret (eB (.inr rfl) rfl rfl w18 rfl rfl (by (try dsimp only); exact cA.out) (by (try dsimp only); exact dJ.out))
 refine Zk ?_
 refine Zq (Zr ?_)
 refine Zy ?_
 refine VC.keep (ρ':=[(4,O0.val)]) [4] rfl ?_
 cases hS
 exact VC.ret (eB (.inr rfl) rfl rfl O0 rfl rfl (by (try dsimp only); exact cA.out) (by (try dsimp only); exact dJ.out))
theorem DM (aA:bB) (eF:Int) {r:Int} (hS:Sh.mV aA eF=some r) :
 Ct Tryz.prog 191 [str aA,.int .u8 eF] Mo.tt (Ow.emp) (X:=Unit) (fun _=>i64 r) (fun _=>True) (fun _=>Mo.tt) (fun _=>Ow.emp):=by
 refine Zo Tryz.func191 Tryz.ntmps191 fun c => ?_
 unfold Sh.mV at hS
 refine Zq (Zr ?_)
 refine Zy ?_
 refine Zq (Zr ?_)
 refine Zy ?_
 refine Zu (aId Tryz.func269 rfl rfl (by kernel_rfl) (by kernel_rfl) rfl (fun w=>a6F aA eF w)) ?_
 refine Zy ?_
 cases hS
 exact Ze
theorem wT (aA:bB) (fO:bB) {r:Int} (hS:Sh.kD aA fO=some r) :
 Ct Tryz.prog 125 [str aA,str fO] Mo.tt (Ow.emp) (X:=Unit) (fun _=>i64 r) (fun _=>True) (fun _=>Mo.tt) (fun _=>Ow.emp):=by
 refine Zo Tryz.func125 Tryz.ntmps125 fun c => ?_
 unfold Sh.kD at hS
 refine Zq (Zr ?_)
 refine Zy ?_
 refine Zq (Zr ?_)
 refine Zm ?_
 refine Zu (pU Tryz.underlying9 rfl) ?_
 refine Zy ?_
 refine Zq (Zb ?_)
 refine VC.gK (S:=Bool) (fun (XB:Bool)=>XB) (fun (XB:Bool)=>[(0,str aA),(1,str fO),(5,i64 (fO.length:Int)),(16,.bool XB)]) (fun (XB:Bool)=>Mo.tt) (fun (XB:Bool)=>Ow.emp) hS ?_ ?_
 ·
  clear hS
  intro k2 hS
  refine Zr ?_
  refine Zm ?_
  refine Zu (gV rfl rfl) ?_
  refine Zm ?_
  refine pL 19 hS (fun h19 hS => ?_) (fun h19 hS => ?_)
  ·
   refine VL.runs 5 [(16,some true)] (by kernel_rfl) ?_
   refine VL.mt true [0,1,5,16] (fun _ _ h=>h) hS rfl
  refine Zy ?_
  refine Zh (IX rfl rfl) ?_
  refine Zy ?_
  refine VL.mt (decide (fO=aA)) [0,1,5,16] (fun _ _ h=>h) hS rfl
 clear hS
 rintro XB hS
 refine iL hS (fun h16 hS => ?_) (fun h16 hS => ?_)
 ·
  refine Zq (Zr ?_)
  refine Zy ?_
  cases hS
  exact Ze
 refine Zq (Zr ?_)
 refine Zm ?_
 refine Zu (gV rfl rfl) ?_
 refine Zy ?_
 refine Zc hS (fun h24 hS => ?_) (fun h24 hS => ?_)
 ·
  refine Zq (Zr ?_)
  refine Zy ?_
  obtain ⟨aOe,a2C,a1q,hS⟩:=c6 hS
  refine Zu (SC Tryz.underlying9 rfl rfl a2C a1q) ?_
  obtain ⟨MM,aBM,hS⟩:=aK hS
  refine Zu (bZ (DM aA (aOe.toNat:Int) aBM) rfl (fun _ _=>rfl)) ?_
  refine Zy ?_
  refine VC.keep (ρ':=[(4,i64 MM)]) [4] rfl ?_
  cases hS
  exact Ze
 refine Zq (Zr ?_)
 refine Zy ?_
 refine Zu (pU Tryz.underlying9 rfl) ?_
 refine Zu (sK rfl rfl) ?_
 refine Zy ?_
 refine VC.keep (ρ':=[(0,str aA),(1,str fO),(5,i64 (fO.length:Int)),(31,.bool (decide ((aA.length:Int)≤(fO.length:Int))))]) [0,1,5,31] rfl ?_
 refine Zc hS (fun h31 hS => ?_) (fun h31 hS => ?_)
 ·
  refine Zq (Zr ?_)
  refine Zy ?_
  cases hS
  exact Ze
 refine Zq (Zr ?_)
 refine Zm ?_
 cases hS
theorem F7 (aA:bB) (fO:bB) {r:Int} (hS:Sh.tV aA fO=some r) :
 Ct Tryz.prog 180 [str aA,str fO] Mo.tt (Ow.emp) (X:=Unit) (fun _=>i64 r) (fun _=>True) (fun _=>Mo.tt) (fun _=>Ow.emp):=by
 refine Zo Tryz.func180 Tryz.ntmps180 fun c => ?_
 unfold Sh.tV at hS
 refine Zq (Zr ?_)
 refine Zy ?_
 refine Zq (Zr ?_)
 refine Zy ?_
 obtain ⟨iD,kL,hS⟩:=aK hS
 refine Zu (bZ (wT aA fO kL) rfl (fun _ _=>rfl)) ?_
 refine Zy ?_
 cases hS
 exact Ze
theorem aCN (aA:bB) (fO:bB) {r:Int} (hS:Sh.AW aA fO=some r) :
 Ct Tryz.prog 179 [str aA,str fO] Mo.tt (Ow.emp) (X:=Unit) (fun _=>i64 r) (fun _=>True) (fun _=>Mo.tt) (fun _=>Ow.emp):=by
 refine Zo Tryz.func179 Tryz.ntmps179 fun c => ?_
 unfold Sh.AW at hS
 refine Zq (Zr ?_)
 refine Zy ?_
 refine Zq (Zq (Zr ?_))
 refine Zm ?_
 refine Zu (pU Tryz.underlying9 rfl) ?_
 refine Zu (gV rfl rfl) ?_
 refine Zl ?_
 refine Zc hS (fun h9 hS => ?_) (fun h9 hS => ?_)
 ·
  refine Zq (Zr ?_)
  refine Zm ?_
  obtain ⟨iJ,JK,hS⟩:=aK hS
  refine Zu (bZ (tW aA JK) rfl (fun _ _=>rfl)) ?_
  obtain ⟨b12,hS⟩:=bU hS
  refine Zu (cR rfl rfl b12) ?_
  refine Zy ?_
  cases hS
  exact Ze
 refine Zk ?_
 refine Zq (Zq (Zr ?_))
 refine Zm ?_
 refine Zu (pU Tryz.underlying9 rfl) ?_
 refine Zu (gV rfl rfl) ?_
 refine Zl ?_
 refine Zc hS (fun h15 hS => ?_) (fun h15 hS => ?_)
 ·
  refine Zq (Zr ?_)
  refine Zy ?_
  obtain ⟨D1,aE1,aEY,hS⟩:=c6 hS
  refine Zu (SC Tryz.underlying9 rfl rfl aE1 aEY) ?_
  refine Zu (aId Tryz.func260 rfl rfl (by kernel_rfl) (by kernel_rfl) rfl (fun w=>a3U aA (D1.toNat:Int) w)) ?_
  refine Zy ?_
  refine VC.keep (ρ':=[(4,i64 (aOv aA (D1.toNat:Int)))]) [4] rfl ?_
  cases hS
  exact Ze
 refine Zk ?_
 refine Zq (Zr ?_)
 refine Zy ?_
 refine Zb ?_
 refine VC.iter (S:=bB×Int) (fun sg=>(sg.1,sg.2)) (fun sg=>[(0,str sg.1),(1,str fO),(5,i64 sg.2)]) (fun sg=>Mo.tt) (fun sg=>Ow.emp) (aA,0) [0,1,5] hS rfl ?_
 clear hS
 rintro ⟨aIe,aFy⟩ m1 y1 hS hK1
 refine Zb (Zq (Zr ?_))
 refine Zy ?_
 obtain ⟨HH,aJR,hS⟩:=aK hS
 refine Zu (bZ (F7 aIe fO aJR) rfl (fun _ _=>rfl)) ?_
 refine Zy ?_
 refine Zq (Zq (Zr ?_))
 refine Zm ?_
 refine Zu (gV rfl rfl) ?_
 refine Zl ?_
 refine Zc hS (fun h24 hS => ?_) (fun h24 hS => ?_)
 ·
  refine Zq (Zr ?_)
  refine Zy ?_
  refine VC.keep (ρ':=[(4,i64 aFy)]) [4] rfl ?_
  replace hS:=gA hS hK1
  cases hS
  exact Ze
 refine Zk ?_
 refine Zq (Zr ?_)
 refine Zm ?_
 obtain ⟨b27,hS⟩:=bU hS
 refine Zu (cR rfl rfl b27) ?_
 refine Zy ?_
 refine VC.keep (ρ':=[(0,str aIe),(1,str fO),(5,i64 (aFy+1)),(6,i64 HH)]) [0,1,5,6] rfl ?_
 refine Zr ?_
 refine Zy ?_
 refine Zu (pU Tryz.underlying9 rfl) ?_
 obtain ⟨b32,hS⟩:=bU hS
 refine Zu (cR rfl rfl b32) ?_
 obtain ⟨b33,hS⟩:=bU hS
 obtain ⟨aO3,a09,hS⟩:=qT hS
 refine Zu (YO Tryz.underlying9 rfl rfl b33.1 b33.2 a09) ?_
 refine Za ?_
 refine VL.iP (aO3,(aFy+1)) [0,1,5] (fun _ _ h=>h) (go2 hS hK1) rfl
theorem WZ (aA:bB) (kN:bB) (sepSave_2:Int) (n_3:Int) {r:List bB} (hS:Sh.zW aA kN sepSave_2 n_3=some r) :
 Ct Tryz.prog 111 [str aA,str kN,i64 sepSave_2,i64 n_3] Mo.tt (Ow.emp) (X:=Sv bB) (fun x=>x.val) (fun x=>r=x.l) (fun x=>x.ok) (fun x=>Ow.emp):=by
 refine Zo Tryz.func111 Tryz.ntmps111 fun c => ?_
 unfold Sh.zW at hS
 refine Zq (Zr ?_)
 refine Zy ?_
 refine Zq (Zq (Zr ?_))
 refine Zm ?_
 refine Zu (gV rfl rfl) ?_
 refine Zl ?_
 refine Zc hS (fun h13 hS => ?_) (fun h13 hS => ?_)
 ·
  refine Zq (Zr ?_)
  refine Zy ?_
  cases hS
  exact VC.ret (eB (.inr rfl) rfl rfl ⟨none,0,[]⟩ rfl rfl (by (try dsimp only); exact cA.out) (fun _ _=>trivial))
 refine Zk ?_
 refine Zq (Zq (Zr ?_))
 refine Zy ?_
 refine Zc hS (fun h15 hS => ?_) (fun h15 hS => ?_)
 ·
  refine Zq (Zr ?_)
  refine Zy ?_
  obtain ⟨S7,aBI,hS⟩:=aK hS
  refine VL.bS (ZB aA n_3 aBI) rfl (by decide) ?_
  rintro aGZ rfl
  try dsimp only
  refine Zy ?_
  refine VC.keep (ρ':=[(8,aGZ.val)]) [8] rfl ?_
  refine VC.shut aGZ 9 (fun _ _ _ _=>trivial) ?_
  cases hS
  exact VC.ret (eB (.inr rfl) rfl rfl aGZ rfl rfl (by (try dsimp only); exact cA.out) (fun _ _=>trivial))
 refine Zk ?_
 refine VC.gK (S:=Int) (fun (H9:Int)=>H9) (fun (H9:Int)=>[(0,str aA),(1,str kN),(2,i64 sepSave_2),(3,i64 H9)]) (fun (H9:Int)=>Mo.tt) (fun (H9:Int)=>Ow.emp) hS ?_ ?_
 ·
  clear hS
  intro k3 hS
  refine Zq (Zr ?_)
  refine Zm ?_
  refine Zu (c4 rfl rfl) ?_
  refine Zl ?_
  refine Zc hS (fun h20 hS => ?_) (fun h20 hS => ?_)
  ·
   refine Zr ?_
   refine Zy ?_
   obtain ⟨aK6,a0Q,hS⟩:=aK hS
   refine Zu (bZ (aCN aA kN a0Q) rfl (fun _ _=>rfl)) ?_
   obtain ⟨b24,hS⟩:=bU hS
   refine Zu (cR rfl rfl b24) ?_
   refine Za ?_
   refine VL.mt (aK6+1) [0,1,2,3] (fun _ _ h=>h) hS rfl
  refine VC.iC n_3 [0,1,2,3] (fun _ _ h=>h) hS rfl
 clear hS
 rintro H9 hS
 refine Zq (Zr ?_)
 refine Zy ?_
 refine Zu (pU Tryz.underlying9 rfl) ?_
 obtain ⟨b28,hS⟩:=bU hS
 refine Zu (cR rfl rfl b28) ?_
 refine Zu (aYZ rfl) ?_
 refine Zy ?_
 refine Zq (Zr ?_)
 refine Zm ?_
 obtain ⟨b31,hS⟩:=bU hS
 refine VL.make (α:=bB) (z:=[]) Tryz.underlying62 a4b (by decide) rfl rfl b31.1 (Int.le_refl _) (by omega) (by omega) (by decide) (fun aYc a1f => ?_)
 replace hS:=bV a1f hS
 refine Zy ?_
 refine VC.keep (ρ':=[(0,str aA),(1,str kN),(2,i64 sepSave_2),(3,i64 (min H9 ((aA.length:Int)+1))),(9,aYc.val)]) [0,1,2,3,9] rfl ?_
 refine Zq (Zr ?_)
 refine Zm ?_
 obtain ⟨b33,hS⟩:=bU hS
 refine Zu (qK rfl rfl b33) ?_
 refine Zy ?_
 refine Zq (Zr ?_)
 refine Zy ?_
 refine VC.gK (S:=bB×Sv bB×Int) (fun sg=>(sg.1,sg.2.1.l,sg.2.2)) (fun sg=>[(0,str sg.1),(9,sg.2.1.val),(10,i64 sg.2.2)]) (fun sg=>Mo.tt) (fun sg=>Ow.star (Sv.own sg.2.1 9) (Ow.emp)) hS ?_ ?_
 ·
  clear hS
  intro k10 hS
  refine Zb ?_
  refine VC.iter (S:=bB×Sv bB×Int) (fun sg=>(sg.1,sg.2.1.l,sg.2.2)) (fun sg=>[(0,str sg.1),(1,str kN),(2,i64 sepSave_2),(3,i64 ((min H9 ((aA.length:Int)+1)) - 1)),(9,sg.2.1.val),(10,i64 sg.2.2)]) (fun sg=>Mo.tt) (fun sg=>Ow.star (Sv.own sg.2.1 9) (Ow.emp)) (aA,aYc,0) [0,1,2,3,9,10] hS rfl ?_
  clear hS
  rintro ⟨G9,N2,zP⟩ m1 y1 hS hK1
  refine Zq (Zq (Zr ?_))
  refine Zy ?_
  refine Zu (c4 rfl rfl) ?_
  refine Zl ?_
  refine Zc hS (fun h36 hS => ?_) (fun h36 hS => ?_)
  ·
   refine Zk ?_
   refine Zb (Zq (Zr ?_))
   refine Zy ?_
   obtain ⟨BW,aUm,hS⟩:=aK hS
   refine Zu (bZ (F7 G9 kN aUm) rfl (fun _ _=>rfl)) ?_
   refine Zy ?_
   refine Zq (Zq (Zr ?_))
   refine Zm ?_
   refine Zu (c4 rfl rfl) ?_
   refine Zl ?_
   refine VC.keep (ρ':=[(0,str G9),(1,str kN),(2,i64 sepSave_2),(3,i64 ((min H9 ((aA.length:Int)+1)) - 1)),(9,N2.val),(10,i64 zP),(11,i64 BW),(41,.bool (decide (BW < 0)))]) [0,1,2,3,9,10,11,41] rfl ?_
   refine Zc hS (fun h41 hS => ?_) (fun h41 hS => ?_)
   ·
    replace hS:=gA hS hK1
    refine VC.eW (G9,N2,zP) [0,9,10] (fun _ _ h=>h) hS rfl
   refine Zk ?_
   refine Zq (Zr ?_)
   refine Zy ?_
   obtain ⟨b47,hS⟩:=bU hS
   refine Zu (cR rfl rfl b47) ?_
   obtain ⟨b48,hS⟩:=bU hS
   obtain ⟨aEh,aVE,hS⟩:=qT hS
   refine Zu (aE4 Tryz.underlying9 rfl rfl b48.1 b48.2 aVE) ?_
   obtain ⟨a4T,aMY,aLi,hS⟩:=c6 hS
   refine Zu (lJ (s:=N2) Tryz.underlying62 vA rfl rfl aMY (bN aMY aLi)) ?_
   refine VL.wD (s:=N2) (T:=9) (j:=0) (vc:=[str aEh]) (aEh:bB) (by decide) rfl rfl aLi rfl vA rfl rfl (Nat.le_of_ble_eq_true rfl) rfl (fun w17 hw17 haw17 hcw17 hvw17 hbw17 how17 => ?_)
   rw [← hvw17]
   replace hS:=bV hw17 hS
   refine Zl ?_
   refine VC.keep (ρ':=[(0,str G9),(1,str kN),(2,i64 sepSave_2),(3,i64 ((min H9 ((aA.length:Int)+1)) - 1)),(9,w17.val),(10,i64 zP),(11,i64 BW)]) [0,1,2,3,9,10,11] rfl ?_
   refine Zq (Zr ?_)
   refine Zy ?_
   refine Zu (pU Tryz.underlying9 rfl) ?_
   obtain ⟨b54,hS⟩:=bU hS
   refine Zu (cR rfl rfl b54) ?_
   obtain ⟨b55,hS⟩:=bU hS
   obtain ⟨YZ,aVT,hS⟩:=qT hS
   refine Zu (YO Tryz.underlying9 rfl rfl b55.1 b55.2 aVT) ?_
   refine Zy ?_
   refine VC.keep (ρ':=[(0,str YZ),(1,str kN),(2,i64 sepSave_2),(3,i64 ((min H9 ((aA.length:Int)+1)) - 1)),(9,w17.val),(10,i64 zP)]) [0,1,2,3,9,10] rfl ?_
   refine Zr ?_
   refine Zm ?_
   obtain ⟨b57,hS⟩:=bU hS
   refine Zu (cR rfl rfl b57) ?_
   refine Za ?_
   refine VL.iP (YZ,w17,(zP+1)) [0,1,2,3,9,10] (fun _ _ h=>h) (go2 hS hK1) rfl
  replace hS:=gA hS hK1
  refine VC.eW (G9,N2,zP) [0,9,10] (fun _ _ h=>h) hS rfl
 clear hS
 rintro ⟨aQ8,aKz,aAQ⟩ hS
 refine Zq (Zr ?_)
 refine Zy ?_
 obtain ⟨aSI,aM2,aLn,hS⟩:=c6 hS
 refine Zu (lJ (s:=aKz) Tryz.underlying62 vA rfl rfl aM2 (bN aM2 aLn)) ?_
 refine VL.wD (s:=aKz) (T:=9) (j:=0) (vc:=[str aQ8]) (aQ8:bB) (by decide) rfl rfl aLn rfl vA rfl rfl (Nat.le_of_ble_eq_true rfl) rfl (fun w21 hw21 haw21 hcw21 hvw21 hbw21 how21 => ?_)
 rw [← hvw21]
 replace hS:=bV hw21 hS
 refine Zl ?_
 refine Zq (Zr ?_)
 refine Zy ?_
 obtain ⟨b64,hS⟩:=bU hS
 refine Zu (cR rfl rfl b64) ?_
 refine VL.shut w21 9 (fun _ _ _ _=>trivial) ?_
 obtain ⟨b65,hS⟩:=bU hS
 refine VL.sto Tryz.underlying62 vA rfl rfl b65.1 (b65.2) (by decide) fun aQo aXM => ?_
 replace hS:=bV aXM hS
 refine Zy ?_
 refine VC.keep (ρ':=[(8,aQo.val)]) [8] rfl ?_
 cases hS
 exact VC.ret (eB (.inr rfl) rfl rfl aQo rfl rfl (by (try dsimp only); exact cA.out) (fun _ _=>trivial))
theorem NL (aA:bB) (kN:bB) {r:List bB} (hS:Sh.xJ aA kN=some r) :
 Ct Tryz.prog 74 [str aA,str kN] Mo.tt (Ow.emp) (X:=Sv bB) (fun x=>x.val) (fun x=>r=x.l) (fun x=>x.ok) (fun x=>Ow.emp):=by
 refine Zo Tryz.func74 Tryz.ntmps74 fun c => ?_
 unfold Sh.xJ at hS
 refine Zq (Zr ?_)
 refine Zy ?_
 refine Zq (Zr ?_)
 refine Zy ?_
 obtain ⟨iD,kL,hS⟩:=aK hS
 refine VL.cU (WZ aA kN 0 (-1) kL) rfl (by decide) ?_
 rintro lZ rfl
 try dsimp only
 refine Zy ?_
 cases hS
 exact VC.ret (eB (.inr rfl) rfl rfl lZ rfl rfl (by (try dsimp only); exact cA.out) (fun _ _=>trivial))
theorem aHd (cE:Int) {r:Bool} (hS:Sh.LN cE=some r) :
 Ct Tryz.prog 112 [.int .u8 cE] Mo.tt (Ow.emp) (X:=Unit) (fun _ => .bool r) (fun _=>True) (fun _=>Mo.tt) (fun _=>Ow.emp):=by
 refine Zo Tryz.func112 Tryz.ntmps112 fun c => ?_
 unfold Sh.LN at hS
 refine Zq (Zr ?_)
 refine Zy ?_
 refine VC.gK (S:=Unit) (fun (_:Unit)=>()) (fun (_:Unit)=>[(0,.int .u8 cE)]) (fun (_:Unit)=>Mo.tt) (fun (_:Unit)=>Ow.emp) hS ?_ ?_
 ·
  clear hS
  intro k1 hS
  refine Zq (Zr ?_)
  refine Zy ?_
  refine Zb ?_
  refine VC.gK (S:=Unit) (fun (_:Unit)=>()) (fun (_:Unit)=>[]) (fun (_:Unit)=>Mo.tt) (fun (_:Unit)=>Ow.emp) hS ?_ ?_
  ·
   clear hS
   intro k2 hS
   refine Zb (Zb (Zb (Zq (Zq (Zq (Zr ?_))))))
   refine Zu (gV rfl rfl) ?_
   refine Zy ?_
   refine Zc hS (fun h4 hS => ?_) (fun h4 hS => ?_)
   ·
    refine VC.eW () [] (fun _ _ h=>h) hS rfl
   refine Zk ?_
   refine Zq (Zq (Zr ?_))
   refine Zu (gV rfl rfl) ?_
   refine Zy ?_
   refine Zc hS (fun h6 hS => ?_) (fun h6 hS => ?_)
   ·
    refine VC.eW () [] (fun _ _ h=>h) hS rfl
   refine Zk ?_
   refine Zq (Zr ?_)
   refine Zu (gV rfl rfl) ?_
   refine Zy ?_
   refine Zc hS (fun h8 hS => ?_) (fun h8 hS => ?_)
   ·
    refine VC.eW () [] (fun _ _ h=>h) hS rfl
   refine Zk ?_
   refine VC.eW () [0] (fun _ _ h=>h) hS rfl
  clear hS
  rintro _ hS
  refine Zq (Zq (Zr ?_))
  refine Zy ?_
  cases hS
  exact Ze
 clear hS
 rintro _ hS
 refine Zq (Zr ?_)
 refine Zm ?_
 refine Zu (sK rfl rfl) ?_
 refine Zm ?_
 refine pL 12 hS (fun h12 hS => ?_) (fun h12 hS => ?_)
 ·
  refine Zg ?_
  refine Zh (aAW rfl rfl) ?_
  refine Zy ?_
  refine pL 16 hS (fun h16 hS => ?_) (fun h16 hS => ?_)
  ·
   refine VL.runs 8 [(2,some true)] (by kernel_rfl) ?_
   refine Zl ?_
   cases hS
   exact Ze
  refine Zg ?_
  refine Zh (sK rfl rfl) ?_
  refine Zg ?_
  refine pL 19 hS (fun h19 hS => ?_) (fun h19 hS => ?_)
  ·
   refine Zg ?_
   refine Zh (aAW rfl rfl) ?_
   refine Zh (kE rfl rfl) ?_
   refine Zy ?_
   refine VC.keep (ρ':=[(2,.bool (decide (cE≤57)))]) [2] rfl ?_
   cases hS
   exact Ze
  refine Zy ?_
  refine Zh (iX rfl rfl) ?_
  refine Zy ?_
  refine VC.keep (ρ':=[(2,.bool false)]) [2] rfl ?_
  cases hS
  exact Ze
 refine VL.runs 4 [(16,some false)] (by kernel_rfl) ?_
 refine Zg ?_
 refine Zh (sK rfl rfl) ?_
 refine Zg ?_
 refine pL 19 hS (fun h19 hS => ?_) (fun h19 hS => ?_)
 ·
  refine Zg ?_
  refine Zh (aAW rfl rfl) ?_
  refine Zh (kE rfl rfl) ?_
  refine Zy ?_
  refine VC.keep (ρ':=[(2,.bool (decide (cE≤57)))]) [2] rfl ?_
  cases hS
  exact Ze
 refine Zy ?_
 refine Zh (iX rfl rfl) ?_
 refine Zy ?_
 refine VC.keep (ρ':=[(2,.bool false)]) [2] rfl ?_
 cases hS
 exact Ze
theorem aHe (aA:bB) {r:Bool} (hS:Sh.LO aA=some r) :
 Ct Tryz.prog 75 [str aA] Mo.tt (Ow.emp) (X:=Unit) (fun _ => .bool r) (fun _=>True) (fun _=>Mo.tt) (fun _=>Ow.emp):=by
 refine Zo Tryz.func75 Tryz.ntmps75 fun c => ?_
 unfold Sh.LO at hS
 refine Zq (Zr ?_)
 refine Zy ?_
 refine Zq ?_
 refine VC.gK (S:=Bool) (fun (rO:Bool)=>rO) (fun (rO:Bool)=>[(0,str aA),(14,.bool rO)]) (fun (rO:Bool)=>Mo.tt) (fun (rO:Bool)=>Ow.emp) hS ?_ ?_
 ·
  clear hS
  intro k2 hS
  refine Zr ?_
  refine Zy ?_
  refine pL 7 hS (fun h7 hS => ?_) (fun h7 hS => ?_)
  ·
   refine VL.runs 7 [(14,some true)] (by kernel_rfl) ?_
   refine VL.mt true [0,14] (fun _ _ h=>h) hS rfl
  refine Zg ?_
  refine Zh (IX rfl rfl) ?_
  refine Zy ?_
  refine pL 11 hS (fun h11 hS => ?_) (fun h11 hS => ?_)
  ·
   refine VL.runs 3 [(14,some true)] (by kernel_rfl) ?_
   refine VL.mt true [0,14] (fun _ _ h=>h) hS rfl
  refine Zg ?_
  refine Zh (IX rfl rfl) ?_
  refine Zf ?_
  refine VL.mt (decide (aA=[46,46])) [0,14] (fun _ _ h=>h) hS rfl
 clear hS
 rintro rO hS
 refine iL hS (fun h14 hS => ?_) (fun h14 hS => ?_)
 ·
  refine Zq (Zr ?_)
  refine Zy ?_
  cases hS
  exact Ze
 refine Zk ?_
 refine Zq (Zq (Zr ?_))
 refine Zm ?_
 obtain ⟨b16,hS⟩:=bU hS
 refine VL.s2b Tryz.underlying9 Tryz.underlying30 Tryz.underlying5 rfl b16 (by decide) fun aA4 aJe => ?_
 replace hS:=bV aJe hS
 refine Zu (dX (s:=aA4) Tryz.underlying30 rfl) ?_
 refine Zy ?_
 refine Zb ?_
 refine VC.iter (S:=Int) (fun (I4:Int)=>I4) (fun (I4:Int)=>[(16,aA4.val),(17,i64 (aA4.l.length:Int)),(18,i64 I4)]) (fun (I4:Int)=>Mo.tt) (fun (I4:Int)=>Ow.emp) 0 [16,17,18] hS rfl ?_
 clear hS
 rintro I4 m1 y1 hS hK1
 refine Zq (Zr ?_)
 refine Zu (c4 rfl rfl) ?_
 refine Zl ?_
 refine Zq ?_
 refine Zc hS (fun h19 hS => ?_) (fun h19 hS => ?_)
 ·
  refine Zk ?_
  refine Zq (Zb (Zq (Zr ?_)))
  obtain ⟨aOc,aPy,aPW,hS⟩:=c6 hS
  refine Zu (e8 (s:=aA4) Tryz.underlying30 AD rfl rfl aPy (bN aPy aPW)) ?_
  refine Zu (q9 (s:=aA4) RS rfl aPW rfl) ?_
  refine Zy ?_
  refine Zq (Zr ?_)
  refine Zm ?_
  obtain ⟨aHL,aJS,hS⟩:=aK hS
  refine Zu (bZ (aHd (aOc.toNat:Int) aJS) rfl (fun _ _=>rfl)) ?_
  refine Zu (lQ rfl) ?_
  refine Zl ?_
  refine iL hS (fun h24 hS => ?_) (fun h24 hS => ?_)
  ·
   refine Zq (Zr ?_)
   refine Zy ?_
   refine VC.keep (ρ':=[(2,.bool false)]) [2] rfl ?_
   replace hS:=gA hS hK1
   cases hS
   exact Ze
  refine Zk ?_
  refine Zr ?_
  obtain ⟨b25,hS⟩:=bU hS
  refine Zu (cR rfl rfl b25) ?_
  refine Zm ?_
  refine VL.iP (I4+1) [16,17,18] (fun _ _ h=>h) (go2 hS hK1) rfl
 replace hS:=gA hS hK1
 refine Zx ?_
 refine Zq (Zr ?_)
 refine Zy ?_
 cases hS
 exact Ze
theorem LM (CP:bB) {r:Int} (hS:Sh.AK CP=some r) :
 Ct Tryz.prog 40 [str CP] Mo.tt (Ow.emp) (X:=Unit) (fun _=>i64 r) (fun _=>True) (fun _=>Mo.tt) (fun _=>Ow.emp):=by
 refine Zo Tryz.func40 Tryz.ntmps40 fun c => ?_
 unfold Sh.AK at hS
 refine Zq (Zr ?_)
 refine Zy ?_
 refine Zq (Zq (Zr ?_))
 refine Zm ?_
 refine Zu (pU Tryz.underlying9 rfl) ?_
 refine Zu (iZ rfl rfl) ?_
 refine Zl ?_
 refine Zc hS (fun h7 hS => ?_) (fun h7 hS => ?_)
 ·
  refine Zq (Zr ?_)
  refine Zy ?_
  cases hS
  exact Ze
 refine Zk ?_
 refine Zq (Zq (Zr ?_))
 refine Zm ?_
 obtain ⟨XY,aNl,hS⟩:=aK hS
 refine VL.cU (NL CP [47] aNl) rfl (by decide) ?_
 rintro aCF rfl
 try dsimp only
 refine Zu (dX (s:=aCF) Tryz.underlying62 rfl) ?_
 refine Zy ?_
 refine Zb ?_
 refine VC.iter (S:=Int) (fun (i7:Int)=>i7) (fun (i7:Int)=>[(9,aCF.val),(10,i64 (aCF.l.length:Int)),(11,i64 i7)]) (fun (i7:Int)=>Mo.tt) (fun (i7:Int)=>Ow.emp) 0 [9,10,11] hS rfl ?_
 clear hS
 rintro i7 m1 y1 hS hK1
 refine Zq (Zr ?_)
 refine Zu (c4 rfl rfl) ?_
 refine Zl ?_
 refine Zq ?_
 refine Zc hS (fun h12 hS => ?_) (fun h12 hS => ?_)
 ·
  refine Zk ?_
  refine Zq (Zb (Zq (Zr ?_)))
  obtain ⟨nW,FE,zM,hS⟩:=c6 hS
  refine Zu (e8 (s:=aCF) Tryz.underlying62 vA rfl rfl FE (bN FE zM)) ?_
  refine Zu (q9 (s:=aCF) dD rfl zM rfl) ?_
  refine Zy ?_
  refine Zq (Zr ?_)
  refine Zm ?_
  obtain ⟨kS,BE,hS⟩:=aK hS
  refine Zu (bZ (aHe nW BE) rfl (fun _ _=>rfl)) ?_
  refine Zu (lQ rfl) ?_
  refine Zl ?_
  refine iL hS (fun h17 hS => ?_) (fun h17 hS => ?_)
  ·
   refine Zq (Zr ?_)
   refine Zy ?_
   refine VC.keep (ρ':=[(2,i64 5)]) [2] rfl ?_
   replace hS:=gA hS hK1
   cases hS
   exact Ze
  refine Zk ?_
  refine Zr ?_
  obtain ⟨b18,hS⟩:=bU hS
  refine Zu (cR rfl rfl b18) ?_
  refine Zm ?_
  refine VL.iP (i7+1) [9,10,11] (fun _ _ h=>h) (go2 hS hK1) rfl
 replace hS:=gA hS hK1
 refine Zx ?_
 refine Zq (Zr ?_)
 refine Zy ?_
 cases hS
 exact Ze
theorem DL (aA:bB) (q6:bB) {r:Bool} (hS:Sh.mU aA q6=some r) :
 Ct Tryz.prog 181 [str aA,str q6] Mo.tt (Ow.emp) (X:=Unit) (fun _ => .bool r) (fun _=>True) (fun _=>Mo.tt) (fun _=>Ow.emp):=by
 refine Zo Tryz.func181 Tryz.ntmps181 fun c => ?_
 unfold Sh.mU at hS
 refine Zq (Zr ?_)
 refine Zy ?_
 refine Zq (Zr ?_)
 refine Zm ?_
 refine Zu (pU Tryz.underlying9 rfl) ?_
 refine Zm ?_
 refine Zu (pU Tryz.underlying9 rfl) ?_
 refine Zu (sK rfl rfl) ?_
 refine Zm ?_
 refine pL 10 hS (fun h10 hS => ?_) (fun h10 hS => ?_)
 ·
  refine Zy ?_
  refine Zh (pU Tryz.underlying9 rfl) ?_
  obtain ⟨b14,hS⟩:=bU hS
  obtain ⟨S5,aBF,hS⟩:=qT hS
  refine Zh (aE4 Tryz.underlying9 rfl rfl b14.1 b14.2 aBF) ?_
  refine Zg ?_
  refine Zh (IX rfl rfl) ?_
  refine Zy ?_
  refine VC.keep (ρ':=[(4,.bool (decide (S5=q6)))]) [4] rfl ?_
  cases hS
  exact Ze
 refine VL.runs 8 [(4,some false)] (by kernel_rfl) ?_
 refine Zl ?_
 cases hS
 exact Ze
theorem UD (aA:bB) (q6:bB) {r:Bool} (hS:Sh.yD aA q6=some r) :
 Ct Tryz.prog 114 [str aA,str q6] Mo.tt (Ow.emp) (X:=Unit) (fun _ => .bool r) (fun _=>True) (fun _=>Mo.tt) (fun _=>Ow.emp):=by
 refine Zo Tryz.func114 Tryz.ntmps114 fun c => ?_
 unfold Sh.yD at hS
 refine Zq (Zr ?_)
 refine Zy ?_
 refine Zq (Zr ?_)
 refine Zy ?_
 obtain ⟨iD,kL,hS⟩:=aK hS
 refine Zu (bZ (DL aA q6 kL) rfl (fun _ _=>rfl)) ?_
 refine Zy ?_
 cases hS
 exact Ze
theorem VY (CP:bB) (UQ:bB) {r:Bool} (hS:Sh.D8 CP UQ=some r) :
 Ct Tryz.prog 78 [str CP,str UQ] Mo.tt (Ow.emp) (X:=Unit) (fun _ => .bool r) (fun _=>True) (fun _=>Mo.tt) (fun _=>Ow.emp):=by
 refine Zo Tryz.func78 Tryz.ntmps78 fun c => ?_
 unfold Sh.D8 at hS
 refine Zq (Zr ?_)
 refine Zy ?_
 refine Zq (Zq (Zr ?_))
 refine Zy ?_
 refine Zc hS (fun h6 hS => ?_) (fun h6 hS => ?_)
 ·
  refine Zq (Zr ?_)
  refine Zm ?_
  refine Zu (wZ rfl rfl) ?_
  refine Zy ?_
  cases hS
  exact Ze
 refine Zk ?_
 refine Zq (Zr ?_)
 refine Zm ?_
 refine Zu (pU Tryz.underlying9 rfl) ?_
 refine Zm ?_
 refine Zu (pU Tryz.underlying9 rfl) ?_
 obtain ⟨b13,hS⟩:=bU hS
 refine Zu (cR rfl rfl b13) ?_
 refine Zu (iZ rfl rfl) ?_
 refine Zm ?_
 refine pL 15 hS (fun h15 hS => ?_) (fun h15 hS => ?_)
 ·
  refine Zy ?_
  obtain ⟨b18,hS⟩:=bU hS
  obtain ⟨S7,aBI,hS⟩:=qT hS
  refine Zh (YN rfl rfl b18 aBI) ?_
  obtain ⟨aOS,a0G,hS⟩:=aK hS
  refine Zh (bZ (UD CP S7 a0G) rfl (fun _ _=>rfl)) ?_
  refine Zy ?_
  refine VC.keep (ρ':=[(4,.bool aOS)]) [4] rfl ?_
  cases hS
  exact Ze
 refine VL.runs 6 [(4,some false)] (by kernel_rfl) ?_
 refine Zl ?_
 refine VC.keep (ρ':=[(4,.bool false)]) [4] rfl ?_
 cases hS
 exact Ze
theorem wV (cX:bB) (b_1:bB) {r:Bool} (hS:Sh.s9 cX b_1=some r) :
 Ct Tryz.prog 44 [str cX,str b_1] Mo.tt (Ow.emp) (X:=Unit) (fun _ => .bool r) (fun _=>True) (fun _=>Mo.tt) (fun _=>Ow.emp):=by
 refine Zo Tryz.func44 Tryz.ntmps44 fun c => ?_
 unfold Sh.s9 at hS
 refine Zq (Zr ?_)
 refine Zy ?_
 refine Zq (Zr ?_)
 refine Zm ?_
 refine Zu (wZ rfl rfl) ?_
 refine Zm ?_
 refine OZ 7 hS (fun h7 hS => ?_) (fun h7 hS => ?_)
 ·
  refine Zg ?_
  refine Zh (wZ rfl rfl) ?_
  refine Zy ?_
  refine OZ 11 hS (fun h11 hS => ?_) (fun h11 hS => ?_)
  ·
   refine Zy ?_
   obtain ⟨S5,aBF,hS⟩:=aK hS
   refine Zh (bZ (VY cX b_1 aBF) rfl (fun _ _=>rfl)) ?_
   refine Zg ?_
   refine vV 15 hS (fun h15 hS => ?_) (fun h15 hS => ?_)
   ·
    refine VL.runs 3 [(18,none)] (by kernel_rfl) ?_
    refine Zh (kE rfl rfl) ?_
    refine Zy ?_
    refine VC.keep (ρ':=[(4,.bool true)]) [4] rfl ?_
    cases hS
    exact Ze
   refine Zy ?_
   obtain ⟨aHI,a0E,hS⟩:=aK hS
   refine Zh (bZ (VY b_1 cX a0E) rfl (fun _ _=>rfl)) ?_
   refine Zh (iX rfl rfl) ?_
   refine Zy ?_
   refine VC.keep (ρ':=[(4,.bool aHI)]) [4] rfl ?_
   cases hS
   exact Ze
  refine VL.runs 10 [(4,some false)] (by kernel_rfl) ?_
  refine Zl ?_
  cases hS
  exact Ze
 refine VL.runs 14 [(4,some false)] (by kernel_rfl) ?_
 refine Zl ?_
 cases hS
 exact Ze
theorem T9 (l7:aC) (iB:Nat) (a_1:aC) {r:Bool} (hS:Sh.tH l7 a_1=some r) :
 Ct Tryz.prog 43 [.agg #[str l7.path,i64 l7.mode,str l7.data],ptr iB 0] (Cells iB 0 [str a_1.path,i64 a_1.mode,str a_1.data]) (Ow.emp) (X:=Unit) (fun _ => .bool r) (fun _=>True) (fun _=>Mo.tt) (fun _=>Ow.emp):=by
 refine Zo Tryz.func43 Tryz.ntmps43 fun c => ?_
 unfold Sh.tH at hS
 refine Zq (Zr ?_)
 refine VL.box (cs:=[str l7.path,i64 l7.mode,str l7.data]) rfl rfl (by decide) fun dQ => ?_
 refine Zy ?_
 refine Zq (Zr ?_)
 refine Zu (aB qS rfl) ?_
 refine Zu (aJ dD rfl rfl) ?_
 refine Zu (aB qS rfl) ?_
 refine Zu (WC dD rfl rfl) ?_
 obtain ⟨iT,tG,hS⟩:=aK hS
 refine Zu (bZ (wV l7.path a_1.path tG) rfl (fun _ _=>rfl)) ?_
 refine Zy ?_
 cases hS
 exact Ze
theorem yP (aA:Sv aC) (dV:Nat) (eA:aC) {r:Int} (hS:Sh.j6 aA.l eA=some r) :
 Ct Tryz.prog 77 [aA.val,.func (.func 43) #[] #[ptr dV 0]] (aA.ok.and (Cells dV 0 [str eA.path,i64 eA.mode,str eA.data])) (Ow.emp) (X:=Unit) (fun _=>i64 r) (fun _=>True) (fun _=>Mo.tt) (fun _=>Ow.emp):=by
 refine Zo Tryz.func77 Tryz.ntmps77 fun c => ?_
 unfold Sh.j6 at hS
 refine Zq (Zr ?_)
 refine Zy ?_
 refine Zq (Zq (Zr ?_))
 refine Zm ?_
 refine Zu (dX (s:=aA) Tryz.underlying23 rfl) ?_
 refine Zy ?_
 refine Zb ?_
 refine VC.iter (S:=Int) (fun (cG:Int)=>cG) (fun (cG:Int)=>[(0,aA.val),(1,.func (.func 43) #[] #[ptr dV 0]),(7,i64 (aA.l.length:Int)),(8,i64 cG)]) (fun (cG:Int)=>Mo.tt) (fun (cG:Int)=>Ow.emp) 0 [0,1,7,8] hS rfl ?_
 clear hS
 rintro cG m1 y1 hS hK1
 refine Zq (Zr ?_)
 refine Zu (c4 rfl rfl) ?_
 refine Zl ?_
 refine Zq ?_
 refine Zc hS (fun h9 hS => ?_) (fun h9 hS => ?_)
 ·
  refine Zk ?_
  refine Zq (Zb (Zq (Zr ?_)))
  refine Zy ?_
  refine Zq (Zr ?_)
  refine Zy ?_
  obtain ⟨fV,kV,kU,hS⟩:=c6 hS
  refine Zu (e8 (s:=aA) Tryz.underlying23 fS rfl rfl kV (bN kV kU)) ?_
  refine Zu (nR (s:=aA) jZ rfl rfl kU) ?_
  obtain ⟨kC,rB,hS⟩:=aK hS
  refine Zu (uX (vs:=[.agg #[str fV.path,i64 fV.mode,str fV.data]]) (caps:=[ptr dV 0]) (T9 fV dV eA rB) rfl rfl (fun _ _=>rfl)) ?_
  refine Zl ?_
  refine VC.keep (ρ':=[(0,aA.val),(1,.func (.func 43) #[] #[ptr dV 0]),(7,i64 (aA.l.length:Int)),(8,i64 cG),(5,i64 cG),(16,.bool kC)]) [0,1,7,8,5,16] rfl ?_
  refine iL hS (fun h16 hS => ?_) (fun h16 hS => ?_)
  ·
   refine Zq (Zr ?_)
   refine Zy ?_
   replace hS:=gA hS hK1
   cases hS
   exact Ze
  refine Zk ?_
  refine Zr ?_
  obtain ⟨b18,hS⟩:=bU hS
  refine Zu (cR rfl rfl b18) ?_
  refine Zm ?_
  refine VL.iP (cG+1) [0,1,7,8] (fun _ _ h=>h) (go2 hS hK1) rfl
 replace hS:=gA hS hK1
 refine Zx ?_
 refine Zq (Zr ?_)
 refine Zy ?_
 cases hS
 exact Ze
theorem xA (aA:Sv aC) (dV:Nat) (eA:aC) {r:Bool} (hS:Sh.gZ aA.l eA=some r) :
 Ct Tryz.prog 42 [aA.val,.func (.func 43) #[] #[ptr dV 0]] (aA.ok.and (Cells dV 0 [str eA.path,i64 eA.mode,str eA.data])) (Ow.emp) (X:=Unit) (fun _ => .bool r) (fun _=>True) (fun _=>Mo.tt) (fun _=>Ow.emp):=by
 refine Zo Tryz.func42 Tryz.ntmps42 fun c => ?_
 unfold Sh.gZ at hS
 refine Zq (Zr ?_)
 refine Zy ?_
 refine Zq (Zr ?_)
 refine Zy ?_
 obtain ⟨iD,kL,hS⟩:=aK hS
 refine Zu (oB (yP aA dV eA kL) rfl (fun _ _=>rfl)) ?_
 refine Zu (sK rfl rfl) ?_
 refine Zy ?_
 cases hS
 exact Ze
theorem Y9 (cJ:Sv aC) (i_1:Int) {r:Int} (hS:Sh.wP cJ.l i_1=some r) :
 Ct Tryz.prog 17 [cJ.val,i64 i_1] cJ.ok (Ow.emp) (X:=Unit) (fun _=>i64 r) (fun _=>True) (fun _=>Mo.tt) (fun _=>Ow.emp):=by
 refine Zo Tryz.func17 Tryz.ntmps17 fun c => ?_
 unfold Sh.wP at hS
 refine Zq (Zr ?_)
 refine Zy ?_
 refine Zq (Zr ?_)
 refine Zy ?_
 obtain ⟨o5,aGQ,aFq,hS⟩:=c6 hS
 refine Zu (e8 (s:=cJ) Tryz.underlying23 fS rfl rfl aGQ (bN aGQ aFq)) ?_
 refine Zu (nR (s:=cJ) jZ rfl rfl aFq) ?_
 refine VL.alloc (cs:=[str [],i64 0,str []]) (by kernel_rfl) (by decide) fun xR => ?_
 refine Zv (cs':=[str o5.path,i64 o5.mode,str o5.data]) rfl fS ?_
 refine Zl ?_
 refine Zq (Zq (Zr ?_))
 refine Zu (aB qS rfl) ?_
 refine Zu (aJ dD rfl rfl) ?_
 obtain ⟨uS,JL,hS⟩:=aK hS
 refine Zu (bZ (LM o5.path JL) rfl (fun _ _=>rfl)) ?_
 refine Zy ?_
 refine VC.keep (ρ':=[(0,cJ.val),(1,i64 i_1),(5,ptr xR 0),(6,i64 uS)]) [0,1,5,6] rfl ?_
 refine Zq (Zr ?_)
 refine Zm ?_
 refine Zu (yY rfl rfl) ?_
 refine Zl ?_
 refine rE hS (fun h15 hS => ?_) (fun h15 hS => ?_)
 ·
  refine Zq (Zr ?_)
  refine Zy ?_
  cases hS
  exact Ze
 refine Zk ?_
 refine Zq (Zb ?_)
 refine VC.gK (S:=Bool) (fun (AY:Bool)=>AY) (fun (AY:Bool)=>[(0,cJ.val),(1,i64 i_1),(5,ptr xR 0),(17,.bool AY)]) (fun (AY:Bool)=>Mo.tt) (fun (AY:Bool)=>Ow.star (bD xR [str o5.path,i64 o5.mode,str o5.data] 36) (Ow.emp)) hS ?_ ?_
 ·
  clear hS
  intro k5 hS
  refine Zr ?_
  refine Zu (aB LA rfl) ?_
  refine Zu (aJ eP rfl rfl) ?_
  refine Zu (yY rfl rfl) ?_
  refine Zm ?_
  refine OZ 21 hS (fun h21 hS => ?_) (fun h21 hS => ?_)
  ·
   refine Zh (aB LA rfl) ?_
   refine Zh (aJ eP rfl rfl) ?_
   refine Zh (yY rfl rfl) ?_
   refine Zy ?_
   refine VL.mt (!decide (o5.mode=2)) [0,1,5,17] (fun _ _ h=>h) hS rfl
  refine VL.runs 5 [(17,some false)] (by kernel_rfl) ?_
  refine VL.mt false [0,1,5,17] (fun _ _ h=>h) hS rfl
 clear hS
 rintro AY hS
 refine iL hS (fun h17 hS => ?_) (fun h17 hS => ?_)
 ·
  refine Zq (Zr ?_)
  refine Zy ?_
  cases hS
  exact Ze
 refine Zq (Zr ?_)
 refine Zu (aB E8 rfl) ?_
 refine Zu (aJ dD rfl rfl) ?_
 refine Zu (pU Tryz.underlying9 rfl) ?_
 refine Zu (iZ rfl rfl) ?_
 refine Zy ?_
 refine Zc hS (fun h26 hS => ?_) (fun h26 hS => ?_)
 ·
  refine Zq (Zr ?_)
  refine Zy ?_
  cases hS
  exact Ze
 refine VC.gK (S:=Bool) (fun (XK:Bool)=>XK) (fun (XK:Bool)=>[(0,cJ.val),(1,i64 i_1),(5,ptr xR 0),(31,.bool XK)]) (fun (XK:Bool)=>Mo.tt) (fun (XK:Bool)=>Ow.star (bD xR [str o5.path,i64 o5.mode,str o5.data] 36) (Ow.emp)) hS ?_ ?_
 ·
  clear hS
  intro k7 hS
  refine VC.draw ((List.range 15).map fun k=>(k,true)) mixed (by kernel_rfl) (by kernel_rfl) (by kernel_rfl) ?_
  refine Zw rfl (bA rfl) ?_
  refine Zw rfl (iZ rfl rfl) ?_
  refine Zw rfl (bA rfl) ?_
  refine VD.vP 34 rfl (fun h34 => ?_) (fun h34 => ?_)
  ·
   replace hS:=M5 h34 hS
   refine Zi rfl (bA rfl) ?_
   refine Zi rfl (bA rfl) ?_
   obtain ⟨b37,hS⟩:=bU hS
   refine Zi rfl (qK rfl rfl b37) ?_
   obtain ⟨aOi,aQQ,aPa,hS⟩:=c6 hS
   refine Zi rfl (e8 (s:=cJ) Tryz.underlying23 fS rfl rfl aQQ (bN aQQ aPa)) ?_
   refine Zi rfl (aB qS rfl) ?_
   refine Zi rfl (FT (s:=cJ) dD rfl aPa rfl) ?_
   refine Zi rfl (aB qS rfl) ?_
   refine Zi rfl (aJ dD rfl rfl) ?_
   obtain ⟨aO8,a0o,hS⟩:=aK hS
   refine Zi rfl (bZ (BN aOi.path o5.path a0o) rfl (fun _ _=>rfl)) ?_
   refine Zi rfl (sK rfl rfl) ?_
   refine Zw rfl (kE rfl rfl) ?_
   refine Zw rfl (eO rfl) ?_
   refine VD.mt (decide (0≤aO8)) [0,1,5,31] (fun _ _ h=>h) hS rfl
  replace hS:=VR h34 hS
  refine Zd ?_
  refine Zd ?_
  refine Zd ?_
  refine Zd ?_
  refine Zd ?_
  refine Zd ?_
  refine Zd ?_
  refine Zd ?_
  refine Zd ?_
  refine Zd ?_
  refine Zw rfl (iX rfl rfl) ?_
  refine Zw rfl (eO rfl) ?_
  refine VD.mt false [0,1,5,31] (fun _ _ h=>h) hS rfl
 clear hS
 rintro XK hS
 refine iL hS (fun h31 hS => ?_) (fun h31 hS => ?_)
 ·
  refine Zq (Zr ?_)
  refine Zy ?_
  cases hS
  exact Ze
 refine Zq (Zr ?_)
 refine Zy ?_
 obtain ⟨b49,hS⟩:=bU hS
 refine VL.sto Tryz.underlying23 fS rfl rfl b49.1 (b49.2) (by decide) fun a2x aWy => ?_
 replace hS:=bV aWy hS
 refine Zu (sE rfl) ?_
 obtain ⟨YY,aFV,hS⟩:=aK hS
 refine Zu (oB (xA a2x xR o5 aFV) rfl (fun _ _=>rfl)) ?_
 refine Zy ?_
 refine iL hS (fun h46 hS => ?_) (fun h46 hS => ?_)
 ·
  refine Zq (Zr ?_)
  refine Zy ?_
  refine VC.keep (ρ':=[(4,i64 11)]) [4] rfl ?_
  cases hS
  exact Ze
 refine Zk ?_
 refine Zq (Zr ?_)
 refine Zy ?_
 refine VC.keep (ρ':=[(4,i64 0)]) [4] rfl ?_
 cases hS
 exact Ze
theorem vY (cJ:Sv aC) {r:eY} (hS:Sh.oU cJ.l=some r) :
 Ct Tryz.prog 5 [cJ.val] cJ.ok (Ow.emp) (X:=Er) (fun x=>x.val) (fun x=>r=x.pl) (fun x=>x.ok) (fun x=>Ow.emp):=by
 refine Zo Tryz.func5 Tryz.ntmps5 fun c => ?_
 unfold Sh.oU at hS
 refine Zq (Zr ?_)
 refine Zy ?_
 refine Zq (Zq (Zr ?_))
 refine Zm ?_
 refine Zu (dX (s:=cJ) Tryz.underlying23 rfl) ?_
 refine Zu (iZ rfl rfl) ?_
 refine Zl ?_
 refine Zc hS (fun h7 hS => ?_) (fun h7 hS => ?_)
 ·
  refine Zq (Zr ?_)
  refine Zu (kW Tryz.underlying75 (fun _ h=>by cases h) rfl) ?_
  refine Zu (eN (vs:=[(0,str [102,105,108,101]),(1,i64 64),(2,(Er.no 4).val)]) (cs := #[str [102,105,108,101],i64 64,(Er.no 4).val]) rfl (by kernel_rfl)) ?_
  refine VL.box (cs:=[str [102,105,108,101],i64 64,(Er.no 4).val]) rfl rfl (by decide) fun z6 => ?_
  refine VL.OD z6 ?_
  refine Zu (kW Tryz.underlying74 (fun _ h=>by cases h) rfl) ?_
  refine Zy ?_
  cases hS
  exact VC.ret (eB (.inr rfl) rfl rfl (Er.fault z6 [102,105,108,101] 64 (Er.no 4)) rfl rfl (by (try dsimp only); exact cA.out) (fun _ _=>trivial))
 refine Zk ?_
 refine Zq (Zq (Zr ?_))
 refine Zm ?_
 refine Zu (dX (s:=cJ) Tryz.underlying23 rfl) ?_
 refine Zy ?_
 refine Zb ?_
 refine VC.iter (S:=Int) (fun (p6:Int)=>p6) (fun (p6:Int)=>[(0,cJ.val),(13,i64 (cJ.l.length:Int)),(14,i64 p6)]) (fun (p6:Int)=>Mo.tt) (fun (p6:Int)=>Ow.emp) 0 [0,13,14] hS rfl ?_
 clear hS
 rintro p6 m1 y1 hS hK1
 refine Zq (Zr ?_)
 refine Zu (c4 rfl rfl) ?_
 refine Zl ?_
 refine Zq ?_
 refine Zc hS (fun h15 hS => ?_) (fun h15 hS => ?_)
 ·
  refine Zk ?_
  refine Zq (Zb (Zq (Zr ?_)))
  refine Zy ?_
  refine Zq (Zr ?_)
  refine Zy ?_
  obtain ⟨sN,RJ,hS⟩:=aK hS
  refine Zu (bZ (Y9 cJ p6 RJ) rfl (fun _ _=>rfl)) ?_
  refine Zy ?_
  refine Zq (Zr ?_)
  refine Zm ?_
  refine Zu (yY rfl rfl) ?_
  refine Zl ?_
  refine rE hS (fun h21 hS => ?_) (fun h21 hS => ?_)
  ·
   refine Zq (Zr ?_)
   refine Zy ?_
   refine Zu (kW Tryz.underlying75 (fun _ h=>by cases h) rfl) ?_
   refine Zu (eN (vs:=[(0,str [102,105,108,101]),(1,i64 p6),(2,(Er.no sN).val)]) (cs := #[str [102,105,108,101],i64 p6,(Er.no sN).val]) rfl (by kernel_rfl)) ?_
   refine VL.box (cs:=[str [102,105,108,101],i64 p6,(Er.no sN).val]) rfl rfl (by decide) fun ZS => ?_
   refine VL.OD ZS ?_
   refine Zu (kW Tryz.underlying74 (fun _ h=>by cases h) rfl) ?_
   refine Zy ?_
   refine VC.keep (ρ':=[(2,(Er.fault ZS [102,105,108,101] p6 (Er.no sN)).val)]) [2] rfl ?_
   replace hS:=gA hS hK1
   cases hS
   exact VC.ret (eB (.inr rfl) rfl rfl (Er.fault ZS [102,105,108,101] p6 (Er.no sN)) rfl rfl (by (try dsimp only); exact cA.out) (fun _ _=>trivial))
  refine Zk ?_
  refine VC.keep (ρ':=[(0,cJ.val),(13,i64 (cJ.l.length:Int)),(14,i64 p6)]) [0,13,14] rfl ?_
  refine Zr ?_
  obtain ⟨b28,hS⟩:=bU hS
  refine Zu (cR rfl rfl b28) ?_
  refine Zm ?_
  refine VL.iP (p6+1) [0,13,14] (fun _ _ h=>h) (go2 hS hK1) rfl
 replace hS:=gA hS hK1
 refine Zx ?_
 refine Zq (Zr ?_)
 refine Zy ?_
 cases hS
 exact VC.ret (eB (.inr rfl) rfl rfl .nil rfl rfl (by (try dsimp only); exact cA.out) (fun _ _=>trivial))
theorem aHi (aCs:Er) {r:eY} (hS:Sh.aA1 aCs.pl=some r) :
 Ct Tryz.prog 85 [aCs.val] aCs.ok (Ow.emp) (X:=Er) (fun x=>x.val) (fun x=>r=x.pl) (fun x=>x.ok) (fun x=>Ow.emp):=by
 refine Zo Tryz.func85 Tryz.ntmps85 fun c => ?_
 unfold Sh.aA1 at hS
 refine Zq (Zr ?_)
 refine Zy ?_
 refine Zq (Zr ?_)
 refine VL.alloc (cs:=[i64 0]) (by kernel_rfl) (by decide) fun fX => ?_
 refine Zl ?_
 refine Zq (Zq (Zr ?_))
 refine Zm ?_
 refine Zu (kW Tryz.underlying194 (fun _ h=>by cases h) rfl) ?_
 rcases aCs with _ | _ | ⟨_,_,_,_⟩
 rotate_left
 ·
  exact absurd hS (by simp [Er.pl])
 ·
  exact absurd hS (by simp [Er.pl])
 dsimp only [Er.pl] at hS
 refine VL.cU (aNV _) rfl (by decide) ?_
 rintro _ _
 refine Zl ?_
 refine VC.BB rfl ?_
 refine Zk ?_
 refine Zq (Zr ?_)
 refine Zy ?_
 cases hS
 exact VC.ret (eB (.inr rfl) rfl rfl (Er.nil) rfl rfl (by (try dsimp only); exact cA.out) (fun _ _=>trivial))
theorem iQ (aA:Sv aC) {r:List aC} (hS:Sh.gJ aA.l=some r) :
 Ct Tryz.prog 122 [aA.val] aA.ok (Ow.emp) (X:=Sv aC) (fun x=>x.val) (fun x=>r=x.l) (fun x=>Mo.tt) (fun x=>Sv.own x 36):=by
 refine Zo Tryz.func122 Tryz.ntmps122 fun c => ?_
 unfold Sh.gJ at hS
 refine Zq (Zr ?_)
 refine Zy ?_
 refine Zq (Zq (Zr ?_))
 refine Zm ?_
 refine Zu (ID (s:=aA) Tryz.underlying23 rfl) ?_
 refine Zl ?_
 refine VC.slnil (s:=aA) rfl (fun h4 => ?_) ?_
 ·
  have hS:(some [])=some r:=by
    simp [lt,gd,h4] at hS ⊢
    try exact hS
  refine Zq (Zr ?_)
  refine Zy ?_
  refine VC.kH (⟨none,0,[]⟩:Sv aC) 36 ⟨rfl,rfl⟩ ?_
  cases hS
  exact VC.ret (eB (.inr rfl) rfl rfl ⟨none,0,[]⟩ rfl rfl (by (try dsimp only); exact cA.out) (by (try dsimp only); exact dJ.out))
 refine Zk ?_
 refine Zq (Zr ?_)
 refine VL.aDz (α:=aC) Tryz.underlying23 a1B (by decide) (fun yN rK x7 => ?_)
 refine VL.kH yN 36 ⟨x7,rK⟩ ?_
 replace hS:=bV rK hS
 refine Zm ?_
 obtain ⟨b7,hS⟩:=bU hS
 refine VL.app (s:=yN) (r:=aA) Tryz.underlying23 RO (by decide) rfl Fo.out (sU b7) (sV b7 (by decide)) (by decide) (fun L7 B2 => ?_)
 replace hS:=bV B2 hS
 refine Zy ?_
 cases hS
 exact VC.ret (eB (.inr rfl) rfl rfl L7 rfl rfl (by (try dsimp only); exact cA.out) (by (try dsimp only); exact dJ.out))
theorem GP (DI:aC) (iB:Nat) (a_1:bB) {r:Bool} (hS:Sh.xZ DI a_1=some r) :
 Ct Tryz.prog 123 [.agg #[str DI.path,i64 DI.mode,str DI.data],ptr iB 0] (Cells iB 0 [str a_1]) (Ow.emp) (X:=Unit) (fun _ => .bool r) (fun _=>True) (fun _=>Mo.tt) (fun _=>Ow.emp):=by
 refine Zo Tryz.func123 Tryz.ntmps123 fun c => ?_
 unfold Sh.xZ at hS
 refine Zq (Zr ?_)
 refine VL.box (cs:=[str DI.path,i64 DI.mode,str DI.data]) rfl rfl (by decide) fun dQ => ?_
 refine Zy ?_
 refine Zq (Zr ?_)
 refine Zu (aB qS rfl) ?_
 refine Zu (aJ dD rfl rfl) ?_
 refine Zu (WC dD rfl rfl) ?_
 obtain ⟨xO,DG,hS⟩:=aK hS
 refine Zu (bZ (wV DI.path a_1 DG) rfl (fun _ _=>rfl)) ?_
 refine Zy ?_
 cases hS
 exact Ze
theorem xB (aA:Sv aC) (dV:Nat) (eA:bB) {r:Int} (hS:Sh.lT aA.l eA=some r) :
 Ct Tryz.prog 77 [aA.val,.func (.func 123) #[] #[ptr dV 0]] (aA.ok.and (Cells dV 0 [str eA])) (Ow.emp) (X:=Unit) (fun _=>i64 r) (fun _=>True) (fun _=>Mo.tt) (fun _=>Ow.emp):=by
 refine Zo Tryz.func77 Tryz.ntmps77 fun c => ?_
 unfold Sh.lT at hS
 refine Zq (Zr ?_)
 refine Zy ?_
 refine Zq (Zq (Zr ?_))
 refine Zm ?_
 refine Zu (dX (s:=aA) Tryz.underlying23 rfl) ?_
 refine Zy ?_
 refine Zb ?_
 refine VC.iter (S:=Int) (fun (cG:Int)=>cG) (fun (cG:Int)=>[(0,aA.val),(1,.func (.func 123) #[] #[ptr dV 0]),(7,i64 (aA.l.length:Int)),(8,i64 cG)]) (fun (cG:Int)=>Mo.tt) (fun (cG:Int)=>Ow.emp) 0 [0,1,7,8] hS rfl ?_
 clear hS
 rintro cG m1 y1 hS hK1
 refine Zq (Zr ?_)
 refine Zu (c4 rfl rfl) ?_
 refine Zl ?_
 refine Zq ?_
 refine Zc hS (fun h9 hS => ?_) (fun h9 hS => ?_)
 ·
  refine Zk ?_
  refine Zq (Zb (Zq (Zr ?_)))
  refine Zy ?_
  refine Zq (Zr ?_)
  refine Zy ?_
  obtain ⟨fV,kV,kU,hS⟩:=c6 hS
  refine Zu (e8 (s:=aA) Tryz.underlying23 fS rfl rfl kV (bN kV kU)) ?_
  refine Zu (nR (s:=aA) jZ rfl rfl kU) ?_
  obtain ⟨kC,rB,hS⟩:=aK hS
  refine Zu (uX (vs:=[.agg #[str fV.path,i64 fV.mode,str fV.data]]) (caps:=[ptr dV 0]) (GP fV dV eA rB) rfl rfl (fun _ _=>rfl)) ?_
  refine Zl ?_
  refine VC.keep (ρ':=[(0,aA.val),(1,.func (.func 123) #[] #[ptr dV 0]),(7,i64 (aA.l.length:Int)),(8,i64 cG),(5,i64 cG),(16,.bool kC)]) [0,1,7,8,5,16] rfl ?_
  refine iL hS (fun h16 hS => ?_) (fun h16 hS => ?_)
  ·
   refine Zq (Zr ?_)
   refine Zy ?_
   replace hS:=gA hS hK1
   cases hS
   exact Ze
  refine Zk ?_
  refine Zr ?_
  obtain ⟨b18,hS⟩:=bU hS
  refine Zu (cR rfl rfl b18) ?_
  refine Zm ?_
  refine VL.iP (cG+1) [0,1,7,8] (fun _ _ h=>h) (go2 hS hK1) rfl
 replace hS:=gA hS hK1
 refine Zx ?_
 refine Zq (Zr ?_)
 refine Zy ?_
 cases hS
 exact Ze
theorem yA (aA:Sv aC) (dR:Nat) (eH:bB) {r:List aC} (hS:Sh.mQ aA.l eH=some r) :
 Ct Tryz.prog 121 [aA.val,.func (.func 123) #[] #[ptr dR 0]] Mo.tt (Ow.star (Sv.own aA 36) (bD dR [str eH] 9)) (X:=Sv aC) (fun x=>x.val) (fun x=>r=x.l) (fun x=>Mo.tt) (fun x=>Ow.star (Sv.own x 36) (bD dR [str eH] 9)):=by
 refine Zo Tryz.func121 Tryz.ntmps121 fun c => ?_
 unfold Sh.mQ at hS
 refine Zq (Zr ?_)
 refine Zy ?_
 refine Zq (Zr ?_)
 refine Zy ?_
 obtain ⟨c9,nF,hS⟩:=aK hS
 refine Zu (oB (xB aA dR eH nF) rfl (fun _ _=>rfl)) ?_
 refine Zy ?_
 refine Zq (Zq (Zr ?_))
 refine Zm ?_
 refine Zu (gV rfl rfl) ?_
 refine Zl ?_
 refine Zc hS (fun h12 hS => ?_) (fun h12 hS => ?_)
 ·
  refine Zq (Zr ?_)
  refine Zy ?_
  cases hS
  exact VC.ret (eB (.inr rfl) rfl rfl aA rfl rfl (by (try dsimp only); exact cA.out) (by (try dsimp only); exact dJ.out))
 refine Zk ?_
 refine Zq (Zq (Zr ?_))
 refine Zm ?_
 obtain ⟨b15,hS⟩:=bU hS
 refine Zu (cR rfl rfl b15) ?_
 refine Zy ?_
 refine VC.keep (ρ':=[(0,aA.val),(1,.func (.func 123) #[] #[ptr dR 0]),(5,i64 c9),(6,i64 (c9+1))]) [0,1,5,6] rfl ?_
 refine Zb ?_
 refine VC.iter (S:=Sv aC×Int×Int) (fun sg=>(sg.1.l,sg.2.1,sg.2.2)) (fun sg=>[(0,sg.1.val),(1,.func (.func 123) #[] #[ptr dR 0]),(5,i64 sg.2.1),(6,i64 sg.2.2)]) (fun sg=>Mo.tt) (fun sg=>Ow.star (bD dR [str eH] 9) (Ow.star (Sv.own sg.1 36) (Ow.emp))) (aA,c9,(c9+1)) [0,1,5,6] hS rfl ?_
 clear hS
 rintro ⟨fC,gU,mL⟩ m1 y1 hS hK1
 refine Zq (Zq (Zr ?_))
 refine Zy ?_
 refine Zu (dX (s:=fC) Tryz.underlying23 rfl) ?_
 refine Zu (c4 rfl rfl) ?_
 refine Zl ?_
 refine Zc hS (fun h19 hS => ?_) (fun h19 hS => ?_)
 ·
  refine Zk ?_
  refine VC.gK (S:=Sv aC×Int) (fun sg=>(sg.1.l,sg.2)) (fun sg=>[(0,sg.1.val),(1,.func (.func 123) #[] #[ptr dR 0]),(5,i64 sg.2),(6,i64 mL)]) (fun sg=>Mo.tt) (fun sg=>Ow.star (bD dR [str eH] 9) (Ow.star (Sv.own sg.1 36) (Ow.emp))) hS ?_ ?_
  ·
   clear hS
   intro k7 hS
   refine Zb (Zq (Zr ?_))
   refine Zy ?_
   obtain ⟨dN,zR,zN,hS⟩:=c6 hS
   refine Zu (lJ (s:=fC) Tryz.underlying23 fS rfl rfl zR (bN zR zN)) ?_
   refine Zu (R9 (s:=fC) jZ rfl rfl zN) ?_
   refine VL.alloc (cs:=[str [],i64 0,str []]) (by kernel_rfl) (by decide) fun aEw => ?_
   refine Zv (cs':=[str dN.path,i64 dN.mode,str dN.data]) rfl fS ?_
   refine Zl ?_
   refine VC.keep (ρ':=[(0,fC.val),(1,.func (.func 123) #[] #[ptr dR 0]),(5,i64 gU),(6,i64 mL),(7,ptr aEw 0)]) [0,1,5,6,7] rfl ?_
   refine Zq (Zr ?_)
   refine Zm ?_
   refine Zu (cD jZ rfl rfl) ?_
   obtain ⟨zX,EY,hS⟩:=aK hS
   refine Zu (uX (vs:=[.agg #[str dN.path,i64 dN.mode,str dN.data]]) (caps:=[ptr dR 0]) (GP dN dR eH EY) rfl rfl (fun _ _=>rfl)) ?_
   refine Zu (lQ rfl) ?_
   refine Zl ?_
   refine iL hS (fun h29 hS => ?_) (fun h29 hS => ?_)
   ·
    refine Zq (Zr ?_)
    refine Zy ?_
    refine Zu (cD jZ rfl rfl) ?_
    obtain ⟨TN,AG,AE,hS⟩:=c6 hS
    refine Zu (lJ (s:=fC) Tryz.underlying23 fS rfl rfl AG (bN AG AE)) ?_
    refine VL.wD (s:=fC) (T:=36) (j:=0) (vc:=[str dN.path,i64 dN.mode,str dN.data]) (⟨dN.path,dN.mode,dN.data⟩:aC) (by decide) rfl rfl AE rfl fS rfl rfl (Nat.le_of_ble_eq_true rfl) rfl (fun w12 hw12 haw12 hcw12 hvw12 hbw12 how12 => ?_)
    rw [← hvw12]
    replace hS:=bV hw12 hS
    refine Zl ?_
    refine VC.keep (ρ':=[(0,w12.val),(1,.func (.func 123) #[] #[ptr dR 0]),(5,i64 gU),(6,i64 mL)]) [0,1,5,6] rfl ?_
    refine Zr ?_
    refine Zm ?_
    obtain ⟨b35,hS⟩:=bU hS
    refine Zu (cR rfl rfl b35) ?_
    refine Za ?_
    refine VL.mt (w12,(gU+1)) [0,1,5,6] (fun _ _ h=>h) hS rfl
   refine VC.iC (fC,gU) [0,1,5,6] (fun _ _ h=>h) hS rfl
  clear hS
  rintro ⟨FW,FB⟩ hS
  refine Zr ?_
  refine Zm ?_
  obtain ⟨b21,hS⟩:=bU hS
  refine Zu (cR rfl rfl b21) ?_
  refine Za ?_
  refine VL.iP (FW,FB,(mL+1)) [0,1,5,6] (fun _ _ h=>h) (go2 hS hK1) rfl
 replace hS:=gA hS hK1
 refine Zx ?_
 refine Zq (Zr ?_)
 refine Zy ?_
 obtain ⟨b38,hS⟩:=bU hS
 refine VL.fits (s:=fC) (e:=36) Fo.out fun E0 => ?_
 refine Zu (NH (s:=fC) Tryz.underlying23 fS rfl rfl b38.1 b38.2 E0) ?_
 refine VL.aLL (s:=fC) (i:=gU.toNat) (.agg #[str [],i64 0,str []]) Tryz.underlying23 aWV rfl rfl rfl (by have:=b38; dsimp only at this ⊢; omega) Fo.out fun FX LH MG => ?_
 replace hS:=bV LH hS
 refine Zl ?_
 refine VC.keep (ρ':=[(0,fC.val),(5,i64 gU)]) [0,5] rfl ?_
 refine Zq (Zr ?_)
 refine Zy ?_
 refine Zu (aCH (s:=fC) (q:=FX) Tryz.underlying23 fS rfl rfl b38.1 b38.2 E0 MG) ?_
 refine Zy ?_
 cases hS
 exact VC.ret (eB (.inr rfl) rfl rfl FX rfl rfl (by (try dsimp only); exact cA.out) (by (try dsimp only); exact dJ.out))
theorem e7 (aA:Sv aC) {r:List aC} (hS:Sh.eR aA.l=some r) :
 Ct Tryz.prog 120 [aA.val] aA.ok (Ow.emp) (X:=Sv aC) (fun x=>x.val) (fun x=>r=x.l) (fun x=>x.ok) (fun x=>Ow.emp):=by
 refine Zo Tryz.func120 Tryz.ntmps120 fun c => ?_
 unfold Sh.eR at hS
 refine Zq (Zr ?_)
 refine Zy ?_
 refine Zq (Zr ?_)
 refine Zy ?_
 refine Zu (dX (s:=aA) Tryz.underlying23 rfl) ?_
 refine Zm ?_
 refine Zu (dX (s:=aA) Tryz.underlying23 rfl) ?_
 obtain ⟨b8,hS⟩:=bU hS
 refine VL.WX Tryz.underlying23 fS rfl rfl rfl b8.1 (b8.2) (by decide) fun CX vL => ?_
 replace hS:=bV vL hS
 refine Zy ?_
 cases hS
 exact VC.ret (eB (.inr rfl) rfl rfl CX rfl rfl (by (try dsimp only); exact cA.out) (fun _ _=>trivial))
theorem Y8 (cJ:Sv aC) (p_1:bB) {r:List aC} (hS:Sh.GZ cJ.l p_1=some r) :
 Ct Tryz.prog 86 [cJ.val,str p_1] cJ.ok (Ow.emp) (X:=Sv aC) (fun x=>x.val) (fun x=>r=x.l) (fun x=>x.ok) (fun x=>Ow.emp):=by
 refine Zo Tryz.func86 Tryz.ntmps86 fun c => ?_
 unfold Sh.GZ at hS
 refine Zq (Zr ?_)
 refine VL.box (cs:=[str p_1]) rfl rfl (by decide) fun fX => ?_
 refine Zy ?_
 refine Zq (Zr ?_)
 refine Zm ?_
 obtain ⟨NZ,aAH,hS⟩:=aK hS
 refine VL.bS (iQ cJ aAH) rfl (by decide) ?_
 rintro aCD rfl
 try dsimp only
 refine Zu (sE rfl) ?_
 obtain ⟨ED,RM,hS⟩:=aK hS
 refine VL.bS (yA aCD fX p_1 RM) rfl (by decide) ?_
 rintro vZ rfl
 try dsimp only
 refine VL.shut vZ 36 (fun _ _ _ _=>trivial) ?_
 obtain ⟨X0,aAK,hS⟩:=aK hS
 refine VL.cU (e7 vZ aAK) rfl (by decide) ?_
 rintro aCG rfl
 try dsimp only
 refine Zy ?_
 cases hS
 exact VC.ret (eB (.inr rfl) rfl rfl aCG rfl rfl (by (try dsimp only); exact cA.out) (fun _ _=>trivial))
theorem fM (jJ:Nat) (uL:eS) (l_1:Sv Int) {r:dK} (hS:Sh.gF uL.pl l_1.l=some r) :
 Ct Tryz.prog 28 [ptr jJ 0,l_1.val] l_1.ok (Ow.star (Sv.own uL.eU 5) (bD jJ [uL.eU.val] 185)) (X:=eS) (fun x => .tuple #[]) (fun x=>r=x.pl) (fun x=>Mo.tt) (fun x=>Ow.star (bD jJ [x.eU.val] 185) (Sv.own x.eU 5)):=by
 refine Zo Tryz.func28 Tryz.ntmps28 fun c => ?_
 unfold Sh.gF at hS
 refine Zq (Zr ?_)
 refine Zm ?_
 refine Zu (dX (s:=l_1) Tryz.underlying32 rfl) ?_
 refine Zy ?_
 refine Zb ?_
 refine VC.iter (S:=Int×Sv UInt8) (fun sg=>(sg.1,sg.2.l)) (fun sg=>[(0,ptr jJ 0),(7,l_1.val),(8,i64 (l_1.l.length:Int)),(9,i64 sg.1)]) (fun sg=>Mo.tt) (fun sg=>Ow.star (bD jJ [sg.2.val] 185) (Ow.star (Sv.own sg.2 5) (Ow.emp))) (0,uL.eU) [0,7,8,9] hS rfl ?_
 clear hS
 rintro ⟨uK,z7⟩ m1 y1 hS hK1
 refine Zq (Zr ?_)
 refine Zu (c4 rfl rfl) ?_
 refine Zl ?_
 refine Zq ?_
 refine Zc hS (fun h10 hS => ?_) (fun h10 hS => ?_)
 ·
  refine Zk ?_
  refine Zq (Zb (Zq (Zr ?_)))
  obtain ⟨zK,NC,M3,hS⟩:=c6 hS
  refine Zu (e8 (s:=l_1) Tryz.underlying32 u9 rfl rfl NC (bN NC M3)) ?_
  refine Zu (q9 (s:=l_1) eP rfl M3 rfl) ?_
  refine Zy ?_
  refine Zq (Zr ?_)
  refine Zm ?_
  refine Zu (jK Tryz.underlying3 Tryz.underlying101 rfl) ?_
  refine Zu (aAX rfl rfl (by decide)) ?_
  refine Zm ?_
  refine Zu (yZ rfl rfl (by decide)) ?_
  refine Zu (jK Tryz.underlying2 Tryz.underlying101 rfl) ?_
  refine Zu (tP rfl rfl) ?_
  refine Zy ?_
  refine VC.keep (ρ':=[(0,ptr jJ 0),(7,l_1.val),(8,i64 (l_1.l.length:Int)),(9,i64 uK),(6,.int .u64 (fF .u64 (I0 .u64 (IntKind.wrap .u64 zK) 1) (IntKind.wrap .u64 (nD .i64 zK 63))))]) [0,7,8,9,6] rfl ?_
  refine Zq (Zb ?_)
  refine VC.iter (S:=Int×Sv UInt8) (fun sg=>(sg.1,sg.2.l)) (fun sg=>[(0,ptr jJ 0),(6,.int .u64 sg.1),(7,l_1.val),(8,i64 (l_1.l.length:Int)),(9,i64 uK)]) (fun sg=>Mo.tt) (fun sg=>Ow.star (bD jJ [sg.2.val] 185) (Ow.star (Sv.own sg.2 5) (Ow.emp))) ((fF .u64 (I0 .u64 (IntKind.wrap .u64 zK) 1) (IntKind.wrap .u64 (nD .i64 zK 63))),z7) [0,6,7,8,9] hS rfl ?_
  clear hS
  rintro ⟨AX,fA⟩ m2 y2 hS hK2
  refine Zq (Zq (Zr ?_))
  refine Zm ?_
  refine Zu (sK rfl rfl) ?_
  refine Zl ?_
  refine Zc hS (fun h21 hS => ?_) (fun h21 hS => ?_)
  ·
   refine Zk ?_
   refine Zb (Zq (Zr ?_))
   refine Zy ?_
   refine Zu (aD rfl) ?_
   refine Zu (aB u5 rfl) ?_
   refine Zu (aJ qM rfl rfl) ?_
   refine Zm ?_
   refine Zu (B4 rfl rfl) ?_
   refine Zu (jK Tryz.underlying101 Tryz.underlying5 rfl) ?_
   refine Zu (aGd rfl rfl) ?_
   obtain ⟨aIo,hS⟩:=bU hS
   obtain ⟨ME,aJC,hS⟩:=qT hS
   refine VL.D9 30 rfl (congrArg (Value.int .u8) (ZO aIo aJC)) ?_
   refine VL.lit (α:=UInt8) (xs:=[.tmp 30]) (vs:=[.int .u8 (ME.toNat:Int)]) [ME] Tryz.underlying30 U0 (by decide) rfl rfl rfl rfl (by decide) (fun _ _ _ _=>trivial) (by decide) (fun aOJ aJj => ?_) (by decide)
   replace hS:=bV aJj hS
   obtain ⟨b32,hS⟩:=bU hS
   refine VL.app (s:=fA) (r:=aOJ) Tryz.underlying30 RP (by decide) rfl Fo.out (sU b32) (sV b32 (by decide)) (by decide) (fun aGt aJk => ?_)
   replace hS:=bV aJk hS
   refine Zu (aD rfl) ?_
   refine Zu (aB u5 rfl) ?_
   refine Zv (cs':=[aGt.val]) rfl LF ?_
   refine Zl ?_
   refine VC.keep (ρ':=[(0,ptr jJ 0),(6,.int .u64 AX),(7,l_1.val),(8,i64 (l_1.l.length:Int)),(9,i64 uK)]) [0,6,7,8,9] rfl ?_
   refine Zr ?_
   refine Zm ?_
   refine Zu (yZ rfl rfl (by decide)) ?_
   refine Za ?_
   refine VL.iP ((nD .u64 AX 7),aGt) [0,6,7,8,9] (fun _ _ h=>h) (go2 hS hK2) rfl
  replace hS:=gA hS hK2
  refine Zx ?_
  refine Zr ?_
  refine Zy ?_
  refine Zu (aD rfl) ?_
  refine Zu (aB u5 rfl) ?_
  refine Zu (aJ qM rfl rfl) ?_
  refine Zm ?_
  refine Zu (jK Tryz.underlying101 Tryz.underlying5 rfl) ?_
  obtain ⟨aIp,hS⟩:=bU hS
  obtain ⟨F9,aFL,hS⟩:=qT hS
  refine VL.D9 43 rfl (congrArg (Value.int .u8) (ZO aIp aFL)) ?_
  refine VL.lit (α:=UInt8) (xs:=[.tmp 43]) (vs:=[.int .u8 (F9.toNat:Int)]) [F9] Tryz.underlying30 U0 (by decide) rfl rfl rfl rfl (by decide) (fun _ _ _ _=>trivial) (by decide) (fun aKL aFj => ?_) (by decide)
  replace hS:=bV aFj hS
  obtain ⟨b45,hS⟩:=bU hS
  refine VL.app (s:=fA) (r:=aKL) Tryz.underlying30 RP (by decide) rfl Fo.out (sU b45) (sV b45 (by decide)) (by decide) (fun aCK aFk => ?_)
  replace hS:=bV aFk hS
  refine Zu (aD rfl) ?_
  refine Zu (aB u5 rfl) ?_
  refine Zv (cs':=[aCK.val]) rfl LF ?_
  refine Zl ?_
  refine VC.keep (ρ':=[(0,ptr jJ 0),(7,l_1.val),(8,i64 (l_1.l.length:Int)),(9,i64 uK)]) [0,7,8,9] rfl ?_
  refine Zr ?_
  obtain ⟨b48,hS⟩:=bU hS
  refine Zu (cR rfl rfl b48) ?_
  refine Zm ?_
  refine VL.iP ((uK+1),aCK) [0,7,8,9] (fun _ _ h=>h) (go2 hS hK1) rfl
 replace hS:=gA hS hK1
 cases hS
 exact VC.exit (q8 (.inl rfl) rfl ⟨z7⟩ rfl rfl (by (try dsimp only); exact cA.out) (by (try dsimp only); exact dJ.out))
theorem jI (jJ:Nat) (uL:eS) (l_1:Sv bB) {r:dK} (hS:Sh.jW uL.pl l_1.l=some r) :
 Ct Tryz.prog 29 [ptr jJ 0,l_1.val] l_1.ok (Ow.star (Sv.own uL.eU 5) (bD jJ [uL.eU.val] 185)) (X:=eS) (fun x => .tuple #[]) (fun x=>r=x.pl) (fun x=>Mo.tt) (fun x=>Ow.star (bD jJ [x.eU.val] 185) (Sv.own x.eU 5)):=by
 refine Zo Tryz.func29 Tryz.ntmps29 fun c => ?_
 unfold Sh.jW at hS
 refine Zq (Zr ?_)
 refine Zm ?_
 refine Zu (dX (s:=l_1) Tryz.underlying62 rfl) ?_
 refine Zy ?_
 refine Zb ?_
 refine VC.iter (S:=Int×Sv UInt8) (fun sg=>(sg.1,sg.2.l)) (fun sg=>[(0,ptr jJ 0),(6,l_1.val),(7,i64 (l_1.l.length:Int)),(8,i64 sg.1)]) (fun sg=>Mo.tt) (fun sg=>Ow.star (bD jJ [sg.2.val] 185) (Ow.star (Sv.own sg.2 5) (Ow.emp))) (0,uL.eU) [0,6,7,8] hS rfl ?_
 clear hS
 rintro ⟨cG,z7⟩ m1 y1 hS hK1
 refine Zq (Zr ?_)
 refine Zu (c4 rfl rfl) ?_
 refine Zl ?_
 refine Zq ?_
 refine Zc hS (fun h9 hS => ?_) (fun h9 hS => ?_)
 ·
  refine Zk ?_
  refine Zq (Zb (Zq (Zr ?_)))
  obtain ⟨mJ,NB,MZ,hS⟩:=c6 hS
  refine Zu (e8 (s:=l_1) Tryz.underlying62 vA rfl rfl NB (bN NB MZ)) ?_
  refine Zu (q9 (s:=l_1) dD rfl MZ rfl) ?_
  refine Zy ?_
  refine Zq (Zr ?_)
  refine Zy ?_
  refine Zu (pU Tryz.underlying9 rfl) ?_
  refine VL.lit (α:=Int) (xs:=[.tmp 14]) (vs:=[i64 (mJ.length:Int)]) [(mJ.length:Int)] Tryz.underlying32 kI (by decide) rfl rfl rfl rfl (by decide) (fun _ _ _ _=>trivial) (by decide) (fun aGq aBZ => ?_) (by decide)
  replace hS:=bV aBZ hS
  obtain ⟨uT,RF,hS⟩:=aK hS
  refine VL.bS (fM jJ (⟨z7⟩:eS) aGq RF) rfl (by decide) ?_
  rintro AM rfl
  try dsimp only
  refine Zl ?_
  refine VC.keep (ρ':=[(0,ptr jJ 0),(6,l_1.val),(7,i64 (l_1.l.length:Int)),(8,i64 cG),(5,str mJ)]) [0,6,7,8,5] rfl ?_
  refine Zr ?_
  refine Zy ?_
  refine Zu (aD rfl) ?_
  refine Zu (aB u5 rfl) ?_
  refine Zu (aJ qM rfl rfl) ?_
  refine Zm ?_
  obtain ⟨b23,hS⟩:=bU hS
  refine VL.a47 (s:=AM.eU) (r:=mJ) Tryz.underlying30 Tryz.underlying9 aWD rfl Fo.out b23 (by decide) fun aGs aJg _ => ?_
  replace hS:=bV aJg hS
  refine Zu (aD rfl) ?_
  refine Zu (aB u5 rfl) ?_
  refine Zv (cs':=[aGs.val]) rfl LF ?_
  refine Zl ?_
  refine VC.keep (ρ':=[(0,ptr jJ 0),(6,l_1.val),(7,i64 (l_1.l.length:Int)),(8,i64 cG)]) [0,6,7,8] rfl ?_
  refine Zr ?_
  obtain ⟨b26,hS⟩:=bU hS
  refine Zu (cR rfl rfl b26) ?_
  refine Zm ?_
  refine VL.iP ((cG+1),aGs) [0,6,7,8] (fun _ _ h=>h) (go2 hS hK1) rfl
 replace hS:=gA hS hK1
 cases hS
 exact VC.exit (q8 (.inl rfl) rfl ⟨z7⟩ rfl rfl (by (try dsimp only); exact cA.out) (by (try dsimp only); exact dJ.out))
theorem AV (cM:Nat) (w_0:eS) (r_1:Sv aC) {r:dK} (hS:Sh.vJ w_0.pl r_1.l=some r) :
 Ct Tryz.prog 174 [ptr cM 0,r_1.val] r_1.ok (Ow.star (Sv.own w_0.eU 5) (bD cM [w_0.eU.val] 185)) (X:=eS) (fun x => .tuple #[]) (fun x=>r=x.pl) (fun x=>Mo.tt) (fun x=>Ow.star (bD cM [x.eU.val] 185) (Sv.own x.eU 5)):=by
 refine Zo Tryz.func174 Tryz.ntmps174 fun c => ?_
 unfold Sh.vJ at hS
 refine Zq (Zr ?_)
 refine Zm ?_
 refine Zu (aD rfl) ?_
 refine Zu (aB eG rfl) ?_
 refine Zm ?_
 refine Zu (dX (s:=r_1) Tryz.underlying23 rfl) ?_
 refine VL.lit (α:=Int) (xs:=[.tmp 10]) (vs:=[i64 (r_1.l.length:Int)]) [(r_1.l.length:Int)] Tryz.underlying32 kI (by decide) rfl rfl rfl rfl (by decide) (fun _ _ _ _=>trivial) (by decide) (fun WM RU => ?_) (by decide)
 replace hS:=bV RU hS
 obtain ⟨lY,uZ,hS⟩:=aK hS
 refine VL.bS (fM cM w_0 WM uZ) rfl (by decide) ?_
 rintro gT rfl
 try dsimp only
 refine Zl ?_
 refine Zq (Zr ?_)
 refine Zm ?_
 refine Zu (dX (s:=r_1) Tryz.underlying23 rfl) ?_
 refine Zy ?_
 refine VC.keep (ρ':=[(0,ptr cM 0),(13,r_1.val),(14,i64 (r_1.l.length:Int)),(15,i64 0)]) [0,13,14,15] rfl ?_
 refine Zb ?_
 refine VC.iter (S:=Int×Sv UInt8) (fun sg=>(sg.1,sg.2.l)) (fun sg=>[(0,ptr cM 0),(13,r_1.val),(14,i64 (r_1.l.length:Int)),(15,i64 sg.1)]) (fun sg=>Mo.tt) (fun sg=>Ow.star (bD cM [sg.2.val] 185) (Ow.star (Sv.own sg.2 5) (Ow.emp))) (0,gT.eU) [0,13,14,15] hS rfl ?_
 clear hS
 rintro ⟨xL,fA⟩ m1 y1 hS hK1
 refine Zq (Zr ?_)
 refine Zu (c4 rfl rfl) ?_
 refine Zl ?_
 refine Zq ?_
 refine Zc hS (fun h16 hS => ?_) (fun h16 hS => ?_)
 ·
  refine Zk ?_
  refine Zq (Zb (Zq (Zr ?_)))
  obtain ⟨lN,aBg,aB2,hS⟩:=c6 hS
  refine Zu (e8 (s:=r_1) Tryz.underlying23 fS rfl rfl aBg (bN aBg aB2)) ?_
  refine Zu (nR (s:=r_1) jZ rfl rfl aB2) ?_
  refine VL.alloc (cs:=[str [],i64 0,str []]) (by kernel_rfl) (by decide) fun aHt => ?_
  refine Zv (cs':=[str lN.path,i64 lN.mode,str lN.data]) rfl fS ?_
  refine Zl ?_
  refine Zq ?_
  refine VC.draw [(0,true),(1,true),(2,true),(3,true),(4,true),(5,false),(6,false)] mixed (by kernel_rfl) (by kernel_rfl) (by kernel_rfl) ?_
  refine Zw rfl (bA rfl) ?_
  refine Zw rfl (aD rfl) ?_
  refine Zw rfl (aB eG rfl) ?_
  refine Zw rfl (aB qS rfl) ?_
  refine Zw rfl (aJ dD rfl rfl) ?_
  refine VD.one rfl ?_
  refine VL.lit (α:=bB) (xs:=[.tmp 23]) (vs:=[str lN.path]) [lN.path] Tryz.underlying62 x4 (by decide) rfl rfl rfl rfl (by decide) (fun _ _ _ _=>trivial) (by decide) (fun aOI aJh => ?_) (by decide)
  replace hS:=bV aJh hS
  refine VL.back (D':=[(2,ptr cM 0),(1,ptr cM 0)]) (by kernel_rfl) (aF.cons rfl (aB eG rfl) (aF.cons rfl (aD rfl) (aF.nil))) ?_
  refine VD.one rfl ?_
  obtain ⟨aCX,aFM,hS⟩:=aK hS
  refine VL.bS (jI cM (⟨fA⟩:eS) aOI aFM) rfl (by decide) ?_
  rintro aDP rfl
  try dsimp only
  refine VL.back (D':=[]) (by kernel_rfl) (aF.nil) ?_
  refine VD.to (fun _ _ h=>h) ?_
  refine VC.keep (ρ':=[(0,ptr cM 0),(13,r_1.val),(14,i64 (r_1.l.length:Int)),(15,i64 xL),(5,ptr aHt 0)]) [0,13,14,15,5] rfl ?_
  refine Zq ?_
  refine VC.draw [(0,true),(1,true),(2,true),(3,true),(4,true),(5,false),(6,false)] mixed (by kernel_rfl) (by kernel_rfl) (by kernel_rfl) ?_
  refine Zw rfl (bA rfl) ?_
  refine Zw rfl (aD rfl) ?_
  refine Zw rfl (aB eG rfl) ?_
  refine Zw rfl (aB LA rfl) ?_
  refine Zw rfl (aJ eP rfl rfl) ?_
  refine VD.one rfl ?_
  refine VL.lit (α:=Int) (xs:=[.tmp 30]) (vs:=[i64 lN.mode]) [lN.mode] Tryz.underlying32 kI (by decide) rfl rfl rfl rfl (by decide) (fun _ _ _ _=>trivial) (by decide) (fun a2d aW9 => ?_) (by decide)
  replace hS:=bV aW9 hS
  refine VL.back (D':=[(2,ptr cM 0),(1,ptr cM 0)]) (by kernel_rfl) (aF.cons rfl (aB eG rfl) (aF.cons rfl (aD rfl) (aF.nil))) ?_
  refine VD.one rfl ?_
  obtain ⟨aRF,aU7,hS⟩:=aK hS
  refine VL.bS (fM cM aDP a2d aU7) rfl (by decide) ?_
  rintro aTD rfl
  try dsimp only
  refine VL.back (D':=[]) (by kernel_rfl) (aF.nil) ?_
  refine VD.to (fun _ _ h=>h) ?_
  refine VC.keep (ρ':=[(0,ptr cM 0),(13,r_1.val),(14,i64 (r_1.l.length:Int)),(15,i64 xL),(5,ptr aHt 0)]) [0,13,14,15,5] rfl ?_
  refine VC.draw [(0,true),(1,true),(2,true),(3,true),(4,true),(5,false),(6,false)] mixed (by kernel_rfl) (by kernel_rfl) (by kernel_rfl) ?_
  refine Zw rfl (bA rfl) ?_
  refine Zw rfl (aD rfl) ?_
  refine Zw rfl (aB eG rfl) ?_
  refine Zw rfl (aB E8 rfl) ?_
  refine Zw rfl (aJ dD rfl rfl) ?_
  refine VD.one rfl ?_
  refine VL.lit (α:=bB) (xs:=[.tmp 37]) (vs:=[str lN.data]) [lN.data] Tryz.underlying62 x4 (by decide) rfl rfl rfl rfl (by decide) (fun _ _ _ _=>trivial) (by decide) (fun a2n aWn => ?_) (by decide)
  replace hS:=bV aWn hS
  refine VL.back (D':=[(2,ptr cM 0),(1,ptr cM 0)]) (by kernel_rfl) (aF.cons rfl (aB eG rfl) (aF.cons rfl (aD rfl) (aF.nil))) ?_
  refine VD.one rfl ?_
  obtain ⟨aRR,aUo,hS⟩:=aK hS
  refine VL.bS (jI cM aTD a2n aUo) rfl (by decide) ?_
  rintro aTM rfl
  try dsimp only
  refine VL.back (D':=[]) (by kernel_rfl) (aF.nil) ?_
  refine VD.to (fun _ _ h=>h) ?_
  refine VC.keep (ρ':=[(0,ptr cM 0),(13,r_1.val),(14,i64 (r_1.l.length:Int)),(15,i64 xL)]) [0,13,14,15] rfl ?_
  refine Zr ?_
  obtain ⟨b40,hS⟩:=bU hS
  refine Zu (cR rfl rfl b40) ?_
  refine Zm ?_
  refine VL.iP ((xL+1),aTM.eU) [0,13,14,15] (fun _ _ h=>h) (go2 hS hK1) rfl
 replace hS:=gA hS hK1
 cases hS
 exact VC.exit (q8 (.inl rfl) rfl ⟨fA⟩ rfl rfl (by (try dsimp only); exact cA.out) (by (try dsimp only); exact dJ.out))
theorem C2 (cM:Nat) (w_0:eS) (l_1:Sv aI) {r:dK} (hS:Sh.uG w_0.pl l_1.l=some r) :
 Ct Tryz.prog 175 [ptr cM 0,l_1.val] l_1.ok (Ow.star (Sv.own w_0.eU 5) (bD cM [w_0.eU.val] 185)) (X:=eS) (fun x => .tuple #[]) (fun x=>r=x.pl) (fun x=>Mo.tt) (fun x=>Ow.star (bD cM [x.eU.val] 185) (Sv.own x.eU 5)):=by
 refine Zo Tryz.func175 Tryz.ntmps175 fun c => ?_
 unfold Sh.uG at hS
 refine Zq (Zr ?_)
 refine Zm ?_
 refine Zu (aD rfl) ?_
 refine Zu (aB eG rfl) ?_
 refine Zm ?_
 refine Zu (dX (s:=l_1) Tryz.underlying50 rfl) ?_
 refine VL.lit (α:=Int) (xs:=[.tmp 10]) (vs:=[i64 (l_1.l.length:Int)]) [(l_1.l.length:Int)] Tryz.underlying32 kI (by decide) rfl rfl rfl rfl (by decide) (fun _ _ _ _=>trivial) (by decide) (fun WM RU => ?_) (by decide)
 replace hS:=bV RU hS
 obtain ⟨lY,uZ,hS⟩:=aK hS
 refine VL.bS (fM cM w_0 WM uZ) rfl (by decide) ?_
 rintro gT rfl
 try dsimp only
 refine Zl ?_
 refine Zq (Zr ?_)
 refine Zm ?_
 refine Zu (dX (s:=l_1) Tryz.underlying50 rfl) ?_
 refine Zy ?_
 refine VC.keep (ρ':=[(0,ptr cM 0),(13,l_1.val),(14,i64 (l_1.l.length:Int)),(15,i64 0)]) [0,13,14,15] rfl ?_
 refine Zb ?_
 refine VC.iter (S:=Int×Sv UInt8) (fun sg=>(sg.1,sg.2.l)) (fun sg=>[(0,ptr cM 0),(13,l_1.val),(14,i64 (l_1.l.length:Int)),(15,i64 sg.1)]) (fun sg=>Mo.tt) (fun sg=>Ow.star (bD cM [sg.2.val] 185) (Ow.star (Sv.own sg.2 5) (Ow.emp))) (0,gT.eU) [0,13,14,15] hS rfl ?_
 clear hS
 rintro ⟨xL,fA⟩ m1 y1 hS hK1
 refine Zq (Zr ?_)
 refine Zu (c4 rfl rfl) ?_
 refine Zl ?_
 refine Zq ?_
 refine Zc hS (fun h16 hS => ?_) (fun h16 hS => ?_)
 ·
  refine Zk ?_
  refine Zq (Zb (Zq (Zr ?_)))
  obtain ⟨lN,aBg,aB2,hS⟩:=c6 hS
  refine Zu (e8 (s:=l_1) Tryz.underlying50 iN rfl rfl aBg (bN aBg aB2)) ?_
  refine Zu (nR (s:=l_1) oV rfl rfl aB2) ?_
  refine VL.alloc (cs:=[str [],i64 0,i64 0,str [],i64 0,i64 0]) (by kernel_rfl) (by decide) fun aHt => ?_
  refine Zv (cs':=[str lN.path,i64 lN.gY,i64 lN.mode,str lN.data,i64 lN.time,i64 lN.size]) rfl iN ?_
  refine Zl ?_
  refine Zq ?_
  refine VC.draw [(0,true),(1,true),(2,true),(3,true),(4,true),(5,false),(6,false)] mixed (by kernel_rfl) (by kernel_rfl) (by kernel_rfl) ?_
  refine Zw rfl (bA rfl) ?_
  refine Zw rfl (aD rfl) ?_
  refine Zw rfl (aB eG rfl) ?_
  refine Zw rfl (aB wQ rfl) ?_
  refine Zw rfl (aJ dD rfl rfl) ?_
  refine VD.one rfl ?_
  refine VL.lit (α:=bB) (xs:=[.tmp 23]) (vs:=[str lN.path]) [lN.path] Tryz.underlying62 x4 (by decide) rfl rfl rfl rfl (by decide) (fun _ _ _ _=>trivial) (by decide) (fun aOI aJh => ?_) (by decide)
  replace hS:=bV aJh hS
  refine VL.back (D':=[(2,ptr cM 0),(1,ptr cM 0)]) (by kernel_rfl) (aF.cons rfl (aB eG rfl) (aF.cons rfl (aD rfl) (aF.nil))) ?_
  refine VD.one rfl ?_
  obtain ⟨aCX,aFM,hS⟩:=aK hS
  refine VL.bS (jI cM (⟨fA⟩:eS) aOI aFM) rfl (by decide) ?_
  rintro aDP rfl
  try dsimp only
  refine VL.back (D':=[]) (by kernel_rfl) (aF.nil) ?_
  refine VD.to (fun _ _ h=>h) ?_
  refine VC.keep (ρ':=[(0,ptr cM 0),(13,l_1.val),(14,i64 (l_1.l.length:Int)),(15,i64 xL),(5,ptr aHt 0)]) [0,13,14,15,5] rfl ?_
  refine Zq ?_
  refine VC.draw [(0,true),(1,true),(2,true),(3,true),(4,true),(5,true),(6,true),(7,false),(8,false)] mixed (by kernel_rfl) (by kernel_rfl) (by kernel_rfl) ?_
  refine Zw rfl (bA rfl) ?_
  refine Zw rfl (aD rfl) ?_
  refine Zw rfl (aB eG rfl) ?_
  refine Zw rfl (aB G1 rfl) ?_
  refine Zw rfl (aJ eP rfl rfl) ?_
  refine Zw rfl (aB X7 rfl) ?_
  refine Zw rfl (aJ eP rfl rfl) ?_
  refine VD.one rfl ?_
  refine VL.lit (α:=Int) (xs:=[.tmp 30,.tmp 32]) (vs:=[i64 lN.gY,i64 lN.mode]) [lN.gY,lN.mode] Tryz.underlying32 kI (by decide) rfl rfl rfl rfl (by decide) (fun _ _ _ _=>trivial) (by decide) (fun a2g aWc => ?_) (by decide)
  replace hS:=bV aWc hS
  refine VL.back (D':=[(2,ptr cM 0),(1,ptr cM 0)]) (by kernel_rfl) (aF.cons rfl (aB eG rfl) (aF.cons rfl (aD rfl) (aF.nil))) ?_
  refine VD.one rfl ?_
  obtain ⟨aC1,aFR,hS⟩:=aK hS
  refine VL.bS (fM cM aDP a2g aFR) rfl (by decide) ?_
  rintro aDS rfl
  try dsimp only
  refine VL.back (D':=[]) (by kernel_rfl) (aF.nil) ?_
  refine VD.to (fun _ _ h=>h) ?_
  refine VC.keep (ρ':=[(0,ptr cM 0),(13,l_1.val),(14,i64 (l_1.l.length:Int)),(15,i64 xL),(5,ptr aHt 0)]) [0,13,14,15,5] rfl ?_
  refine Zq ?_
  refine VC.draw [(0,true),(1,true),(2,true),(3,true),(4,true),(5,false),(6,false)] mixed (by kernel_rfl) (by kernel_rfl) (by kernel_rfl) ?_
  refine Zw rfl (bA rfl) ?_
  refine Zw rfl (aD rfl) ?_
  refine Zw rfl (aB eG rfl) ?_
  refine Zw rfl (aB X8 rfl) ?_
  refine Zw rfl (aJ dD rfl rfl) ?_
  refine VD.one rfl ?_
  refine VL.lit (α:=bB) (xs:=[.tmp 39]) (vs:=[str lN.data]) [lN.data] Tryz.underlying62 x4 (by decide) rfl rfl rfl rfl (by decide) (fun _ _ _ _=>trivial) (by decide) (fun a2o aWo => ?_) (by decide)
  replace hS:=bV aWo hS
  refine VL.back (D':=[(2,ptr cM 0),(1,ptr cM 0)]) (by kernel_rfl) (aF.cons rfl (aB eG rfl) (aF.cons rfl (aD rfl) (aF.nil))) ?_
  refine VD.one rfl ?_
  obtain ⟨TD,aFS,hS⟩:=aK hS
  refine VL.bS (jI cM aDS a2o aFS) rfl (by decide) ?_
  rintro aTO rfl
  try dsimp only
  refine VL.back (D':=[]) (by kernel_rfl) (aF.nil) ?_
  refine VD.to (fun _ _ h=>h) ?_
  refine VC.keep (ρ':=[(0,ptr cM 0),(13,l_1.val),(14,i64 (l_1.l.length:Int)),(15,i64 xL),(5,ptr aHt 0)]) [0,13,14,15,5] rfl ?_
  refine VC.draw [(0,true),(1,true),(2,true),(3,true),(4,true),(5,true),(6,true),(7,false),(8,false)] mixed (by kernel_rfl) (by kernel_rfl) (by kernel_rfl) ?_
  refine Zw rfl (bA rfl) ?_
  refine Zw rfl (aD rfl) ?_
  refine Zw rfl (aB eG rfl) ?_
  refine Zw rfl (aB aS7 rfl) ?_
  refine Zw rfl (aJ eP rfl rfl) ?_
  refine Zw rfl (aB aS8 rfl) ?_
  refine Zw rfl (aJ eP rfl rfl) ?_
  refine VD.one rfl ?_
  refine VL.lit (α:=Int) (xs:=[.tmp 46,.tmp 48]) (vs:=[i64 lN.time,i64 lN.size]) [lN.time,lN.size] Tryz.underlying32 kI (by decide) rfl rfl rfl rfl (by decide) (fun _ _ _ _=>trivial) (by decide) (fun a2y aWz => ?_) (by decide)
  replace hS:=bV aWz hS
  refine VL.back (D':=[(2,ptr cM 0),(1,ptr cM 0)]) (by kernel_rfl) (aF.cons rfl (aB eG rfl) (aF.cons rfl (aD rfl) (aF.nil))) ?_
  refine VD.one rfl ?_
  obtain ⟨aC6,aFU,hS⟩:=aK hS
  refine VL.bS (fM cM aTO a2y aFU) rfl (by decide) ?_
  rintro aDY rfl
  try dsimp only
  refine VL.back (D':=[]) (by kernel_rfl) (aF.nil) ?_
  refine VD.to (fun _ _ h=>h) ?_
  refine VC.keep (ρ':=[(0,ptr cM 0),(13,l_1.val),(14,i64 (l_1.l.length:Int)),(15,i64 xL)]) [0,13,14,15] rfl ?_
  refine Zr ?_
  obtain ⟨b51,hS⟩:=bU hS
  refine Zu (cR rfl rfl b51) ?_
  refine Zm ?_
  refine VL.iP ((xL+1),aDY.eU) [0,13,14,15] (fun _ _ h=>h) (go2 hS hK1) rfl
 replace hS:=gA hS hK1
 cases hS
 exact VC.exit (q8 (.inl rfl) rfl ⟨fA⟩ rfl rfl (by (try dsimp only); exact cA.out) (by (try dsimp only); exact dJ.out))
theorem GS (cM:Nat) (w_0:eS) (h_1:pJ) {r:dK} (hS:Sh.yC w_0.pl h_1=some r) :
 Ct Tryz.prog 176 [ptr cM 0,.agg #[str h_1.branch,i64 h_1.dO]] Mo.tt (Ow.star (Sv.own w_0.eU 5) (bD cM [w_0.eU.val] 185)) (X:=eS) (fun x => .tuple #[]) (fun x=>r=x.pl) (fun x=>Mo.tt) (fun x=>Ow.star (bD cM [x.eU.val] 185) (Sv.own x.eU 5)):=by
 refine Zo Tryz.func176 Tryz.ntmps176 fun c => ?_
 unfold Sh.yC at hS
 refine Zq (Zr ?_)
 refine VL.box (cs:=[str h_1.branch,i64 h_1.dO]) rfl rfl (by decide) fun fX => ?_
 refine Zl ?_
 refine Zq ?_
 refine VC.draw [(0,true),(1,true),(2,true),(3,true),(4,true),(5,false),(6,false)] mixed (by kernel_rfl) (by kernel_rfl) (by kernel_rfl) ?_
 refine Zw rfl (bA rfl) ?_
 refine Zw rfl (aD rfl) ?_
 refine Zw rfl (aB eG rfl) ?_
 refine Zw rfl (aB UY rfl) ?_
 refine Zw rfl (aJ dD rfl rfl) ?_
 refine VD.one rfl ?_
 refine VL.lit (α:=bB) (xs:=[.tmp 8]) (vs:=[str h_1.branch]) [h_1.branch] Tryz.underlying62 x4 (by decide) rfl rfl rfl rfl (by decide) (fun _ _ _ _=>trivial) (by decide) (fun aMy aFl => ?_) (by decide)
 replace hS:=bV aFl hS
 refine VL.back (D':=[(2,ptr cM 0),(1,ptr cM 0)]) (by kernel_rfl) (aF.cons rfl (aB eG rfl) (aF.cons rfl (aD rfl) (aF.nil))) ?_
 refine VD.one rfl ?_
 obtain ⟨S2,aAz,hS⟩:=aK hS
 refine VL.bS (jI cM w_0 aMy aAz) rfl (by decide) ?_
 rintro PU rfl
 try dsimp only
 refine VL.back (D':=[]) (by kernel_rfl) (aF.nil) ?_
 refine VD.to (fun _ _ h=>h) ?_
 refine VC.draw [(0,true),(1,true),(2,true),(3,true),(4,true),(5,false),(6,false)] mixed (by kernel_rfl) (by kernel_rfl) (by kernel_rfl) ?_
 refine Zw rfl (bA rfl) ?_
 refine Zw rfl (aD rfl) ?_
 refine Zw rfl (aB eG rfl) ?_
 refine Zw rfl (aB E9 rfl) ?_
 refine Zw rfl (aJ eP rfl rfl) ?_
 refine VD.one rfl ?_
 refine VL.lit (α:=Int) (xs:=[.tmp 15]) (vs:=[i64 h_1.dO]) [h_1.dO] Tryz.underlying32 kI (by decide) rfl rfl rfl rfl (by decide) (fun _ _ _ _=>trivial) (by decide) (fun aDd aB0 => ?_) (by decide)
 replace hS:=bV aB0 hS
 refine VL.back (D':=[(2,ptr cM 0),(1,ptr cM 0)]) (by kernel_rfl) (aF.cons rfl (aB eG rfl) (aF.cons rfl (aD rfl) (aF.nil))) ?_
 refine VD.one rfl ?_
 obtain ⟨OV,aBH,hS⟩:=aK hS
 refine VL.bS (fM cM PU aDd aBH) rfl (by decide) ?_
 rintro LY rfl
 try dsimp only
 refine VL.back (D':=[]) (by kernel_rfl) (aF.nil) ?_
 cases hS
 exact VD.nil (q8 (.inl rfl) rfl ⟨LY.eU⟩ rfl rfl (by (try dsimp only); exact cA.out) (by (try dsimp only); exact dJ.out))
theorem F4 (cM:Nat) (w_0:eS) (l_1:Sv cZ) {r:dK} (hS:Sh.wB w_0.pl l_1.l=some r) :
 Ct Tryz.prog 258 [ptr cM 0,l_1.val] l_1.ok (Ow.star (Sv.own w_0.eU 5) (bD cM [w_0.eU.val] 185)) (X:=eS) (fun x => .tuple #[]) (fun x=>r=x.pl) (fun x=>Mo.tt) (fun x=>Ow.star (bD cM [x.eU.val] 185) (Sv.own x.eU 5)):=by
 refine Zo Tryz.func258 Tryz.ntmps258 fun c => ?_
 unfold Sh.wB at hS
 refine Zq (Zr ?_)
 refine Zm ?_
 refine Zu (aD rfl) ?_
 refine Zu (aB eG rfl) ?_
 refine Zm ?_
 refine Zu (dX (s:=l_1) Tryz.underlying54 rfl) ?_
 refine VL.lit (α:=Int) (xs:=[.tmp 10]) (vs:=[i64 (l_1.l.length:Int)]) [(l_1.l.length:Int)] Tryz.underlying32 kI (by decide) rfl rfl rfl rfl (by decide) (fun _ _ _ _=>trivial) (by decide) (fun WM RU => ?_) (by decide)
 replace hS:=bV RU hS
 obtain ⟨lY,uZ,hS⟩:=aK hS
 refine VL.bS (fM cM w_0 WM uZ) rfl (by decide) ?_
 rintro gT rfl
 try dsimp only
 refine Zl ?_
 refine Zq (Zr ?_)
 refine Zm ?_
 refine Zu (dX (s:=l_1) Tryz.underlying54 rfl) ?_
 refine Zy ?_
 refine VC.keep (ρ':=[(0,ptr cM 0),(13,l_1.val),(14,i64 (l_1.l.length:Int)),(15,i64 0)]) [0,13,14,15] rfl ?_
 refine Zb ?_
 refine VC.iter (S:=Unit) (fun (_:Unit)=>()) (fun (_:Unit)=>[(0,ptr cM 0),(13,l_1.val),(14,i64 (l_1.l.length:Int)),(15,i64 0)]) (fun (_:Unit)=>Mo.tt) (fun (_:Unit)=>Ow.star (bD cM [gT.eU.val] 185) (Ow.star (Sv.own gT.eU 5) (Ow.emp))) () [0,13,14,15] hS rfl ?_
 clear hS
 rintro _ m1 y1 hS hK1
 refine Zq (Zr ?_)
 refine Zu (c4 rfl rfl) ?_
 refine Zl ?_
 refine Zq ?_
 refine Zc hS (fun h16 hS => ?_) (fun h16 hS => ?_)
 ·
  refine Zk ?_
  refine Zq (Zb (Zq (Zr ?_)))
  obtain ⟨aKq,aPq,aPO,hS⟩:=c6 hS
  refine Zu (e8 (s:=l_1) Tryz.underlying54 aJa rfl rfl aPq (bN aPq aPO)) ?_
  refine Zu (nR (s:=l_1) aWB rfl rfl aPO) ?_
  refine VL.alloc (cs:=[str [],i64 0,str []]) (by kernel_rfl) (by decide) fun aUA => ?_
  refine Zv (cs':=[str aKq.verb,i64 aKq.dO,str aKq.text]) rfl aJa ?_
  refine Zl ?_
  refine Zq ?_
  cases hS
 replace hS:=gA hS hK1
 cases hS
 exact VC.exit (q8 (.inl rfl) rfl ⟨gT.eU⟩ rfl rfl (by (try dsimp only); exact cA.out) (by (try dsimp only); exact dJ.out))
theorem WW (cM:Nat) (w_0:eS) (s_1:yS) {r:dK} (hS:Sh.F3 w_0.pl s_1.pl=some r) :
 Ct Tryz.prog 177 [ptr cM 0,.agg (aHZ s_1).toArray] (s_1.oK.ok.and (s_1.todo.ok.and (s_1.index.ok.and s_1.work.ok))) (Ow.star (Sv.own w_0.eU 5) (bD cM [w_0.eU.val] 185)) (X:=eS) (fun x => .tuple #[]) (fun x=>r=x.pl) (fun x=>Mo.tt) (fun x=>Ow.star (bD cM [x.eU.val] 185) (Sv.own x.eU 5)):=by
 refine Zo Tryz.func177 Tryz.ntmps177 fun c => ?_
 unfold Sh.F3 at hS
 refine Zq (Zr ?_)
 refine VL.box (cs:=(aHZ s_1)) rfl rfl (by decide) fun fX => ?_
 refine Zl ?_
 refine Zq ?_
 refine VC.draw [(0,true),(1,true),(2,true),(3,true),(4,true),(5,false),(6,false)] mixed (by kernel_rfl) (by kernel_rfl) (by kernel_rfl) ?_
 refine Zw rfl (bA rfl) ?_
 refine Zw rfl (aD rfl) ?_
 refine Zw rfl (aB eG rfl) ?_
 refine Zw rfl (aB H6 rfl) ?_
 refine Zw rfl (aJ dD rfl rfl) ?_
 refine VD.one rfl ?_
 refine VL.lit (α:=bB) (xs:=[.tmp 8]) (vs:=[str s_1.kind]) [s_1.kind] Tryz.underlying62 x4 (by decide) rfl rfl rfl rfl (by decide) (fun _ _ _ _=>trivial) (by decide) (fun aMy aFl => ?_) (by decide)
 replace hS:=bV aFl hS
 refine VL.back (D':=[(2,ptr cM 0),(1,ptr cM 0)]) (by kernel_rfl) (aF.cons rfl (aB eG rfl) (aF.cons rfl (aD rfl) (aF.nil))) ?_
 refine VD.one rfl ?_
 obtain ⟨S2,aAz,hS⟩:=aK hS
 refine VL.bS (jI cM w_0 aMy aAz) rfl (by decide) ?_
 rintro PU rfl
 try dsimp only
 refine VL.back (D':=[]) (by kernel_rfl) (aF.nil) ?_
 refine VD.to (fun _ _ h=>h) ?_
 refine Zq ?_
 refine VC.draw [(0,true),(1,true),(2,true),(3,true),(4,true),(5,false),(6,false)] mixed (by kernel_rfl) (by kernel_rfl) (by kernel_rfl) ?_
 refine Zw rfl (bA rfl) ?_
 refine Zw rfl (aD rfl) ?_
 refine Zw rfl (aB eG rfl) ?_
 refine Zw rfl (aB aWF rfl) ?_
 refine Zw rfl (aJ eP rfl rfl) ?_
 refine VD.one rfl ?_
 refine VL.lit (α:=Int) (xs:=[.tmp 15]) (vs:=[i64 s_1.other]) [s_1.other] Tryz.underlying32 kI (by decide) rfl rfl rfl rfl (by decide) (fun _ _ _ _=>trivial) (by decide) (fun aDd aB0 => ?_) (by decide)
 replace hS:=bV aB0 hS
 refine VL.back (D':=[(2,ptr cM 0),(1,ptr cM 0)]) (by kernel_rfl) (aF.cons rfl (aB eG rfl) (aF.cons rfl (aD rfl) (aF.nil))) ?_
 refine VD.one rfl ?_
 obtain ⟨OV,aBH,hS⟩:=aK hS
 refine VL.bS (fM cM PU aDd aBH) rfl (by decide) ?_
 rintro LY rfl
 try dsimp only
 refine VL.back (D':=[]) (by kernel_rfl) (aF.nil) ?_
 refine VD.to (fun _ _ h=>h) ?_
 refine VC.keep (ρ':=[(0,ptr cM 0),(3,ptr fX 0)]) [0,3] rfl ?_
 refine Zq ?_
 refine VC.draw [(0,true),(1,true),(2,true),(3,true),(4,true),(5,false),(6,false)] mixed (by kernel_rfl) (by kernel_rfl) (by kernel_rfl) ?_
 refine Zw rfl (bA rfl) ?_
 refine Zw rfl (aD rfl) ?_
 refine Zw rfl (aB eG rfl) ?_
 refine Zw rfl (aB aWG rfl) ?_
 refine Zw rfl (aJ dD rfl rfl) ?_
 refine VD.one rfl ?_
 refine VL.lit (α:=bB) (xs:=[.tmp 22]) (vs:=[str s_1.text]) [s_1.text] Tryz.underlying62 x4 (by decide) rfl rfl rfl rfl (by decide) (fun _ _ _ _=>trivial) (by decide) (fun a5v a17 => ?_) (by decide)
 replace hS:=bV a17 hS
 refine VL.back (D':=[(2,ptr cM 0),(1,ptr cM 0)]) (by kernel_rfl) (aF.cons rfl (aB eG rfl) (aF.cons rfl (aD rfl) (aF.nil))) ?_
 refine VD.one rfl ?_
 obtain ⟨aEb,aUV,hS⟩:=aK hS
 refine VL.bS (jI cM LY a5v aUV) rfl (by decide) ?_
 rintro aSt rfl
 try dsimp only
 refine VL.back (D':=[]) (by kernel_rfl) (aF.nil) ?_
 refine VD.to (fun _ _ h=>h) ?_
 refine Zq (Zr ?_)
 refine Zm ?_
 refine Zu (aB aLZ rfl) ?_
 refine Zu (aJ JQ rfl rfl) ?_
 obtain ⟨TA,aUX,hS⟩:=aK hS
 refine VL.bS (F4 cM aSt s_1.oK aUX) rfl (by decide) ?_
 rintro aSw rfl
 try dsimp only
 refine Zl ?_
 refine VC.keep (ρ':=[(0,ptr cM 0),(3,ptr fX 0)]) [0,3] rfl ?_
 refine Zq (Zr ?_)
 refine Zm ?_
 refine Zu (aB aWH rfl) ?_
 refine Zu (aJ JQ rfl rfl) ?_
 obtain ⟨aC0,aFP,hS⟩:=aK hS
 refine VL.bS (F4 cM aSw s_1.todo aFP) rfl (by decide) ?_
 rintro aDQ rfl
 try dsimp only
 refine Zl ?_
 refine Zq ?_
 refine VC.draw [(0,true),(1,true),(2,true),(3,true),(4,true),(5,false),(6,false)] mixed (by kernel_rfl) (by kernel_rfl) (by kernel_rfl) ?_
 refine Zw rfl (bA rfl) ?_
 refine Zw rfl (aD rfl) ?_
 refine Zw rfl (aB eG rfl) ?_
 refine Zw rfl (aB aWI rfl) ?_
 refine Zw rfl (aJ eP rfl rfl) ?_
 refine VD.one rfl ?_
 refine VL.lit (α:=Int) (xs:=[.tmp 37]) (vs:=[i64 s_1.made]) [s_1.made] Tryz.underlying32 kI (by decide) rfl rfl rfl rfl (by decide) (fun _ _ _ _=>trivial) (by decide) (fun a2m aWm => ?_) (by decide)
 replace hS:=bV aWm hS
 refine VL.back (D':=[(2,ptr cM 0),(1,ptr cM 0)]) (by kernel_rfl) (aF.cons rfl (aB eG rfl) (aF.cons rfl (aD rfl) (aF.nil))) ?_
 refine VD.one rfl ?_
 obtain ⟨aRQ,aUn,hS⟩:=aK hS
 refine VL.bS (fM cM aDQ a2m aUn) rfl (by decide) ?_
 rintro aTL rfl
 try dsimp only
 refine VL.back (D':=[]) (by kernel_rfl) (aF.nil) ?_
 refine VD.to (fun _ _ h=>h) ?_
 refine VC.keep (ρ':=[(0,ptr cM 0),(3,ptr fX 0)]) [0,3] rfl ?_
 refine Zq ?_
 refine VC.draw [(0,true),(1,true),(2,true),(3,true),(4,true),(5,false),(6,false)] mixed (by kernel_rfl) (by kernel_rfl) (by kernel_rfl) ?_
 refine Zw rfl (bA rfl) ?_
 refine Zw rfl (aD rfl) ?_
 refine Zw rfl (aB eG rfl) ?_
 refine Zw rfl (aB aWJ rfl) ?_
 refine Zw rfl (aJ dD rfl rfl) ?_
 refine VD.one rfl ?_
 refine VL.lit (α:=bB) (xs:=[.tmp 44]) (vs:=[str s_1.branch]) [s_1.branch] Tryz.underlying62 x4 (by decide) rfl rfl rfl rfl (by decide) (fun _ _ _ _=>trivial) (by decide) (fun a2s aWs => ?_) (by decide)
 replace hS:=bV aWs hS
 refine VL.back (D':=[(2,ptr cM 0),(1,ptr cM 0)]) (by kernel_rfl) (aF.cons rfl (aB eG rfl) (aF.cons rfl (aD rfl) (aF.nil))) ?_
 refine VD.one rfl ?_
 obtain ⟨aRX,aVC,hS⟩:=aK hS
 refine VL.bS (jI cM aTL a2s aVC) rfl (by decide) ?_
 rintro aTU rfl
 try dsimp only
 refine VL.back (D':=[]) (by kernel_rfl) (aF.nil) ?_
 refine VD.to (fun _ _ h=>h) ?_
 refine Zq (Zr ?_)
 refine Zm ?_
 refine Zu (aB aWK rfl) ?_
 refine Zu (SA (j:=7) (n:=2) aBR rfl rfl rfl) ?_
 obtain ⟨aC6,aFU,hS⟩:=aK hS
 refine VL.bS (GS cM aTU (⟨s_1.dA,s_1.dB⟩:pJ) aFU) rfl (by decide) ?_
 rintro aDY rfl
 try dsimp only
 refine Zl ?_
 refine VC.keep (ρ':=[(0,ptr cM 0),(3,ptr fX 0)]) [0,3] rfl ?_
 refine Zq (Zr ?_)
 refine Zm ?_
 refine Zu (aB aWL rfl) ?_
 refine Zu (aJ nG rfl rfl) ?_
 obtain ⟨aR7,aVS,hS⟩:=aK hS
 refine VL.bS (C2 cM aDY s_1.index aVS) rfl (by decide) ?_
 rintro aTY rfl
 try dsimp only
 refine Zl ?_
 refine Zr ?_
 refine Zm ?_
 refine Zu (aB aWM rfl) ?_
 refine Zu (aJ jS rfl rfl) ?_
 obtain ⟨aRb,aVX,hS⟩:=aK hS
 refine VL.bS (AV cM aTY s_1.work aVX) rfl (by decide) ?_
 rintro aT0 rfl
 try dsimp only
 cases hS
 exact VL.nil (q8 (.inl rfl) rfl ⟨aT0.eU⟩ rfl rfl (by (try dsimp only); exact cA.out) (by (try dsimp only); exact dJ.out))
theorem II (cM:Nat) (w_0:eS) (n_1:jV) {r:dK} (hS:Sh.zV w_0.pl n_1.pl=some r) :
 Ct Tryz.prog 108 [ptr cM 0,.agg (mK n_1).toArray] (n_1.work.ok.and (n_1.index.ok.and (n_1.refs.ok.and (n_1.gO.ok.and (n_1.iE.ok.and (n_1.gP.ok.and (n_1.iF.ok.and n_1.fK.ok))))))) (Ow.star (Sv.own w_0.eU 5) (bD cM [w_0.eU.val] 185)) (X:=eS) (fun x => .tuple #[]) (fun x=>r=x.pl) (fun x=>Mo.tt) (fun x=>Ow.star (bD cM [x.eU.val] 185) (Sv.own x.eU 5)):=by
 refine Zo Tryz.func108 Tryz.ntmps108 fun c => ?_
 unfold Sh.zV at hS
 refine Zq (Zr ?_)
 refine VL.box (cs:=(mK n_1)) rfl rfl (by decide) fun fX => ?_
 refine Zl ?_
 refine Zq (Zr ?_)
 refine Zm ?_
 refine Zu (aB tI rfl) ?_
 refine Zu (aJ jS rfl rfl) ?_
 obtain ⟨xN,aBA,hS⟩:=aK hS
 refine VL.bS (AV cM w_0 n_1.work aBA) rfl (by decide) ?_
 rintro aXt rfl
 try dsimp only
 refine Zl ?_
 refine Zq (Zr ?_)
 refine Zm ?_
 refine Zu (aB rI rfl) ?_
 refine Zu (aJ nG rfl rfl) ?_
 obtain ⟨aZF,aZy,hS⟩:=aK hS
 refine VL.bS (C2 cM aXt n_1.index aZy) rfl (by decide) ?_
 rintro aXz rfl
 try dsimp only
 refine Zl ?_
 refine VC.keep (ρ':=[(0,ptr cM 0),(3,ptr fX 0)]) [0,3] rfl ?_
 refine Zq ?_
 refine VC.draw [(0,true),(1,true),(2,true),(3,true),(4,true),(5,true),(6,false),(7,false)] mixed (by kernel_rfl) (by kernel_rfl) (by kernel_rfl) ?_
 refine Zw rfl (bA rfl) ?_
 refine Zw rfl (aD rfl) ?_
 refine Zw rfl (aB eG rfl) ?_
 refine Zw rfl (aB kZ rfl) ?_
 refine Zw rfl (aJ u6 rfl rfl) ?_
 refine Zw rfl (dX (s:=n_1.refs) Tryz.underlying51 rfl) ?_
 refine VD.one rfl ?_
 refine VL.lit (α:=Int) (xs:=[.tmp 21]) (vs:=[i64 (n_1.refs.l.length:Int)]) [(n_1.refs.l.length:Int)] Tryz.underlying32 kI (by decide) rfl rfl rfl rfl (by decide) (fun _ _ _ _=>trivial) (by decide) (fun a5u a16 => ?_) (by decide)
 replace hS:=bV a16 hS
 refine VL.back (D':=[(2,ptr cM 0),(1,ptr cM 0)]) (by kernel_rfl) (aF.cons rfl (aB eG rfl) (aF.cons rfl (aD rfl) (aF.nil))) ?_
 refine VD.one rfl ?_
 obtain ⟨HI,RL,hS⟩:=aK hS
 refine VL.bS (fM cM aXz a5u RL) rfl (by decide) ?_
 rintro LZ rfl
 try dsimp only
 refine VL.back (D':=[]) (by kernel_rfl) (aF.nil) ?_
 refine VD.to (fun _ _ h=>h) ?_
 refine Zq (Zq (Zr ?_))
 refine Zu (aB kZ rfl) ?_
 refine Zu (aJ u6 rfl rfl) ?_
 refine Zu (dX (s:=n_1.refs) Tryz.underlying51 rfl) ?_
 refine Zy ?_
 refine VC.keep (ρ':=[(0,ptr cM 0),(3,ptr fX 0),(25,n_1.refs.val),(26,i64 (n_1.refs.l.length:Int)),(27,i64 0)]) [0,3,25,26,27] rfl ?_
 refine Zb ?_
 refine VC.iter (S:=Int×Sv UInt8) (fun sg=>(sg.1,sg.2.l)) (fun sg=>[(0,ptr cM 0),(3,ptr fX 0),(25,n_1.refs.val),(26,i64 (n_1.refs.l.length:Int)),(27,i64 sg.1)]) (fun sg=>Mo.tt) (fun sg=>Ow.star (bD cM [sg.2.val] 185) (Ow.star (bD fX (mK n_1) 60) (Ow.star (Sv.own sg.2 5) (Ow.emp)))) (0,LZ.eU) [0,3,25,26,27] hS rfl ?_
 clear hS
 rintro ⟨A3,dM⟩ m1 y1 hS hK1
 refine Zq (Zr ?_)
 refine Zu (c4 rfl rfl) ?_
 refine Zl ?_
 refine Zq ?_
 refine Zc hS (fun h28 hS => ?_) (fun h28 hS => ?_)
 ·
  refine Zk ?_
  refine Zq (Zb (Zq (Zr ?_)))
  obtain ⟨TM,aQJ,aP3,hS⟩:=c6 hS
  refine Zu (e8 (s:=n_1.refs) Tryz.underlying51 pP rfl rfl aQJ (bN aQJ aP3)) ?_
  refine Zu (nR (s:=n_1.refs) aF6 rfl rfl aP3) ?_
  refine VL.alloc (cs:=[str [],i64 0]) (by kernel_rfl) (by decide) fun a4n => ?_
  refine Zv (cs':=[str TM.name,i64 TM.dO]) rfl pP ?_
  refine Zl ?_
  refine Zq ?_
  refine VC.draw [(0,true),(1,true),(2,true),(3,true),(4,true),(5,false),(6,false)] mixed (by kernel_rfl) (by kernel_rfl) (by kernel_rfl) ?_
  refine Zw rfl (bA rfl) ?_
  refine Zw rfl (aD rfl) ?_
  refine Zw rfl (aB eG rfl) ?_
  refine Zw rfl (aB aIE rfl) ?_
  refine Zw rfl (aJ dD rfl rfl) ?_
  refine VD.one rfl ?_
  refine VL.lit (α:=bB) (xs:=[.tmp 35]) (vs:=[str TM.name]) [TM.name] Tryz.underlying62 x4 (by decide) rfl rfl rfl rfl (by decide) (fun _ _ _ _=>trivial) (by decide) (fun a2j aWh => ?_) (by decide)
  replace hS:=bV aWh hS
  refine VL.back (D':=[(2,ptr cM 0),(1,ptr cM 0)]) (by kernel_rfl) (aF.cons rfl (aB eG rfl) (aF.cons rfl (aD rfl) (aF.nil))) ?_
  refine VD.one rfl ?_
  obtain ⟨aRN,aUi,hS⟩:=aK hS
  refine VL.bS (jI cM (⟨dM⟩:eS) a2j aUi) rfl (by decide) ?_
  rintro aTK rfl
  try dsimp only
  refine VL.back (D':=[]) (by kernel_rfl) (aF.nil) ?_
  refine VD.to (fun _ _ h=>h) ?_
  refine VC.keep (ρ':=[(0,ptr cM 0),(3,ptr fX 0),(25,n_1.refs.val),(26,i64 (n_1.refs.l.length:Int)),(27,i64 A3),(5,ptr a4n 0)]) [0,3,25,26,27,5] rfl ?_
  refine VC.draw [(0,true),(1,true),(2,true),(3,true),(4,true),(5,false),(6,false)] mixed (by kernel_rfl) (by kernel_rfl) (by kernel_rfl) ?_
  refine Zw rfl (bA rfl) ?_
  refine Zw rfl (aD rfl) ?_
  refine Zw rfl (aB eG rfl) ?_
  refine Zw rfl (aB X6 rfl) ?_
  refine Zw rfl (aJ eP rfl rfl) ?_
  refine VD.one rfl ?_
  refine VL.lit (α:=Int) (xs:=[.tmp 42]) (vs:=[i64 TM.dO]) [TM.dO] Tryz.underlying32 kI (by decide) rfl rfl rfl rfl (by decide) (fun _ _ _ _=>trivial) (by decide) (fun a2q aWq => ?_) (by decide)
  replace hS:=bV aWq hS
  refine VL.back (D':=[(2,ptr cM 0),(1,ptr cM 0)]) (by kernel_rfl) (aF.cons rfl (aB eG rfl) (aF.cons rfl (aD rfl) (aF.nil))) ?_
  refine VD.one rfl ?_
  obtain ⟨aRV,aUw,hS⟩:=aK hS
  refine VL.bS (fM cM aTK a2q aUw) rfl (by decide) ?_
  rintro aTR rfl
  try dsimp only
  refine VL.back (D':=[]) (by kernel_rfl) (aF.nil) ?_
  refine VD.to (fun _ _ h=>h) ?_
  refine VC.keep (ρ':=[(0,ptr cM 0),(3,ptr fX 0),(25,n_1.refs.val),(26,i64 (n_1.refs.l.length:Int)),(27,i64 A3)]) [0,3,25,26,27] rfl ?_
  refine Zr ?_
  obtain ⟨b45,hS⟩:=bU hS
  refine Zu (cR rfl rfl b45) ?_
  refine Zm ?_
  refine VL.iP ((A3+1),aTR.eU) [0,3,25,26,27] (fun _ _ h=>h) (go2 hS hK1) rfl
 replace hS:=gA hS hK1
 refine Zx ?_
 refine Zq (Zr ?_)
 refine Zm ?_
 refine Zu (aB pO rfl) ?_
 refine Zu (SA (j:=3) (n:=2) aBR rfl rfl rfl) ?_
 obtain ⟨aC5,aFT,hS⟩:=aK hS
 refine VL.bS (GS cM (⟨dM⟩:eS) (⟨n_1.dA,n_1.dB⟩:pJ) aFT) rfl (by decide) ?_
 rintro aDX rfl
 try dsimp only
 refine Zl ?_
 refine Zq (Zr ?_)
 refine Zm ?_
 refine Zu (aB tJ rfl) ?_
 refine Zu (SA (j:=5) (n:=11) aPB rfl rfl rfl) ?_
 obtain ⟨aR5,aVQ,hS⟩:=aK hS
 refine VL.bS (WW cM aDX (⟨n_1.l9,n_1.j9,n_1.mB,n_1.gO,n_1.iE,n_1.mA,n_1.jC,n_1.fG,n_1.fH,n_1.gP,n_1.iF⟩:yS) aVQ) rfl (by decide) ?_
 rintro aTX rfl
 try dsimp only
 refine Zl ?_
 refine VC.keep (ρ':=[(0,ptr cM 0),(3,ptr fX 0)]) [0,3] rfl ?_
 refine Zq ?_
 refine VC.draw [(0,true),(1,true),(2,true),(3,true),(4,true),(5,true),(6,false),(7,false)] mixed (by kernel_rfl) (by kernel_rfl) (by kernel_rfl) ?_
 refine Zw rfl (bA rfl) ?_
 refine Zw rfl (aD rfl) ?_
 refine Zw rfl (aB eG rfl) ?_
 refine Zw rfl (aB AB rfl) ?_
 refine Zw rfl (aJ MY rfl rfl) ?_
 refine Zw rfl (oN dZ.pl (s:=n_1.fK) Tryz.underlying58 rfl) ?_
 refine VD.one rfl ?_
 refine VL.lit (α:=Int) (xs:=[.tmp 59]) (vs:=[i64 ((n_1.fK.l.map dZ.pl).length:Int)]) [((n_1.fK.l.map dZ.pl).length:Int)] Tryz.underlying32 kI (by decide) rfl rfl rfl rfl (by decide) (fun _ _ _ _=>trivial) (by decide) (fun a3E aXJ => ?_) (by decide)
 replace hS:=bV aXJ hS
 refine VL.back (D':=[(2,ptr cM 0),(1,ptr cM 0)]) (by kernel_rfl) (aF.cons rfl (aB eG rfl) (aF.cons rfl (aD rfl) (aF.nil))) ?_
 refine VD.one rfl ?_
 obtain ⟨DB,US,hS⟩:=aK hS
 refine VL.bS (fM cM aTX a3E US) rfl (by decide) ?_
 rintro aD3 rfl
 try dsimp only
 refine VL.back (D':=[]) (by kernel_rfl) (aF.nil) ?_
 refine VD.to (fun _ _ h=>h) ?_
 refine Zq (Zr ?_)
 refine Zu (aB AB rfl) ?_
 refine Zu (aJ MY rfl rfl) ?_
 refine Zu (oN dZ.pl (s:=n_1.fK) Tryz.underlying58 rfl) ?_
 refine Zy ?_
 refine VC.keep (ρ':=[(0,ptr cM 0),(63,n_1.fK.val),(64,i64 ((n_1.fK.l.map dZ.pl).length:Int)),(65,i64 0)]) [0,63,64,65] rfl ?_
 refine Zb ?_
 refine VC.iter (S:=Unit) (fun (_:Unit)=>()) (fun (_:Unit)=>[(0,ptr cM 0),(63,n_1.fK.val),(64,i64 ((n_1.fK.l.map dZ.pl).length:Int)),(65,i64 0)]) (fun (_:Unit)=>Mo.tt) (fun (_:Unit)=>Ow.star (bD cM [aD3.eU.val] 185) (Ow.star (bD fX (mK n_1) 60) (Ow.star (Sv.own aD3.eU 5) (Ow.emp)))) () [0,63,64,65] hS rfl ?_
 clear hS
 rintro _ m1 y1 hS hK1
 refine Zq (Zr ?_)
 refine Zu (c4 rfl rfl) ?_
 refine Zl ?_
 refine Zq ?_
 refine Zc hS (fun h66 hS => ?_) (fun h66 hS => ?_)
 ·
  refine Zk ?_
  refine Zq (Zb (Zq (Zr ?_)))
  obtain ⟨Y6,aM5,aFp,hS⟩:=DD hS
  refine VL.deep Y6.m aFp (fun _ q=>q) ?_
  refine Zu (e8 (s:=n_1.fK) Tryz.underlying58 aJb rfl rfl aM5 (bN aM5 aFp)) ?_
  refine Zu (nR (s:=n_1.fK) aWC rfl rfl aFp) ?_
  refine VL.alloc (cs:=[i64 0,.slice none 0 0,.slice none 0 0,str []]) (by kernel_rfl) (by decide) fun a6z => ?_
  refine Zv (cs':=[i64 Y6.base,Y6.index.val,Y6.work.val,str Y6.text]) rfl aJb ?_
  refine Zl ?_
  refine Zq ?_
  cases hS
 replace hS:=gA hS hK1
 cases hS
 exact VC.exit (q8 (.inl rfl) rfl ⟨aD3.eU⟩ rfl rfl (by (try dsimp only); exact cA.out) (by (try dsimp only); exact dJ.out))
theorem F5 (cM:Nat) (w_0:eS) (l_1:Sv bB) {r:dK} (hS:Sh.wC w_0.pl l_1.l=some r) :
 Ct Tryz.prog 209 [ptr cM 0,l_1.val] l_1.ok (Ow.star (Sv.own w_0.eU 5) (bD cM [w_0.eU.val] 185)) (X:=eS) (fun x => .tuple #[]) (fun x=>r=x.pl) (fun x=>Mo.tt) (fun x=>Ow.star (bD cM [x.eU.val] 185) (Sv.own x.eU 5)):=by
 refine Zo Tryz.func209 Tryz.ntmps209 fun c => ?_
 unfold Sh.wC at hS
 refine Zq (Zr ?_)
 refine Zm ?_
 refine Zu (aD rfl) ?_
 refine Zu (aB eG rfl) ?_
 refine Zm ?_
 refine Zu (dX (s:=l_1) Tryz.underlying62 rfl) ?_
 refine VL.lit (α:=Int) (xs:=[.tmp 8]) (vs:=[i64 (l_1.l.length:Int)]) [(l_1.l.length:Int)] Tryz.underlying32 kI (by decide) rfl rfl rfl rfl (by decide) (fun _ _ _ _=>trivial) (by decide) (fun a6q a5O => ?_) (by decide)
 replace hS:=bV a5O hS
 obtain ⟨s4,JJ,hS⟩:=aK hS
 refine VL.bS (fM cM w_0 a6q JJ) rfl (by decide) ?_
 rintro lB rfl
 try dsimp only
 refine Zl ?_
 refine Zr ?_
 refine Zm ?_
 refine Zu (aD rfl) ?_
 refine Zu (aB eG rfl) ?_
 refine Zm ?_
 obtain ⟨HF,aBG,hS⟩:=aK hS
 refine VL.bS (jI cM lB l_1 aBG) rfl (by decide) ?_
 rintro aBt rfl
 try dsimp only
 cases hS
 exact VL.nil (q8 (.inl rfl) rfl ⟨aBt.eU⟩ rfl rfl (by (try dsimp only); exact cA.out) (by (try dsimp only); exact dJ.out))
theorem SW (cM:Nat) (w_0:eS) (s_1:cF) {r:dK} (hS:Sh.CA w_0.pl s_1.pl=some r) :
 Ct Tryz.prog 142 [ptr cM 0,.agg (aH s_1).toArray] (s_1.bH.ok.and (s_1.aX.ok.and (s_1.bQ.ok.and (s_1.aN.ok.and (s_1.aR.ok.and (s_1.aO.ok.and (s_1.aS.ok.and (s_1.bC.ok.and (s_1.bE.ok.and (s_1.bT.ok.and s_1.bJ.ok)))))))))) (Ow.star (Sv.own w_0.eU 5) (bD cM [w_0.eU.val] 185)) (X:=eS) (fun x => .tuple #[]) (fun x=>r=x.pl) (fun x=>Mo.tt) (fun x=>Ow.star (bD cM [x.eU.val] 185) (Sv.own x.eU 5)):=by
 refine Zo Tryz.func142 Tryz.ntmps142 fun c => ?_
 unfold Sh.CA at hS
 refine Zq (Zr ?_)
 refine VL.box (cs:=(aH s_1)) rfl rfl (by decide) fun fX => ?_
 refine Zl ?_
 refine Zq (Zr ?_)
 refine Zm ?_
 refine Zu (aB eC rfl) ?_
 refine Zu (SA (j:=0) (n:=17) JP rfl rfl rfl) ?_
 obtain ⟨EE,aAJ,hS⟩:=aK hS
 refine VL.bS (II cM w_0 (⟨s_1.bH,s_1.aX,s_1.bQ,s_1.aQ,s_1.aG,s_1.bK,s_1.bI,s_1.bP,s_1.aN,s_1.aR,s_1.bO,s_1.aZ,s_1.aL,s_1.aM,s_1.aO,s_1.aS,s_1.bC⟩:jV) aAJ) rfl (by decide) ?_
 rintro NG rfl
 try dsimp only
 refine Zl ?_
 refine Zq ?_
 refine VC.draw [(0,true),(1,true),(2,true),(3,true),(4,true),(5,true),(6,false),(7,false)] mixed (by kernel_rfl) (by kernel_rfl) (by kernel_rfl) ?_
 refine Zw rfl (bA rfl) ?_
 refine Zw rfl (aD rfl) ?_
 refine Zw rfl (aB eG rfl) ?_
 refine Zw rfl (aB nA rfl) ?_
 refine Zw rfl (aJ sW rfl rfl) ?_
 refine Zw rfl (oN cI.pl (s:=s_1.bE) Tryz.underlying61 rfl) ?_
 refine VD.one rfl ?_
 refine VL.lit (α:=Int) (xs:=[.tmp 15]) (vs:=[i64 ((s_1.bE.l.map cI.pl).length:Int)]) [((s_1.bE.l.map cI.pl).length:Int)] Tryz.underlying32 kI (by decide) rfl rfl rfl rfl (by decide) (fun _ _ _ _=>trivial) (by decide) (fun aA4 aJe => ?_) (by decide)
 replace hS:=bV aJe hS
 refine VL.back (D':=[(2,ptr cM 0),(1,ptr cM 0)]) (by kernel_rfl) (aF.cons rfl (aB eG rfl) (aF.cons rfl (aD rfl) (aF.nil))) ?_
 refine VD.one rfl ?_
 obtain ⟨HG,RI,hS⟩:=aK hS
 refine VL.bS (fM cM NG aA4 RI) rfl (by decide) ?_
 rintro LX rfl
 try dsimp only
 refine VL.back (D':=[]) (by kernel_rfl) (aF.nil) ?_
 refine VD.to (fun _ _ h=>h) ?_
 refine VC.keep (ρ':=[(0,ptr cM 0),(3,ptr fX 0)]) [0,3] rfl ?_
 refine Zq (Zq (Zr ?_))
 refine Zu (aB nA rfl) ?_
 refine Zu (aJ sW rfl rfl) ?_
 refine Zu (oN cI.pl (s:=s_1.bE) Tryz.underlying61 rfl) ?_
 refine Zy ?_
 refine Zb ?_
 refine VC.iter (S:=Int×Sv UInt8) (fun sg=>(sg.1,sg.2.l)) (fun sg=>[(0,ptr cM 0),(3,ptr fX 0),(19,s_1.bE.val),(20,i64 ((s_1.bE.l.map cI.pl).length:Int)),(21,i64 sg.1)]) (fun sg=>Mo.tt) (fun sg=>Ow.star (bD cM [sg.2.val] 185) (Ow.star (bD fX (aH s_1) 66) (Ow.star (Sv.own sg.2 5) (Ow.emp)))) (0,LX.eU) [0,3,19,20,21] hS rfl ?_
 clear hS
 rintro ⟨OU,JA⟩ m1 y1 hS hK1
 refine Zq (Zr ?_)
 refine Zu (c4 rfl rfl) ?_
 refine Zl ?_
 refine Zq ?_
 refine Zc hS (fun h22 hS => ?_) (fun h22 hS => ?_)
 ·
  refine Zk ?_
  refine Zq (Zb (Zq (Zr ?_)))
  obtain ⟨xQ,aQF,aJo,hS⟩:=DD hS
  refine VL.deep xQ.m aJo (fun _ q=>q) ?_
  refine Zu (e8 (s:=s_1.bE) Tryz.underlying61 aAO rfl rfl aQF (bN aQF aJo)) ?_
  refine Zu (nR (s:=s_1.bE) aPD rfl rfl aJo) ?_
  refine VL.alloc (cs:=[.slice none 0 0,.slice none 0 0,i64 0,str []]) (by kernel_rfl) (by decide) fun aOo => ?_
  refine Zv (cs':=[xQ.tree.val,xQ.parents.val,i64 xQ.time,str xQ.text]) rfl aAO ?_
  refine Zl ?_
  refine Zq (Zr ?_)
  refine Zm ?_
  refine Zu (aB aL1 rfl) ?_
  refine Zu (aJ jS rfl rfl) ?_
  obtain ⟨zX,EY,hS⟩:=aK hS
  refine VL.bS (AV cM (⟨JA⟩:eS) xQ.tree EY) rfl (by decide) ?_
  rintro aSv rfl
  try dsimp only
  refine Zl ?_
  refine VC.keep (ρ':=[(0,ptr cM 0),(3,ptr fX 0),(19,s_1.bE.val),(20,i64 ((s_1.bE.l.map cI.pl).length:Int)),(21,i64 OU),(5,ptr aOo 0)]) [0,3,19,20,21,5] rfl ?_
  refine Zq ?_
  refine VC.draw [(0,true),(1,true),(2,true),(3,true),(4,true),(5,true),(6,false),(7,false)] mixed (by kernel_rfl) (by kernel_rfl) (by kernel_rfl) ?_
  refine Zw rfl (bA rfl) ?_
  refine Zw rfl (aD rfl) ?_
  refine Zw rfl (aB eG rfl) ?_
  refine Zw rfl (aB aBW rfl) ?_
  refine Zw rfl (aJ x5 rfl rfl) ?_
  refine Zw rfl (dX (s:=xQ.parents) Tryz.underlying32 rfl) ?_
  refine VD.one rfl ?_
  refine VL.lit (α:=Int) (xs:=[.tmp 34]) (vs:=[i64 (xQ.parents.l.length:Int)]) [(xQ.parents.l.length:Int)] Tryz.underlying32 kI (by decide) rfl rfl rfl rfl (by decide) (fun _ _ _ _=>trivial) (by decide) (fun a2i aWg => ?_) (by decide)
  replace hS:=bV aWg hS
  refine VL.back (D':=[(2,ptr cM 0),(1,ptr cM 0)]) (by kernel_rfl) (aF.cons rfl (aB eG rfl) (aF.cons rfl (aD rfl) (aF.nil))) ?_
  refine VD.one rfl ?_
  obtain ⟨aRJ,aUd,hS⟩:=aK hS
  refine VL.bS (fM cM aSv a2i aUd) rfl (by decide) ?_
  rintro aTH rfl
  try dsimp only
  refine VL.back (D':=[]) (by kernel_rfl) (aF.nil) ?_
  refine VD.to (fun _ _ h=>h) ?_
  refine VC.keep (ρ':=[(0,ptr cM 0),(3,ptr fX 0),(19,s_1.bE.val),(20,i64 ((s_1.bE.l.map cI.pl).length:Int)),(21,i64 OU),(5,ptr aOo 0)]) [0,3,19,20,21,5] rfl ?_
  refine Zq ?_
  refine VC.draw [(0,true),(1,true),(2,true),(3,true),(4,true),(5,false)] mixed (by kernel_rfl) (by kernel_rfl) (by kernel_rfl) ?_
  refine Zw rfl (bA rfl) ?_
  refine Zw rfl (aD rfl) ?_
  refine Zw rfl (aB eG rfl) ?_
  refine Zw rfl (aB aBW rfl) ?_
  refine Zw rfl (aJ x5 rfl rfl) ?_
  refine VD.one rfl ?_
  obtain ⟨aRS,aUt,hS⟩:=aK hS
  refine VL.bS (fM cM aTH xQ.parents aUt) rfl (by decide) ?_
  rintro aTP rfl
  try dsimp only
  refine VL.back (D':=[]) (by kernel_rfl) (aF.nil) ?_
  refine VD.to (fun _ _ h=>h) ?_
  refine Zq ?_
  refine VC.draw [(0,true),(1,true),(2,true),(3,true),(4,true),(5,false),(6,false)] mixed (by kernel_rfl) (by kernel_rfl) (by kernel_rfl) ?_
  refine Zw rfl (bA rfl) ?_
  refine Zw rfl (aD rfl) ?_
  refine Zw rfl (aB eG rfl) ?_
  refine Zw rfl (aB aWO rfl) ?_
  refine Zw rfl (aJ eP rfl rfl) ?_
  refine VD.one rfl ?_
  refine VL.lit (α:=Int) (xs:=[.tmp 47]) (vs:=[i64 xQ.time]) [xQ.time] Tryz.underlying32 kI (by decide) rfl rfl rfl rfl (by decide) (fun _ _ _ _=>trivial) (by decide) (fun a2v aWv => ?_) (by decide)
  replace hS:=bV aWv hS
  refine VL.back (D':=[(2,ptr cM 0),(1,ptr cM 0)]) (by kernel_rfl) (aF.cons rfl (aB eG rfl) (aF.cons rfl (aD rfl) (aF.nil))) ?_
  refine VD.one rfl ?_
  obtain ⟨aC5,aFT,hS⟩:=aK hS
  refine VL.bS (fM cM aTP a2v aFT) rfl (by decide) ?_
  rintro aDX rfl
  try dsimp only
  refine VL.back (D':=[]) (by kernel_rfl) (aF.nil) ?_
  refine VD.to (fun _ _ h=>h) ?_
  refine VC.keep (ρ':=[(0,ptr cM 0),(3,ptr fX 0),(19,s_1.bE.val),(20,i64 ((s_1.bE.l.map cI.pl).length:Int)),(21,i64 OU),(5,ptr aOo 0)]) [0,3,19,20,21,5] rfl ?_
  refine VC.draw [(0,true),(1,true),(2,true),(3,true),(4,true),(5,false),(6,false)] mixed (by kernel_rfl) (by kernel_rfl) (by kernel_rfl) ?_
  refine Zw rfl (bA rfl) ?_
  refine Zw rfl (aD rfl) ?_
  refine Zw rfl (aB eG rfl) ?_
  refine Zw rfl (aB aWP rfl) ?_
  refine Zw rfl (aJ dD rfl rfl) ?_
  refine VD.one rfl ?_
  refine VL.lit (α:=bB) (xs:=[.tmp 54]) (vs:=[str xQ.text]) [xQ.text] Tryz.underlying62 x4 (by decide) rfl rfl rfl rfl (by decide) (fun _ _ _ _=>trivial) (by decide) (fun a3C aXG => ?_) (by decide)
  replace hS:=bV aXG hS
  refine VL.back (D':=[(2,ptr cM 0),(1,ptr cM 0)]) (by kernel_rfl) (aF.cons rfl (aB eG rfl) (aF.cons rfl (aD rfl) (aF.nil))) ?_
  refine VD.one rfl ?_
  obtain ⟨aRa,aVW,hS⟩:=aK hS
  refine VL.bS (jI cM aDX a3C aVW) rfl (by decide) ?_
  rintro aTZ rfl
  try dsimp only
  refine VL.back (D':=[]) (by kernel_rfl) (aF.nil) ?_
  refine VD.to (fun _ _ h=>h) ?_
  refine VC.keep (ρ':=[(0,ptr cM 0),(3,ptr fX 0),(19,s_1.bE.val),(20,i64 ((s_1.bE.l.map cI.pl).length:Int)),(21,i64 OU)]) [0,3,19,20,21] rfl ?_
  refine Zr ?_
  obtain ⟨b57,hS⟩:=bU hS
  refine Zu (cR rfl rfl b57) ?_
  refine Zm ?_
  refine VL.iP ((OU+1),aTZ.eU) [0,3,19,20,21] (fun _ _ h=>h) (go2 hS hK1) rfl
 replace hS:=gA hS hK1
 refine Zx ?_
 refine Zq (Zr ?_)
 refine Zm ?_
 refine Zu (aB UZ rfl) ?_
 refine Zu (aB aL0 rfl) ?_
 refine Zu (aJ x6 rfl rfl) ?_
 obtain ⟨aRe,aV1,hS⟩:=aK hS
 refine VL.bS (F5 cM (⟨JA⟩:eS) s_1.bT aV1) rfl (by decide) ?_
 rintro aT1 rfl
 try dsimp only
 refine Zl ?_
 refine VC.keep (ρ':=[(0,ptr cM 0),(3,ptr fX 0)]) [0,3] rfl ?_
 refine Zq (Zr ?_)
 refine Zm ?_
 refine Zu (aB UZ rfl) ?_
 refine Zu (aB aWN rfl) ?_
 refine Zu (aJ x6 rfl rfl) ?_
 obtain ⟨aRl,aV9,hS⟩:=aK hS
 refine VL.bS (F5 cM aT1 s_1.bJ aV9) rfl (by decide) ?_
 rintro aT4 rfl
 try dsimp only
 refine Zl ?_
 refine VC.draw [(0,true),(1,true),(2,true),(3,true),(4,true),(5,false),(6,false)] mixed (by kernel_rfl) (by kernel_rfl) (by kernel_rfl) ?_
 refine Zw rfl (bA rfl) ?_
 refine Zw rfl (aD rfl) ?_
 refine Zw rfl (aB eG rfl) ?_
 refine Zw rfl (aB aBV rfl) ?_
 refine Zw rfl (aJ eP rfl rfl) ?_
 refine VD.one rfl ?_
 refine VL.lit (α:=Int) (xs:=[.tmp 72]) (vs:=[i64 s_1.time]) [s_1.time] Tryz.underlying32 kI (by decide) rfl rfl rfl rfl (by decide) (fun _ _ _ _=>trivial) (by decide) (fun a3J aXR => ?_) (by decide)
 replace hS:=bV aXR hS
 refine VL.back (D':=[(2,ptr cM 0),(1,ptr cM 0)]) (by kernel_rfl) (aF.cons rfl (aB eG rfl) (aF.cons rfl (aD rfl) (aF.nil))) ?_
 refine VD.one rfl ?_
 obtain ⟨aRs,aVi,hS⟩:=aK hS
 refine VL.bS (fM cM aT4 a3J aVi) rfl (by decide) ?_
 rintro aT8 rfl
 try dsimp only
 refine VL.back (D':=[]) (by kernel_rfl) (aF.nil) ?_
 cases hS
 exact VD.nil (q8 (.inl rfl) rfl ⟨aT8.eU⟩ rfl rfl (by (try dsimp only); exact cA.out) (by (try dsimp only); exact dJ.out))
theorem kO (aA:Sv UInt8) {r:List UInt8} (hS:Sh.gB aA.l=some r) :
 Ct Tryz.prog 31 [aA.val] aA.ok (Ow.emp) (X:=Sv UInt8) (fun x=>x.val) (fun x=>r=x.l) (fun x=>Mo.tt) (fun x=>Sv.own x 5):=by
 refine Zo Tryz.func31 Tryz.ntmps31 fun c => ?_
 unfold Sh.gB at hS
 refine Zq (Zr ?_)
 refine Zy ?_
 refine Zq (Zq (Zr ?_))
 refine Zm ?_
 refine Zu (ID (s:=aA) Tryz.underlying30 rfl) ?_
 refine Zl ?_
 refine VC.slnil (s:=aA) rfl (fun h4 => ?_) ?_
 ·
  have hS:(some [])=some r:=by
    simp [lt,gd,h4] at hS ⊢
    try exact hS
  refine Zq (Zr ?_)
  refine Zy ?_
  refine VC.kH (⟨none,0,[]⟩:Sv UInt8) 5 ⟨rfl,rfl⟩ ?_
  cases hS
  exact VC.ret (eB (.inr rfl) rfl rfl ⟨none,0,[]⟩ rfl rfl (by (try dsimp only); exact cA.out) (by (try dsimp only); exact dJ.out))
 refine Zk ?_
 refine Zq (Zr ?_)
 refine VL.aDz (α:=UInt8) Tryz.underlying30 a5C (by decide) (fun yN rK x7 => ?_)
 refine VL.kH yN 5 ⟨x7,rK⟩ ?_
 replace hS:=bV rK hS
 refine Zm ?_
 obtain ⟨b7,hS⟩:=bU hS
 refine VL.app (s:=yN) (r:=aA) Tryz.underlying30 RP (by decide) rfl Fo.out (sU b7) (sV b7 (by decide)) (by decide) (fun L7 B2 => ?_)
 replace hS:=bV B2 hS
 refine Zy ?_
 cases hS
 exact VC.ret (eB (.inr rfl) rfl rfl L7 rfl rfl (by (try dsimp only); exact cA.out) (by (try dsimp only); exact dJ.out))
theorem qO (aA:Sv UInt8) {r:List UInt8} (hS:Sh.j4 aA.l=some r) :
 Ct Tryz.prog 47 [aA.val] aA.ok (Ow.emp) (X:=Sv UInt8) (fun x=>x.val) (fun x=>r=x.l) (fun x=>x.ok) (fun x=>Ow.emp):=by
 refine Zo Tryz.func47 Tryz.ntmps47 fun c => ?_
 unfold Sh.j4 at hS
 refine Zq (Zr ?_)
 refine Zy ?_
 refine Zq (Zr ?_)
 refine Zy ?_
 refine Zu (dX (s:=aA) Tryz.underlying30 rfl) ?_
 refine Zm ?_
 refine Zu (dX (s:=aA) Tryz.underlying30 rfl) ?_
 obtain ⟨b8,hS⟩:=bU hS
 refine VL.WX Tryz.underlying30 AD rfl rfl rfl b8.1 (b8.2) (by decide) fun CX vL => ?_
 replace hS:=bV vL hS
 refine Zy ?_
 cases hS
 exact VC.ret (eB (.inr rfl) rfl rfl CX rfl rfl (by (try dsimp only); exact cA.out) (fun _ _=>trivial))
theorem JB (jJ:Nat) (uL:eS) {r:List UInt8} (hS:Sh.BA uL.pl=some r) :
 Ct Tryz.prog 30 [ptr jJ 0] Mo.tt (Ow.star (Sv.own uL.eU 5) (bD jJ [uL.eU.val] 185)) (X:=Sv UInt8) (fun x=>x.val) (fun x=>r=x.l) (fun x=>x.ok) (fun x=>Ow.star (bD jJ [uL.eU.val] 185) (Sv.own uL.eU 5)):=by
 refine Zo Tryz.func30 Tryz.ntmps30 fun c => ?_
 unfold Sh.BA at hS
 refine Zq (Zr ?_)
 refine Zy ?_
 refine Zq (Zr ?_)
 refine Zm ?_
 refine Zu (aD rfl) ?_
 refine Zu (aB u5 rfl) ?_
 refine Zu (aJ qM rfl rfl) ?_
 obtain ⟨iD,kL,hS⟩:=aK hS
 refine VL.aIu (kO uL.eU kL) rfl (by decide) ?_
 rintro lZ rfl
 try dsimp only
 refine VL.shut lZ 5 (fun _ _ _ _=>trivial) ?_
 obtain ⟨iT,tG,hS⟩:=aK hS
 refine VL.cU (qO lZ tG) rfl (by decide) ?_
 rintro jT rfl
 try dsimp only
 refine Zy ?_
 cases hS
 exact VC.ret (eB (.inr rfl) rfl rfl jT rfl rfl (by (try dsimp only); exact cA.out) (by (try dsimp only); exact dJ.out))
theorem aDh (aA:cF) {r:List UInt8} (hS:Sh.OG aA.pl=some r) :
 Ct Tryz.prog 97 [.agg (aH aA).toArray] (aA.bH.ok.and (aA.aX.ok.and (aA.bQ.ok.and (aA.aN.ok.and (aA.aR.ok.and (aA.aO.ok.and (aA.aS.ok.and (aA.bC.ok.and (aA.bE.ok.and (aA.bT.ok.and aA.bJ.ok)))))))))) (Ow.emp) (X:=Sv UInt8) (fun x=>x.val) (fun x=>r=x.l) (fun x=>x.ok) (fun x=>Ow.emp):=by
 refine Zo Tryz.func97 Tryz.ntmps97 fun c => ?_
 unfold Sh.OG at hS
 refine Zq (Zr ?_)
 refine VL.box (cs:=(aH aA)) rfl rfl (by decide) fun fE => ?_
 refine Zy ?_
 refine Zq (Zr ?_)
 refine VL.alloc (cs:=[.slice none 0 0]) (by kernel_rfl) (by decide) fun jQ => ?_
 refine Zl ?_
 refine Zq (Zr ?_)
 refine Zu (cD cL rfl rfl) ?_
 refine VL.kH (⟨none,0,[]⟩:Sv UInt8) 5 ⟨rfl,rfl⟩ ?_
 refine VL.SD jQ (cs':=[(⟨none,0,[]⟩:Sv UInt8).val]) rfl ?_
 obtain ⟨tY,UR,hS⟩:=aK hS
 refine VL.bS (SW jQ (⟨(⟨none,0,[]⟩:Sv UInt8)⟩:eS) aA UR) rfl (by decide) ?_
 rintro eT rfl
 try dsimp only
 refine Zl ?_
 refine Zq (Zr ?_)
 refine Zu (aB eG rfl) ?_
 obtain ⟨xV,aAI,hS⟩:=aK hS
 refine VL.bS (JB jQ eT aAI) rfl (by decide) ?_
 rintro aKG rfl
 try dsimp only
 refine Zy ?_
 cases hS
 exact VC.ret (eB (.inr rfl) rfl rfl aKG rfl rfl (by (try dsimp only); exact cA.out) (fun _ _=>trivial))
theorem RC (iA:Sv UInt8) {r:bL} (hS:Sh.D6 iA.l=some r) :
 Ct Tryz.prog 22 [iA.val] iA.ok (Ow.emp) (X:=Nat×cH) (fun x=>ptr x.1 0) (fun x=>r=x.2.pl) (fun x=>(x.2.b.ok.and x.2.err.ok)) (fun x=>bD x.1 [x.2.b.val,i64 x.2.at_,x.2.err.val] 127):=by
 refine Zo Tryz.func22 Tryz.ntmps22 fun c => ?_
 unfold Sh.D6 at hS
 refine Zq (Zr ?_)
 refine Zy ?_
 refine Zq (Zr ?_)
 refine Zm ?_
 obtain ⟨a4h,a4t,hS⟩:=aK hS
 refine VL.bS (kO iA a4t) rfl (by decide) ?_
 rintro YH rfl
 try dsimp only
 refine Zu (eN (vs:=[(0,YH.val)]) (cs := #[YH.val,i64 0,.nilIface]) rfl (by kernel_rfl)) ?_
 refine VL.box (cs:=[YH.val,i64 0,.nilIface]) rfl rfl (by decide) fun D4 => ?_
 refine Zy ?_
 refine VC.shut YH 5 (fun _ _ _ _=>trivial) ?_
 refine VC.SD D4 (cs':=[YH.val,i64 0,(Er.nil).val]) rfl ?_
 cases hS
 exact VC.ret (eB (.inr rfl) rfl rfl (D4,⟨YH,0,(Er.nil)⟩) rfl rfl (by (try dsimp only); exact cA.out) (by (try dsimp only); exact dJ.out))
end Go.Proofs.YtcenmlklkpgmnabGreatDoor
end
