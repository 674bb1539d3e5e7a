/- Part of the proofs of: the law StateChecks (second form: where what is read is of bulk at most 1048576) -/
import Derived.Test.YthbccdlpalenlaaGreatDoorRows
import Derived.Test.YthbccdlpalenlaaGreatDoorCB
set_option linter.unusedVariables false
set_option linter.unusedSimpArgs false
set_option linter.unusedSectionVars false
section
set_option linter.unusedVariables false
namespace Go.Proofs.YthbccdlpalenlaaGreatDoor
set_option maxHeartbeats 4000000
set_option maxRecDepth 100000
set_option synthInstance.maxSize 2000
set_option synthInstance.maxHeartbeats 1000000
open Go.RowKit Go.V
open Go.S hiding bN
theorem mixed:Tryz.prog.follows .mixedOrders=true:=by kernel_rfl
theorem aSM:(Tryz.prog.info? 212).map (·.size)=some 2:=by kernel_rfl
theorem aZj:((Tryz.prog.info? 5).map fun i=>(i.size,i.bytes,i.zero))=some (1,1,some (.int .u8 0)):=by kernel_rfl
theorem QL:cU Tryz.prog 212 0 0:=bP (n:=0) (f:=⟨_,_,0,_,_,_,_⟩) Tryz.underlying212 rfl (by kernel_rfl)
theorem QM:cU Tryz.prog 212 1 1:=bP (n:=0) (f:=⟨_,_,1,_,_,_,_⟩) Tryz.underlying212 rfl (by kernel_rfl)
theorem aAp:OneCell Tryz.prog 210:=iK Tryz.underlying210 rfl
theorem z6:OneCell Tryz.prog 22:=iK Tryz.underlying22 rfl
theorem aWh:(Tryz.prog.info? 210).map (·.size)=some 1:=by kernel_rfl
theorem aFB:(Tryz.prog.info? 22).map (·.size)=some 1:=by kernel_rfl
theorem XL:cU Tryz.prog 194 2 2:=bP (n:=0) (f:=⟨_,_,2,_,_,_,_⟩) Tryz.underlying194 rfl (by kernel_rfl)
theorem IN:OneCell Tryz.prog 26:=iK Tryz.underlying26 rfl
theorem G4:(Tryz.prog.info? 93).map (·.size)=some 21:=by kernel_rfl
theorem jS:p7 Tryz.prog 93 21:=nB Tryz.underlying93 rfl (by kernel_rfl)
theorem mF:cU Tryz.prog 93 0 0:=bP (n:=16) (f:=⟨_,_,0,_,_,_,_⟩) Tryz.underlying93 rfl (by kernel_rfl)
theorem oB:p7 Tryz.prog 61 17:=nB Tryz.underlying61 rfl (by kernel_rfl)
theorem EJ:cU Tryz.prog 61 0 0:=bP (n:=0) (f:=⟨_,_,0,_,_,_,_⟩) Tryz.underlying61 rfl (by kernel_rfl)
theorem iQ:OneCell Tryz.prog 50:=iK Tryz.underlying50 rfl
theorem eM:cU Tryz.prog 157 0 0:=bP (n:=0) (f:=⟨_,_,0,_,_,_,_⟩) Tryz.underlying157 rfl (by kernel_rfl)
theorem vO:((Tryz.prog.info? 3).map fun i=>(i.size,i.zero.isSome))=some (1,true):=by kernel_rfl
theorem FI:(Tryz.prog.info? 3).map (·.size)=some 1:=by kernel_rfl
theorem cN:OneCell Tryz.prog 3:=iK Tryz.underlying3 rfl
theorem C2:cU Tryz.prog 147 0 0:=bP (n:=0) (f:=⟨_,_,0,_,_,_,_⟩) Tryz.underlying147 rfl (by kernel_rfl)
theorem XM:((Tryz.prog.info? 5).map fun i=>(i.size,i.zero.isSome))=some (1,true):=by kernel_rfl
theorem aJq:((Tryz.prog.info? 5).map fun i=>(i.size,i.bytes,(i.zero.map fun z=>z.cells.size)))=some (1,1,some 1):=by kernel_rfl
theorem rN:(Tryz.prog.info? 185).map (·.size)=some 3:=by kernel_rfl
theorem G2:p7 Tryz.prog 185 3:=nB Tryz.underlying185 rfl (by kernel_rfl)
theorem uV:cU Tryz.prog 185 0 0:=bP (n:=0) (f:=⟨_,_,0,_,_,_,_⟩) Tryz.underlying185 rfl (by kernel_rfl)
theorem cD:OneCell Tryz.prog 9:=iK Tryz.underlying9 rfl
theorem oZ:((Tryz.prog.info? 9).map fun i=>(i.size,i.zero.isSome))=some (1,true):=by kernel_rfl
theorem uG:(Tryz.prog.info? 9).map (·.size)=some 1:=by kernel_rfl
theorem aZh:((Tryz.prog.info? 5).map fun i=>(i.size,i.bytes,i.zero))=some (1,1,some (.int .u8 0)):=by kernel_rfl
theorem KD:cU Tryz.prog 185 1 1:=bP (n:=0) (f:=⟨_,_,1,_,_,_,_⟩) Tryz.underlying185 rfl (by kernel_rfl)
theorem GL:cU Tryz.prog 185 2 2:=bP (n:=0) (f:=⟨_,_,2,_,_,_,_⟩) Tryz.underlying185 rfl (by kernel_rfl)
theorem zQ:cU Tryz.prog 61 1 1:=bP (n:=0) (f:=⟨_,_,1,_,_,_,_⟩) Tryz.underlying61 rfl (by kernel_rfl)
theorem lW:OneCell Tryz.prog 51:=iK Tryz.underlying51 rfl
theorem pS:(Tryz.prog.info? 218).map (·.size)=some 6:=by kernel_rfl
theorem sD:p7 Tryz.prog 218 6:=nB Tryz.underlying218 rfl (by kernel_rfl)
theorem pE:cU Tryz.prog 218 0 0:=bP (n:=0) (f:=⟨_,_,0,_,_,_,_⟩) Tryz.underlying218 rfl (by kernel_rfl)
theorem uW:cU Tryz.prog 218 1 1:=bP (n:=0) (f:=⟨_,_,1,_,_,_,_⟩) Tryz.underlying218 rfl (by kernel_rfl)
theorem AN:cU Tryz.prog 218 2 2:=bP (n:=0) (f:=⟨_,_,2,_,_,_,_⟩) Tryz.underlying218 rfl (by kernel_rfl)
theorem yO:cU Tryz.prog 218 3 3:=bP (n:=0) (f:=⟨_,_,3,_,_,_,_⟩) Tryz.underlying218 rfl (by kernel_rfl)
theorem QN:cU Tryz.prog 218 4 4:=bP (n:=0) (f:=⟨_,_,4,_,_,_,_⟩) Tryz.underlying218 rfl (by kernel_rfl)
theorem QO:cU Tryz.prog 218 5 5:=bP (n:=0) (f:=⟨_,_,5,_,_,_,_⟩) Tryz.underlying218 rfl (by kernel_rfl)
theorem lK:cU Tryz.prog 61 2 2:=bP (n:=0) (f:=⟨_,_,2,_,_,_,_⟩) Tryz.underlying61 rfl (by kernel_rfl)
theorem qS:OneCell Tryz.prog 52:=iK Tryz.underlying52 rfl
theorem uL:(Tryz.prog.info? 216).map (·.size)=some 2:=by kernel_rfl
theorem G3:p7 Tryz.prog 216 2:=nB Tryz.underlying216 rfl (by kernel_rfl)
theorem AM:cU Tryz.prog 216 0 0:=bP (n:=0) (f:=⟨_,_,0,_,_,_,_⟩) Tryz.underlying216 rfl (by kernel_rfl)
theorem KF:cU Tryz.prog 216 1 1:=bP (n:=0) (f:=⟨_,_,1,_,_,_,_⟩) Tryz.underlying216 rfl (by kernel_rfl)
theorem jU:cU Tryz.prog 61 3 3:=bP (n:=1) (f:=⟨_,_,3,_,_,_,_⟩) Tryz.underlying61 rfl (by kernel_rfl)
theorem IM:p7 Tryz.prog 54 2:=nB Tryz.underlying54 rfl (by kernel_rfl)
theorem lD:cU Tryz.prog 54 0 0:=bP (n:=0) (f:=⟨_,_,0,_,_,_,_⟩) Tryz.underlying54 rfl (by kernel_rfl)
theorem nK:cU Tryz.prog 54 1 1:=bP (n:=0) (f:=⟨_,_,1,_,_,_,_⟩) Tryz.underlying54 rfl (by kernel_rfl)
theorem sF:cU Tryz.prog 61 4 5:=bP (n:=10) (f:=⟨_,_,5,_,_,_,_⟩) Tryz.underlying61 rfl (by kernel_rfl)
theorem QJ:p7 Tryz.prog 57 11:=nB Tryz.underlying57 rfl (by kernel_rfl)
theorem sE:cU Tryz.prog 57 0 0:=bP (n:=0) (f:=⟨_,_,0,_,_,_,_⟩) Tryz.underlying57 rfl (by kernel_rfl)
theorem wD:cU Tryz.prog 57 1 1:=bP (n:=0) (f:=⟨_,_,1,_,_,_,_⟩) Tryz.underlying57 rfl (by kernel_rfl)
theorem tD:cU Tryz.prog 57 2 2:=bP (n:=0) (f:=⟨_,_,2,_,_,_,_⟩) Tryz.underlying57 rfl (by kernel_rfl)
theorem zP:cU Tryz.prog 57 3 3:=bP (n:=0) (f:=⟨_,_,3,_,_,_,_⟩) Tryz.underlying57 rfl (by kernel_rfl)
theorem mG:OneCell Tryz.prog 55:=iK Tryz.underlying55 rfl
theorem z7:(Tryz.prog.info? 278).map (·.size)=some 3:=by kernel_rfl
theorem UB:p7 Tryz.prog 278 3:=nB Tryz.underlying278 rfl (by kernel_rfl)
theorem aDg:cU Tryz.prog 278 0 0:=bP (n:=0) (f:=⟨_,_,0,_,_,_,_⟩) Tryz.underlying278 rfl (by kernel_rfl)
theorem aDh:cU Tryz.prog 278 1 1:=bP (n:=0) (f:=⟨_,_,1,_,_,_,_⟩) Tryz.underlying278 rfl (by kernel_rfl)
theorem aDi:cU Tryz.prog 278 2 2:=bP (n:=0) (f:=⟨_,_,2,_,_,_,_⟩) Tryz.underlying278 rfl (by kernel_rfl)
theorem xH:cU Tryz.prog 57 4 4:=bP (n:=0) (f:=⟨_,_,4,_,_,_,_⟩) Tryz.underlying57 rfl (by kernel_rfl)
theorem wE:cU Tryz.prog 57 5 5:=bP (n:=0) (f:=⟨_,_,5,_,_,_,_⟩) Tryz.underlying57 rfl (by kernel_rfl)
theorem uX:cU Tryz.prog 57 6 6:=bP (n:=0) (f:=⟨_,_,6,_,_,_,_⟩) Tryz.underlying57 rfl (by kernel_rfl)
theorem nL:cU Tryz.prog 57 7 7:=bP (n:=1) (f:=⟨_,_,7,_,_,_,_⟩) Tryz.underlying57 rfl (by kernel_rfl)
theorem wF:cU Tryz.prog 57 8 9:=bP (n:=0) (f:=⟨_,_,9,_,_,_,_⟩) Tryz.underlying57 rfl (by kernel_rfl)
theorem uY:cU Tryz.prog 57 9 10:=bP (n:=0) (f:=⟨_,_,10,_,_,_,_⟩) Tryz.underlying57 rfl (by kernel_rfl)
theorem j8:cU Tryz.prog 61 5 16:=bP (n:=0) (f:=⟨_,_,16,_,_,_,_⟩) Tryz.underlying61 rfl (by kernel_rfl)
theorem nD:OneCell Tryz.prog 59:=iK Tryz.underlying59 rfl
theorem pR:(Tryz.prog.info? 155).map (·.size)=some 4:=by kernel_rfl
theorem G1:p7 Tryz.prog 155 4:=nB Tryz.underlying155 rfl (by kernel_rfl)
theorem C3:cU Tryz.prog 155 0 0:=bP (n:=0) (f:=⟨_,_,0,_,_,_,_⟩) Tryz.underlying155 rfl (by kernel_rfl)
theorem GI:cU Tryz.prog 155 1 1:=bP (n:=0) (f:=⟨_,_,1,_,_,_,_⟩) Tryz.underlying155 rfl (by kernel_rfl)
theorem C4:cU Tryz.prog 155 2 2:=bP (n:=0) (f:=⟨_,_,2,_,_,_,_⟩) Tryz.underlying155 rfl (by kernel_rfl)
theorem GJ:cU Tryz.prog 155 3 3:=bP (n:=0) (f:=⟨_,_,3,_,_,_,_⟩) Tryz.underlying155 rfl (by kernel_rfl)
theorem aZl:((Tryz.prog.info? 5).map (·.size)).isSome=true:=by kernel_rfl
theorem aHf:(Tryz.prog.info? 5).map (·.size)=some 1:=by kernel_rfl
theorem dY:OneCell Tryz.prog 159:=iK Tryz.underlying159 rfl
theorem dD:cU Tryz.prog 161 0 0:=bP (n:=0) (f:=⟨_,_,0,_,_,_,_⟩) Tryz.underlying161 rfl (by kernel_rfl)
theorem dR:OneCell Tryz.prog 129:=iK Tryz.underlying129 rfl
theorem KH:cU Tryz.prog 233 2 2:=bP (n:=0) (f:=⟨_,_,2,_,_,_,_⟩) Tryz.underlying233 rfl (by kernel_rfl)
theorem s9:cU Tryz.prog 233 1 1:=bP (n:=0) (f:=⟨_,_,1,_,_,_,_⟩) Tryz.underlying233 rfl (by kernel_rfl)
theorem KG:cU Tryz.prog 233 0 0:=bP (n:=0) (f:=⟨_,_,0,_,_,_,_⟩) Tryz.underlying233 rfl (by kernel_rfl)
theorem aJr:OneCell Tryz.prog 5:=iK Tryz.underlying5 rfl
theorem aSK:(Tryz.prog.info? 26).map (·.size)=some 1:=by kernel_rfl
theorem lU:cU Tryz.prog 161 1 1:=bP (n:=0) (f:=⟨_,_,1,_,_,_,_⟩) Tryz.underlying161 rfl (by kernel_rfl)
theorem OD:OneCell Tryz.prog 4:=iK Tryz.underlying4 rfl
theorem IS:(Tryz.prog.info? 4).map (·.size)=some 1:=by kernel_rfl
theorem aSA:((Tryz.prog.info? 185).map fun i=>(i.size,i.zero.isSome))=some (3,true):=by kernel_rfl
theorem aRh:((Tryz.prog.info? 185).map fun i=>(i.size,i.bytes,(i.zero.map fun z=>z.cells.size)))=some (3,40,some 3):=by kernel_rfl
theorem aZm:(Tryz.prog.info? 50).map (·.size)=some 1:=by kernel_rfl
theorem aSE:((Tryz.prog.info? 218).map fun i=>(i.size,i.zero.isSome))=some (6,true):=by kernel_rfl
theorem aRm:((Tryz.prog.info? 218).map fun i=>(i.size,i.bytes,(i.zero.map fun z=>z.cells.size)))=some (6,64,some 6):=by kernel_rfl
theorem aZn:(Tryz.prog.info? 51).map (·.size)=some 1:=by kernel_rfl
theorem zB:(Tryz.prog.info? 61).map (·.size)=some 17:=by kernel_rfl
theorem aSD:((Tryz.prog.info? 216).map fun i=>(i.size,i.zero.isSome))=some (2,true):=by kernel_rfl
theorem aRl:((Tryz.prog.info? 216).map fun i=>(i.size,i.bytes,(i.zero.map fun z=>z.cells.size)))=some (2,24,some 2):=by kernel_rfl
theorem aFC:(Tryz.prog.info? 52).map (·.size)=some 1:=by kernel_rfl
theorem aAr:(Tryz.prog.info? 54).map (·.size)=some 2:=by kernel_rfl
theorem aSG:((Tryz.prog.info? 278).map fun i=>(i.size,i.zero.isSome))=some (3,true):=by kernel_rfl
theorem aH6:((Tryz.prog.info? 278).map fun i=>(i.size,i.bytes,(i.zero.map fun z=>z.cells.size)))=some (3,40,some 3):=by kernel_rfl
theorem aJs:(Tryz.prog.info? 55).map (·.size)=some 1:=by kernel_rfl
theorem XO:(Tryz.prog.info? 57).map (·.size)=some 11:=by kernel_rfl
theorem aRy:((Tryz.prog.info? 155).map fun i=>(i.size,i.zero.isSome))=some (4,true):=by kernel_rfl
theorem aRf:((Tryz.prog.info? 155).map fun i=>(i.size,i.bytes,(i.zero.map fun z=>z.cells.size)))=some (4,72,some 4):=by kernel_rfl
theorem aFD:(Tryz.prog.info? 59).map (·.size)=some 1:=by kernel_rfl
theorem sG:cU Tryz.prog 93 1 17:=bP (n:=0) (f:=⟨_,_,17,_,_,_,_⟩) Tryz.underlying93 rfl (by kernel_rfl)
theorem qT:OneCell Tryz.prog 68:=iK Tryz.underlying68 rfl
theorem pQ:(Tryz.prog.info? 110).map (·.size)=some 4:=by kernel_rfl
theorem xF:p7 Tryz.prog 110 4:=nB Tryz.underlying110 rfl (by kernel_rfl)
theorem nM:cU Tryz.prog 93 2 18:=bP (n:=1) (f:=⟨_,_,18,_,_,_,_⟩) Tryz.underlying93 rfl (by kernel_rfl)
theorem zR:cU Tryz.prog 91 0 0:=bP (n:=0) (f:=⟨_,_,0,_,_,_,_⟩) Tryz.underlying91 rfl (by kernel_rfl)
theorem oC:OneCell Tryz.prog 89:=iK Tryz.underlying89 rfl
theorem xI:cU Tryz.prog 91 1 1:=bP (n:=0) (f:=⟨_,_,1,_,_,_,_⟩) Tryz.underlying91 rfl (by kernel_rfl)
theorem zS:cU Tryz.prog 93 3 20:=bP (n:=0) (f:=⟨_,_,20,_,_,_,_⟩) Tryz.underlying93 rfl (by kernel_rfl)
theorem aZo:(Tryz.prog.info? 68).map (·.size)=some 1:=by kernel_rfl
theorem XH:((Tryz.prog.info? 9).map fun i=>(i.size,i.bytes,(i.zero.map fun z=>z.cells.size)))=some (1,16,some 1):=by kernel_rfl
theorem aAs:(Tryz.prog.info? 89).map (·.size)=some 1:=by kernel_rfl
theorem aZp:(Tryz.prog.info? 91).map (·.size)=some 2:=by kernel_rfl
theorem XI:cU Tryz.prog 176 0 0:=bP (n:=0) (f:=⟨_,_,0,_,_,_,_⟩) Tryz.underlying176 rfl (by kernel_rfl)
theorem aWb:((Tryz.prog.info? 55).map fun i=>(i.size,i.zero.isSome))=some (1,true):=by kernel_rfl
theorem aWe:((Tryz.prog.info? 278).map fun i=>(i.size,i.bytes,i.zero.map fun z=>z.cells.toList))=some (3,40,some [str [],i64 0,str []]):=by kernel_rfl
theorem aWd:((Tryz.prog.info? 89).map fun i=>(i.size,i.zero.isSome))=some (1,true):=by kernel_rfl
theorem aSI:((Tryz.prog.info? 9).map fun i=>(i.size,i.bytes,i.zero.map fun z=>z.cells.toList))=some (1,16,some [str []]):=by kernel_rfl
theorem aRs : ∀ (x0:List UInt8) (x1:Int) (x2:List UInt8) (y0:List UInt8) (y1:Int) (y2:List UInt8) (w:World),(Op.equalIn 10000 185 (.agg #[str x0,i64 x1,str x2]) (.agg #[str y0,i64 y1,str y2])).run Tryz.prog w = .ok (decide (x0=y0∧x1=y1∧x2=y2)) w:=by
 intro x0 x1 x2 y0 y1 y2 w
 have hS:Tryz.prog.underlying 185=some (.struct (Tryz.prog.fieldsOf 185)):=by kernel_rfl
 rw [show (10000:Nat)=9999+1 from rfl,run_equalIn_agg w 9999 185 _ _ hS (by kernel_rfl)]
 simp only [Program.fieldsOf,Tryz.underlying185]
 go_simp
 by_cases h0:x0=y0 <;> by_cases h1:x1=y1 <;> by_cases h2:x2=y2 <;> simp [h0,h1,h2]
theorem aRp:Tryz.prog.eqGuardType Tryz.prog.depth 185=false:=by kernel_rfl
theorem aRt : ∀ (x0:List UInt8) (x1:Int) (y0:List UInt8) (y1:Int) (w:World),(Op.equalIn 10000 216 (.agg #[str x0,i64 x1]) (.agg #[str y0,i64 y1])).run Tryz.prog w = .ok (decide (x0=y0∧x1=y1)) w:=by
 intro x0 x1 y0 y1 w
 have hS:Tryz.prog.underlying 216=some (.struct (Tryz.prog.fieldsOf 216)):=by kernel_rfl
 rw [show (10000:Nat)=9999+1 from rfl,run_equalIn_agg w 9999 216 _ _ hS (by kernel_rfl)]
 simp only [Program.fieldsOf,Tryz.underlying216]
 go_simp
 by_cases h0:x0=y0 <;> by_cases h1:x1=y1 <;> simp [h0,h1]
theorem aRq:Tryz.prog.eqGuardType Tryz.prog.depth 216=false:=by kernel_rfl
theorem aL3 : ∀ (x0:List UInt8) (x1:Int) (y0:List UInt8) (y1:Int) (w:World),(Op.equalIn 10000 54 (.agg #[str x0,i64 x1]) (.agg #[str y0,i64 y1])).run Tryz.prog w = .ok (decide (x0=y0∧x1=y1)) w:=by
 intro x0 x1 y0 y1 w
 have hS:Tryz.prog.underlying 54=some (.struct (Tryz.prog.fieldsOf 54)):=by kernel_rfl
 rw [show (10000:Nat)=9999+1 from rfl,run_equalIn_agg w 9999 54 _ _ hS (by kernel_rfl)]
 simp only [Program.fieldsOf,Tryz.underlying54]
 go_simp
 by_cases h0:x0=y0 <;> by_cases h1:x1=y1 <;> simp [h0,h1]
theorem aL2:Tryz.prog.eqGuardType Tryz.prog.depth 54=false:=by kernel_rfl
theorem aRu : ∀ (x0:List UInt8) (x1:Int) (x2:List UInt8) (y0:List UInt8) (y1:Int) (y2:List UInt8) (w:World),(Op.equalIn 10000 278 (.agg #[str x0,i64 x1,str x2]) (.agg #[str y0,i64 y1,str y2])).run Tryz.prog w = .ok (decide (x0=y0∧x1=y1∧x2=y2)) w:=by
 intro x0 x1 x2 y0 y1 y2 w
 have hS:Tryz.prog.underlying 278=some (.struct (Tryz.prog.fieldsOf 278)):=by kernel_rfl
 rw [show (10000:Nat)=9999+1 from rfl,run_equalIn_agg w 9999 278 _ _ hS (by kernel_rfl)]
 simp only [Program.fieldsOf,Tryz.underlying278]
 go_simp
 by_cases h0:x0=y0 <;> by_cases h1:x1=y1 <;> by_cases h2:x2=y2 <;> simp [h0,h1,h2]
theorem aRr:Tryz.prog.eqGuardType Tryz.prog.depth 278=false:=by kernel_rfl
theorem C1:cU Tryz.prog 110 1 1:=bP (n:=0) (f:=⟨_,_,1,_,_,_,_⟩) Tryz.underlying110 rfl (by kernel_rfl)
theorem tF:OneCell Tryz.prog 32:=iK Tryz.underlying32 rfl
theorem aZk:((Tryz.prog.info? 3).map (·.size)).isSome=true:=by kernel_rfl
theorem aZi:((Tryz.prog.info? 3).map fun i=>(i.size,i.bytes,(i.zero.map fun z=>z.cells.size)))=some (1,8,some 1):=by kernel_rfl
theorem aL5:((Tryz.prog.info? 32).map fun i=>(i.size,i.zero.isSome))=some (1,true):=by kernel_rfl
theorem aL1:((Tryz.prog.info? 32).map fun i=>(i.size,i.bytes,(i.zero.map fun z=>z.cells.size)))=some (1,24,some 1):=by kernel_rfl
theorem MD:(Tryz.prog.info? 32).map (·.size)=some 1:=by kernel_rfl
theorem GH:cU Tryz.prog 110 0 0:=bP (n:=0) (f:=⟨_,_,0,_,_,_,_⟩) Tryz.underlying110 rfl (by kernel_rfl)
theorem KC:cU Tryz.prog 110 2 2:=bP (n:=0) (f:=⟨_,_,2,_,_,_,_⟩) Tryz.underlying110 rfl (by kernel_rfl)
theorem yN:cU Tryz.prog 110 3 3:=bP (n:=0) (f:=⟨_,_,3,_,_,_,_⟩) Tryz.underlying110 rfl (by kernel_rfl)
theorem aWa:((Tryz.prog.info? 26).map fun i=>(i.size,i.zero.isSome))=some (1,true):=by kernel_rfl
theorem aL0:p7 Tryz.prog 71 21:=nB Tryz.underlying71 rfl (by kernel_rfl)
theorem aH7:cU Tryz.prog 71 0 0:=bP (n:=16) (f:=⟨_,_,0,_,_,_,_⟩) Tryz.underlying71 rfl (by kernel_rfl)
theorem KI:cU Tryz.prog 71 1 17:=bP (n:=0) (f:=⟨_,_,17,_,_,_,_⟩) Tryz.underlying71 rfl (by kernel_rfl)
theorem N9:cU Tryz.prog 71 2 18:=bP (n:=0) (f:=⟨_,_,18,_,_,_,_⟩) Tryz.underlying71 rfl (by kernel_rfl)
theorem DW:OneCell Tryz.prog 69:=iK Tryz.underlying69 rfl
theorem OA:cU Tryz.prog 71 3 19:=bP (n:=0) (f:=⟨_,_,19,_,_,_,_⟩) Tryz.underlying71 rfl (by kernel_rfl)
theorem aRv:cU Tryz.prog 71 4 20:=bP (n:=0) (f:=⟨_,_,20,_,_,_,_⟩) Tryz.underlying71 rfl (by kernel_rfl)
theorem aRz:((Tryz.prog.info? 184).map fun i=>(i.size,i.zero.isSome))=some (3,true):=by kernel_rfl
theorem aRg:((Tryz.prog.info? 184).map fun i=>(i.size,i.bytes,(i.zero.map fun z=>z.cells.size)))=some (3,40,some 3):=by kernel_rfl
theorem aSF:((Tryz.prog.info? 219).map fun i=>(i.size,i.zero.isSome))=some (6,true):=by kernel_rfl
theorem aRn:((Tryz.prog.info? 219).map fun i=>(i.size,i.bytes,(i.zero.map fun z=>z.cells.size)))=some (6,64,some 6):=by kernel_rfl
theorem aSB:((Tryz.prog.info? 205).map fun i=>(i.size,i.zero.isSome))=some (2,true):=by kernel_rfl
theorem aRj:((Tryz.prog.info? 205).map fun i=>(i.size,i.bytes,(i.zero.map fun z=>z.cells.size)))=some (2,24,some 2):=by kernel_rfl
theorem aSC:((Tryz.prog.info? 209).map fun i=>(i.size,i.zero.isSome))=some (4,true):=by kernel_rfl
theorem aRk:((Tryz.prog.info? 209).map fun i=>(i.size,i.bytes,(i.zero.map fun z=>z.cells.size)))=some (4,72,some 4):=by kernel_rfl
theorem aSH:((Tryz.prog.info? 316).map fun i=>(i.size,i.zero.isSome))=some (3,true):=by kernel_rfl
theorem aRo:((Tryz.prog.info? 316).map fun i=>(i.size,i.bytes,(i.zero.map fun z=>z.cells.size)))=some (3,40,some 3):=by kernel_rfl
theorem aJt:(Tryz.prog.info? 82).map (·.size)=some 17:=by kernel_rfl
theorem aEx:p7 Tryz.prog 82 17:=nB Tryz.underlying82 rfl (by kernel_rfl)
theorem SO:(Tryz.prog.info? 86).map (·.size)=some 21:=by kernel_rfl
theorem pW:cU Tryz.prog 86 1 17:=bP (n:=0) (f:=⟨_,_,17,_,_,_,_⟩) Tryz.underlying86 rfl (by kernel_rfl)
theorem uK:OneCell Tryz.prog 83:=iK Tryz.underlying83 rfl
theorem aHc:((Tryz.prog.info? 115).map fun i=>(i.size,i.zero.isSome))=some (4,true):=by kernel_rfl
theorem aH5:((Tryz.prog.info? 115).map fun i=>(i.size,i.bytes,(i.zero.map fun z=>z.cells.size)))=some (4,72,some 4):=by kernel_rfl
theorem aSL:(Tryz.prog.info? 83).map (·.size)=some 1:=by kernel_rfl
theorem aWc:((Tryz.prog.info? 82).map fun i=>(i.size,i.zero.isSome))=some (17,true):=by kernel_rfl
theorem aW9:((Tryz.prog.info? 82).map fun i=>(i.size,i.bytes,(i.zero.map fun z=>z.cells.size)))=some (17,304,some 17):=by kernel_rfl
theorem aAm:cU Tryz.prog 86 2 18:=bP (n:=0) (f:=⟨_,_,18,_,_,_,_⟩) Tryz.underlying86 rfl (by kernel_rfl)
theorem aFE:(Tryz.prog.info? 84).map (·.size)=some 1:=by kernel_rfl
theorem aAn:cU Tryz.prog 86 3 19:=bP (n:=0) (f:=⟨_,_,19,_,_,_,_⟩) Tryz.underlying86 rfl (by kernel_rfl)
theorem DV:p7 Tryz.prog 86 21:=nB Tryz.underlying86 rfl (by kernel_rfl)
theorem aHa:cU Tryz.prog 86 0 0:=bP (n:=16) (f:=⟨_,_,0,_,_,_,_⟩) Tryz.underlying86 rfl (by kernel_rfl)
theorem OB:cU Tryz.prog 82 0 0:=bP (n:=0) (f:=⟨_,_,0,_,_,_,_⟩) Tryz.underlying82 rfl (by kernel_rfl)
theorem FV:OneCell Tryz.prog 73:=iK Tryz.underlying73 rfl
theorem aHd:((Tryz.prog.info? 196).map fun i=>(i.size,i.zero.isSome))=some (2,true):=by kernel_rfl
theorem pN:(Tryz.prog.info? 43).map (·.size)=some 2:=by kernel_rfl
theorem mP:p7 Tryz.prog 43 2:=nB Tryz.underlying43 rfl (by kernel_rfl)
theorem IQ:(Tryz.prog.info? 184).map (·.size)=some 3:=by kernel_rfl
theorem aRc:p7 Tryz.prog 184 3:=nB Tryz.underlying184 rfl (by kernel_rfl)
theorem GK:cU Tryz.prog 184 0 0:=bP (n:=0) (f:=⟨_,_,0,_,_,_,_⟩) Tryz.underlying184 rfl (by kernel_rfl)
theorem aD9:cU Tryz.prog 184 1 1:=bP (n:=0) (f:=⟨_,_,1,_,_,_,_⟩) Tryz.underlying184 rfl (by kernel_rfl)
theorem aDa:cU Tryz.prog 184 2 2:=bP (n:=0) (f:=⟨_,_,2,_,_,_,_⟩) Tryz.underlying184 rfl (by kernel_rfl)
theorem xG:cU Tryz.prog 43 1 1:=bP (n:=0) (f:=⟨_,_,1,_,_,_,_⟩) Tryz.underlying43 rfl (by kernel_rfl)
theorem EI:cU Tryz.prog 43 0 0:=bP (n:=0) (f:=⟨_,_,0,_,_,_,_⟩) Tryz.underlying43 rfl (by kernel_rfl)
theorem IP:OneCell Tryz.prog 41:=iK Tryz.underlying41 rfl
theorem aRi:((Tryz.prog.info? 196).map fun i=>(i.size,i.bytes,(i.zero.map fun z=>z.cells.size)))=some (2,24,some 2):=by kernel_rfl
theorem aAk:cU Tryz.prog 82 1 1:=bP (n:=0) (f:=⟨_,_,1,_,_,_,_⟩) Tryz.underlying82 rfl (by kernel_rfl)
theorem aEz:OneCell Tryz.prog 74:=iK Tryz.underlying74 rfl
theorem DX:(Tryz.prog.info? 219).map (·.size)=some 6:=by kernel_rfl
theorem aH4:p7 Tryz.prog 219 6:=nB Tryz.underlying219 rfl (by kernel_rfl)
theorem wK:cU Tryz.prog 219 0 0:=bP (n:=0) (f:=⟨_,_,0,_,_,_,_⟩) Tryz.underlying219 rfl (by kernel_rfl)
theorem C5:cU Tryz.prog 219 1 1:=bP (n:=0) (f:=⟨_,_,1,_,_,_,_⟩) Tryz.underlying219 rfl (by kernel_rfl)
theorem aDe:cU Tryz.prog 219 2 2:=bP (n:=0) (f:=⟨_,_,2,_,_,_,_⟩) Tryz.underlying219 rfl (by kernel_rfl)
theorem aOl:cU Tryz.prog 219 4 4:=bP (n:=0) (f:=⟨_,_,4,_,_,_,_⟩) Tryz.underlying219 rfl (by kernel_rfl)
theorem aOm:cU Tryz.prog 219 5 5:=bP (n:=0) (f:=⟨_,_,5,_,_,_,_⟩) Tryz.underlying219 rfl (by kernel_rfl)
theorem aDf:cU Tryz.prog 219 3 3:=bP (n:=0) (f:=⟨_,_,3,_,_,_,_⟩) Tryz.underlying219 rfl (by kernel_rfl)
theorem BH:cU Tryz.prog 82 2 2:=bP (n:=0) (f:=⟨_,_,2,_,_,_,_⟩) Tryz.underlying82 rfl (by kernel_rfl)
theorem FW:OneCell Tryz.prog 75:=iK Tryz.underlying75 rfl
theorem MC:(Tryz.prog.info? 205).map (·.size)=some 2:=by kernel_rfl
theorem aRd:p7 Tryz.prog 205 2:=nB Tryz.underlying205 rfl (by kernel_rfl)
theorem KE:cU Tryz.prog 205 0 0:=bP (n:=0) (f:=⟨_,_,0,_,_,_,_⟩) Tryz.underlying205 rfl (by kernel_rfl)
theorem QK:cU Tryz.prog 205 1 1:=bP (n:=0) (f:=⟨_,_,1,_,_,_,_⟩) Tryz.underlying205 rfl (by kernel_rfl)
theorem tE:cU Tryz.prog 82 3 3:=bP (n:=1) (f:=⟨_,_,3,_,_,_,_⟩) Tryz.underlying82 rfl (by kernel_rfl)
theorem EK:cU Tryz.prog 76 0 0:=bP (n:=0) (f:=⟨_,_,0,_,_,_,_⟩) Tryz.underlying76 rfl (by kernel_rfl)
theorem KJ:cU Tryz.prog 76 1 1:=bP (n:=0) (f:=⟨_,_,1,_,_,_,_⟩) Tryz.underlying76 rfl (by kernel_rfl)
theorem UD:(Tryz.prog.info? 115).map (·.size)=some 4:=by kernel_rfl
theorem aD7:cU Tryz.prog 115 1 1:=bP (n:=0) (f:=⟨_,_,1,_,_,_,_⟩) Tryz.underlying115 rfl (by kernel_rfl)
theorem aH3:p7 Tryz.prog 115 4:=nB Tryz.underlying115 rfl (by kernel_rfl)
theorem aD6:cU Tryz.prog 115 0 0:=bP (n:=0) (f:=⟨_,_,0,_,_,_,_⟩) Tryz.underlying115 rfl (by kernel_rfl)
theorem aOi:cU Tryz.prog 115 2 2:=bP (n:=0) (f:=⟨_,_,2,_,_,_,_⟩) Tryz.underlying115 rfl (by kernel_rfl)
theorem aD8:cU Tryz.prog 115 3 3:=bP (n:=0) (f:=⟨_,_,3,_,_,_,_⟩) Tryz.underlying115 rfl (by kernel_rfl)
theorem aAl:cU Tryz.prog 82 5 16:=bP (n:=0) (f:=⟨_,_,16,_,_,_,_⟩) Tryz.underlying82 rfl (by kernel_rfl)
theorem aFA:OneCell Tryz.prog 80:=iK Tryz.underlying80 rfl
theorem aL7:(Tryz.prog.info? 209).map (·.size)=some 4:=by kernel_rfl
theorem aRe:p7 Tryz.prog 209 4:=nB Tryz.underlying209 rfl (by kernel_rfl)
theorem aDd:cU Tryz.prog 209 0 0:=bP (n:=0) (f:=⟨_,_,0,_,_,_,_⟩) Tryz.underlying209 rfl (by kernel_rfl)
theorem aOj:cU Tryz.prog 209 1 1:=bP (n:=0) (f:=⟨_,_,1,_,_,_,_⟩) Tryz.underlying209 rfl (by kernel_rfl)
theorem aOk:cU Tryz.prog 209 2 2:=bP (n:=0) (f:=⟨_,_,2,_,_,_,_⟩) Tryz.underlying209 rfl (by kernel_rfl)
theorem aRw:cU Tryz.prog 86 4 20:=bP (n:=0) (f:=⟨_,_,20,_,_,_,_⟩) Tryz.underlying86 rfl (by kernel_rfl)
theorem XJ:cU Tryz.prog 194 0 0:=bP (n:=0) (f:=⟨_,_,0,_,_,_,_⟩) Tryz.underlying194 rfl (by kernel_rfl)
theorem XK:cU Tryz.prog 194 1 1:=bP (n:=0) (f:=⟨_,_,1,_,_,_,_⟩) Tryz.underlying194 rfl (by kernel_rfl)
theorem ZW:(Tryz.prog.info? 196).map (·.size)=some 2:=by kernel_rfl
theorem aDb:cU Tryz.prog 196 0 0:=bP (n:=0) (f:=⟨_,_,0,_,_,_,_⟩) Tryz.underlying196 rfl (by kernel_rfl)
theorem aDc:cU Tryz.prog 196 1 1:=bP (n:=0) (f:=⟨_,_,1,_,_,_,_⟩) Tryz.underlying196 rfl (by kernel_rfl)
theorem aAo:OneCell Tryz.prog 190:=iK Tryz.underlying190 rfl
theorem aH9:cU Tryz.prog 82 4 5:=bP (n:=10) (f:=⟨_,_,5,_,_,_,_⟩) Tryz.underlying82 rfl (by kernel_rfl)
theorem aH8:cU Tryz.prog 79 0 0:=bP (n:=0) (f:=⟨_,_,0,_,_,_,_⟩) Tryz.underlying79 rfl (by kernel_rfl)
theorem aL6:OneCell Tryz.prog 84:=iK Tryz.underlying84 rfl
theorem aDL (b:Nat) (p u:Value) (hp:p = .pointer none∨p=ptr b 0) (hu:u.oneCell'=true):Ct Tryz.prog 188 [ptr b 0] Mo.tt (bT b [p,u] 212) (X:=Unit) (fun _ => .tuple #[]) (fun _=>True) (fun _=>Mo.tt) (fun _=>bT b [ptr b 0,u] 212):=by
 refine Zo Tryz.func188 Tryz.ntmps188 fun c => ?_
 rcases hp with rfl | rfl
 ·
  refine Zq (Zr ?_)
  refine Zm ?_
  refine Zu (aJ rfl) ?_
  refine Zu (aB QL rfl) ?_
  refine Zu (aI aAp rfl rfl) ?_
  refine Zu (aFb Tryz.underlying210 rfl) ?_
  refine Zl ?_
  refine VC.ZU rfl ?_
  refine Zr ?_
  refine Zy ?_
  refine Zu (a0Y (n:=1) Tryz.underlying210 Tryz.underlying287 aSM rfl (by simp)) ?_
  refine Zu (aJE Tryz.func233 rfl rfl (by kernel_rfl) (by kernel_rfl) rfl) ?_
  refine Zu (aTm (n:=2) (cs:=[.pointer none,u]) Tryz.underlying287 Tryz.underlying210 aSM rfl (by kernel_rfl)) ?_
  refine Zu (aJ rfl) ?_
  refine Zu (aB QL rfl) ?_
  refine Zv (vc:=[ptr b 0]) (cs':=[ptr b 0,u]) rfl aWh ?_
  exact VL.nil (pK (.inl rfl) rfl () rfl trivial (fun _ _=>trivial) (by exact fL.out))
 refine Zq (Zr ?_)
 refine Zm ?_
 refine Zu (aJ rfl) ?_
 refine Zu (aB QL rfl) ?_
 refine Zu (aI aAp rfl rfl) ?_
 refine Zu (aFb Tryz.underlying210 rfl) ?_
 refine Zl ?_
 refine VC.rL rfl ?_
 refine Zq (Zr ?_)
 refine Zm ?_
 refine Zu (aJ rfl) ?_
 refine Zu (aB QL rfl) ?_
 refine Zu (aI aAp rfl rfl) ?_
 refine Zm ?_
 refine Zu (a0V Tryz.underlying210 aSM rfl rfl) ?_
 refine Zl ?_
 refine VC.rL rfl ?_
 exact VC.skip (pK (.inl rfl) rfl () rfl trivial (fun _ _=>trivial) (by exact fL.out))
theorem ZS (b:Nat) (l s:bN) (hb:l.length+s.length≤4294967296):Ct Tryz.prog 111 [ptr b 0,str s] Mo.tt (Bd 212 5 b l) (X:=Unit) (fun _ => .tuple #[i64 s.length,.nilIface]) (fun _=>True) (fun _=>Mo.tt) (fun _=>Bd 212 5 b (l++s)):=by
 refine Ct.aSx (E1:=fun z => ∃ q:Value×Sv UInt8,((q.1 = .pointer none∨q.1=ptr b 0)∧q.2.l=l∧(q.2.c=0→q.2.a=none))∧Ow.star (bT b [q.1,q.2.val] 212) (q.2.own 5) z) (Ct.exE (GF Tryz.func111 rfl (by kernel_rfl)) ?_) (fun z ⟨p,q,h1,h2,h3,h4⟩=>⟨(p,q),⟨h1,h2,h3⟩,h4⟩)
 rintro ⟨p,q⟩ ⟨hp,hl,hc⟩
 dsimp only at hp hl hc ⊢
 refine Zo Tryz.func111 Tryz.ntmps111 fun c => ?_
 refine Zq (Zr ?_)
 refine Zy ?_
 refine Zq (Zr ?_)
 refine Zm ?_
 refine VL.cT (aDL b p q.val hp rfl) rfl (by decide) ?_
 rintro _ _
 refine Zl ?_
 refine Zq (Zr ?_)
 refine Zy ?_
 refine Zu (aJ rfl) ?_
 refine Zu (aB QM rfl) ?_
 refine Zu (aI z6 rfl rfl) ?_
 refine Zm ?_
 refine VL.aYt (s:=q) (r:=s) Tryz.underlying22 Tryz.underlying9 aZj rfl Fo.out (by rw [hl]; exact hb) (by decide) fun q2 hq2 hc2 => ?_
 refine Zu (aJ rfl) ?_
 refine Zu (aB QM rfl) ?_
 refine Zv (vc:=[q2.val]) (cs':=[ptr b 0,q2.val]) rfl aFB ?_
 refine Zl ?_
 refine Zq (Zr ?_)
 refine Zm ?_
 refine Zu (iH Tryz.underlying9 rfl) ?_
 refine Zy ?_
 exact VC.ret (KB (.inr rfl) rfl rfl rfl () rfl trivial (fun _ _=>trivial) (fun z hz=>Bd.mk (p:=ptr b 0) (s:=q2) (.inr rfl) (by rw [hq2,hl]) (hc2 hc) ((fL.out (E':=Ow.star (bT b [ptr b 0,q2.val] 212) (q2.own 5))) z hz)))
theorem aKY (b:Nat) (l:bN):Ct Tryz.prog 114 [ptr b 0] Mo.tt (Bd 212 5 b l) (X:=Unit) (fun _=>str l) (fun _=>True) (fun _=>Mo.tt) (fun _=>Ow.emp):=by
 refine Ct.aSx (E1:=fun z => ∃ q:Value×Sv UInt8,((q.1 = .pointer none∨q.1=ptr b 0)∧q.2.l=l∧(q.2.c=0→q.2.a=none))∧Ow.star (bT b [q.1,q.2.val] 212) (q.2.own 5) z) (Ct.exE (GF Tryz.func114 rfl (by kernel_rfl)) ?_) (fun z ⟨p,q,h1,h2,h3,h4⟩=>⟨(p,q),⟨h1,h2,h3⟩,h4⟩)
 rintro ⟨p,q⟩ ⟨hp,rfl,hc⟩
 dsimp only at hp hc ⊢
 refine Zo Tryz.func114 Tryz.ntmps114 fun c => ?_
 refine Zq (Zr ?_)
 refine Zy ?_
 refine Zq ?_
 refine VC.draw [(0,true),(1,true),(2,true),(3,true),(4,true),(5,true),(6,true),(7,true),(8,true),(9,true),(10,false),(11,true)] mixed (by kernel_rfl) (by kernel_rfl) (by kernel_rfl) ?_
 refine Zw rfl (bI rfl) ?_
 refine Zw rfl (aJ rfl) ?_
 refine Zw rfl (aB QM rfl) ?_
 refine Zw rfl (aI z6 rfl rfl) ?_
 refine Zw rfl (aTs (s:=q) rfl hc) ?_
 refine Zw rfl (bI rfl) ?_
 refine Zw rfl (aJ rfl) ?_
 refine Zw rfl (aB QM rfl) ?_
 refine Zw rfl (aI z6 rfl rfl) ?_
 refine Zw rfl (fH (s:=q) Tryz.underlying22 rfl) ?_
 refine VD.one rfl ?_
 refine VL.aU4 (s:=q) (e:=5) rfl Fo.out (by decide) (fun w h z o l k m=>St.aU4 (e:=5) Tryz.underlying305 (by kernel_rfl) o l k m) ?_
 refine VL.back (D':=[]) (by kernel_rfl) aF.nil ?_
 refine Zw rfl (iG rfl) ?_
 refine VD.to (fun _ _ h=>h) ?_
 exact Ze
theorem aK3 (b:Nat) (p:bN) (a:Int) (e:Er):Ct Tryz.prog 335 [ptr b 0] (Cells b 0 [str p,i64 a,e.val]) Ow.emp (X:=Unit) (fun _=>e.val) (fun _=>True) (fun _=>Mo.tt) (fun _=>Ow.emp):=by
 refine Zo Tryz.func335 Tryz.ntmps335 fun c => ?_
 refine Zq (Zr ?_)
 refine Zy ?_
 refine Zq (Zr ?_)
 refine Zm ?_
 refine Zu (aJ rfl) ?_
 refine Zu (aB XL rfl) ?_
 refine Zu (FL IN rfl rfl) ?_
 refine Zy ?_
 exact Ze
theorem aK4 (v:Value):J5 Tryz.prog (.iface 190 v) "Unwrap" 335 v:=J5.of fun w=>by kernel_rfl
theorem aEb (z0:Er) (n:Int) (h0:z0.pl.isNil=false):Ct Tryz.prog 174 [z0.val,.iface 131 (i64 n),.bool true] z0.ok Ow.emp (X:=Unit) (fun _ => .bool (decide (E7 z0.pl=some n))) (fun _=>True) (fun _=>Mo.tt) (fun _=>Ow.emp):=by
 refine Zo Tryz.func174 Tryz.ntmps174 fun c => ?_
 refine Zq (Zr ?_)
 refine Zy ?_
 refine Zb ?_
 refine VC.aZx (S:=Er) (fun z=>E7 z.pl=E7 z0.pl∧z.pl.isNil=false) (fun z=>[(0,z.val),(1,.iface 131 (i64 n)),(2,.bool true)]) (fun z=>z.ok) (fun _=>Ow.emp) Er.dep z0 [0,1,2] ⟨rfl,h0⟩ rfl (fun _ m=>m) (fun _ e=>e) ?_
 rintro z ⟨hz,hn⟩
 cases z with
 | nil=>cases hn
 | no m =>
   refine Zb (Zq (Zq (Zr ?_)))
   refine Zy ?_
   refine Zh (aXn (a:=m) (b:=n) Tryz.underlying26 Tryz.underlying131 (by kernel_rfl) rfl rfl) ?_
   refine Zy ?_
   have hz':some m=E7 z0.pl:=hz
   refine VC.XE rfl (fun h => ?_) (fun h => ?_)
   . refine VC.seq ?_
     refine Zr ?_
     refine Zy ?_
     exact VC.ret (iU (.inr rfl) rfl rfl () (congrArg Value.bool (by rw [← hz',h]; simp)) trivial (fun _ _=>trivial) (fun _ _=>trivial))
   refine Zk ?_
   refine Zq (Zq (Zr ?_))
   refine Zm ?_
   refine Zu (aJH rfl fun w=>run_typeAssert_lacksB (z := .nilIface) Tryz.underlying329 (by kernel_rfl) (by kernel_rfl) _ _ w) ?_
   refine Zm ?_
   refine Zu (gB rfl rfl) ?_
   refine Zu (gB rfl rfl) ?_
   refine Zy ?_
   refine Zq (Zr ?_)
   refine Zy ?_
   refine VC.rL rfl ?_
   refine Zk ?_
   refine Zq (Zr ?_)
   refine Zy ?_
   refine Zb (Zq (Zr ?_))
   refine Zu (aJH rfl fun w=>run_typeAssert_lacksB (z := .nilIface) Tryz.underlying332 (by kernel_rfl) (by kernel_rfl) _ _ w) ?_
   refine Zu (gB rfl rfl) ?_
   refine Zu (gB rfl rfl) ?_
   refine Zl ?_
   refine VC.rL rfl ?_
   refine Zq (Zr ?_)
   refine Zu (aJH rfl fun w=>run_typeAssert_lacksB (z := .nilIface) Tryz.underlying333 (by kernel_rfl) (by kernel_rfl) _ _ w) ?_
   refine Zu (gB rfl rfl) ?_
   refine Zu (gB rfl rfl) ?_
   refine Zl ?_
   refine VC.rL rfl ?_
   refine Zq (Zr ?_)
   refine Zy ?_
   refine Zq (Zr ?_)
   refine Zy ?_
   exact VC.ret (iU (.inr rfl) rfl rfl () (congrArg Value.bool (by rw [← hz']; exact (decide_eq_false fun q=>h (Option.some.inj q)).symm)) trivial (fun _ _=>trivial) (fun _ _=>trivial))
 | fault b p a e =>
   refine VC.IJ (Cells b 0 [str p,i64 a,e.val]) (fun _ m=>m.1) ?_
   refine VC.IJ e.ok (fun _ m=>m.2.2) ?_
   refine Zb (Zq (Zq (Zr ?_)))
   refine Zy ?_
   refine Zh (aXl (t1:=190) (t2:=131) (a:=ptr b 0) (b:=i64 n) Tryz.underlying26 (by decide) rfl rfl) ?_
   refine Zy ?_
   have hz':E7 e.pl=E7 z0.pl:=hz
   refine VC.rL rfl ?_
   refine Zk ?_
   refine Zq (Zq (Zr ?_))
   refine Zm ?_
   refine Zu (aJH rfl fun w=>run_typeAssert_lacksB (z := .nilIface) Tryz.underlying329 (by kernel_rfl) (by kernel_rfl) _ _ w) ?_
   refine Zm ?_
   refine Zu (gB rfl rfl) ?_
   refine Zu (gB rfl rfl) ?_
   refine Zy ?_
   refine Zq (Zr ?_)
   refine Zy ?_
   refine VC.rL rfl ?_
   refine Zk ?_
   refine Zq (Zr ?_)
   refine Zy ?_
   refine Zb (Zq (Zr ?_))
   refine Zu (aJH rfl fun w=>run_typeAssert_hasB Tryz.underlying332 (by kernel_rfl) _ _ w) ?_
   refine Zu (gB rfl rfl) ?_
   refine Zu (gB rfl rfl) ?_
   refine Zl ?_
   refine VC.ZU rfl ?_
   refine Zq (Zr ?_)
   refine Zy ?_
   refine Zq (Zr ?_)
   refine Zm ?_
   refine Zu (aTo rfl (aK4 (ptr b 0)) (aK3 b p a e) (fun _ _=>rfl)) ?_
   refine Zy ?_
   refine Zq (Zr ?_)
   refine Zm ?_
   refine Zu (vT Tryz.underlying26 (z:=e) rfl) ?_
   refine Zl ?_
   refine VC.XE rfl (fun h => ?_) (fun h => ?_)
   . refine VC.seq ?_
     refine Zr ?_
     refine Zy ?_
     exact VC.ret (iU (.inr rfl) rfl rfl () (congrArg Value.bool (by
       rw [← hz']
       cases e with
       | nil=>rfl
       | no m=>cases h
       | fault _ _ _ _=>cases h)) trivial (fun _ _=>trivial) (fun _ _=>trivial))
   . exact VC.aEO e [0,1,2] (fun _ _ h=>h) ⟨⟨hz',by simpa using h⟩,Nat.lt_succ_self _⟩ rfl (fun _ m=>m.1) (fun _ e=>e)
theorem aK0 (v:Value) (w:World):(Extern.ReflectliteType.typeOf #[.iface 131 v]).run Tryz.prog w = .ok (.iface 327 (.agg #[.pointer (some ⟨7,131,none⟩)])) w:=by kernel_rfl
theorem aQL (w:World):(Extern.ReflectliteType.method (fun t=>do Extern.Rtype.noPackHeld "Comparable" t; pure (.bool (← typeInfo t).comparable)) #[.agg #[.pointer (some ⟨7,131,none⟩)]]).run Tryz.prog w = .ok (.bool true) w:=by kernel_rfl
theorem aQK (v:Value):J5 Tryz.prog (.iface 327 v) "Comparable" 342 v:=J5.of fun w=>by kernel_rfl
theorem aZw (z0:Er) (n:Int):Ct Tryz.prog 95 [z0.val,.iface 131 (i64 n)] z0.ok Ow.emp (X:=Unit) (fun _ => .bool (decide (E7 z0.pl=some n))) (fun _=>True) (fun _=>Mo.tt) (fun _=>Ow.emp):=by
 refine Zo Tryz.func95 Tryz.ntmps95 fun c => ?_
 have fin:z0.pl.isNil=false → ∀ Q:Exit→Act→World→Prop,Q=bodyPost Tryz.prog Tryz.f95 (fun en w' => ∃ r,en = .returned r∧Post (X:=Unit) (fun _ => .bool (decide (E7 z0.pl=some n))) (fun _=>True) (fun _=>Mo.tt) (fun _=>Ow.emp) c r w')→True:=fun _ _ _=>trivial
 refine Zq (Zr ?_)
 refine Zy ?_
 refine Zq (Zq (Zr ?_))
 refine Zm ?_
 by_cases hn:z0 = .nil
 ·
  subst hn
  refine Zu (aJD Tryz.underlying26 rfl) ?_
  refine Zy ?_
  refine VC.ZU rfl ?_
  refine Zq (Zr ?_)
  refine Zy ?_
  refine Zu (aXm (T:=131) (u:=i64 n) Tryz.underlying26 rfl rfl) ?_
  refine Zy ?_
  exact Ze
 have hn':z0.pl.isNil=false:=by
   cases z0 with
   | nil=>exact absurd rfl hn
   | no m=>rfl
   | fault _ _ _ _=>rfl
 refine VL.q (v := .bool false) (by
   cases z0 with
   | nil=>exact absurd rfl hn
   | no m=>exact V0 Tryz.underlying26 rfl
   | fault _ _ _ _=>exact V0 Tryz.underlying26 rfl) (by decide) ?_
 refine Zy ?_
 refine Zh (V0 Tryz.underlying26 rfl) ?_
 refine Zy ?_
 refine VC.rL rfl ?_
 refine Zk ?_
 refine Zq (Zr ?_)
 refine Zm ?_
 refine Zu (X9 Tryz.func173 rfl rfl (by kernel_rfl) (by kernel_rfl) rfl (aK0 _)) ?_
 refine Zu (aXo rfl (aQK _) Tryz.func342 rfl rfl (by kernel_rfl) (by kernel_rfl) aQL) ?_
 refine Zy ?_
 refine Zq (Zr ?_)
 refine Zy ?_
 refine Zu (cZ (aEb z0 n hn') rfl (fun _ _=>rfl)) ?_
 refine Zy ?_
 exact Ze
open Go.Extern.Stop Go.Stop Go.Extern Go.RowKit in
section
end
namespace As
open Go.Extern Go.Extern.Stop
theorem aHH (t:Addr) (w:World):(ReflectliteValue.unpack (.iface 192 (.pointer (some t)))).run Tryz.prog w
    = .ok (.agg #[.pointer (some ⟨7,192,none⟩),.pointer (some ⟨w.heap.size,0,none⟩),.int .u64 150]) (w.alloc (.cells #[.pointer (some t)] 192)):=by kernel_rfl
theorem aPo (a:Addr) (w:World):(ReflectliteValue.methodAny (ReflectliteValue.valueError "reflectlite.Value.Type" 0) (fun t _ _ _=>ReflectliteType.toType t) #[.agg #[.pointer (some ⟨7,192,none⟩),.pointer (some a),.int .u64 150]]).run Tryz.prog w
    = .ok (.iface 327 (.agg #[.pointer (some ⟨7,192,none⟩)])) w:=by kernel_rfl
theorem aNg (h:Value) (w:World):(Go.method 540 327 (.agg #[h]) "Kind").run Tryz.prog w = .ok (324,h) w:=by kernel_rfl
theorem aNb (w:World):((ReflectliteType.abiMethod fun t=>(fun a:Nat=>Value.int IntKind.u8 (a:Int)) <$> Rtype.kind t) #[.pointer (some ⟨7,192,none⟩)]).run Tryz.prog w = .ok (.int .u8 22) w:=by kernel_rfl
theorem aNc (w:World):((ReflectliteType.abiMethod fun t=>(fun a:Nat=>Value.int IntKind.u8 (a:Int)) <$> Rtype.kind t) #[.pointer (some ⟨7,190,none⟩)]).run Tryz.prog w = .ok (.int .u8 22) w:=by kernel_rfl
theorem aLM (z:Sem Value) (f:TypeId→Addr→Nat→Nat→Sem Value) (v:Value) :
    ReflectliteValue.method z f #[v]=(do match ← ReflectliteValue.parts v with | none=>z | some (t,a,fl)=>f t a fl (fl % 32)):=rfl
theorem aAL (a:Addr) (w:World):(ReflectliteValue.parts (.agg #[.pointer (some ⟨7,192,none⟩),.pointer (some a),.int .u64 150])).run Tryz.prog w = .ok (some (192,a,150)) w:=by kernel_rfl
theorem aNa (a p:Addr) (W:World) (ha:W.cell? a=some (.pointer (some p))) :
 (ReflectliteValue.method (ReflectliteValue.valueError "reflectlite.Value.IsNil" 0) ReflectliteValue.isNil #[.agg #[.pointer (some ⟨7,192,none⟩),.pointer (some a),.int .u64 150]]).run Tryz.prog W = .ok (.bool false) W:=by
 rw [aLM]
 simp only [Sem.run_bind,aAL,Result.andThen]
 simp [ReflectliteValue.isNil,loadVar,isAgg,underlying,Tryz.underlying192,ha,Result.andThen]
theorem aNe (h:Value) (w:World):(Go.method 540 327 (.agg #[h]) "Elem").run Tryz.prog w = .ok (343,.agg #[h]) w:=by kernel_rfl
theorem aNf (h:Value) (w:World):(Go.method 540 327 (.agg #[h]) "Implements").run Tryz.prog w = .ok (344,.agg #[h]) w:=by kernel_rfl
theorem aNd (h:Value) (w:World):(Go.method 540 327 (.agg #[h]) "AssignableTo").run Tryz.prog w = .ok (341,.agg #[h]) w:=by kernel_rfl
theorem aN8 (w:World):(ReflectliteType.method ReflectliteType.elem #[.agg #[.pointer (some ⟨7,192,none⟩)]]).run Tryz.prog w = .ok (.iface 327 (.agg #[.pointer (some ⟨7,190,none⟩)])) w:=by kernel_rfl
theorem aN9 (w:World):(ReflectliteType.relation "Implements" ReflectliteType.implements_ #[.agg #[.pointer (some ⟨7,190,none⟩)],.iface 327 (.agg #[.pointer (some ⟨7,26,none⟩)])]).run Tryz.prog w = .ok (.bool true) w:=by kernel_rfl
theorem aHG (v:Value) (w:World):(ReflectliteType.typeOf #[.iface 190 v]).run Tryz.prog w = .ok (.iface 327 (.agg #[.pointer (some ⟨7,190,none⟩)])) w:=by kernel_rfl
theorem aN7 (w:World):(ReflectliteType.relation "AssignableTo" ReflectliteType.assignableTo #[.agg #[.pointer (some ⟨7,190,none⟩)],.iface 327 (.agg #[.pointer (some ⟨7,190,none⟩)])]).run Tryz.prog w = .ok (.bool true) w:=by kernel_rfl
theorem aE2 (e:Addr) (w:World):(ReflectliteValue.unpack (.iface 190 (.pointer (some e)))).run Tryz.prog w
    = .ok (.agg #[.pointer (some ⟨7,190,none⟩),.pointer (some ⟨w.heap.size,0,none⟩),.int .u64 150]) (w.alloc (.cells #[.pointer (some e)] 190)):=by kernel_rfl
theorem aHE (w:World):(Rtype.elem? 192).run Tryz.prog w = .ok (some 190) w:=by kernel_rfl
theorem aVL (p:Addr) (w:World):(ReflectliteValue.mk 190 p ReflectliteValue.flagAddr).run Tryz.prog w = .ok (.agg #[.pointer (some ⟨7,190,none⟩),.pointer (some p),.int .u64 406]) w:=by kernel_rfl
theorem aJ9 (a p:Addr) (W:World) (ha:W.cell? a=some (.pointer (some p))) :
 (ReflectliteValue.method (ReflectliteValue.valueError "reflectlite.Value.Elem" 0) ReflectliteValue.elem #[.agg #[.pointer (some ⟨7,192,none⟩),.pointer (some a),.int .u64 150]]).run Tryz.prog W
 = .ok (.agg #[.pointer (some ⟨7,190,none⟩),.pointer (some p),.int .u64 406]) W:=by
 rw [aLM]
 simp only [Sem.run_bind,aAL,Result.andThen]
 simp [ReflectliteValue.elem,loadVar,isAgg,underlying,Tryz.underlying192,ha,Result.andThen,aHE,aVL]
theorem aVM (v x:Value):ReflectliteValue.set #[v,x]=(do
    let (some (dst,a,fl),some (src,b,_)):=(← ReflectliteValue.parts v,← ReflectliteValue.parts x)
      | unsupported (.noEntry "extern/(internal/reflectlite.Value).Set.zeroValue")
    if fl / ReflectliteValue.flagAddr % 2==0 then unsupported (.noEntry "extern/(internal/reflectlite.Value).Set.unaddressable")
    let val ← loadVar src b
    if ← Rtype.directlyAssignable dst src then storeVar dst a val
    else if ← Rtype.implements dst src then
      if (← Rtype.kind src)==20 then
        match val with
        | .nilIface=>unsupported (.noEntry "extern/reflectlite: a nil value of one interface type handed on as a value of another")
        | _=>storeVar dst a val
      else storeVar dst a (.iface src val)
    else panicString ("reflectlite.Set: value of type " ++ (← Rtype.spelt src) ++ " is not assignable to type " ++ (← Rtype.spelt dst))
    pure (.tuple #[])):=rfl
theorem aHF (a:Addr) (w:World):(ReflectliteValue.parts (.agg #[.pointer (some ⟨7,190,none⟩),.pointer (some a),.int .u64 406])).run Tryz.prog w = .ok (some (190,a,406)) w:=by kernel_rfl
theorem aJa (a:Addr) (w:World):(ReflectliteValue.parts (.agg #[.pointer (some ⟨7,190,none⟩),.pointer (some a),.int .u64 150])).run Tryz.prog w = .ok (some (190,a,150)) w:=by kernel_rfl
theorem aHD (w:World):(Rtype.directlyAssignable 190 190).run Tryz.prog w = .ok true w:=by kernel_rfl
theorem aPn (ta b e:Addr) (old:Value) (W:World) (hb:W.cell? b=some (.pointer (some e))) (ht:W.cell? ta=some old) (hf:W.frozen? ta=false) :
 (ReflectliteValue.set #[.agg #[.pointer (some ⟨7,190,none⟩),.pointer (some ta),.int .u64 406],.agg #[.pointer (some ⟨7,190,none⟩),.pointer (some b),.int .u64 150]]).run Tryz.prog W
 = .ok (.tuple #[]) (W.setCell ta (.pointer (some e))):=by
 rw [aVM]
 simp only [Sem.run_bind,aHF,aJa,Result.andThen]
 simp [ReflectliteValue.flagAddr,loadVar,isAgg,underlying,Tryz.underlying190,hb,Result.andThen,aHD,storeVar,Value.cells,storeCells,Addr.add]
 rw [run_store Tryz.prog W ta _ _ (by rfl)]
 simp [ht,hf]
theorem aVK (e t:Addr) (old:Value) (w:World) (hg:w.cell? ⟨0,0,none⟩=some (.iface 327 (.agg #[.pointer (some ⟨7,26,none⟩)]))) (ht0:w.cell? t=some old) (hf0:w.frozen? t=false) :
 Calls Tryz.prog 96 #[.iface 190 (.pointer (some e)),.iface 192 (.pointer (some t))] w fun ev w'=>ev = .returned (.bool true)∧w'=((((w.alloc (.cells #[.pointer (some t)] 192)).alloc (.cells #[.pointer (some ⟨7,192,none⟩),.pointer (some ⟨w.heap.size,0,none⟩),.int .u64 150] 290)).alloc (.cells #[.pointer (some ⟨7,192,none⟩),.pointer (some ⟨w.heap.size,0,none⟩),.int .u64 150] 290)).alloc (.cells #[.pointer (some e)] 190)).setCell t (.pointer (some e)):=by
 have h6 := @run_callFunc_extern Tryz.prog 175 _ (fun args=>ReflectliteValue.unpack (args.getD 0 (.tuple #[]))) Tryz.func175 (by kernel_rfl) (by kernel_rfl) (by kernel_rfl) (by kernel_rfl)
 have h7 := @run_callFunc_extern Tryz.prog 176 _ (ReflectliteValue.methodAny (ReflectliteValue.valueError "reflectlite.Value.Type" 0) (fun t _ _ _=>ReflectliteType.toType t)) Tryz.func176 (by kernel_rfl) (by kernel_rfl) (by kernel_rfl) (by kernel_rfl)
 have h8 := @run_callFunc_extern Tryz.prog 177 _ (ReflectliteValue.method (ReflectliteValue.valueError "reflectlite.Value.IsNil" 0) ReflectliteValue.isNil) Tryz.func177 (by kernel_rfl) (by kernel_rfl) (by kernel_rfl) (by kernel_rfl)
 have h27 := @run_callFunc_extern Tryz.prog 324 _ (ReflectliteType.abiMethod fun t=>do pure (.int .u8 (← Rtype.kind t))) Tryz.func324 (by kernel_rfl) (by kernel_rfl) (by kernel_rfl) (by kernel_rfl)
 have h37 := @run_callFunc_extern Tryz.prog 343 _ (ReflectliteType.method ReflectliteType.elem) Tryz.func343 (by kernel_rfl) (by kernel_rfl) (by kernel_rfl) (by kernel_rfl)
 have h38 := @run_callFunc_extern Tryz.prog 344 _ (ReflectliteType.relation "Implements" ReflectliteType.implements_) Tryz.func344 (by kernel_rfl) (by kernel_rfl) (by kernel_rfl) (by kernel_rfl)
 have h10 := @run_callFunc_extern Tryz.prog 173 _ ReflectliteType.typeOf Tryz.func173 (by kernel_rfl) (by kernel_rfl) (by kernel_rfl) (by kernel_rfl)
 have h35 := @run_callFunc_extern Tryz.prog 341 _ (ReflectliteType.relation "AssignableTo" ReflectliteType.assignableTo) Tryz.func341 (by kernel_rfl) (by kernel_rfl) (by kernel_rfl) (by kernel_rfl)
 have h11 := @run_callFunc_extern Tryz.prog 215 _ (ReflectliteValue.method (ReflectliteValue.valueError "reflectlite.Value.Elem" 0) ReflectliteValue.elem) Tryz.func215 (by kernel_rfl) (by kernel_rfl) (by kernel_rfl) (by kernel_rfl)
 have h12 := @run_callFunc_extern Tryz.prog 216 _ ReflectliteValue.set Tryz.func216 (by kernel_rfl) (by kernel_rfl) (by kernel_rfl) (by kernel_rfl)
 have tO:=aHG
 have mA:=aNd
 have a25:=aN7
 have v25:=aE2
 have f6:=aHH
 have f7:=aPo
 have mK:=aNg
 have mE:=aNe
 have mI:=aNf
 have k27:=aNb
 have k25:=aNc
 have e27:=aN8
 have i25:=aN9
 have n8:=aNa ⟨w.heap.size,0,none⟩ t ((w.alloc (.cells #[.pointer (some t)] 192)).alloc (.cells #[.pointer (some ⟨7,192,none⟩),.pointer (some ⟨w.heap.size,0,none⟩),.int .u64 150] 290)) (by simp)
 have hlt:0 < w.heap.size:=by
   rcases Nat.lt_or_ge 0 w.heap.size with h | h
   . exact h
   . simp [World.cell?,Array.getElem?_eq_none h] at hg
 have hg2:((w.alloc (.cells #[.pointer (some t)] 192)).alloc (.cells #[.pointer (some ⟨7,192,none⟩),.pointer (some ⟨w.heap.size,0,none⟩),.int .u64 150] 290)).cell? ⟨0,0,none⟩=some (.iface 327 (.agg #[.pointer (some ⟨7,26,none⟩)])):=by
   rw [World.cell?_alloc_lt _ _ ⟨0,0,none⟩ (by first | (simp; done) | (simp; omega)),World.cell?_alloc_lt _ _ ⟨0,0,none⟩ hlt]; exact hg
 have htl:t.block < w.heap.size:=by
   rcases Nat.lt_or_ge t.block w.heap.size with h | h
   . exact h
   . simp [World.cell?,Array.getElem?_eq_none h] at ht0
 have el:=aJ9 ⟨w.heap.size,0,none⟩ t (((w.alloc (.cells #[.pointer (some t)] 192)).alloc (.cells #[.pointer (some ⟨7,192,none⟩),.pointer (some ⟨w.heap.size,0,none⟩),.int .u64 150] 290)).alloc (.cells #[.pointer (some ⟨7,192,none⟩),.pointer (some ⟨w.heap.size,0,none⟩),.int .u64 150] 290)) (by rw [World.cell?_alloc_lt _ _ ⟨w.heap.size,0,none⟩ (by simp; omega)]; simp)
 have st:=aPn t ⟨w.heap.size+1+1+1,0,none⟩ e old ((((w.alloc (.cells #[.pointer (some t)] 192)).alloc (.cells #[.pointer (some ⟨7,192,none⟩),.pointer (some ⟨w.heap.size,0,none⟩),.int .u64 150] 290)).alloc (.cells #[.pointer (some ⟨7,192,none⟩),.pointer (some ⟨w.heap.size,0,none⟩),.int .u64 150] 290)).alloc (.cells #[.pointer (some e)] 190))
   (by rw [World.cell?_alloc_at _ _ _ _ (by simp)]; rfl)
   (by rw [World.cell?_alloc_lt _ _ t (by simp; omega),World.cell?_alloc_lt _ _ t (by simp; omega),World.cell?_alloc_lt _ _ t (by simp; omega),World.cell?_alloc_lt _ _ t htl]; exact ht0)
   (by rw [World.frozen?_alloc_old _ _ t (by simp; omega),World.frozen?_alloc_old _ _ t (by simp; omega),World.frozen?_alloc_old _ _ t (by simp; omega),World.frozen?_alloc_old _ _ t (Nat.ne_of_lt htl)]; exact hf0)
 go_enter Tryz.func96,Tryz.ntmps96
 go_wp2
 refine wp_loop_rounds 1 ?_
 rw [rounds_succ]
 go_wp2
 go_ret
 exact ⟨rfl,rfl⟩
theorem aZW (b t:Nat):Ct Tryz.prog 96 [.iface 190 (ptr b 0),.iface 192 (ptr t 0)] (J4 0 #[.iface 327 (.agg #[.pointer (some ⟨7,26,none⟩)])]) (bT t [.pointer none] 190) (X:=Unit) (fun _ => .bool true) (fun _=>True) (fun _=>Mo.tt) (fun _=>bT t [ptr b 0] 190) :=
  ⟨GF Tryz.func96 rfl (by kernel_rfl),fun w hp z m ee d l k=>by
    have hb:w.heap[t]? = some (.cells #[.pointer none] 190 (0,0)):=k _ _ ee
    obtain ⟨t1,f1,m1⟩:=m
    have hg:w.heap[0]? = some (.cells #[.iface 327 (.agg #[.pointer (some ⟨7,26,none⟩)])] t1 f1):=l _ _ m1
    have htl:=(Array.getElem?_eq_some_iff.1 hb).1
    refine (aVK ⟨b,0,none⟩ ⟨t,0,none⟩ (.pointer none) w (by simp [World.cell?,hg]) (by simp [World.cell?,hb]) (by simp [World.frozen?,hb])).mono fun en w' ⟨h1,h2⟩=>⟨_,h1,(),rfl,trivial,?_⟩
    have hgr:Gr w ((((w.alloc (.cells #[.pointer (some ⟨t,0,none⟩)] 192)).alloc (.cells #[.pointer (some ⟨7,192,none⟩),.pointer (some ⟨w.heap.size,0,none⟩),.int .u64 150] 290)).alloc (.cells #[.pointer (some ⟨7,192,none⟩),.pointer (some ⟨w.heap.size,0,none⟩),.int .u64 150] 290)).alloc (.cells #[.pointer (some ⟨b,0,none⟩)] 190)):=(((Gr.alloc w _).trans (Gr.alloc _ _)).trans (Gr.alloc _ _)).trans (Gr.alloc _ _)
    exact St.aYQ hb (show z t=_ from ee) d l hgr h2⟩
end As
theorem aDY  {r:eP} (hS:Sh.S3=some r) :
 Ct Tryz.prog 32 [] Mo.tt (Ow.emp) (X:=Unit) (fun _ => .agg #[.slice none 0 0,.slice none 0 0,.slice none 0 0,str [109,97,105,110],i64 0,str [],i64 0,str [],.slice none 0 0,.slice none 0 0,i64 0,str [],str [],i64 0,.slice none 0 0,.slice none 0 0,.slice none 0 0,.slice none 0 0,.slice none 0 0,.slice none 0 0,i64 0]) (fun _=>True) (fun _=>Mo.tt) (fun _=>Ow.emp):=by
 refine Zo Tryz.func32 Tryz.ntmps32 fun c => ?_
 unfold Sh.S3 at hS
 refine Zq (Zr ?_)
 refine VL.alloc (cs:=[.slice none 0 0,.slice none 0 0,.slice none 0 0,str [],i64 0,str [],i64 0,str [],.slice none 0 0,.slice none 0 0,i64 0,str [],str [],i64 0,.slice none 0 0,.slice none 0 0,.slice none 0 0,.slice none 0 0,.slice none 0 0,.slice none 0 0,i64 0]) (by kernel_rfl) (by decide) fun a1f => ?_
 refine Zl ?_
 refine Zq (Zr ?_)
 refine Zu (eO (vs:=[(0,str [109,97,105,110])]) (cs := #[str [109,97,105,110],i64 0]) rfl (by kernel_rfl)) ?_
 refine Zu (eO (vs:=[(3,.agg #[str [109,97,105,110],i64 0])]) (cs := #[.slice none 0 0,.slice none 0 0,.slice none 0 0,str [109,97,105,110],i64 0,str [],i64 0,str [],.slice none 0 0,.slice none 0 0,i64 0,str [],str [],i64 0,.slice none 0 0,.slice none 0 0,.slice none 0 0]) rfl (by kernel_rfl)) ?_
 refine Zu (eO (vs:=[(0,.agg #[.slice none 0 0,.slice none 0 0,.slice none 0 0,str [109,97,105,110],i64 0,str [],i64 0,str [],.slice none 0 0,.slice none 0 0,i64 0,str [],str [],i64 0,.slice none 0 0,.slice none 0 0,.slice none 0 0])]) (cs := #[.slice none 0 0,.slice none 0 0,.slice none 0 0,str [109,97,105,110],i64 0,str [],i64 0,str [],.slice none 0 0,.slice none 0 0,i64 0,str [],str [],i64 0,.slice none 0 0,.slice none 0 0,.slice none 0 0,.slice none 0 0,.slice none 0 0,.slice none 0 0,i64 0]) rfl (by kernel_rfl)) ?_
 refine Zv (vc:=[.slice none 0 0,.slice none 0 0,.slice none 0 0,str [109,97,105,110],i64 0,str [],i64 0,str [],.slice none 0 0,.slice none 0 0,i64 0,str [],str [],i64 0,.slice none 0 0,.slice none 0 0,.slice none 0 0,.slice none 0 0,.slice none 0 0,.slice none 0 0,i64 0]) (cs':=[.slice none 0 0,.slice none 0 0,.slice none 0 0,str [109,97,105,110],i64 0,str [],i64 0,str [],.slice none 0 0,.slice none 0 0,i64 0,str [],str [],i64 0,.slice none 0 0,.slice none 0 0,.slice none 0 0,.slice none 0 0,.slice none 0 0,.slice none 0 0,i64 0]) rfl G4 ?_
 refine Zl ?_
 cases hS
 exact VC.ret (oV (vs:=[.agg #[.slice none 0 0,.slice none 0 0,.slice none 0 0,str [109,97,105,110],i64 0,str [],i64 0,str [],.slice none 0 0,.slice none 0 0,i64 0,str [],str [],i64 0,.slice none 0 0,.slice none 0 0,.slice none 0 0,.slice none 0 0,.slice none 0 0,.slice none 0 0,i64 0]]) (.inr rfl) rfl (jY.cell jS rfl rfl Rd.blk (jY.nil)) () rfl trivial (by (try dsimp only); exact dQ.out) (fun _ _=>trivial))
theorem gG (rY:Nat) (oG:eX) (l_1:Sv Int) {r:dX} (hS:Sh.fW oG.pl l_1.l=some r) :
 Ct Tryz.prog 60 [ptr rY 0,l_1.val] l_1.ok (Ow.star (Sv.own oG.eR 5) (bT rY [oG.eR.val] 157)) (X:=eX) (fun x => .tuple #[]) (fun x=>r=x.pl) (fun x=>Mo.tt) (fun x=>Ow.star (bT rY [x.eR.val] 157) (Sv.own x.eR 5)):=by
 refine Zo Tryz.func60 Tryz.ntmps60 fun c => ?_
 unfold Sh.fW at hS
 refine Zq (Zr ?_)
 refine Zm ?_
 refine Zu (fH (s:=l_1) Tryz.underlying32 rfl) ?_
 refine Zy ?_
 refine Zb ?_
 refine VC.iter (S:=Int×Sv UInt8) (fun sg=>(sg.1,sg.2.l)) (fun sg=>[(0,ptr rY 0),(7,l_1.val),(8,i64 (l_1.l.length:Int)),(9,i64 sg.1)]) (fun sg=>Mo.tt) (fun sg=>Ow.star (bT rY [sg.2.val] 157) (Ow.star (Sv.own sg.2 5) (Ow.emp))) (0,oG.eR) [0,7,8,9] hS rfl ?_
 clear hS
 rintro ⟨RY,AL⟩ m1 y1 hS hK1
 refine Zq (Zr ?_)
 refine Zu (dA rfl rfl) ?_
 refine Zl ?_
 refine Zq ?_
 refine Zc hS (fun h10 hS => ?_) (fun h10 hS => ?_)
 ·
  refine Zk ?_
  refine Zq (Zb (Zq (Zr ?_)))
  obtain ⟨TA,aMA,aLb,hS⟩:=eW hS
  refine Zu (dH (s:=l_1) Tryz.underlying32 FI rfl rfl aMA (bC aMA aLb)) ?_
  refine Zu (qW (s:=l_1) cN rfl aLb rfl) ?_
  refine Zy ?_
  refine Zq (Zr ?_)
  refine Zm ?_
  refine Zu (HP Tryz.underlying3 Tryz.underlying234 rfl) ?_
  refine Zu (aTu rfl rfl (by decide)) ?_
  refine Zm ?_
  refine Zu (aKI rfl rfl (by decide)) ?_
  refine Zu (HP Tryz.underlying2 Tryz.underlying234 rfl) ?_
  refine Zu (aTw rfl rfl) ?_
  refine Zy ?_
  refine VC.keep (ρ':=[(0,ptr rY 0),(7,l_1.val),(8,i64 (l_1.l.length:Int)),(9,i64 RY),(6,.int .u64 (GV .u64 (O4 .u64 (IntKind.wrap .u64 TA) 1) (IntKind.wrap .u64 (NS .i64 TA 63))))]) [0,7,8,9,6] rfl ?_
  refine Zq (Zb ?_)
  refine VC.iter (S:=Int×Sv UInt8) (fun sg=>(sg.1,sg.2.l)) (fun sg=>[(0,ptr rY 0),(6,.int .u64 sg.1),(7,l_1.val),(8,i64 (l_1.l.length:Int)),(9,i64 RY)]) (fun sg=>Mo.tt) (fun sg=>Ow.star (bT rY [sg.2.val] 157) (Ow.star (Sv.own sg.2 5) (Ow.emp))) ((GV .u64 (O4 .u64 (IntKind.wrap .u64 TA) 1) (IntKind.wrap .u64 (NS .i64 TA 63))),AL) [0,6,7,8,9] hS rfl ?_
  clear hS
  rintro ⟨PE,gX⟩ m2 y2 hS hK2
  refine Zq (Zq (Zr ?_))
  refine Zm ?_
  refine Zu (rQ rfl rfl) ?_
  refine Zl ?_
  refine Zc hS (fun h21 hS => ?_) (fun h21 hS => ?_)
  ·
   refine Zk ?_
   refine Zb (Zq (Zr ?_))
   refine Zy ?_
   refine Zu (aJ rfl) ?_
   refine Zu (aB C2 rfl) ?_
   refine Zu (aI z6 rfl rfl) ?_
   refine Zm ?_
   refine Zu (aKG rfl rfl) ?_
   refine Zu (HP Tryz.underlying234 Tryz.underlying5 rfl) ?_
   refine Zu (aZI rfl rfl) ?_
   obtain ⟨aVO,hS⟩:=bQ hS
   obtain ⟨YR,aV0,hS⟩:=gY hS
   refine VL.ZE 30 rfl (congrArg (Value.int .u8) (aBz aVO aV0)) ?_
   refine VL.lit (α:=UInt8) (xs:=[.tmp 30]) (vs:=[.int .u8 (YR.toNat:Int)]) [YR] Tryz.underlying22 XM (by decide) rfl rfl rfl rfl (by decide) (fun _ _ _ _=>trivial) (by decide) (fun a0f aXD => ?_) (by decide)
   replace hS:=dL aXD hS
   obtain ⟨b32,hS⟩:=bQ hS
   refine VL.app (s:=gX) (r:=a0f) Tryz.underlying22 aJq (by decide) rfl Fo.out (CW b32) (CX b32 (by decide)) (by decide) (fun aKQ aXF => ?_)
   replace hS:=dL aXF hS
   refine Zu (aJ rfl) ?_
   refine Zu (aB C2 rfl) ?_
   refine Zv (vc:=[aKQ.val]) (cs':=[aKQ.val]) rfl aFB ?_
   refine Zl ?_
   refine VC.keep (ρ':=[(0,ptr rY 0),(6,.int .u64 PE),(7,l_1.val),(8,i64 (l_1.l.length:Int)),(9,i64 RY)]) [0,6,7,8,9] rfl ?_
   refine Zr ?_
   refine Zm ?_
   refine Zu (aKI rfl rfl (by decide)) ?_
   refine Za ?_
   refine VL.kE ((NS .u64 PE 7),aKQ) [0,6,7,8,9] (fun _ _ h=>h) (go2 hS hK2) rfl
  replace hS:=fF hS hK2
  refine Zx ?_
  refine Zr ?_
  refine Zy ?_
  refine Zu (aJ rfl) ?_
  refine Zu (aB C2 rfl) ?_
  refine Zu (aI z6 rfl rfl) ?_
  refine Zm ?_
  refine Zu (HP Tryz.underlying234 Tryz.underlying5 rfl) ?_
  obtain ⟨aVP,hS⟩:=bQ hS
  obtain ⟨Q8,aQU,hS⟩:=gY hS
  refine VL.ZE 43 rfl (congrArg (Value.int .u8) (aBz aVP aQU)) ?_
  refine VL.lit (α:=UInt8) (xs:=[.tmp 43]) (vs:=[.int .u8 (Q8.toNat:Int)]) [Q8] Tryz.underlying22 XM (by decide) rfl rfl rfl rfl (by decide) (fun _ _ _ _=>trivial) (by decide) (fun aXz aSV => ?_) (by decide)
  replace hS:=dL aSV hS
  obtain ⟨b45,hS⟩:=bQ hS
  refine VL.app (s:=gX) (r:=aXz) Tryz.underlying22 aJq (by decide) rfl Fo.out (CW b45) (CX b45 (by decide)) (by decide) (fun aFi aSW => ?_)
  replace hS:=dL aSW hS
  refine Zu (aJ rfl) ?_
  refine Zu (aB C2 rfl) ?_
  refine Zv (vc:=[aFi.val]) (cs':=[aFi.val]) rfl aFB ?_
  refine Zl ?_
  refine VC.keep (ρ':=[(0,ptr rY 0),(7,l_1.val),(8,i64 (l_1.l.length:Int)),(9,i64 RY)]) [0,7,8,9] rfl ?_
  refine Zr ?_
  obtain ⟨b48,hS⟩:=bQ hS
  refine Zu (dZ rfl rfl b48) ?_
  refine Zm ?_
  refine VL.kE ((RY+1),aFi) [0,7,8,9] (fun _ _ h=>h) (go2 hS hK1) rfl
 replace hS:=fF hS hK1
 cases hS
 exact VC.exit (pK (.inl rfl) rfl ⟨AL⟩ rfl rfl (by (try dsimp only); exact dQ.out) (by (try dsimp only); exact fL.out))
theorem jA (rY:Nat) (oG:eX) (l_1:Sv bN) {r:dX} (hS:Sh.iE oG.pl l_1.l=some r) :
 Ct Tryz.prog 62 [ptr rY 0,l_1.val] l_1.ok (Ow.star (Sv.own oG.eR 5) (bT rY [oG.eR.val] 157)) (X:=eX) (fun x => .tuple #[]) (fun x=>r=x.pl) (fun x=>Mo.tt) (fun x=>Ow.star (bT rY [x.eR.val] 157) (Sv.own x.eR 5)):=by
 refine Zo Tryz.func62 Tryz.ntmps62 fun c => ?_
 unfold Sh.iE at hS
 refine Zq (Zr ?_)
 refine Zm ?_
 refine Zu (fH (s:=l_1) Tryz.underlying89 rfl) ?_
 refine Zy ?_
 refine Zb ?_
 refine VC.iter (S:=Int×Sv UInt8) (fun sg=>(sg.1,sg.2.l)) (fun sg=>[(0,ptr rY 0),(6,l_1.val),(7,i64 (l_1.l.length:Int)),(8,i64 sg.1)]) (fun sg=>Mo.tt) (fun sg=>Ow.star (bT rY [sg.2.val] 157) (Ow.star (Sv.own sg.2 5) (Ow.emp))) (0,oG.eR) [0,6,7,8] hS rfl ?_
 clear hS
 rintro ⟨fJ,AL⟩ m1 y1 hS hK1
 refine Zq (Zr ?_)
 refine Zu (dA rfl rfl) ?_
 refine Zl ?_
 refine Zq ?_
 refine Zc hS (fun h9 hS => ?_) (fun h9 hS => ?_)
 ·
  refine Zk ?_
  refine Zq (Zb (Zq (Zr ?_)))
  obtain ⟨AK,VA,UN,hS⟩:=eW hS
  refine Zu (dH (s:=l_1) Tryz.underlying89 uG rfl rfl VA (bC VA UN)) ?_
  refine Zu (qW (s:=l_1) cD rfl UN rfl) ?_
  refine Zy ?_
  refine Zq (Zr ?_)
  refine Zy ?_
  refine Zu (iH Tryz.underlying9 rfl) ?_
  refine VL.lit (α:=Int) (xs:=[.tmp 14]) (vs:=[i64 (AK.length:Int)]) [(AK.length:Int)] Tryz.underlying32 vO (by decide) rfl rfl rfl rfl (by decide) (fun _ _ _ _=>trivial) (by decide) (fun a02 aWm => ?_) (by decide)
  replace hS:=dL aWm hS
  obtain ⟨FF,aEi,hS⟩:=bF hS
  refine VL.cT (gG rY (⟨AL⟩:eX) a02 aEi) rfl (by decide) ?_
  rintro VQ rfl
  try dsimp only
  refine Zl ?_
  refine VC.keep (ρ':=[(0,ptr rY 0),(6,l_1.val),(7,i64 (l_1.l.length:Int)),(8,i64 fJ),(5,str AK)]) [0,6,7,8,5] rfl ?_
  refine Zr ?_
  refine Zy ?_
  refine Zu (aJ rfl) ?_
  refine Zu (aB C2 rfl) ?_
  refine Zu (aI z6 rfl rfl) ?_
  refine Zm ?_
  obtain ⟨b23,hS⟩:=bQ hS
  refine VL.aYt (s:=VQ.eR) (r:=AK) Tryz.underlying22 Tryz.underlying9 aZh rfl Fo.out b23 (by decide) fun aKO aWu _ => ?_
  replace hS:=dL aWu hS
  refine Zu (aJ rfl) ?_
  refine Zu (aB C2 rfl) ?_
  refine Zv (vc:=[aKO.val]) (cs':=[aKO.val]) rfl aFB ?_
  refine Zl ?_
  refine VC.keep (ρ':=[(0,ptr rY 0),(6,l_1.val),(7,i64 (l_1.l.length:Int)),(8,i64 fJ)]) [0,6,7,8] rfl ?_
  refine Zr ?_
  obtain ⟨b26,hS⟩:=bQ hS
  refine Zu (dZ rfl rfl b26) ?_
  refine Zm ?_
  refine VL.kE ((fJ+1),aKO) [0,6,7,8] (fun _ _ h=>h) (go2 hS hK1) rfl
 replace hS:=fF hS hK1
 cases hS
 exact VC.exit (pK (.inl rfl) rfl ⟨AL⟩ rfl rfl (by (try dsimp only); exact dQ.out) (by (try dsimp only); exact fL.out))
theorem tQ (cR:Nat) (w_0:eX) (r_1:Sv aZ) {r:dX} (hS:Sh.nV w_0.pl r_1.l=some r) :
 Ct Tryz.prog 136 [ptr cR 0,r_1.val] r_1.ok (Ow.star (Sv.own w_0.eR 5) (bT cR [w_0.eR.val] 157)) (X:=eX) (fun x => .tuple #[]) (fun x=>r=x.pl) (fun x=>Mo.tt) (fun x=>Ow.star (bT cR [x.eR.val] 157) (Sv.own x.eR 5)):=by
 refine Zo Tryz.func136 Tryz.ntmps136 fun c => ?_
 unfold Sh.nV at hS
 refine Zq (Zr ?_)
 refine Zm ?_
 refine Zu (aJ rfl) ?_
 refine Zu (aB eM rfl) ?_
 refine Zm ?_
 refine Zu (fH (s:=r_1) Tryz.underlying50 rfl) ?_
 refine VL.lit (α:=Int) (xs:=[.tmp 10]) (vs:=[i64 (r_1.l.length:Int)]) [(r_1.l.length:Int)] Tryz.underlying32 vO (by decide) rfl rfl rfl rfl (by decide) (fun _ _ _ _=>trivial) (by decide) (fun aBl UF => ?_) (by decide)
 replace hS:=dL UF hS
 obtain ⟨sU,BE,hS⟩:=bF hS
 refine VL.cT (gG cR w_0 aBl BE) rfl (by decide) ?_
 rintro lY rfl
 try dsimp only
 refine Zl ?_
 refine Zq (Zr ?_)
 refine Zm ?_
 refine Zu (fH (s:=r_1) Tryz.underlying50 rfl) ?_
 refine Zy ?_
 refine VC.keep (ρ':=[(0,ptr cR 0),(13,r_1.val),(14,i64 (r_1.l.length:Int)),(15,i64 0)]) [0,13,14,15] rfl ?_
 refine Zb ?_
 refine VC.iter (S:=Int×Sv UInt8) (fun sg=>(sg.1,sg.2.l)) (fun sg=>[(0,ptr cR 0),(13,r_1.val),(14,i64 (r_1.l.length:Int)),(15,i64 sg.1)]) (fun sg=>Mo.tt) (fun sg=>Ow.star (bT cR [sg.2.val] 157) (Ow.star (Sv.own sg.2 5) (Ow.emp))) (0,lY.eR) [0,13,14,15] hS rfl ?_
 clear hS
 rintro ⟨oU,gX⟩ m1 y1 hS hK1
 refine Zq (Zr ?_)
 refine Zu (dA rfl rfl) ?_
 refine Zl ?_
 refine Zq ?_
 refine Zc hS (fun h16 hS => ?_) (fun h16 hS => ?_)
 ·
  refine Zk ?_
  refine Zq (Zb (Zq (Zr ?_)))
  obtain ⟨gU,IZ,IT,hS⟩:=eW hS
  refine Zu (dH (s:=r_1) Tryz.underlying50 rN rfl rfl IZ (bC IZ IT)) ?_
  refine Zu (jL (s:=r_1) G2 rfl rfl IT) ?_
  refine VL.alloc (cs:=[str [],i64 0,str []]) (by kernel_rfl) (by decide) fun NL => ?_
  refine Zv (vc:=[str gU.path,i64 gU.mode,str gU.data]) (cs':=[str gU.path,i64 gU.mode,str gU.data]) rfl rN ?_
  refine Zl ?_
  refine Zq ?_
  refine VC.draw [(0,true),(1,true),(2,true),(3,true),(4,true),(5,false),(6,false)] mixed (by kernel_rfl) (by kernel_rfl) (by kernel_rfl) ?_
  refine Zw rfl (bI rfl) ?_
  refine Zw rfl (aJ rfl) ?_
  refine Zw rfl (aB eM rfl) ?_
  refine Zw rfl (aB uV rfl) ?_
  refine Zw rfl (aI cD rfl rfl) ?_
  refine VD.one rfl ?_
  refine VL.lit (α:=bN) (xs:=[.tmp 23]) (vs:=[str gU.path]) [gU.path] Tryz.underlying89 oZ (by decide) rfl rfl rfl rfl (by decide) (fun _ _ _ _=>trivial) (by decide) (fun aBm UJ => ?_) (by decide)
  replace hS:=dL UJ hS
  refine VL.back (D':=[(2,ptr cR 0),(1,ptr cR 0)]) (by kernel_rfl) (aF.cons rfl (aB eM rfl) (aF.cons rfl (aJ rfl) (aF.nil))) ?_
  refine VD.one rfl ?_
  obtain ⟨JB,N3,hS⟩:=bF hS
  refine VL.cT (jA cR (⟨gX⟩:eX) aBm N3) rfl (by decide) ?_
  rintro K0 rfl
  try dsimp only
  refine VL.back (D':=[]) (by kernel_rfl) (aF.nil) ?_
  refine VD.to (fun _ _ h=>h) ?_
  refine VC.keep (ρ':=[(0,ptr cR 0),(13,r_1.val),(14,i64 (r_1.l.length:Int)),(15,i64 oU),(5,ptr NL 0)]) [0,13,14,15,5] rfl ?_
  refine Zq ?_
  refine VC.draw [(0,true),(1,true),(2,true),(3,true),(4,true),(5,false),(6,false)] mixed (by kernel_rfl) (by kernel_rfl) (by kernel_rfl) ?_
  refine Zw rfl (bI rfl) ?_
  refine Zw rfl (aJ rfl) ?_
  refine Zw rfl (aB eM rfl) ?_
  refine Zw rfl (aB KD rfl) ?_
  refine Zw rfl (aI cN rfl rfl) ?_
  refine VD.one rfl ?_
  refine VL.lit (α:=Int) (xs:=[.tmp 30]) (vs:=[i64 gU.mode]) [gU.mode] Tryz.underlying32 vO (by decide) rfl rfl rfl rfl (by decide) (fun _ _ _ _=>trivial) (by decide) (fun aFg aAx => ?_) (by decide)
  replace hS:=dL aAx hS
  refine VL.back (D':=[(2,ptr cR 0),(1,ptr cR 0)]) (by kernel_rfl) (aF.cons rfl (aB eM rfl) (aF.cons rfl (aJ rfl) (aF.nil))) ?_
  refine VD.one rfl ?_
  obtain ⟨WV,aA3,hS⟩:=bF hS
  refine VL.cT (gG cR K0 aFg aA3) rfl (by decide) ?_
  rintro X1 rfl
  try dsimp only
  refine VL.back (D':=[]) (by kernel_rfl) (aF.nil) ?_
  refine VD.to (fun _ _ h=>h) ?_
  refine VC.keep (ρ':=[(0,ptr cR 0),(13,r_1.val),(14,i64 (r_1.l.length:Int)),(15,i64 oU),(5,ptr NL 0)]) [0,13,14,15,5] rfl ?_
  refine VC.draw [(0,true),(1,true),(2,true),(3,true),(4,true),(5,false),(6,false)] mixed (by kernel_rfl) (by kernel_rfl) (by kernel_rfl) ?_
  refine Zw rfl (bI rfl) ?_
  refine Zw rfl (aJ rfl) ?_
  refine Zw rfl (aB eM rfl) ?_
  refine Zw rfl (aB GL rfl) ?_
  refine Zw rfl (aI cD rfl rfl) ?_
  refine VD.one rfl ?_
  refine VL.lit (α:=bN) (xs:=[.tmp 37]) (vs:=[str gU.data]) [gU.data] Tryz.underlying89 oZ (by decide) rfl rfl rfl rfl (by decide) (fun _ _ _ _=>trivial) (by decide) (fun aFh aAy => ?_) (by decide)
  replace hS:=dL aAy hS
  refine VL.back (D':=[(2,ptr cR 0),(1,ptr cR 0)]) (by kernel_rfl) (aF.cons rfl (aB eM rfl) (aF.cons rfl (aJ rfl) (aF.nil))) ?_
  refine VD.one rfl ?_
  obtain ⟨WW,aA6,hS⟩:=bF hS
  refine VL.cT (jA cR X1 aFh aA6) rfl (by decide) ?_
  rintro X5 rfl
  try dsimp only
  refine VL.back (D':=[]) (by kernel_rfl) (aF.nil) ?_
  refine VD.to (fun _ _ h=>h) ?_
  refine VC.keep (ρ':=[(0,ptr cR 0),(13,r_1.val),(14,i64 (r_1.l.length:Int)),(15,i64 oU)]) [0,13,14,15] rfl ?_
  refine Zr ?_
  obtain ⟨b40,hS⟩:=bQ hS
  refine Zu (dZ rfl rfl b40) ?_
  refine Zm ?_
  refine VL.kE ((oU+1),X5.eR) [0,13,14,15] (fun _ _ h=>h) (go2 hS hK1) rfl
 replace hS:=fF hS hK1
 cases hS
 exact VC.exit (pK (.inl rfl) rfl ⟨gX⟩ rfl rfl (by (try dsimp only); exact dQ.out) (by (try dsimp only); exact fL.out))
theorem zY (cR:Nat) (w_0:eX) (l_1:Sv aQ) {r:dX} (hS:Sh.nX w_0.pl l_1.l=some r) :
 Ct Tryz.prog 137 [ptr cR 0,l_1.val] l_1.ok (Ow.star (Sv.own w_0.eR 5) (bT cR [w_0.eR.val] 157)) (X:=eX) (fun x => .tuple #[]) (fun x=>r=x.pl) (fun x=>Mo.tt) (fun x=>Ow.star (bT cR [x.eR.val] 157) (Sv.own x.eR 5)):=by
 refine Zo Tryz.func137 Tryz.ntmps137 fun c => ?_
 unfold Sh.nX at hS
 refine Zq (Zr ?_)
 refine Zm ?_
 refine Zu (aJ rfl) ?_
 refine Zu (aB eM rfl) ?_
 refine Zm ?_
 refine Zu (fH (s:=l_1) Tryz.underlying51 rfl) ?_
 refine VL.lit (α:=Int) (xs:=[.tmp 10]) (vs:=[i64 (l_1.l.length:Int)]) [(l_1.l.length:Int)] Tryz.underlying32 vO (by decide) rfl rfl rfl rfl (by decide) (fun _ _ _ _=>trivial) (by decide) (fun aBl UF => ?_) (by decide)
 replace hS:=dL UF hS
 obtain ⟨sU,BE,hS⟩:=bF hS
 refine VL.cT (gG cR w_0 aBl BE) rfl (by decide) ?_
 rintro lY rfl
 try dsimp only
 refine Zl ?_
 refine Zq (Zr ?_)
 refine Zm ?_
 refine Zu (fH (s:=l_1) Tryz.underlying51 rfl) ?_
 refine Zy ?_
 refine VC.keep (ρ':=[(0,ptr cR 0),(13,l_1.val),(14,i64 (l_1.l.length:Int)),(15,i64 0)]) [0,13,14,15] rfl ?_
 refine Zb ?_
 refine VC.iter (S:=Int×Sv UInt8) (fun sg=>(sg.1,sg.2.l)) (fun sg=>[(0,ptr cR 0),(13,l_1.val),(14,i64 (l_1.l.length:Int)),(15,i64 sg.1)]) (fun sg=>Mo.tt) (fun sg=>Ow.star (bT cR [sg.2.val] 157) (Ow.star (Sv.own sg.2 5) (Ow.emp))) (0,lY.eR) [0,13,14,15] hS rfl ?_
 clear hS
 rintro ⟨oU,gX⟩ m1 y1 hS hK1
 refine Zq (Zr ?_)
 refine Zu (dA rfl rfl) ?_
 refine Zl ?_
 refine Zq ?_
 refine Zc hS (fun h16 hS => ?_) (fun h16 hS => ?_)
 ·
  refine Zk ?_
  refine Zq (Zb (Zq (Zr ?_)))
  obtain ⟨gU,IZ,IT,hS⟩:=eW hS
  refine Zu (dH (s:=l_1) Tryz.underlying51 pS rfl rfl IZ (bC IZ IT)) ?_
  refine Zu (jL (s:=l_1) sD rfl rfl IT) ?_
  refine VL.alloc (cs:=[str [],i64 0,i64 0,str [],i64 0,i64 0]) (by kernel_rfl) (by decide) fun NL => ?_
  refine Zv (vc:=[str gU.path,i64 gU.dJ,i64 gU.mode,str gU.data,i64 gU.time,i64 gU.size]) (cs':=[str gU.path,i64 gU.dJ,i64 gU.mode,str gU.data,i64 gU.time,i64 gU.size]) rfl pS ?_
  refine Zl ?_
  refine Zq ?_
  refine VC.draw [(0,true),(1,true),(2,true),(3,true),(4,true),(5,false),(6,false)] mixed (by kernel_rfl) (by kernel_rfl) (by kernel_rfl) ?_
  refine Zw rfl (bI rfl) ?_
  refine Zw rfl (aJ rfl) ?_
  refine Zw rfl (aB eM rfl) ?_
  refine Zw rfl (aB pE rfl) ?_
  refine Zw rfl (aI cD rfl rfl) ?_
  refine VD.one rfl ?_
  refine VL.lit (α:=bN) (xs:=[.tmp 23]) (vs:=[str gU.path]) [gU.path] Tryz.underlying89 oZ (by decide) rfl rfl rfl rfl (by decide) (fun _ _ _ _=>trivial) (by decide) (fun aBm UJ => ?_) (by decide)
  replace hS:=dL UJ hS
  refine VL.back (D':=[(2,ptr cR 0),(1,ptr cR 0)]) (by kernel_rfl) (aF.cons rfl (aB eM rfl) (aF.cons rfl (aJ rfl) (aF.nil))) ?_
  refine VD.one rfl ?_
  obtain ⟨JB,N3,hS⟩:=bF hS
  refine VL.cT (jA cR (⟨gX⟩:eX) aBm N3) rfl (by decide) ?_
  rintro K0 rfl
  try dsimp only
  refine VL.back (D':=[]) (by kernel_rfl) (aF.nil) ?_
  refine VD.to (fun _ _ h=>h) ?_
  refine VC.keep (ρ':=[(0,ptr cR 0),(13,l_1.val),(14,i64 (l_1.l.length:Int)),(15,i64 oU),(5,ptr NL 0)]) [0,13,14,15,5] rfl ?_
  refine Zq ?_
  refine VC.draw [(0,true),(1,true),(2,true),(3,true),(4,true),(5,true),(6,true),(7,false),(8,false)] mixed (by kernel_rfl) (by kernel_rfl) (by kernel_rfl) ?_
  refine Zw rfl (bI rfl) ?_
  refine Zw rfl (aJ rfl) ?_
  refine Zw rfl (aB eM rfl) ?_
  refine Zw rfl (aB uW rfl) ?_
  refine Zw rfl (aI cN rfl rfl) ?_
  refine Zw rfl (aB AN rfl) ?_
  refine Zw rfl (aI cN rfl rfl) ?_
  refine VD.one rfl ?_
  refine VL.lit (α:=Int) (xs:=[.tmp 30,.tmp 32]) (vs:=[i64 gU.dJ,i64 gU.mode]) [gU.dJ,gU.mode] Tryz.underlying32 vO (by decide) rfl rfl rfl rfl (by decide) (fun _ _ _ _=>trivial) (by decide) (fun aXv aSR => ?_) (by decide)
  replace hS:=dL aSR hS
  refine VL.back (D':=[(2,ptr cR 0),(1,ptr cR 0)]) (by kernel_rfl) (aF.cons rfl (aB eM rfl) (aF.cons rfl (aJ rfl) (aF.nil))) ?_
  refine VD.one rfl ?_
  obtain ⟨aNA,aQ6,hS⟩:=bF hS
  refine VL.cT (gG cR K0 aXv aQ6) rfl (by decide) ?_
  rintro aPL rfl
  try dsimp only
  refine VL.back (D':=[]) (by kernel_rfl) (aF.nil) ?_
  refine VD.to (fun _ _ h=>h) ?_
  refine VC.keep (ρ':=[(0,ptr cR 0),(13,l_1.val),(14,i64 (l_1.l.length:Int)),(15,i64 oU),(5,ptr NL 0)]) [0,13,14,15,5] rfl ?_
  refine Zq ?_
  refine VC.draw [(0,true),(1,true),(2,true),(3,true),(4,true),(5,false),(6,false)] mixed (by kernel_rfl) (by kernel_rfl) (by kernel_rfl) ?_
  refine Zw rfl (bI rfl) ?_
  refine Zw rfl (aJ rfl) ?_
  refine Zw rfl (aB eM rfl) ?_
  refine Zw rfl (aB yO rfl) ?_
  refine Zw rfl (aI cD rfl rfl) ?_
  refine VD.one rfl ?_
  refine VL.lit (α:=bN) (xs:=[.tmp 39]) (vs:=[str gU.data]) [gU.data] Tryz.underlying89 oZ (by decide) rfl rfl rfl rfl (by decide) (fun _ _ _ _=>trivial) (by decide) (fun aXx aST => ?_) (by decide)
  replace hS:=dL aST hS
  refine VL.back (D':=[(2,ptr cR 0),(1,ptr cR 0)]) (by kernel_rfl) (aF.cons rfl (aB eM rfl) (aF.cons rfl (aJ rfl) (aF.nil))) ?_
  refine VD.one rfl ?_
  obtain ⟨NB,aA7,hS⟩:=bF hS
  refine VL.cT (jA cR aPL aXx aA7) rfl (by decide) ?_
  rintro aPS rfl
  try dsimp only
  refine VL.back (D':=[]) (by kernel_rfl) (aF.nil) ?_
  refine VD.to (fun _ _ h=>h) ?_
  refine VC.keep (ρ':=[(0,ptr cR 0),(13,l_1.val),(14,i64 (l_1.l.length:Int)),(15,i64 oU),(5,ptr NL 0)]) [0,13,14,15,5] rfl ?_
  refine VC.draw [(0,true),(1,true),(2,true),(3,true),(4,true),(5,true),(6,true),(7,false),(8,false)] mixed (by kernel_rfl) (by kernel_rfl) (by kernel_rfl) ?_
  refine Zw rfl (bI rfl) ?_
  refine Zw rfl (aJ rfl) ?_
  refine Zw rfl (aB eM rfl) ?_
  refine Zw rfl (aB QN rfl) ?_
  refine Zw rfl (aI cN rfl rfl) ?_
  refine Zw rfl (aB QO rfl) ?_
  refine Zw rfl (aI cN rfl rfl) ?_
  refine VD.one rfl ?_
  refine VL.lit (α:=Int) (xs:=[.tmp 46,.tmp 48]) (vs:=[i64 gU.time,i64 gU.size]) [gU.time,gU.size] Tryz.underlying32 vO (by decide) rfl rfl rfl rfl (by decide) (fun _ _ _ _=>trivial) (by decide) (fun aYD aS0 => ?_) (by decide)
  replace hS:=dL aS0 hS
  refine VL.back (D':=[(2,ptr cR 0),(1,ptr cR 0)]) (by kernel_rfl) (aF.cons rfl (aB eM rfl) (aF.cons rfl (aJ rfl) (aF.nil))) ?_
  refine VD.one rfl ?_
  obtain ⟨ND,aAa,hS⟩:=bF hS
  refine VL.cT (gG cR aPS aYD aAa) rfl (by decide) ?_
  rintro X6 rfl
  try dsimp only
  refine VL.back (D':=[]) (by kernel_rfl) (aF.nil) ?_
  refine VD.to (fun _ _ h=>h) ?_
  refine VC.keep (ρ':=[(0,ptr cR 0),(13,l_1.val),(14,i64 (l_1.l.length:Int)),(15,i64 oU)]) [0,13,14,15] rfl ?_
  refine Zr ?_
  obtain ⟨b51,hS⟩:=bQ hS
  refine Zu (dZ rfl rfl b51) ?_
  refine Zm ?_
  refine VL.kE ((oU+1),X6.eR) [0,13,14,15] (fun _ _ h=>h) (go2 hS hK1) rfl
 replace hS:=fF hS hK1
 cases hS
 exact VC.exit (pK (.inl rfl) rfl ⟨gX⟩ rfl rfl (by (try dsimp only); exact dQ.out) (by (try dsimp only); exact fL.out))
theorem CT (cR:Nat) (w_0:eX) (h_1:lV) {r:dX} (hS:Sh.qB w_0.pl h_1=some r) :
 Ct Tryz.prog 138 [ptr cR 0,.agg #[str h_1.branch,i64 h_1.cB]] Mo.tt (Ow.star (Sv.own w_0.eR 5) (bT cR [w_0.eR.val] 157)) (X:=eX) (fun x => .tuple #[]) (fun x=>r=x.pl) (fun x=>Mo.tt) (fun x=>Ow.star (bT cR [x.eR.val] 157) (Sv.own x.eR 5)):=by
 refine Zo Tryz.func138 Tryz.ntmps138 fun c => ?_
 unfold Sh.qB at hS
 refine Zq (Zr ?_)
 refine VL.box (cs:=[str h_1.branch,i64 h_1.cB]) rfl rfl (by decide) fun qQ => ?_
 refine Zl ?_
 refine Zq ?_
 refine VC.draw [(0,true),(1,true),(2,true),(3,true),(4,true),(5,false),(6,false)] mixed (by kernel_rfl) (by kernel_rfl) (by kernel_rfl) ?_
 refine Zw rfl (bI rfl) ?_
 refine Zw rfl (aJ rfl) ?_
 refine Zw rfl (aB eM rfl) ?_
 refine Zw rfl (aB lD rfl) ?_
 refine Zw rfl (aI cD rfl rfl) ?_
 refine VD.one rfl ?_
 refine VL.lit (α:=bN) (xs:=[.tmp 8]) (vs:=[str h_1.branch]) [h_1.branch] Tryz.underlying89 oZ (by decide) rfl rfl rfl rfl (by decide) (fun _ _ _ _=>trivial) (by decide) (fun aUT aJx => ?_) (by decide)
 replace hS:=dL aJx hS
 refine VL.back (D':=[(2,ptr cR 0),(1,ptr cR 0)]) (by kernel_rfl) (aF.cons rfl (aB eM rfl) (aF.cons rfl (aJ rfl) (aF.nil))) ?_
 refine VD.one rfl ?_
 obtain ⟨P6,aEc,hS⟩:=bF hS
 refine VL.cT (jA cR w_0 aUT aEc) rfl (by decide) ?_
 rintro aB4 rfl
 try dsimp only
 refine VL.back (D':=[]) (by kernel_rfl) (aF.nil) ?_
 refine VD.to (fun _ _ h=>h) ?_
 refine VC.draw [(0,true),(1,true),(2,true),(3,true),(4,true),(5,false),(6,false)] mixed (by kernel_rfl) (by kernel_rfl) (by kernel_rfl) ?_
 refine Zw rfl (bI rfl) ?_
 refine Zw rfl (aJ rfl) ?_
 refine Zw rfl (aB eM rfl) ?_
 refine Zw rfl (aB nK rfl) ?_
 refine Zw rfl (aI cN rfl rfl) ?_
 refine VD.one rfl ?_
 refine VL.lit (α:=Int) (xs:=[.tmp 15]) (vs:=[i64 h_1.cB]) [h_1.cB] Tryz.underlying32 vO (by decide) rfl rfl rfl rfl (by decide) (fun _ _ _ _=>trivial) (by decide) (fun SZ UH => ?_) (by decide)
 replace hS:=dL UH hS
 refine VL.back (D':=[(2,ptr cR 0),(1,ptr cR 0)]) (by kernel_rfl) (aF.cons rfl (aB eM rfl) (aF.cons rfl (aJ rfl) (aF.nil))) ?_
 refine VD.one rfl ?_
 obtain ⟨QB,TW,hS⟩:=bF hS
 refine VL.cT (gG cR aB4 SZ TW) rfl (by decide) ?_
 rintro HK rfl
 try dsimp only
 refine VL.back (D':=[]) (by kernel_rfl) (aF.nil) ?_
 cases hS
 exact VD.nil (pK (.inl rfl) rfl ⟨HK.eR⟩ rfl rfl (by (try dsimp only); exact dQ.out) (by (try dsimp only); exact fL.out))
theorem CG (cR:Nat) (w_0:eX) (l_1:Sv cA) {r:dX} (hS:Sh.pG w_0.pl l_1.l=some r) :
 Ct Tryz.prog 200 [ptr cR 0,l_1.val] l_1.ok (Ow.star (Sv.own w_0.eR 5) (bT cR [w_0.eR.val] 157)) (X:=eX) (fun x => .tuple #[]) (fun x=>r=x.pl) (fun x=>Mo.tt) (fun x=>Ow.star (bT cR [x.eR.val] 157) (Sv.own x.eR 5)):=by
 refine Zo Tryz.func200 Tryz.ntmps200 fun c => ?_
 unfold Sh.pG at hS
 refine Zq (Zr ?_)
 refine Zm ?_
 refine Zu (aJ rfl) ?_
 refine Zu (aB eM rfl) ?_
 refine Zm ?_
 refine Zu (fH (s:=l_1) Tryz.underlying55 rfl) ?_
 refine VL.lit (α:=Int) (xs:=[.tmp 10]) (vs:=[i64 (l_1.l.length:Int)]) [(l_1.l.length:Int)] Tryz.underlying32 vO (by decide) rfl rfl rfl rfl (by decide) (fun _ _ _ _=>trivial) (by decide) (fun aBl UF => ?_) (by decide)
 replace hS:=dL UF hS
 obtain ⟨sU,BE,hS⟩:=bF hS
 refine VL.cT (gG cR w_0 aBl BE) rfl (by decide) ?_
 rintro lY rfl
 try dsimp only
 refine Zl ?_
 refine Zq (Zr ?_)
 refine Zm ?_
 refine Zu (fH (s:=l_1) Tryz.underlying55 rfl) ?_
 refine Zy ?_
 refine VC.keep (ρ':=[(0,ptr cR 0),(13,l_1.val),(14,i64 (l_1.l.length:Int)),(15,i64 0)]) [0,13,14,15] rfl ?_
 refine Zb ?_
 refine VC.iter (S:=Int×Sv UInt8) (fun sg=>(sg.1,sg.2.l)) (fun sg=>[(0,ptr cR 0),(13,l_1.val),(14,i64 (l_1.l.length:Int)),(15,i64 sg.1)]) (fun sg=>Mo.tt) (fun sg=>Ow.star (bT cR [sg.2.val] 157) (Ow.star (Sv.own sg.2 5) (Ow.emp))) (0,lY.eR) [0,13,14,15] hS rfl ?_
 clear hS
 rintro ⟨oU,gX⟩ m1 y1 hS hK1
 refine Zq (Zr ?_)
 refine Zu (dA rfl rfl) ?_
 refine Zl ?_
 refine Zq ?_
 refine Zc hS (fun h16 hS => ?_) (fun h16 hS => ?_)
 ·
  refine Zk ?_
  refine Zq (Zb (Zq (Zr ?_)))
  obtain ⟨gU,IZ,IT,hS⟩:=eW hS
  refine Zu (dH (s:=l_1) Tryz.underlying55 z7 rfl rfl IZ (bC IZ IT)) ?_
  refine Zu (jL (s:=l_1) UB rfl rfl IT) ?_
  refine VL.alloc (cs:=[str [],i64 0,str []]) (by kernel_rfl) (by decide) fun NL => ?_
  refine Zv (vc:=[str gU.verb,i64 gU.cB,str gU.text]) (cs':=[str gU.verb,i64 gU.cB,str gU.text]) rfl z7 ?_
  refine Zl ?_
  refine Zq ?_
  refine VC.draw [(0,true),(1,true),(2,true),(3,true),(4,true),(5,false),(6,false)] mixed (by kernel_rfl) (by kernel_rfl) (by kernel_rfl) ?_
  refine Zw rfl (bI rfl) ?_
  refine Zw rfl (aJ rfl) ?_
  refine Zw rfl (aB eM rfl) ?_
  refine Zw rfl (aB aDg rfl) ?_
  refine Zw rfl (aI cD rfl rfl) ?_
  refine VD.one rfl ?_
  refine VL.lit (α:=bN) (xs:=[.tmp 23]) (vs:=[str gU.verb]) [gU.verb] Tryz.underlying89 oZ (by decide) rfl rfl rfl rfl (by decide) (fun _ _ _ _=>trivial) (by decide) (fun aBm UJ => ?_) (by decide)
  replace hS:=dL UJ hS
  refine VL.back (D':=[(2,ptr cR 0),(1,ptr cR 0)]) (by kernel_rfl) (aF.cons rfl (aB eM rfl) (aF.cons rfl (aJ rfl) (aF.nil))) ?_
  refine VD.one rfl ?_
  obtain ⟨JB,N3,hS⟩:=bF hS
  refine VL.cT (jA cR (⟨gX⟩:eX) aBm N3) rfl (by decide) ?_
  rintro K0 rfl
  try dsimp only
  refine VL.back (D':=[]) (by kernel_rfl) (aF.nil) ?_
  refine VD.to (fun _ _ h=>h) ?_
  refine VC.keep (ρ':=[(0,ptr cR 0),(13,l_1.val),(14,i64 (l_1.l.length:Int)),(15,i64 oU),(5,ptr NL 0)]) [0,13,14,15,5] rfl ?_
  refine Zq ?_
  refine VC.draw [(0,true),(1,true),(2,true),(3,true),(4,true),(5,false),(6,false)] mixed (by kernel_rfl) (by kernel_rfl) (by kernel_rfl) ?_
  refine Zw rfl (bI rfl) ?_
  refine Zw rfl (aJ rfl) ?_
  refine Zw rfl (aB eM rfl) ?_
  refine Zw rfl (aB aDh rfl) ?_
  refine Zw rfl (aI cN rfl rfl) ?_
  refine VD.one rfl ?_
  refine VL.lit (α:=Int) (xs:=[.tmp 30]) (vs:=[i64 gU.cB]) [gU.cB] Tryz.underlying32 vO (by decide) rfl rfl rfl rfl (by decide) (fun _ _ _ _=>trivial) (by decide) (fun aFg aAx => ?_) (by decide)
  replace hS:=dL aAx hS
  refine VL.back (D':=[(2,ptr cR 0),(1,ptr cR 0)]) (by kernel_rfl) (aF.cons rfl (aB eM rfl) (aF.cons rfl (aJ rfl) (aF.nil))) ?_
  refine VD.one rfl ?_
  obtain ⟨WV,aA3,hS⟩:=bF hS
  refine VL.cT (gG cR K0 aFg aA3) rfl (by decide) ?_
  rintro X1 rfl
  try dsimp only
  refine VL.back (D':=[]) (by kernel_rfl) (aF.nil) ?_
  refine VD.to (fun _ _ h=>h) ?_
  refine VC.keep (ρ':=[(0,ptr cR 0),(13,l_1.val),(14,i64 (l_1.l.length:Int)),(15,i64 oU),(5,ptr NL 0)]) [0,13,14,15,5] rfl ?_
  refine VC.draw [(0,true),(1,true),(2,true),(3,true),(4,true),(5,false),(6,false)] mixed (by kernel_rfl) (by kernel_rfl) (by kernel_rfl) ?_
  refine Zw rfl (bI rfl) ?_
  refine Zw rfl (aJ rfl) ?_
  refine Zw rfl (aB eM rfl) ?_
  refine Zw rfl (aB aDi rfl) ?_
  refine Zw rfl (aI cD rfl rfl) ?_
  refine VD.one rfl ?_
  refine VL.lit (α:=bN) (xs:=[.tmp 37]) (vs:=[str gU.text]) [gU.text] Tryz.underlying89 oZ (by decide) rfl rfl rfl rfl (by decide) (fun _ _ _ _=>trivial) (by decide) (fun aFh aAy => ?_) (by decide)
  replace hS:=dL aAy hS
  refine VL.back (D':=[(2,ptr cR 0),(1,ptr cR 0)]) (by kernel_rfl) (aF.cons rfl (aB eM rfl) (aF.cons rfl (aJ rfl) (aF.nil))) ?_
  refine VD.one rfl ?_
  obtain ⟨WW,aA6,hS⟩:=bF hS
  refine VL.cT (jA cR X1 aFh aA6) rfl (by decide) ?_
  rintro X5 rfl
  try dsimp only
  refine VL.back (D':=[]) (by kernel_rfl) (aF.nil) ?_
  refine VD.to (fun _ _ h=>h) ?_
  refine VC.keep (ρ':=[(0,ptr cR 0),(13,l_1.val),(14,i64 (l_1.l.length:Int)),(15,i64 oU)]) [0,13,14,15] rfl ?_
  refine Zr ?_
  obtain ⟨b40,hS⟩:=bQ hS
  refine Zu (dZ rfl rfl b40) ?_
  refine Zm ?_
  refine VL.kE ((oU+1),X5.eR) [0,13,14,15] (fun _ _ h=>h) (go2 hS hK1) rfl
 replace hS:=fF hS hK1
 cases hS
 exact VC.exit (pK (.inl rfl) rfl ⟨gX⟩ rfl rfl (by (try dsimp only); exact dQ.out) (by (try dsimp only); exact fL.out))
theorem PB (cR:Nat) (w_0:eX) (s_1:oK) {r:dX} (hS:Sh.tT w_0.pl s_1.pl=some r) :
 Ct Tryz.prog 139 [ptr cR 0,.agg (vZ s_1).toArray] (s_1.mV.ok.and (s_1.todo.ok.and (s_1.index.ok.and s_1.work.ok))) (Ow.star (Sv.own w_0.eR 5) (bT cR [w_0.eR.val] 157)) (X:=eX) (fun x => .tuple #[]) (fun x=>r=x.pl) (fun x=>Mo.tt) (fun x=>Ow.star (bT cR [x.eR.val] 157) (Sv.own x.eR 5)):=by
 refine Zo Tryz.func139 Tryz.ntmps139 fun c => ?_
 unfold Sh.tT at hS
 refine Zq (Zr ?_)
 refine VL.box (cs:=(vZ s_1)) rfl rfl (by decide) fun qQ => ?_
 refine Zl ?_
 refine Zq ?_
 refine VC.draw [(0,true),(1,true),(2,true),(3,true),(4,true),(5,false),(6,false)] mixed (by kernel_rfl) (by kernel_rfl) (by kernel_rfl) ?_
 refine Zw rfl (bI rfl) ?_
 refine Zw rfl (aJ rfl) ?_
 refine Zw rfl (aB eM rfl) ?_
 refine Zw rfl (aB sE rfl) ?_
 refine Zw rfl (aI cD rfl rfl) ?_
 refine VD.one rfl ?_
 refine VL.lit (α:=bN) (xs:=[.tmp 8]) (vs:=[str s_1.kind]) [s_1.kind] Tryz.underlying89 oZ (by decide) rfl rfl rfl rfl (by decide) (fun _ _ _ _=>trivial) (by decide) (fun aUT aJx => ?_) (by decide)
 replace hS:=dL aJx hS
 refine VL.back (D':=[(2,ptr cR 0),(1,ptr cR 0)]) (by kernel_rfl) (aF.cons rfl (aB eM rfl) (aF.cons rfl (aJ rfl) (aF.nil))) ?_
 refine VD.one rfl ?_
 obtain ⟨P6,aEc,hS⟩:=bF hS
 refine VL.cT (jA cR w_0 aUT aEc) rfl (by decide) ?_
 rintro aB4 rfl
 try dsimp only
 refine VL.back (D':=[]) (by kernel_rfl) (aF.nil) ?_
 refine VD.to (fun _ _ h=>h) ?_
 refine Zq ?_
 refine VC.draw [(0,true),(1,true),(2,true),(3,true),(4,true),(5,false),(6,false)] mixed (by kernel_rfl) (by kernel_rfl) (by kernel_rfl) ?_
 refine Zw rfl (bI rfl) ?_
 refine Zw rfl (aJ rfl) ?_
 refine Zw rfl (aB eM rfl) ?_
 refine Zw rfl (aB wD rfl) ?_
 refine Zw rfl (aI cN rfl rfl) ?_
 refine VD.one rfl ?_
 refine VL.lit (α:=Int) (xs:=[.tmp 15]) (vs:=[i64 s_1.other]) [s_1.other] Tryz.underlying32 vO (by decide) rfl rfl rfl rfl (by decide) (fun _ _ _ _=>trivial) (by decide) (fun SZ UH => ?_) (by decide)
 replace hS:=dL UH hS
 refine VL.back (D':=[(2,ptr cR 0),(1,ptr cR 0)]) (by kernel_rfl) (aF.cons rfl (aB eM rfl) (aF.cons rfl (aJ rfl) (aF.nil))) ?_
 refine VD.one rfl ?_
 obtain ⟨QB,TW,hS⟩:=bF hS
 refine VL.cT (gG cR aB4 SZ TW) rfl (by decide) ?_
 rintro HK rfl
 try dsimp only
 refine VL.back (D':=[]) (by kernel_rfl) (aF.nil) ?_
 refine VD.to (fun _ _ h=>h) ?_
 refine VC.keep (ρ':=[(0,ptr cR 0),(3,ptr qQ 0)]) [0,3] rfl ?_
 refine Zq ?_
 refine VC.draw [(0,true),(1,true),(2,true),(3,true),(4,true),(5,false),(6,false)] mixed (by kernel_rfl) (by kernel_rfl) (by kernel_rfl) ?_
 refine Zw rfl (bI rfl) ?_
 refine Zw rfl (aJ rfl) ?_
 refine Zw rfl (aB eM rfl) ?_
 refine Zw rfl (aB tD rfl) ?_
 refine Zw rfl (aI cD rfl rfl) ?_
 refine VD.one rfl ?_
 refine VL.lit (α:=bN) (xs:=[.tmp 22]) (vs:=[str s_1.text]) [s_1.text] Tryz.underlying89 oZ (by decide) rfl rfl rfl rfl (by decide) (fun _ _ _ _=>trivial) (by decide) (fun a09 aWv => ?_) (by decide)
 replace hS:=dL aWv hS
 refine VL.back (D':=[(2,ptr cR 0),(1,ptr cR 0)]) (by kernel_rfl) (aF.cons rfl (aB eM rfl) (aF.cons rfl (aJ rfl) (aF.nil))) ?_
 refine VD.one rfl ?_
 obtain ⟨JA,N2,hS⟩:=bF hS
 refine VL.cT (jA cR HK a09 N2) rfl (by decide) ?_
 rintro GN rfl
 try dsimp only
 refine VL.back (D':=[]) (by kernel_rfl) (aF.nil) ?_
 refine VD.to (fun _ _ h=>h) ?_
 refine Zq (Zr ?_)
 refine Zm ?_
 refine Zu (aB zP rfl) ?_
 refine Zu (aI mG rfl rfl) ?_
 obtain ⟨RA,aA1,hS⟩:=bF hS
 refine VL.cT (CG cR GN s_1.mV aA1) rfl (by decide) ?_
 rintro aPF rfl
 try dsimp only
 refine Zl ?_
 refine VC.keep (ρ':=[(0,ptr cR 0),(3,ptr qQ 0)]) [0,3] rfl ?_
 refine Zq (Zr ?_)
 refine Zm ?_
 refine Zu (aB xH rfl) ?_
 refine Zu (aI mG rfl rfl) ?_
 obtain ⟨aMz,aQ4,hS⟩:=bF hS
 refine VL.cT (CG cR aPF s_1.todo aQ4) rfl (by decide) ?_
 rintro aPJ rfl
 try dsimp only
 refine Zl ?_
 refine Zq ?_
 refine VC.draw [(0,true),(1,true),(2,true),(3,true),(4,true),(5,false),(6,false)] mixed (by kernel_rfl) (by kernel_rfl) (by kernel_rfl) ?_
 refine Zw rfl (bI rfl) ?_
 refine Zw rfl (aJ rfl) ?_
 refine Zw rfl (aB eM rfl) ?_
 refine Zw rfl (aB wE rfl) ?_
 refine Zw rfl (aI cN rfl rfl) ?_
 refine VD.one rfl ?_
 refine VL.lit (α:=Int) (xs:=[.tmp 37]) (vs:=[i64 s_1.made]) [s_1.made] Tryz.underlying32 vO (by decide) rfl rfl rfl rfl (by decide) (fun _ _ _ _=>trivial) (by decide) (fun aXw aSS => ?_) (by decide)
 replace hS:=dL aSS hS
 refine VL.back (D':=[(2,ptr cR 0),(1,ptr cR 0)]) (by kernel_rfl) (aF.cons rfl (aB eM rfl) (aF.cons rfl (aJ rfl) (aF.nil))) ?_
 refine VD.one rfl ?_
 obtain ⟨aNC,aQf,hS⟩:=bF hS
 refine VL.cT (gG cR aPJ aXw aQf) rfl (by decide) ?_
 rintro aPR rfl
 try dsimp only
 refine VL.back (D':=[]) (by kernel_rfl) (aF.nil) ?_
 refine VD.to (fun _ _ h=>h) ?_
 refine VC.keep (ρ':=[(0,ptr cR 0),(3,ptr qQ 0)]) [0,3] rfl ?_
 refine Zq ?_
 refine VC.draw [(0,true),(1,true),(2,true),(3,true),(4,true),(5,false),(6,false)] mixed (by kernel_rfl) (by kernel_rfl) (by kernel_rfl) ?_
 refine Zw rfl (bI rfl) ?_
 refine Zw rfl (aJ rfl) ?_
 refine Zw rfl (aB eM rfl) ?_
 refine Zw rfl (aB uX rfl) ?_
 refine Zw rfl (aI cD rfl rfl) ?_
 refine VD.one rfl ?_
 refine VL.lit (α:=bN) (xs:=[.tmp 44]) (vs:=[str s_1.branch]) [s_1.branch] Tryz.underlying89 oZ (by decide) rfl rfl rfl rfl (by decide) (fun _ _ _ _=>trivial) (by decide) (fun aYA aSX => ?_) (by decide)
 replace hS:=dL aSX hS
 refine VL.back (D':=[(2,ptr cR 0),(1,ptr cR 0)]) (by kernel_rfl) (aF.cons rfl (aB eM rfl) (aF.cons rfl (aJ rfl) (aF.nil))) ?_
 refine VD.one rfl ?_
 obtain ⟨aNF,aQl,hS⟩:=bF hS
 refine VL.cT (jA cR aPR aYA aQl) rfl (by decide) ?_
 rintro aPU rfl
 try dsimp only
 refine VL.back (D':=[]) (by kernel_rfl) (aF.nil) ?_
 refine VD.to (fun _ _ h=>h) ?_
 refine Zq (Zr ?_)
 refine Zm ?_
 refine Zu (aB nL rfl) ?_
 refine Zu (sL (j:=7) (n:=2) IM rfl rfl rfl) ?_
 obtain ⟨ND,aAa,hS⟩:=bF hS
 refine VL.cT (CT cR aPU (⟨s_1.aG,s_1.aH⟩:lV) aAa) rfl (by decide) ?_
 rintro X6 rfl
 try dsimp only
 refine Zl ?_
 refine VC.keep (ρ':=[(0,ptr cR 0),(3,ptr qQ 0)]) [0,3] rfl ?_
 refine Zq (Zr ?_)
 refine Zm ?_
 refine Zu (aB wF rfl) ?_
 refine Zu (aI lW rfl rfl) ?_
 obtain ⟨aNJ,aQy,hS⟩:=bF hS
 refine VL.cT (zY cR X6 s_1.index aQy) rfl (by decide) ?_
 rintro aPX rfl
 try dsimp only
 refine Zl ?_
 refine Zr ?_
 refine Zm ?_
 refine Zu (aB uY rfl) ?_
 refine Zu (aI iQ rfl rfl) ?_
 obtain ⟨aNK,aRB,hS⟩:=bF hS
 refine VL.cT (tQ cR aPX s_1.work aRB) rfl (by decide) ?_
 rintro aPY rfl
 try dsimp only
 cases hS
 exact VL.nil (pK (.inl rfl) rfl ⟨aPY.eR⟩ rfl rfl (by (try dsimp only); exact dQ.out) (by (try dsimp only); exact fL.out))
theorem EZ (cR:Nat) (w_0:eX) (n_1:eK) {r:dX} (hS:Sh.q5 w_0.pl n_1.pl=some r) :
 Ct Tryz.prog 66 [ptr cR 0,.agg #[n_1.work.val,n_1.index.val,n_1.refs.val,str n_1.aG,i64 n_1.aH,str n_1.aW,i64 n_1.aS,str n_1.aV,n_1.aN.val,n_1.aT.val,i64 n_1.aY,str n_1.aM,str n_1.aC,i64 n_1.aE,n_1.aO.val,n_1.aU.val,n_1.bJ.val]] (n_1.work.ok.and (n_1.index.ok.and (n_1.refs.ok.and (n_1.aN.ok.and (n_1.aT.ok.and (n_1.aO.ok.and (n_1.aU.ok.and n_1.bJ.ok))))))) (Ow.star (Sv.own w_0.eR 5) (bT cR [w_0.eR.val] 157)) (X:=eX) (fun x => .tuple #[]) (fun x=>r=x.pl) (fun x=>Mo.tt) (fun x=>Ow.star (bT cR [x.eR.val] 157) (Sv.own x.eR 5)):=by
 refine Zo Tryz.func66 Tryz.ntmps66 fun c => ?_
 unfold Sh.q5 at hS
 refine Zq (Zr ?_)
 refine VL.box (cs:=[n_1.work.val,n_1.index.val,n_1.refs.val,str n_1.aG,i64 n_1.aH,str n_1.aW,i64 n_1.aS,str n_1.aV,n_1.aN.val,n_1.aT.val,i64 n_1.aY,str n_1.aM,str n_1.aC,i64 n_1.aE,n_1.aO.val,n_1.aU.val,n_1.bJ.val]) rfl rfl (by decide) fun qQ => ?_
 refine Zl ?_
 refine Zq (Zr ?_)
 refine Zm ?_
 refine Zu (aB EJ rfl) ?_
 refine Zu (aI iQ rfl rfl) ?_
 obtain ⟨H6,aEd,hS⟩:=bF hS
 refine VL.cT (tQ cR w_0 n_1.work aEd) rfl (by decide) ?_
 rintro aTW rfl
 try dsimp only
 refine Zl ?_
 refine Zq (Zr ?_)
 refine Zm ?_
 refine Zu (aB zQ rfl) ?_
 refine Zu (aI lW rfl rfl) ?_
 obtain ⟨JX,TU,hS⟩:=bF hS
 refine VL.cT (zY cR aTW n_1.index TU) rfl (by decide) ?_
 rintro aT1 rfl
 try dsimp only
 refine Zl ?_
 refine VC.keep (ρ':=[(0,ptr cR 0),(3,ptr qQ 0)]) [0,3] rfl ?_
 refine Zq ?_
 refine VC.draw [(0,true),(1,true),(2,true),(3,true),(4,true),(5,true),(6,false),(7,false)] mixed (by kernel_rfl) (by kernel_rfl) (by kernel_rfl) ?_
 refine Zw rfl (bI rfl) ?_
 refine Zw rfl (aJ rfl) ?_
 refine Zw rfl (aB eM rfl) ?_
 refine Zw rfl (aB lK rfl) ?_
 refine Zw rfl (aI qS rfl rfl) ?_
 refine Zw rfl (fH (s:=n_1.refs) Tryz.underlying52 rfl) ?_
 refine VD.one rfl ?_
 refine VL.lit (α:=Int) (xs:=[.tmp 21]) (vs:=[i64 (n_1.refs.l.length:Int)]) [(n_1.refs.l.length:Int)] Tryz.underlying32 vO (by decide) rfl rfl rfl rfl (by decide) (fun _ _ _ _=>trivial) (by decide) (fun a07 aWs => ?_) (by decide)
 replace hS:=dL aWs hS
 refine VL.back (D':=[(2,ptr cR 0),(1,ptr cR 0)]) (by kernel_rfl) (aF.cons rfl (aB eM rfl) (aF.cons rfl (aJ rfl) (aF.nil))) ?_
 refine VD.one rfl ?_
 obtain ⟨zM,T4,hS⟩:=bF hS
 refine VL.cT (gG cR aT1 a07 T4) rfl (by decide) ?_
 rintro u9 rfl
 try dsimp only
 refine VL.back (D':=[]) (by kernel_rfl) (aF.nil) ?_
 refine VD.to (fun _ _ h=>h) ?_
 refine Zq (Zq (Zr ?_))
 refine Zu (aB lK rfl) ?_
 refine Zu (aI qS rfl rfl) ?_
 refine Zu (fH (s:=n_1.refs) Tryz.underlying52 rfl) ?_
 refine Zy ?_
 refine VC.keep (ρ':=[(0,ptr cR 0),(3,ptr qQ 0),(25,n_1.refs.val),(26,i64 (n_1.refs.l.length:Int)),(27,i64 0)]) [0,3,25,26,27] rfl ?_
 refine Zb ?_
 refine VC.iter (S:=Int×Sv UInt8) (fun sg=>(sg.1,sg.2.l)) (fun sg=>[(0,ptr cR 0),(3,ptr qQ 0),(25,n_1.refs.val),(26,i64 (n_1.refs.l.length:Int)),(27,i64 sg.1)]) (fun sg=>Mo.tt) (fun sg=>Ow.star (bT cR [sg.2.val] 157) (Ow.star (bT qQ [n_1.work.val,n_1.index.val,n_1.refs.val,str n_1.aG,i64 n_1.aH,str n_1.aW,i64 n_1.aS,str n_1.aV,n_1.aN.val,n_1.aT.val,i64 n_1.aY,str n_1.aM,str n_1.aC,i64 n_1.aE,n_1.aO.val,n_1.aU.val,n_1.bJ.val] 61) (Ow.star (Sv.own sg.2 5) (Ow.emp)))) (0,u9.eR) [0,3,25,26,27] hS rfl ?_
 clear hS
 rintro ⟨PV,nJ⟩ m1 y1 hS hK1
 refine Zq (Zr ?_)
 refine Zu (dA rfl rfl) ?_
 refine Zl ?_
 refine Zq ?_
 refine Zc hS (fun h28 hS => ?_) (fun h28 hS => ?_)
 ·
  refine Zk ?_
  refine Zq (Zb (Zq (Zr ?_)))
  obtain ⟨ID,aMS,aLp,hS⟩:=eW hS
  refine Zu (dH (s:=n_1.refs) Tryz.underlying52 uL rfl rfl aMS (bC aMS aLp)) ?_
  refine Zu (jL (s:=n_1.refs) G3 rfl rfl aLp) ?_
  refine VL.alloc (cs:=[str [],i64 0]) (by kernel_rfl) (by decide) fun aZX => ?_
  refine Zv (vc:=[str ID.name,i64 ID.cB]) (cs':=[str ID.name,i64 ID.cB]) rfl uL ?_
  refine Zl ?_
  refine Zq ?_
  refine VC.draw [(0,true),(1,true),(2,true),(3,true),(4,true),(5,false),(6,false)] mixed (by kernel_rfl) (by kernel_rfl) (by kernel_rfl) ?_
  refine Zw rfl (bI rfl) ?_
  refine Zw rfl (aJ rfl) ?_
  refine Zw rfl (aB eM rfl) ?_
  refine Zw rfl (aB AM rfl) ?_
  refine Zw rfl (aI cD rfl rfl) ?_
  refine VD.one rfl ?_
  refine VL.lit (α:=bN) (xs:=[.tmp 35]) (vs:=[str ID.name]) [ID.name] Tryz.underlying89 oZ (by decide) rfl rfl rfl rfl (by decide) (fun _ _ _ _=>trivial) (by decide) (fun Z0 UL => ?_) (by decide)
  replace hS:=dL UL hS
  refine VL.back (D':=[(2,ptr cR 0),(1,ptr cR 0)]) (by kernel_rfl) (aF.cons rfl (aB eM rfl) (aF.cons rfl (aJ rfl) (aF.nil))) ?_
  refine VD.one rfl ?_
  obtain ⟨aNB,aQd,hS⟩:=bF hS
  refine VL.cT (jA cR (⟨nJ⟩:eX) Z0 aQd) rfl (by decide) ?_
  rintro aPQ rfl
  try dsimp only
  refine VL.back (D':=[]) (by kernel_rfl) (aF.nil) ?_
  refine VD.to (fun _ _ h=>h) ?_
  refine VC.keep (ρ':=[(0,ptr cR 0),(3,ptr qQ 0),(25,n_1.refs.val),(26,i64 (n_1.refs.l.length:Int)),(27,i64 PV),(5,ptr aZX 0)]) [0,3,25,26,27,5] rfl ?_
  refine VC.draw [(0,true),(1,true),(2,true),(3,true),(4,true),(5,false),(6,false)] mixed (by kernel_rfl) (by kernel_rfl) (by kernel_rfl) ?_
  refine Zw rfl (bI rfl) ?_
  refine Zw rfl (aJ rfl) ?_
  refine Zw rfl (aB eM rfl) ?_
  refine Zw rfl (aB KF rfl) ?_
  refine Zw rfl (aI cN rfl rfl) ?_
  refine VD.one rfl ?_
  refine VL.lit (α:=Int) (xs:=[.tmp 42]) (vs:=[i64 ID.cB]) [ID.cB] Tryz.underlying32 vO (by decide) rfl rfl rfl rfl (by decide) (fun _ _ _ _=>trivial) (by decide) (fun aXy aSU => ?_) (by decide)
  replace hS:=dL aSU hS
  refine VL.back (D':=[(2,ptr cR 0),(1,ptr cR 0)]) (by kernel_rfl) (aF.cons rfl (aB eM rfl) (aF.cons rfl (aJ rfl) (aF.nil))) ?_
  refine VD.one rfl ?_
  obtain ⟨aNE,aQj,hS⟩:=bF hS
  refine VL.cT (gG cR aPQ aXy aQj) rfl (by decide) ?_
  rintro aPT rfl
  try dsimp only
  refine VL.back (D':=[]) (by kernel_rfl) (aF.nil) ?_
  refine VD.to (fun _ _ h=>h) ?_
  refine VC.keep (ρ':=[(0,ptr cR 0),(3,ptr qQ 0),(25,n_1.refs.val),(26,i64 (n_1.refs.l.length:Int)),(27,i64 PV)]) [0,3,25,26,27] rfl ?_
  refine Zr ?_
  obtain ⟨b45,hS⟩:=bQ hS
  refine Zu (dZ rfl rfl b45) ?_
  refine Zm ?_
  refine VL.kE ((PV+1),aPT.eR) [0,3,25,26,27] (fun _ _ h=>h) (go2 hS hK1) rfl
 replace hS:=fF hS hK1
 refine Zx ?_
 refine Zq (Zr ?_)
 refine Zm ?_
 refine Zu (aB jU rfl) ?_
 refine Zu (sL (j:=3) (n:=2) IM rfl rfl rfl) ?_
 obtain ⟨WZ,aQo,hS⟩:=bF hS
 refine VL.cT (CT cR (⟨nJ⟩:eX) (⟨n_1.aG,n_1.aH⟩:lV) aQo) rfl (by decide) ?_
 rintro aPV rfl
 try dsimp only
 refine Zl ?_
 refine Zq (Zr ?_)
 refine Zm ?_
 refine Zu (aB sF rfl) ?_
 refine Zu (sL (j:=5) (n:=11) QJ rfl rfl rfl) ?_
 obtain ⟨aNI,aQu,hS⟩:=bF hS
 refine VL.cT (PB cR aPV (⟨n_1.aW,n_1.aS,n_1.aV,n_1.aN,n_1.aT,n_1.aY,n_1.aM,n_1.aC,n_1.aE,n_1.aO,n_1.aU⟩:oK) aQu) rfl (by decide) ?_
 rintro aPW rfl
 try dsimp only
 refine Zl ?_
 refine VC.keep (ρ':=[(0,ptr cR 0),(3,ptr qQ 0)]) [0,3] rfl ?_
 refine Zq ?_
 refine VC.draw [(0,true),(1,true),(2,true),(3,true),(4,true),(5,true),(6,false),(7,false)] mixed (by kernel_rfl) (by kernel_rfl) (by kernel_rfl) ?_
 refine Zw rfl (bI rfl) ?_
 refine Zw rfl (aJ rfl) ?_
 refine Zw rfl (aB eM rfl) ?_
 refine Zw rfl (aB j8 rfl) ?_
 refine Zw rfl (aI nD rfl rfl) ?_
 refine Zw rfl (iT bR.pl (s:=n_1.bJ) Tryz.underlying59 rfl) ?_
 refine VD.one rfl ?_
 refine VL.lit (α:=Int) (xs:=[.tmp 59]) (vs:=[i64 ((n_1.bJ.l.map bR.pl).length:Int)]) [((n_1.bJ.l.map bR.pl).length:Int)] Tryz.underlying32 vO (by decide) rfl rfl rfl rfl (by decide) (fun _ _ _ _=>trivial) (by decide) (fun aYF aS4 => ?_) (by decide)
 replace hS:=dL aS4 hS
 refine VL.back (D':=[(2,ptr cR 0),(1,ptr cR 0)]) (by kernel_rfl) (aF.cons rfl (aB eM rfl) (aF.cons rfl (aJ rfl) (aF.nil))) ?_
 refine VD.one rfl ?_
 obtain ⟨aNM,aRG,hS⟩:=bF hS
 refine VL.cT (gG cR aPW aYF aRG) rfl (by decide) ?_
 rintro aPZ rfl
 try dsimp only
 refine VL.back (D':=[]) (by kernel_rfl) (aF.nil) ?_
 refine VD.to (fun _ _ h=>h) ?_
 refine Zq (Zr ?_)
 refine Zu (aB j8 rfl) ?_
 refine Zu (aI nD rfl rfl) ?_
 refine Zu (iT bR.pl (s:=n_1.bJ) Tryz.underlying59 rfl) ?_
 refine Zy ?_
 refine VC.keep (ρ':=[(0,ptr cR 0),(63,n_1.bJ.val),(64,i64 ((n_1.bJ.l.map bR.pl).length:Int)),(65,i64 0)]) [0,63,64,65] rfl ?_
 refine Zb ?_
 refine VC.iter (S:=Int×Sv UInt8) (fun sg=>(sg.1,sg.2.l)) (fun sg=>[(0,ptr cR 0),(63,n_1.bJ.val),(64,i64 ((n_1.bJ.l.map bR.pl).length:Int)),(65,i64 sg.1)]) (fun sg=>Mo.tt) (fun sg=>Ow.star (bT cR [sg.2.val] 157) (Ow.star (bT qQ [n_1.work.val,n_1.index.val,n_1.refs.val,str n_1.aG,i64 n_1.aH,str n_1.aW,i64 n_1.aS,str n_1.aV,n_1.aN.val,n_1.aT.val,i64 n_1.aY,str n_1.aM,str n_1.aC,i64 n_1.aE,n_1.aO.val,n_1.aU.val,n_1.bJ.val] 61) (Ow.star (Sv.own sg.2 5) (Ow.emp)))) (0,aPZ.eR) [0,63,64,65] hS rfl ?_
 clear hS
 rintro ⟨F8,aAP⟩ m1 y1 hS hK1
 refine Zq (Zr ?_)
 refine Zu (dA rfl rfl) ?_
 refine Zl ?_
 refine Zq ?_
 refine Zc hS (fun h66 hS => ?_) (fun h66 hS => ?_)
 ·
  refine Zk ?_
  refine Zq (Zb (Zq (Zr ?_)))
  obtain ⟨q6,aIk,aBJ,hS⟩:=kQ hS
  refine VL.deep q6.m aBJ (fun _ q=>q) ?_
  refine Zu (dH (s:=n_1.bJ) Tryz.underlying59 pR rfl rfl aIk (bC aIk aBJ)) ?_
  refine Zu (jL (s:=n_1.bJ) G1 rfl rfl aBJ) ?_
  refine VL.alloc (cs:=[i64 0,.slice none 0 0,.slice none 0 0,str []]) (by kernel_rfl) (by decide) fun aPt => ?_
  refine Zv (vc:=[i64 q6.base,q6.index.val,q6.work.val,str q6.text]) (cs':=[i64 q6.base,q6.index.val,q6.work.val,str q6.text]) rfl pR ?_
  refine Zl ?_
  refine Zq ?_
  refine VC.draw [(0,true),(1,true),(2,true),(3,true),(4,true),(5,false),(6,false)] mixed (by kernel_rfl) (by kernel_rfl) (by kernel_rfl) ?_
  refine Zw rfl (bI rfl) ?_
  refine Zw rfl (aJ rfl) ?_
  refine Zw rfl (aB eM rfl) ?_
  refine Zw rfl (aB C3 rfl) ?_
  refine Zw rfl (aI cN rfl rfl) ?_
  refine VD.one rfl ?_
  refine VL.lit (α:=Int) (xs:=[.tmp 73]) (vs:=[i64 q6.base]) [q6.base] Tryz.underlying32 vO (by decide) rfl rfl rfl rfl (by decide) (fun _ _ _ _=>trivial) (by decide) (fun aYJ aSa => ?_) (by decide)
  replace hS:=dL aSa hS
  refine VL.back (D':=[(2,ptr cR 0),(1,ptr cR 0)]) (by kernel_rfl) (aF.cons rfl (aB eM rfl) (aF.cons rfl (aJ rfl) (aF.nil))) ?_
  refine VD.one rfl ?_
  obtain ⟨aNQ,aRT,hS⟩:=bF hS
  refine VL.cT (gG cR (⟨aAP⟩:eX) aYJ aRT) rfl (by decide) ?_
  rintro aP1 rfl
  try dsimp only
  refine VL.back (D':=[]) (by kernel_rfl) (aF.nil) ?_
  refine VD.to (fun _ _ h=>h) ?_
  refine VC.keep (ρ':=[(0,ptr cR 0),(63,n_1.bJ.val),(64,i64 ((n_1.bJ.l.map bR.pl).length:Int)),(65,i64 F8),(7,ptr aPt 0)]) [0,63,64,65,7] rfl ?_
  refine Zq (Zr ?_)
  refine Zm ?_
  refine Zu (aB GI rfl) ?_
  refine Zu (aI iQ rfl rfl) ?_
  obtain ⟨aNR,aRV,hS⟩:=bF hS
  refine VL.cT (tQ cR aP1 q6.index aRV) rfl (by decide) ?_
  rintro aP2 rfl
  try dsimp only
  refine Zl ?_
  refine Zq (Zr ?_)
  refine Zm ?_
  refine Zu (aB C4 rfl) ?_
  refine Zu (aI iQ rfl rfl) ?_
  obtain ⟨aNS,aRZ,hS⟩:=bF hS
  refine VL.cT (tQ cR aP2 q6.work aRZ) rfl (by decide) ?_
  rintro aP3 rfl
  try dsimp only
  refine Zl ?_
  refine VC.keep (ρ':=[(0,ptr cR 0),(63,n_1.bJ.val),(64,i64 ((n_1.bJ.l.map bR.pl).length:Int)),(65,i64 F8),(7,ptr aPt 0)]) [0,63,64,65,7] rfl ?_
  refine VC.draw [(0,true),(1,true),(2,true),(3,true),(4,true),(5,false),(6,false)] mixed (by kernel_rfl) (by kernel_rfl) (by kernel_rfl) ?_
  refine Zw rfl (bI rfl) ?_
  refine Zw rfl (aJ rfl) ?_
  refine Zw rfl (aB eM rfl) ?_
  refine Zw rfl (aB GJ rfl) ?_
  refine Zw rfl (aI cD rfl rfl) ?_
  refine VD.one rfl ?_
  refine VL.lit (α:=bN) (xs:=[.tmp 88]) (vs:=[str q6.text]) [q6.text] Tryz.underlying89 oZ (by decide) rfl rfl rfl rfl (by decide) (fun _ _ _ _=>trivial) (by decide) (fun aYK aSb => ?_) (by decide)
  replace hS:=dL aSb hS
  refine VL.back (D':=[(2,ptr cR 0),(1,ptr cR 0)]) (by kernel_rfl) (aF.cons rfl (aB eM rfl) (aF.cons rfl (aJ rfl) (aF.nil))) ?_
  refine VD.one rfl ?_
  obtain ⟨aNU,aR5,hS⟩:=bF hS
  refine VL.cT (jA cR aP3 aYK aR5) rfl (by decide) ?_
  rintro aP4 rfl
  try dsimp only
  refine VL.back (D':=[]) (by kernel_rfl) (aF.nil) ?_
  refine VD.to (fun _ _ h=>h) ?_
  refine VC.keep (ρ':=[(0,ptr cR 0),(63,n_1.bJ.val),(64,i64 ((n_1.bJ.l.map bR.pl).length:Int)),(65,i64 F8)]) [0,63,64,65] rfl ?_
  refine Zr ?_
  obtain ⟨b91,hS⟩:=bQ hS
  refine Zu (dZ rfl rfl b91) ?_
  refine Zm ?_
  refine VL.kE ((F8+1),aP4.eR) [0,63,64,65] (fun _ _ h=>h) (go2 hS hK1) rfl
 replace hS:=fF hS hK1
 cases hS
 exact VC.exit (pK (.inl rfl) rfl ⟨aAP⟩ rfl rfl (by (try dsimp only); exact dQ.out) (by (try dsimp only); exact fL.out))
theorem yA (aD:Sv UInt8) {r:List UInt8} (hS:Sh.mN aD.l=some r) :
 Ct Tryz.prog 123 [aD.val] aD.ok (Ow.emp) (X:=Sv UInt8) (fun x=>x.val) (fun x=>r=x.l) (fun x=>Mo.tt) (fun x=>Sv.own x 5):=by
 refine Zo Tryz.func123 Tryz.ntmps123 fun c => ?_
 unfold Sh.mN at hS
 refine Zq (Zr ?_)
 refine Zy ?_
 refine Zq (Zq (Zr ?_))
 refine Zm ?_
 refine Zu (aJF (s:=aD) Tryz.underlying22 rfl) ?_
 refine Zl ?_
 refine VC.slnil (s:=aD) rfl (fun h4 => ?_) ?_
 ·
  have hS:(some [])=some r:=by
    simp [lt,gd,h4] at hS ⊢
    try exact hS
  refine Zq (Zr ?_)
  refine Zy ?_
  refine VC.qU (⟨none,0,[]⟩:Sv UInt8) 5 ⟨rfl,rfl⟩ ?_
  cases hS
  exact VC.ret (iU (.inr rfl) rfl rfl ⟨none,0,[]⟩ rfl rfl (by (try dsimp only); exact dQ.out) (by (try dsimp only); exact fL.out))
 refine Zk ?_
 refine Zq (Zr ?_)
 refine VL.aZA (α:=UInt8) Tryz.underlying22 aZl (by decide) (fun aJT aAz aFH => ?_)
 refine VL.qU aJT 5 ⟨aFH,aAz⟩ ?_
 replace hS:=dL aAz hS
 refine Zm ?_
 obtain ⟨b7,hS⟩:=bQ hS
 refine VL.app (s:=aJT) (r:=aD) Tryz.underlying22 aJq (by decide) rfl Fo.out (CW b7) (CX b7 (by decide)) (by decide) (fun aUR aJv => ?_)
 replace hS:=dL aJv hS
 refine Zy ?_
 cases hS
 exact VC.ret (iU (.inr rfl) rfl rfl aUR rfl rfl (by (try dsimp only); exact dQ.out) (by (try dsimp only); exact fL.out))
theorem IF (aD:Sv UInt8) {r:List UInt8} (hS:Sh.o4 aD.l=some r) :
 Ct Tryz.prog 129 [aD.val] aD.ok (Ow.emp) (X:=Sv UInt8) (fun x=>x.val) (fun x=>r=x.l) (fun x=>x.ok) (fun x=>Ow.emp):=by
 refine Zo Tryz.func129 Tryz.ntmps129 fun c => ?_
 unfold Sh.o4 at hS
 refine Zq (Zr ?_)
 refine Zy ?_
 refine Zq (Zr ?_)
 refine Zy ?_
 refine Zu (fH (s:=aD) Tryz.underlying22 rfl) ?_
 refine Zm ?_
 refine Zu (fH (s:=aD) Tryz.underlying22 rfl) ?_
 obtain ⟨b8,hS⟩:=bQ hS
 refine VL.RW Tryz.underlying22 aHf rfl rfl rfl b8.1 (b8.2) (by decide) fun BZ vQ => ?_
 replace hS:=dL vQ hS
 refine Zy ?_
 cases hS
 exact VC.ret (iU (.inr rfl) rfl rfl BZ rfl rfl (by (try dsimp only); exact dQ.out) (fun _ _=>trivial))
theorem FH (rY:Nat) (oG:eX) {r:List UInt8} (hS:Sh.uS oG.pl=some r) :
 Ct Tryz.prog 63 [ptr rY 0] Mo.tt (Ow.star (Sv.own oG.eR 5) (bT rY [oG.eR.val] 157)) (X:=Sv UInt8) (fun x=>x.val) (fun x=>r=x.l) (fun x=>x.ok) (fun x=>Ow.star (bT rY [oG.eR.val] 157) (Sv.own oG.eR 5)):=by
 refine Zo Tryz.func63 Tryz.ntmps63 fun c => ?_
 unfold Sh.uS at hS
 refine Zq (Zr ?_)
 refine Zy ?_
 refine Zq (Zr ?_)
 refine Zm ?_
 refine Zu (aJ rfl) ?_
 refine Zu (aB C2 rfl) ?_
 refine Zu (aI z6 rfl rfl) ?_
 obtain ⟨lT,oH,hS⟩:=bF hS
 refine VL.aVQ (yA oG.eR oH) rfl (by decide) ?_
 rintro pT rfl
 try dsimp only
 refine VL.shut pT 5 (fun _ _ _ _=>trivial) ?_
 obtain ⟨oF,CZ,hS⟩:=bF hS
 refine VL.gI (IF pT CZ) rfl (by decide) ?_
 rintro sZ rfl
 try dsimp only
 refine Zy ?_
 cases hS
 exact VC.ret (iU (.inr rfl) rfl rfl sZ rfl rfl (by (try dsimp only); exact dQ.out) (by (try dsimp only); exact fL.out))
theorem CC (bE:eK) {r:bN} (hS:Sh.vJ bE.pl=some r) :
 Ct Tryz.prog 22 [.agg #[bE.work.val,bE.index.val,bE.refs.val,str bE.aG,i64 bE.aH,str bE.aW,i64 bE.aS,str bE.aV,bE.aN.val,bE.aT.val,i64 bE.aY,str bE.aM,str bE.aC,i64 bE.aE,bE.aO.val,bE.aU.val,bE.bJ.val]] (bE.work.ok.and (bE.index.ok.and (bE.refs.ok.and (bE.aN.ok.and (bE.aT.ok.and (bE.aO.ok.and (bE.aU.ok.and bE.bJ.ok))))))) (Ow.emp) (X:=Unit) (fun _=>str r) (fun _=>True) (fun _=>Mo.tt) (fun _=>Ow.emp):=by
 refine Zo Tryz.func22 Tryz.ntmps22 fun c => ?_
 unfold Sh.vJ at hS
 refine Zq (Zr ?_)
 refine VL.box (cs:=[bE.work.val,bE.index.val,bE.refs.val,str bE.aG,i64 bE.aH,str bE.aW,i64 bE.aS,str bE.aV,bE.aN.val,bE.aT.val,i64 bE.aY,str bE.aM,str bE.aC,i64 bE.aE,bE.aO.val,bE.aU.val,bE.bJ.val]) rfl rfl (by decide) fun cM => ?_
 refine Zy ?_
 refine Zq (Zr ?_)
 refine VL.alloc (cs:=[.slice none 0 0]) (by kernel_rfl) (by decide) fun eZ => ?_
 refine Zl ?_
 refine Zq (Zr ?_)
 refine Zu (gZ oB rfl rfl) ?_
 refine VL.qU (⟨none,0,[]⟩:Sv UInt8) 5 ⟨rfl,rfl⟩ ?_
 refine VL.RL eZ (cs':=[(⟨none,0,[]⟩:Sv UInt8).val]) rfl ?_
 obtain ⟨mO,N5,hS⟩:=bF hS
 refine VL.cT (EZ eZ (⟨(⟨none,0,[]⟩:Sv UInt8)⟩:eX) bE N5) rfl (by decide) ?_
 rintro bG rfl
 try dsimp only
 refine Zl ?_
 refine Zq (Zr ?_)
 refine Zu (aB eM rfl) ?_
 obtain ⟨JC,SN,hS⟩:=bF hS
 refine VL.cT (FH eZ bG SN) rfl (by decide) ?_
 rintro aF9 rfl
 try dsimp only
 refine Zu (X7 (s:=aF9) Tryz.underlying22 Tryz.underlying5 Tryz.underlying9 rfl) ?_
 refine Zy ?_
 cases hS
 exact Ze
theorem TN (XB:Sv UInt8) {r:cE} (hS:Sh.GD XB.l=some r) :
 Ct Tryz.prog 49 [XB.val] XB.ok (Ow.emp) (X:=Nat×dO) (fun x=>ptr x.1 0) (fun x=>r=x.2.pl) (fun x=>(x.2.b.ok.and x.2.err.ok)) (fun x=>bT x.1 [x.2.b.val,i64 x.2.at_,x.2.err.val] 233):=by
 refine Zo Tryz.func49 Tryz.ntmps49 fun c => ?_
 unfold Sh.GD at hS
 refine Zq (Zr ?_)
 refine Zy ?_
 refine Zq (Zr ?_)
 refine Zm ?_
 obtain ⟨aEY,aJn,hS⟩:=bF hS
 refine VL.cT (yA XB aJn) rfl (by decide) ?_
 rintro Q4 rfl
 try dsimp only
 refine Zu (eO (vs:=[(0,Q4.val)]) (cs := #[Q4.val,i64 0,.nilIface]) rfl (by kernel_rfl)) ?_
 refine VL.box (cs:=[Q4.val,i64 0,.nilIface]) rfl rfl (by decide) fun aLR => ?_
 refine Zy ?_
 refine VC.shut Q4 5 (fun _ _ _ _=>trivial) ?_
 refine VC.RL aLR (cs':=[Q4.val,i64 0,(Er.nil).val]) rfl ?_
 cases hS
 exact VC.ret (iU (.inr rfl) rfl rfl (aLR,⟨Q4,0,(Er.nil)⟩) rfl rfl (by (try dsimp only); exact dQ.out) (by (try dsimp only); exact fL.out))
theorem SK (lC:Nat) (gD:dO) {r:Int×Int×cE} (hS:Sh.wC gD.pl=some r) :
 Ct Tryz.prog 124 [ptr lC 0] (gD.b.ok.and gD.err.ok) (bT lC [gD.b.val,i64 gD.at_,gD.err.val] 233) (X:=Int×Int×dO) (fun x => .tuple #[.int .u64 x.1,i64 x.2.1]) (fun x=>r=(x.1,x.2.1,x.2.2.pl)) (fun x=>(x.2.2.b.ok.and x.2.2.err.ok)) (fun x=>bT lC [x.2.2.b.val,i64 x.2.2.at_,x.2.2.err.val] 233):=by
 refine Zo Tryz.func124 Tryz.ntmps124 fun c => ?_
 unfold Sh.wC at hS
 refine Zq (Zr ?_)
 refine Zy ?_
 refine Zq (Zr ?_)
 refine Zy ?_
 refine Zq (Zq (Zr ?_))
 refine Zy ?_
 refine Zb ?_
 refine VC.iter (S:=Int×Int) (fun sg=>(sg.1,sg.2)) (fun sg=>[(0,ptr lC 0),(4,.int .u64 sg.1),(7,i64 sg.2)]) (fun sg=>Mo.tt) (fun sg=>Ow.star (bT lC [gD.b.val,i64 gD.at_,gD.err.val] 233) (Ow.emp)) (0,0) [0,4,7] hS rfl ?_
 clear hS
 rintro ⟨HW,nQ⟩ m1 y1 hS hK1
 refine Zq (Zr ?_)
 refine Zu (dA rfl rfl) ?_
 refine Zl ?_
 refine Zq ?_
 refine Zc hS (fun h8 hS => ?_) (fun h8 hS => ?_)
 ·
  refine Zk ?_
  refine Zq (Zb (Zq (Zr ?_)))
  refine Zy ?_
  refine Zq (Zq ?_)
  refine VC.draw ((List.range 12).map fun k=>(k,true)) mixed (by kernel_rfl) (by kernel_rfl) (by kernel_rfl) ?_
  refine Zw rfl (bI rfl) ?_
  refine Zw rfl (aJ rfl) ?_
  refine Zw rfl (aB s9 rfl) ?_
  refine Zw rfl (aI cN rfl rfl) ?_
  refine Zw rfl (bI rfl) ?_
  obtain ⟨b15,hS⟩:=bQ hS
  refine Zw rfl (dZ rfl rfl b15) ?_
  refine Zw rfl (bI rfl) ?_
  refine Zw rfl (aJ rfl) ?_
  refine Zw rfl (aB KG rfl) ?_
  refine Zw rfl (aI z6 rfl rfl) ?_
  refine Zw rfl (fH (s:=gD.b) Tryz.underlying22 rfl) ?_
  refine Zw rfl (rQ rfl rfl) ?_
  refine VD.to (fun _ _ h=>h) ?_
  refine VC.keep (ρ':=[(0,ptr lC 0),(4,.int .u64 HW),(7,i64 nQ),(5,i64 nQ),(21,.bool (decide ((gD.b.l.length:Int)≤(gD.at_+nQ))))]) [0,4,7,5,21] rfl ?_
  refine Zc hS (fun h21 hS => ?_) (fun h21 hS => ?_)
  ·
   refine Zq (Zr ?_)
   refine Zy ?_
   replace hS:=fF hS hK1
   cases hS
   exact VC.ret (KB (.inr rfl) rfl rfl rfl (0,3,⟨gD.b,gD.at_,gD.err⟩) rfl rfl (by (try dsimp only); exact dQ.out) (by (try dsimp only); exact fL.out))
  refine Zk ?_
  refine Zq ?_
  refine VC.draw ((List.range 13).map fun k=>(k,true)) mixed (by kernel_rfl) (by kernel_rfl) (by kernel_rfl) ?_
  refine Zw rfl (bI rfl) ?_
  refine Zw rfl (aJ rfl) ?_
  refine Zw rfl (aB KG rfl) ?_
  refine Zw rfl (aI z6 rfl rfl) ?_
  refine Zw rfl (bI rfl) ?_
  refine Zw rfl (aJ rfl) ?_
  refine Zw rfl (aB s9 rfl) ?_
  refine Zw rfl (aI cN rfl rfl) ?_
  refine Zw rfl (bI rfl) ?_
  obtain ⟨b31,hS⟩:=bQ hS
  refine Zw rfl (dZ rfl rfl b31) ?_
  obtain ⟨uE,aMU,aLq,hS⟩:=eW hS
  refine Zw rfl (dH (s:=gD.b) Tryz.underlying22 aHf rfl rfl aMU (bC aMU aLq)) ?_
  refine Zw rfl (qW (s:=gD.b) aJr rfl aLq rfl) ?_
  refine Zw rfl (iG rfl) ?_
  refine VD.to (fun _ _ h=>h) ?_
  refine VC.keep (ρ':=[(0,ptr lC 0),(4,.int .u64 HW),(7,i64 nQ),(5,i64 nQ),(6,.int .u8 (uE.toNat:Int))]) [0,4,7,5,6] rfl ?_
  refine VC.j0 (S:=Unit) (fun (_:Unit)=>()) (fun (_:Unit)=>[(0,ptr lC 0),(4,.int .u64 HW),(5,i64 nQ),(6,.int .u8 (uE.toNat:Int)),(7,i64 nQ)]) (fun (_:Unit)=>Mo.tt) (fun (_:Unit)=>Ow.star (bT lC [gD.b.val,i64 gD.at_,gD.err.val] 233) (Ow.emp)) hS ?_ ?_
  ·
   clear hS
   intro k4 hS
   refine Zq (Zr ?_)
   refine Zm ?_
   refine Zu (gJ rfl rfl) ?_
   refine Zm ?_
   refine jJ 36 hS (fun h36 hS => ?_) (fun h36 hS => ?_)
   ·
    refine Zg ?_
    refine Zh (gQ rfl rfl) ?_
    refine Zy ?_
    refine jJ 40 hS (fun h40 hS => ?_) (fun h40 hS => ?_)
    ·
     refine VL.runs 7 [(47,some true)] (by kernel_rfl) ?_
     refine Zl ?_
     refine VC.keep (ρ':=[(0,ptr lC 0),(4,.int .u64 HW),(7,i64 nQ),(5,i64 nQ),(6,.int .u8 (uE.toNat:Int)),(47,.bool true)]) [0,4,7,5,6,47] rfl ?_
     refine VC.ZU rfl ?_
     replace hS:=fF hS hK1
     refine Zx ?_
     refine Zq (Zr ?_)
     refine Zy ?_
     cases hS
     exact VC.ret (KB (.inr rfl) rfl rfl rfl (0,2,⟨gD.b,gD.at_,gD.err⟩) rfl rfl (by (try dsimp only); exact dQ.out) (by (try dsimp only); exact fL.out))
    refine Zg ?_
    refine Zh (gQ rfl rfl) ?_
    refine Zg ?_
    refine jJ 43 hS (fun h43 hS => ?_) (fun h43 hS => ?_)
    ·
     refine Zg ?_
     refine Zh (gJ rfl rfl) ?_
     refine Zh (fB rfl rfl) ?_
     refine Zy ?_
     refine VC.keep (ρ':=[(0,ptr lC 0),(4,.int .u64 HW),(7,i64 nQ),(5,i64 nQ),(6,.int .u8 (uE.toNat:Int)),(47,.bool (decide ((uE.toNat:Int)=0)))]) [0,4,7,5,6,47] rfl ?_
     refine Zc hS (fun h47 hS => ?_) (fun h47 hS => ?_)
     ·
      replace hS:=fF hS hK1
      refine Zx ?_
      refine Zq (Zr ?_)
      refine Zy ?_
      cases hS
      exact VC.ret (KB (.inr rfl) rfl rfl rfl (0,2,⟨gD.b,gD.at_,gD.err⟩) rfl rfl (by (try dsimp only); exact dQ.out) (by (try dsimp only); exact fL.out))
     refine VC.qL () [0,4,5,6,7] (fun _ _ h=>h) hS rfl
    refine Zy ?_
    refine Zh (fE rfl rfl) ?_
    refine Zy ?_
    refine VC.keep (ρ':=[(0,ptr lC 0),(4,.int .u64 HW),(7,i64 nQ),(5,i64 nQ),(6,.int .u8 (uE.toNat:Int)),(47,.bool false)]) [0,4,7,5,6,47] rfl ?_
    refine VC.rL rfl ?_
    refine VC.qL () [0,4,5,6,7] (fun _ _ h=>h) hS rfl
   refine VL.runs 4 [(40,some false)] (by kernel_rfl) ?_
   refine Zg ?_
   refine Zh (gQ rfl rfl) ?_
   refine Zg ?_
   refine jJ 43 hS (fun h43 hS => ?_) (fun h43 hS => ?_)
   ·
    refine Zg ?_
    refine Zh (gJ rfl rfl) ?_
    refine Zh (fB rfl rfl) ?_
    refine Zy ?_
    refine VC.keep (ρ':=[(0,ptr lC 0),(4,.int .u64 HW),(7,i64 nQ),(5,i64 nQ),(6,.int .u8 (uE.toNat:Int)),(47,.bool (decide ((uE.toNat:Int)=0)))]) [0,4,7,5,6,47] rfl ?_
    refine Zc hS (fun h47 hS => ?_) (fun h47 hS => ?_)
    ·
     replace hS:=fF hS hK1
     refine Zx ?_
     refine Zq (Zr ?_)
     refine Zy ?_
     cases hS
     exact VC.ret (KB (.inr rfl) rfl rfl rfl (0,2,⟨gD.b,gD.at_,gD.err⟩) rfl rfl (by (try dsimp only); exact dQ.out) (by (try dsimp only); exact fL.out))
    refine VC.qL () [0,4,5,6,7] (fun _ _ h=>h) hS rfl
   refine Zy ?_
   refine Zh (fE rfl rfl) ?_
   refine Zy ?_
   refine VC.keep (ρ':=[(0,ptr lC 0),(4,.int .u64 HW),(7,i64 nQ),(5,i64 nQ),(6,.int .u8 (uE.toNat:Int)),(47,.bool false)]) [0,4,7,5,6,47] rfl ?_
   refine VC.rL rfl ?_
   refine VC.qL () [0,4,5,6,7] (fun _ _ h=>h) hS rfl
  clear hS
  rintro _ hS
  refine Zq (Zr ?_)
  refine Zy ?_
  refine Zu (aKG rfl rfl) ?_
  refine Zu (HP Tryz.underlying5 Tryz.underlying234 rfl) ?_
  refine Zm ?_
  obtain ⟨b53,hS⟩:=bQ hS
  refine Zu (a0T rfl rfl b53) ?_
  obtain ⟨b54,hS⟩:=bQ hS
  refine Zu (aTu rfl rfl b54) ?_
  refine Zu (aZI rfl rfl) ?_
  refine Zy ?_
  refine VC.keep (ρ':=[(0,ptr lC 0),(4,.int .u64 (J8 .u64 HW (O4 .u64 (IntKind.wrap .u64 (wA .u8 (uE.toNat:Int) 127)) (7*nQ)))),(5,i64 nQ),(6,.int .u8 (uE.toNat:Int)),(7,i64 nQ)]) [0,4,5,6,7] rfl ?_
  refine Zq (Zr ?_)
  refine Zm ?_
  refine Zu (dA rfl rfl) ?_
  refine Zl ?_
  refine Zc hS (fun h57 hS => ?_) (fun h57 hS => ?_)
  ·
   refine Zq (Zr ?_)
   refine Zm ?_
   refine Zu (aJ rfl) ?_
   refine Zu (aB s9 rfl) ?_
   refine Zu (aI cN rfl rfl) ?_
   refine Zm ?_
   obtain ⟨b63,hS⟩:=bQ hS
   refine Zu (dZ rfl rfl b63) ?_
   obtain ⟨b64,hS⟩:=bQ hS
   refine Zu (dZ rfl rfl b64) ?_
   refine Zu (aJ rfl) ?_
   refine Zu (aB s9 rfl) ?_
   refine Zv (vc:=[i64 (gD.at_+(nQ+1))]) (cs':=[gD.b.val,i64 (gD.at_+(nQ+1)),gD.err.val]) rfl FI ?_
   refine Zl ?_
   refine VC.keep (ρ':=[(4,.int .u64 (J8 .u64 HW (O4 .u64 (IntKind.wrap .u64 (wA .u8 (uE.toNat:Int) 127)) (7*nQ))))]) [4] rfl ?_
   refine Zq (Zr ?_)
   refine Zy ?_
   replace hS:=fF hS hK1
   cases hS
   exact VC.ret (KB (.inr rfl) rfl rfl rfl ((J8 .u64 HW (O4 .u64 (IntKind.wrap .u64 (wA .u8 (uE.toNat:Int) 127)) (7*nQ))),0,⟨gD.b,(gD.at_+(nQ+1)),gD.err⟩) rfl rfl (by (try dsimp only); exact dQ.out) (by (try dsimp only); exact fL.out))
  refine Zk ?_
  refine Zr ?_
  obtain ⟨b68,hS⟩:=bQ hS
  refine Zu (dZ rfl rfl b68) ?_
  refine Zm ?_
  refine VL.kE ((J8 .u64 HW (O4 .u64 (IntKind.wrap .u64 (wA .u8 (uE.toNat:Int) 127)) (7*nQ))),(nQ+1)) [0,4,7] (fun _ _ h=>h) (go2 hS hK1) rfl
 replace hS:=fF hS hK1
 refine Zx ?_
 refine Zq (Zr ?_)
 refine Zy ?_
 cases hS
 exact VC.ret (KB (.inr rfl) rfl rfl rfl (0,2,⟨gD.b,gD.at_,gD.err⟩) rfl rfl (by (try dsimp only); exact dQ.out) (by (try dsimp only); exact fL.out))
theorem AB (lC:Nat) (gD:dO) (uF:Int) (e_2:Int) {r:cE} (hS:Sh.q8 gD.pl uF e_2=some r) :
 Ct Tryz.prog 125 [ptr lC 0,i64 uF,i64 e_2] (gD.b.ok.and gD.err.ok) (bT lC [gD.b.val,i64 gD.at_,gD.err.val] 233) (X:=dO) (fun x => .tuple #[]) (fun x=>r=x.pl) (fun x=>(x.b.ok.and x.err.ok)) (fun x=>bT lC [x.b.val,i64 x.at_,x.err.val] 233):=by
 refine Zo Tryz.func125 Tryz.ntmps125 fun c => ?_
 unfold Sh.q8 at hS
 refine Zr ?_
 refine Zy ?_
 refine Zu (o3 Tryz.underlying131 (fun _ h=>by cases h) rfl) ?_
 refine Zu (eO (vs:=[(0,str [98,121,116,101]),(1,i64 uF),(2,(Er.no e_2).val)]) (cs := #[str [98,121,116,101],i64 uF,(Er.no e_2).val]) rfl (by kernel_rfl)) ?_
 refine VL.box (cs:=[str [98,121,116,101],i64 uF,(Er.no e_2).val]) rfl rfl (by decide) fun aE5 => ?_
 refine VL.YF aE5 ?_
 refine Zu (o3 Tryz.underlying190 (fun _ h=>by cases h) rfl) ?_
 refine Zu (aJ rfl) ?_
 refine Zu (aB KH rfl) ?_
 refine Zv (vc:=[(Er.fault aE5 [98,121,116,101] uF (Er.no e_2)).val]) (cs':=[gD.b.val,i64 gD.at_,(Er.fault aE5 [98,121,116,101] uF (Er.no e_2)).val]) rfl aSK ?_
 cases hS
 exact VL.nil (pK (.inl rfl) rfl ⟨gD.b,gD.at_,(Er.fault aE5 [98,121,116,101] uF (Er.no e_2))⟩ rfl rfl (by (try dsimp only); exact dQ.out) (by (try dsimp only); exact fL.out))
theorem fM (lC:Nat) (gD:dO) {r:Int×cE} (hS:Sh.fN gD.pl=some r) :
 Ct Tryz.prog 50 [ptr lC 0] (gD.b.ok.and gD.err.ok) (bT lC [gD.b.val,i64 gD.at_,gD.err.val] 233) (X:=Int×dO) (fun x=>i64 x.1) (fun x=>r=(x.1,x.2.pl)) (fun x=>(x.2.b.ok.and x.2.err.ok)) (fun x=>bT lC [x.2.b.val,i64 x.2.at_,x.2.err.val] 233):=by
 refine Zo Tryz.func50 Tryz.ntmps50 fun c => ?_
 unfold Sh.fN at hS
 refine Zq (Zr ?_)
 refine Zy ?_
 refine Zq (Zq (Zr ?_))
 refine Zm ?_
 refine Zu (aJ rfl) ?_
 refine Zu (aB KH rfl) ?_
 refine Zu (aI IN rfl rfl) ?_
 refine Zu (z8 Tryz.underlying26 rfl) ?_
 refine Zl ?_
 refine uH hS (fun h10 hS => ?_) (fun h10 hS => ?_)
 ·
  refine Zq (Zr ?_)
  refine Zy ?_
  cases hS
  exact VC.ret (iU (.inr rfl) rfl rfl (0,⟨gD.b,gD.at_,gD.err⟩) rfl rfl (by (try dsimp only); exact dQ.out) (by (try dsimp only); exact fL.out))
 refine Zk ?_
 refine Zq (Zr ?_)
 refine Zm ?_
 refine Zu (aJ rfl) ?_
 refine Zu (aB s9 rfl) ?_
 refine Zu (aI cN rfl rfl) ?_
 refine Zy ?_
 refine VC.keep (ρ':=[(0,ptr lC 0),(3,i64 gD.at_)]) [0,3] rfl ?_
 refine Zq (Zr ?_)
 refine Zm ?_
 obtain ⟨M6,aVd,hS⟩:=bF hS
 refine VL.cT (SK lC gD aVd) rfl (by decide) ?_
 rintro ⟨aB7,aT3,VR⟩ rfl
 try dsimp only
 refine Zm ?_
 refine Zu (gB rfl rfl) ?_
 refine Zu (gB rfl rfl) ?_
 refine Zy ?_
 refine Zq (Zq (Zr ?_))
 refine Zm ?_
 refine Zu (mC rfl rfl) ?_
 refine Zl ?_
 refine uH hS (fun h21 hS => ?_) (fun h21 hS => ?_)
 ·
  refine Zq (Zr ?_)
  refine Zy ?_
  obtain ⟨aGD,aVz,hS⟩:=bF hS
  refine VL.cT (AB lC VR gD.at_ aT3 aVz) rfl (by decide) ?_
  rintro aBc rfl
  try dsimp only
  refine Zl ?_
  refine VC.keep (ρ':=[]) [] rfl ?_
  refine Zq (Zr ?_)
  refine Zy ?_
  cases hS
  exact VC.ret (iU (.inr rfl) rfl rfl (0,⟨aBc.b,aBc.at_,aBc.err⟩) rfl rfl (by (try dsimp only); exact dQ.out) (by (try dsimp only); exact fL.out))
 refine Zk ?_
 refine VC.keep (ρ':=[(4,.int .u64 aB7)]) [4] rfl ?_
 refine Zq (Zr ?_)
 refine Zm ?_
 refine Zu (aKI rfl rfl (by decide)) ?_
 refine Zu (HP Tryz.underlying234 Tryz.underlying2 rfl) ?_
 refine Zm ?_
 refine Zu (aKG rfl rfl) ?_
 refine Zu (HP Tryz.underlying234 Tryz.underlying2 rfl) ?_
 refine Zu (a0U rfl) ?_
 refine Zu (aTw rfl rfl) ?_
 refine Zy ?_
 cases hS
 exact VC.ret (iU (.inr rfl) rfl rfl ((GV .i64 (IntKind.wrap .i64 (NS .u64 aB7 1)) (IntKind.wrap .i64 (0 - (IntKind.wrap .i64 (wA .u64 aB7 1))))),⟨VR.b,VR.at_,VR.err⟩) rfl rfl (by (try dsimp only); exact dQ.out) (by (try dsimp only); exact fL.out))
theorem mD (lC:Nat) (gD:dO) {r:jR} (hS:Sh.jG gD.pl=some r) :
 Ct Tryz.prog 53 [ptr lC 0] (gD.b.ok.and gD.err.ok) (bT lC [gD.b.val,i64 gD.at_,gD.err.val] 233) (X:=Er) (fun x=>x.val) (fun x=>r=x.pl) (fun x=>x.ok) (fun x=>bT lC [gD.b.val,i64 gD.at_,gD.err.val] 233):=by
 refine Zo Tryz.func53 Tryz.ntmps53 fun c => ?_
 unfold Sh.jG at hS
 refine Zq (Zr ?_)
 refine Zy ?_
 refine Zq (Zr ?_)
 refine Zm ?_
 refine Zu (aJ rfl) ?_
 refine Zu (aB KH rfl) ?_
 refine Zu (aI IN rfl rfl) ?_
 refine Zy ?_
 cases hS
 exact VC.ret (iU (.inr rfl) rfl rfl gD.err rfl rfl (by (try dsimp only); exact dQ.out) (by (try dsimp only); exact fL.out))
theorem iZ (lC:Nat) (gD:dO) {r:bN×cE} (hS:Sh.iD gD.pl=some r) :
 Ct Tryz.prog 52 [ptr lC 0] (gD.b.ok.and gD.err.ok) (bT lC [gD.b.val,i64 gD.at_,gD.err.val] 233) (X:=bN×dO) (fun x=>str x.1) (fun x=>r=(x.1,x.2.pl)) (fun x=>(x.2.b.ok.and x.2.err.ok)) (fun x=>bT lC [x.2.b.val,i64 x.2.at_,x.2.err.val] 233):=by
 refine Zo Tryz.func52 Tryz.ntmps52 fun c => ?_
 unfold Sh.iD at hS
 refine Zq (Zr ?_)
 refine Zy ?_
 refine Zq (Zr ?_)
 refine Zm ?_
 refine Zu (aJ rfl) ?_
 refine Zu (aB s9 rfl) ?_
 refine Zu (aI cN rfl rfl) ?_
 refine Zy ?_
 refine Zq (Zr ?_)
 refine Zm ?_
 obtain ⟨kK,L1,hS⟩:=bF hS
 refine VL.cT (fM lC gD L1) rfl (by decide) ?_
 rintro ⟨HF,rD⟩ rfl
 try dsimp only
 refine Zy ?_
 refine Zq (Zb (Zq (Zr ?_)))
 refine Zm ?_
 refine Zu (aJ rfl) ?_
 refine Zu (aB KH rfl) ?_
 refine Zu (aI IN rfl rfl) ?_
 refine Zu (z8 Tryz.underlying26 rfl) ?_
 refine Zy ?_
 refine VC.keep (ρ':=[(0,ptr lC 0),(3,i64 gD.at_),(4,i64 HF),(12,.bool (!decide (rD.err.pl.isNil=true)))]) [0,3,4,12] rfl ?_
 refine uH hS (fun h12 hS => ?_) (fun h12 hS => ?_)
 ·
  refine Zq (Zr ?_)
  refine Zy ?_
  cases hS
  exact VC.ret (iU (.inr rfl) rfl rfl ([],⟨rD.b,rD.at_,rD.err⟩) rfl rfl (by (try dsimp only); exact dQ.out) (by (try dsimp only); exact fL.out))
 refine Zq (Zr ?_)
 refine Zm ?_
 refine Zu (dA rfl rfl) ?_
 refine Zy ?_
 refine Zc hS (fun h18 hS => ?_) (fun h18 hS => ?_)
 ·
  refine Zq (Zr ?_)
  refine Zy ?_
  obtain ⟨aGB,aVu,hS⟩:=bF hS
  refine VL.cT (AB lC rD gD.at_ 2 aVu) rfl (by decide) ?_
  rintro aBa rfl
  try dsimp only
  refine Zl ?_
  refine Zq (Zr ?_)
  refine Zy ?_
  refine VC.keep (ρ':=[(2,str [])]) [2] rfl ?_
  cases hS
  exact VC.ret (iU (.inr rfl) rfl rfl ([],⟨aBa.b,aBa.at_,aBa.err⟩) rfl rfl (by (try dsimp only); exact dQ.out) (by (try dsimp only); exact fL.out))
 refine Zq ?_
 refine VC.draw ((List.range 13).map fun k=>(k,true)) mixed (by kernel_rfl) (by kernel_rfl) (by kernel_rfl) ?_
 refine Zw rfl (bI rfl) ?_
 refine Zw rfl (bI rfl) ?_
 refine Zw rfl (aJ rfl) ?_
 refine Zw rfl (aB KG rfl) ?_
 refine Zw rfl (aI z6 rfl rfl) ?_
 refine Zw rfl (fH (s:=rD.b) Tryz.underlying22 rfl) ?_
 refine Zw rfl (bI rfl) ?_
 refine Zw rfl (aJ rfl) ?_
 refine Zw rfl (aB s9 rfl) ?_
 refine Zw rfl (aI cN rfl rfl) ?_
 obtain ⟨b35,hS⟩:=bQ hS
 refine Zw rfl (tW rfl rfl b35) ?_
 refine Zw rfl (gQ rfl rfl) ?_
 refine Zw rfl (iG rfl) ?_
 refine VD.to (fun _ _ h=>h) ?_
 refine VC.keep (ρ':=[(0,ptr lC 0),(3,i64 gD.at_),(4,i64 HF),(24,.bool (decide (((rD.b.l.length:Int) - rD.at_) < HF)))]) [0,3,4,24] rfl ?_
 refine Zc hS (fun h24 hS => ?_) (fun h24 hS => ?_)
 ·
  refine Zq (Zr ?_)
  refine Zy ?_
  obtain ⟨aGO,aWV,hS⟩:=bF hS
  refine VL.cT (AB lC rD gD.at_ 3 aWV) rfl (by decide) ?_
  rintro aBe rfl
  try dsimp only
  refine Zl ?_
  refine Zq (Zr ?_)
  refine Zy ?_
  cases hS
  exact VC.ret (iU (.inr rfl) rfl rfl ([],⟨aBe.b,aBe.at_,aBe.err⟩) rfl rfl (by (try dsimp only); exact dQ.out) (by (try dsimp only); exact fL.out))
 refine Zk ?_
 refine Zq ?_
 refine VC.draw ((List.range 17).map fun k=>(k,true)) mixed (by kernel_rfl) (by kernel_rfl) (by kernel_rfl) ?_
 refine Zw rfl (bI rfl) ?_
 refine Zw rfl (aJ rfl) ?_
 refine Zw rfl (aB KG rfl) ?_
 refine Zw rfl (aI z6 rfl rfl) ?_
 refine Zw rfl (bI rfl) ?_
 refine Zw rfl (aJ rfl) ?_
 refine Zw rfl (aB s9 rfl) ?_
 refine Zw rfl (aI cN rfl rfl) ?_
 refine Zw rfl (bI rfl) ?_
 refine Zw rfl (aJ rfl) ?_
 refine Zw rfl (aB s9 rfl) ?_
 refine Zw rfl (aI cN rfl rfl) ?_
 refine Zw rfl (bI rfl) ?_
 obtain ⟨b53,hS⟩:=bQ hS
 refine Zw rfl (dZ rfl rfl b53) ?_
 obtain ⟨b54,hS⟩:=bQ hS
 refine VD.a0k rfl Tryz.underlying22 aHf rfl rfl rfl b54.1 b54.2.1 (b54.2.2) (by decide) fun aFk aXK Qs54_4 => ?_
 replace hS:=dL aXK hS
 refine Zw rfl (X7 (s:=aFk) Tryz.underlying22 Tryz.underlying5 Tryz.underlying9 rfl) ?_
 refine Zw rfl (iG rfl) ?_
 refine VD.to (fun _ _ h=>h) ?_
 refine VC.keep (ρ':=[(0,ptr lC 0),(4,i64 HF),(5,str aFk.l)]) [0,4,5] rfl ?_
 refine Zq (Zr ?_)
 refine Zm ?_
 refine Zu (aJ rfl) ?_
 refine Zu (aB s9 rfl) ?_
 refine Zu (aI cN rfl rfl) ?_
 refine Zm ?_
 obtain ⟨b61,hS⟩:=bQ hS
 refine Zu (dZ rfl rfl b61) ?_
 refine Zu (aJ rfl) ?_
 refine Zu (aB s9 rfl) ?_
 refine Zv (vc:=[i64 (rD.at_+HF)]) (cs':=[rD.b.val,i64 (rD.at_+HF),rD.err.val]) rfl FI ?_
 refine Zl ?_
 refine VC.keep (ρ':=[(5,str aFk.l)]) [5] rfl ?_
 refine Zq (Zr ?_)
 refine Zy ?_
 cases hS
 exact VC.ret (iU (.inr rfl) rfl rfl (aFk.l,⟨rD.b,(rD.at_+HF),rD.err⟩) rfl rfl (by (try dsimp only); exact dQ.out) (by (try dsimp only); exact fL.out))
theorem MV (mU:Nat) (bM:Sv aZ) (j7:Nat) (dF:Nat) (a_1_:bH) (cK:Nat) (dS:dO) {r:List aZ×cE} (hS:Sh.rH bM.l a_1_ dS.pl=some r) :
 Ct Tryz.prog 201 [ptr mU 0,ptr j7 0] (dS.b.ok.and dS.err.ok) (Ow.star (Sv.own bM 185) (Ow.star (bT mU [bM.val] 50) (Ow.star (bT cK [dS.b.val,i64 dS.at_,dS.err.val] 233) (Ow.star (bT dF [ptr cK 0,.bool a_1_.bad] 161) (bT j7 [ptr dF 0] 159))))) (X:=Sv aZ×dO) (fun x => .tuple #[]) (fun x=>r=(x.1.l,x.2.pl)) (fun x=>(x.2.b.ok.and x.2.err.ok)) (fun x=>Ow.star (bT mU [x.1.val] 50) (Ow.star (Sv.own x.1 185) (Ow.star (bT cK [x.2.b.val,i64 x.2.at_,x.2.err.val] 233) (Ow.star (bT dF [ptr cK 0,.bool a_1_.bad] 161) (bT j7 [ptr dF 0] 159))))):=by
 refine Zo Tryz.func201 Tryz.ntmps201 fun c => ?_
 unfold Sh.rH at hS
 refine VC.draw [(0,true),(1,true),(2,true),(3,true),(4,true),(6,true),(7,true),(8,true),(9,true),(11,true),(12,true),(13,true),(14,true),(5,false),(10,false),(15,false),(16,true),(17,false),(18,false),(19,false)] mixed (by kernel_rfl) (by kernel_rfl) (by kernel_rfl) ?_
 refine Zw rfl (aI iQ rfl rfl) ?_
 refine Zw rfl (aI dY rfl rfl) ?_
 refine Zw rfl (aJ rfl) ?_
 refine Zw rfl (aB dD rfl) ?_
 refine Zw rfl (aI dR rfl rfl) ?_
 refine Zw rfl (aI dY rfl rfl) ?_
 refine Zw rfl (aJ rfl) ?_
 refine Zw rfl (aB dD rfl) ?_
 refine Zw rfl (aI dR rfl rfl) ?_
 refine Zw rfl (aI dY rfl rfl) ?_
 refine Zw rfl (aJ rfl) ?_
 refine Zw rfl (aB dD rfl) ?_
 refine Zw rfl (aI dR rfl rfl) ?_
 refine VD.one rfl ?_
 obtain ⟨lT,oH,hS⟩:=bF hS
 refine VL.cT (iZ cK dS oH) rfl (by decide) ?_
 rintro ⟨pT,F3⟩ rfl
 try dsimp only
 refine VL.back (D':=[(14,ptr cK 0),(13,ptr dF 0),(12,ptr dF 0),(11,ptr dF 0),(9,ptr cK 0),(8,ptr dF 0),(7,ptr dF 0),(6,ptr dF 0),(0,bM.val)]) (by kernel_rfl) (aF.cons rfl (aI dR rfl rfl) (aF.cons rfl (aB dD rfl) (aF.cons rfl (aJ rfl) (aF.cons rfl (aI dY rfl rfl) (aF.cons rfl (aI dR rfl rfl) (aF.cons rfl (aB dD rfl) (aF.cons rfl (aJ rfl) (aF.cons rfl (aI dY rfl rfl) (aF.cons rfl (aI iQ rfl rfl) (aF.nil)))))))))) ?_
 refine VD.one rfl ?_
 obtain ⟨H7,TR,hS⟩:=bF hS
 refine VL.cT (fM cK F3 TR) rfl (by decide) ?_
 rintro ⟨tI,OT⟩ rfl
 try dsimp only
 refine VL.back (D':=[(14,ptr cK 0),(13,ptr dF 0),(12,ptr dF 0),(11,ptr dF 0),(0,bM.val)]) (by kernel_rfl) (aF.cons rfl (aI dR rfl rfl) (aF.cons rfl (aB dD rfl) (aF.cons rfl (aJ rfl) (aF.cons rfl (aI dY rfl rfl) (aF.cons rfl (aI iQ rfl rfl) (aF.nil)))))) ?_
 refine VD.one rfl ?_
 obtain ⟨vG,L5,hS⟩:=bF hS
 refine VL.cT (iZ cK OT L5) rfl (by decide) ?_
 rintro ⟨tJ,BT⟩ rfl
 try dsimp only
 refine VL.back (D':=[(0,bM.val)]) (by kernel_rfl) (aF.cons rfl (aI iQ rfl rfl) (aF.nil)) ?_
 refine Zw rfl (eO (vs:=[(0,str pT),(1,i64 tI),(2,str tJ)]) (cs := #[str pT,i64 tI,str tJ]) rfl (by kernel_rfl)) ?_
 refine VD.one rfl ?_
 refine VL.lit (α:=aZ) (xs:=[.tmp 18]) (vs:=[.agg #[str pT,i64 tI,str tJ]]) [⟨pT,tI,tJ⟩] Tryz.underlying50 aSA (by decide) rfl rfl rfl rfl (by decide) (fun _ _ _ _=>trivial) (by decide) (fun aKL aFI => ?_) (by decide)
 replace hS:=dL aFI hS
 refine VL.back (D':=[(0,bM.val)]) (by kernel_rfl) (aF.cons rfl (aI iQ rfl rfl) (aF.nil)) ?_
 refine VD.one rfl ?_
 obtain ⟨b20,hS⟩:=bQ hS
 refine VL.app (s:=bM) (r:=aKL) Tryz.underlying50 aRh (by decide) rfl Fo.out (CW b20) (CX b20 (by decide)) (by decide) (fun S0 aFK => ?_)
 replace hS:=dL aFK hS
 refine VL.back (D':=[]) (by kernel_rfl) (aF.nil) ?_
 refine VD.one rfl ?_
 refine Zv (vc:=[S0.val]) (cs':=[S0.val]) rfl aZm ?_
 refine VL.back (D':=[]) (by kernel_rfl) (aF.nil) ?_
 cases hS
 exact VD.nil (pK (.inl rfl) rfl (S0,⟨BT.b,BT.at_,BT.err⟩) rfl rfl (by (try dsimp only); exact dQ.out) (by (try dsimp only); exact fL.out))
theorem NT (bY:Nat) (eL:bH) (aP:Nat) (bK:dO) (cW:Nat) (aX:Sv aZ) (cX:Nat) {r:cE×bH×List aZ} (hS:Sh.sR eL bK.pl aX.l=some r) :
 Ct Tryz.prog 142 [ptr bY 0,.func (.func 201) #[] #[ptr cW 0,ptr cX 0]] (bK.b.ok.and bK.err.ok) (Ow.star (bT aP [bK.b.val,i64 bK.at_,bK.err.val] 233) (Ow.star (bT bY [ptr aP 0,.bool eL.bad] 161) (Ow.star (Sv.own aX 185) (Ow.star (bT cW [aX.val] 50) (bT cX [ptr bY 0] 159))))) (X:=dO×bH×Sv aZ) (fun x => .tuple #[]) (fun x=>r=(x.1.pl,x.2.1,x.2.2.l)) (fun x=>(x.1.b.ok.and x.1.err.ok)) (fun x=>Ow.star (bT aP [x.1.b.val,i64 x.1.at_,x.1.err.val] 233) (Ow.star (bT bY [ptr aP 0,.bool x.2.1.bad] 161) (Ow.star (bT cW [x.2.2.val] 50) (Ow.star (Sv.own x.2.2 185) (bT cX [ptr bY 0] 159))))):=by
 refine Zo Tryz.func142 Tryz.ntmps142 fun c => ?_
 unfold Sh.sR at hS
 refine Zq (Zr ?_)
 refine Zm ?_
 refine Zu (aJ rfl) ?_
 refine Zu (aB dD rfl) ?_
 refine Zu (aI dR rfl rfl) ?_
 obtain ⟨gS,tC,hS⟩:=bF hS
 refine VL.cT (fM aP bK tC) rfl (by decide) ?_
 rintro ⟨eD,fG⟩ rfl
 try dsimp only
 refine Zy ?_
 refine VC.j0 (S:=Bool) (fun (fV:Bool)=>fV) (fun (fV:Bool)=>[(0,ptr bY 0),(1,.func (.func 201) #[] #[ptr cW 0,ptr cX 0]),(4,i64 eD)]) (fun (fV:Bool)=>Mo.tt) (fun (fV:Bool)=>Ow.star (bT aP [fG.b.val,i64 fG.at_,fG.err.val] 233) (Ow.star (bT bY [ptr aP 0,.bool fV] 161) (Ow.star (bT cW [aX.val] 50) (Ow.star (bT cX [ptr bY 0] 159) (Ow.star (Sv.own aX 185) (Ow.emp)))))) hS ?_ ?_
 ·
  clear hS
  intro k3 hS
  refine Zr ?_
  refine Zy ?_
  refine Zu (aJ rfl) ?_
  refine Zu (aB lU rfl) ?_
  refine Zu (aI OD rfl rfl) ?_
  refine Zm ?_
  refine rC 16 hS (fun h16 hS => ?_) (fun h16 hS => ?_)
  ·
   refine VL.runs 3 [(19,some true)] (by kernel_rfl) ?_
   refine Zu (aJ rfl) ?_
   refine Zu (aB lU rfl) ?_
   refine Zv (vc:=[.bool true]) (cs':=[ptr aP 0,.bool true]) rfl IS ?_
   refine VL.mt true [0,1,4] (fun _ _ h=>h) hS rfl
  refine Zg ?_
  refine Zh (dA rfl rfl) ?_
  refine Zf ?_
  refine Zu (aJ rfl) ?_
  refine Zu (aB lU rfl) ?_
  refine Zv (vc:=[.bool (decide (eD < 0))]) (cs':=[ptr aP 0,.bool (decide (eD < 0))]) rfl IS ?_
  refine VL.mt (decide (eD < 0)) [0,1,4] (fun _ _ h=>h) hS rfl
 clear hS
 rintro fV hS
 refine Zq (Zr ?_)
 refine Zy ?_
 refine Zb ?_
 refine VC.iter (S:=Int×Sv UInt8×Int×Er×Sv aZ) (fun sg=>(sg.1,sg.2.1.l,sg.2.2.1,sg.2.2.2.1.pl,sg.2.2.2.2.l)) (fun sg=>[(0,ptr bY 0),(1,.func (.func 201) #[] #[ptr cW 0,ptr cX 0]),(4,i64 eD),(5,i64 sg.1)]) (fun sg=>(sg.2.1.ok.and sg.2.2.2.1.ok)) (fun sg=>Ow.star (bT aP [sg.2.1.val,i64 sg.2.2.1,sg.2.2.2.1.val] 233) (Ow.star (bT bY [ptr aP 0,.bool fV] 161) (Ow.star (bT cW [sg.2.2.2.2.val] 50) (Ow.star (bT cX [ptr bY 0] 159) (Ow.star (Sv.own sg.2.2.2.2 185) (Ow.emp)))))) (0,fG.b,fG.at_,fG.err,aX) [0,1,4,5] hS rfl ?_
 clear hS
 rintro ⟨jV,gX,kS,kT,nJ⟩ m1 y1 hS hK1
 refine Zq (Zq (Zr ?_))
 refine Zy ?_
 refine Zu (dA rfl rfl) ?_
 refine Zm ?_
 refine jJ 25 hS (fun h25 hS => ?_) (fun h25 hS => ?_)
 ·
  refine Zg ?_
  refine Zh (aJ rfl) ?_
  refine Zh (aB dD rfl) ?_
  refine Zh (aI dR rfl rfl) ?_
  refine VL.guard rfl rfl ?_
  obtain ⟨IB,L8,hS⟩:=bF hS
  refine VL.cT (mD aP (⟨gX,kS,kT⟩:dO) L8) rfl (by decide) ?_
  rintro HM rfl
  try dsimp only
  refine Zh (vT Tryz.underlying26 rfl) ?_
  refine Zy ?_
  refine VC.keep (ρ':=[(0,ptr bY 0),(1,.func (.func 201) #[] #[ptr cW 0,ptr cX 0]),(4,i64 eD),(5,i64 jV),(32,.bool (decide (HM.pl.isNil=true)))]) [0,1,4,5,32] rfl ?_
  refine Zc hS (fun h32 hS => ?_) (fun h32 hS => ?_)
  ·
   refine Zk ?_
   refine Zq (Zb (Zr ?_))
   refine Zm ?_
   obtain ⟨o8,GZ,hS⟩:=bF hS
   refine VL.uI (vs:=[]) (caps:=[ptr cW 0,ptr cX 0]) (MV cW nJ cX bY (⟨fV⟩:bH) aP (⟨gX,kS,kT⟩:dO) GZ) rfl rfl (by decide) ?_
   rintro ⟨DF,p9⟩ rfl
   try dsimp only
   refine Zl ?_
   refine Zr ?_
   refine Zm ?_
   obtain ⟨b34,hS⟩:=bQ hS
   refine Zu (dZ rfl rfl b34) ?_
   refine Za ?_
   refine VL.kE ((jV+1),p9.b,p9.at_,p9.err,DF) [0,1,4,5] (fun _ _ h=>h) (go2 hS hK1) rfl
  replace hS:=fF hS hK1
  cases hS
  exact VC.exit (pK (.inl rfl) rfl (⟨gX,kS,kT⟩,⟨fV⟩,nJ) rfl rfl (by (try dsimp only); exact dQ.out) (by (try dsimp only); exact fL.out))
 refine VL.runs 7 [(32,some false)] (by kernel_rfl) ?_
 refine Zl ?_
 refine VC.rL rfl ?_
 replace hS:=fF hS hK1
 cases hS
 exact VC.exit (pK (.inl rfl) rfl (⟨gX,kS,kT⟩,⟨fV⟩,nJ) rfl rfl (by (try dsimp only); exact dQ.out) (by (try dsimp only); exact fL.out))
theorem zD (aD:Sv aZ) {r:List aZ} (hS:Sh.kN aD.l=some r) :
 Ct Tryz.prog 92 [aD.val] aD.ok (Ow.emp) (X:=Sv aZ) (fun x=>x.val) (fun x=>r=x.l) (fun x=>x.ok) (fun x=>Ow.emp):=by
 refine Zo Tryz.func92 Tryz.ntmps92 fun c => ?_
 unfold Sh.kN at hS
 refine Zq (Zr ?_)
 refine Zy ?_
 refine Zq (Zr ?_)
 refine Zy ?_
 refine Zu (fH (s:=aD) Tryz.underlying50 rfl) ?_
 refine Zm ?_
 refine Zu (fH (s:=aD) Tryz.underlying50 rfl) ?_
 obtain ⟨b8,hS⟩:=bQ hS
 refine VL.RW Tryz.underlying50 rN rfl rfl rfl b8.1 (b8.2) (by decide) fun BZ vQ => ?_
 replace hS:=dL vQ hS
 refine Zy ?_
 cases hS
 exact VC.ret (iU (.inr rfl) rfl rfl BZ rfl rfl (by (try dsimp only); exact dQ.out) (fun _ _=>trivial))
theorem qN (bY:Nat) (eL:bH) (aP:Nat) (bK:dO) {r:List aZ×cE×bH} (hS:Sh.nU eL bK.pl=some r) :
 Ct Tryz.prog 140 [ptr bY 0] (bK.b.ok.and bK.err.ok) (Ow.star (bT aP [bK.b.val,i64 bK.at_,bK.err.val] 233) (bT bY [ptr aP 0,.bool eL.bad] 161)) (X:=Sv aZ×dO×bH) (fun x=>x.1.val) (fun x=>r=(x.1.l,x.2.1.pl,x.2.2)) (fun x=>(x.1.ok.and (x.2.1.b.ok.and x.2.1.err.ok))) (fun x=>Ow.star (bT aP [x.2.1.b.val,i64 x.2.1.at_,x.2.1.err.val] 233) (bT bY [ptr aP 0,.bool x.2.2.bad] 161)):=by
 refine Zo Tryz.func140 Tryz.ntmps140 fun c => ?_
 unfold Sh.nU at hS
 refine Zq (Zr ?_)
 refine VL.box (cs:=[ptr bY 0]) rfl rfl (by decide) fun cM => ?_
 refine Zy ?_
 refine Zq (Zr ?_)
 refine VL.alloc (cs:=[.slice none 0 0]) (by kernel_rfl) (by decide) fun eZ => ?_
 refine Zl ?_
 refine Zq (Zr ?_)
 refine Zu (aI dY rfl rfl) ?_
 refine Zu (tK rfl) ?_
 refine VL.qU (⟨none,0,[]⟩:Sv aZ) 185 ⟨rfl,rfl⟩ ?_
 refine VL.RL eZ (cs':=[(⟨none,0,[]⟩:Sv aZ).val]) rfl ?_
 obtain ⟨vI,SM,hS⟩:=bF hS
 refine VL.cT (NT bY eL aP bK eZ (⟨none,0,[]⟩:Sv aZ) cM SM) rfl (by decide) ?_
 rintro ⟨vR,MP,BW⟩ rfl
 try dsimp only
 refine Zl ?_
 refine Zq (Zr ?_)
 refine Zu (aI iQ rfl rfl) ?_
 refine VL.shut BW 185 (fun _ _ _ _=>trivial) ?_
 obtain ⟨E6,G0,hS⟩:=bF hS
 refine VL.gI (zD BW G0) rfl (by decide) ?_
 rintro vS rfl
 try dsimp only
 refine Zy ?_
 cases hS
 exact VC.ret (iU (.inr rfl) rfl rfl (vS,⟨vR.b,vR.at_,vR.err⟩,⟨MP.bad⟩) rfl rfl (by (try dsimp only); exact dQ.out) (by (try dsimp only); exact fL.out))
theorem HU (mU:Nat) (bM:Sv aQ) (j7:Nat) (dF:Nat) (a_1_:bH) (cK:Nat) (dS:dO) {r:List aQ×cE} (hS:Sh.oO bM.l a_1_ dS.pl=some r) :
 Ct Tryz.prog 202 [ptr mU 0,ptr j7 0] (dS.b.ok.and dS.err.ok) (Ow.star (Sv.own bM 218) (Ow.star (bT mU [bM.val] 51) (Ow.star (bT cK [dS.b.val,i64 dS.at_,dS.err.val] 233) (Ow.star (bT dF [ptr cK 0,.bool a_1_.bad] 161) (bT j7 [ptr dF 0] 159))))) (X:=Sv aQ×dO) (fun x => .tuple #[]) (fun x=>r=(x.1.l,x.2.pl)) (fun x=>(x.2.b.ok.and x.2.err.ok)) (fun x=>Ow.star (bT mU [x.1.val] 51) (Ow.star (Sv.own x.1 218) (Ow.star (bT cK [x.2.b.val,i64 x.2.at_,x.2.err.val] 233) (Ow.star (bT dF [ptr cK 0,.bool a_1_.bad] 161) (bT j7 [ptr dF 0] 159))))):=by
 refine Zo Tryz.func202 Tryz.ntmps202 fun c => ?_
 unfold Sh.oO at hS
 refine VC.draw [(0,true),(1,true),(2,true),(3,true),(4,true),(6,true),(7,true),(8,true),(9,true),(11,true),(12,true),(13,true),(14,true),(16,true),(17,true),(18,true),(19,true),(21,true),(22,true),(23,true),(24,true),(26,true),(27,true),(28,true),(29,true),(5,false),(10,false),(15,false),(20,false),(25,false),(30,false),(31,true),(32,false),(33,false),(34,false)] mixed (by kernel_rfl) (by kernel_rfl) (by kernel_rfl) ?_
 refine Zw rfl (aI lW rfl rfl) ?_
 refine Zw rfl (aI dY rfl rfl) ?_
 refine Zw rfl (aJ rfl) ?_
 refine Zw rfl (aB dD rfl) ?_
 refine Zw rfl (aI dR rfl rfl) ?_
 refine Zw rfl (aI dY rfl rfl) ?_
 refine Zw rfl (aJ rfl) ?_
 refine Zw rfl (aB dD rfl) ?_
 refine Zw rfl (aI dR rfl rfl) ?_
 refine Zw rfl (aI dY rfl rfl) ?_
 refine Zw rfl (aJ rfl) ?_
 refine Zw rfl (aB dD rfl) ?_
 refine Zw rfl (aI dR rfl rfl) ?_
 refine Zw rfl (aI dY rfl rfl) ?_
 refine Zw rfl (aJ rfl) ?_
 refine Zw rfl (aB dD rfl) ?_
 refine Zw rfl (aI dR rfl rfl) ?_
 refine Zw rfl (aI dY rfl rfl) ?_
 refine Zw rfl (aJ rfl) ?_
 refine Zw rfl (aB dD rfl) ?_
 refine Zw rfl (aI dR rfl rfl) ?_
 refine Zw rfl (aI dY rfl rfl) ?_
 refine Zw rfl (aJ rfl) ?_
 refine Zw rfl (aB dD rfl) ?_
 refine Zw rfl (aI dR rfl rfl) ?_
 refine VD.one rfl ?_
 obtain ⟨lT,oH,hS⟩:=bF hS
 refine VL.cT (iZ cK dS oH) rfl (by decide) ?_
 rintro ⟨pT,F3⟩ rfl
 try dsimp only
 refine VL.back (D':=[(29,ptr cK 0),(28,ptr dF 0),(27,ptr dF 0),(26,ptr dF 0),(24,ptr cK 0),(23,ptr dF 0),(22,ptr dF 0),(21,ptr dF 0),(19,ptr cK 0),(18,ptr dF 0),(17,ptr dF 0),(16,ptr dF 0),(14,ptr cK 0),(13,ptr dF 0),(12,ptr dF 0),(11,ptr dF 0),(9,ptr cK 0),(8,ptr dF 0),(7,ptr dF 0),(6,ptr dF 0),(0,bM.val)]) (by kernel_rfl) (aF.cons rfl (aI dR rfl rfl) (aF.cons rfl (aB dD rfl) (aF.cons rfl (aJ rfl) (aF.cons rfl (aI dY rfl rfl) (aF.cons rfl (aI dR rfl rfl) (aF.cons rfl (aB dD rfl) (aF.cons rfl (aJ rfl) (aF.cons rfl (aI dY rfl rfl) (aF.cons rfl (aI dR rfl rfl) (aF.cons rfl (aB dD rfl) (aF.cons rfl (aJ rfl) (aF.cons rfl (aI dY rfl rfl) (aF.cons rfl (aI dR rfl rfl) (aF.cons rfl (aB dD rfl) (aF.cons rfl (aJ rfl) (aF.cons rfl (aI dY rfl rfl) (aF.cons rfl (aI dR rfl rfl) (aF.cons rfl (aB dD rfl) (aF.cons rfl (aJ rfl) (aF.cons rfl (aI dY rfl rfl) (aF.cons rfl (aI lW rfl rfl) (aF.nil)))))))))))))))))))))) ?_
 refine VD.one rfl ?_
 obtain ⟨H7,TR,hS⟩:=bF hS
 refine VL.cT (fM cK F3 TR) rfl (by decide) ?_
 rintro ⟨tI,OT⟩ rfl
 try dsimp only
 refine VL.back (D':=[(29,ptr cK 0),(28,ptr dF 0),(27,ptr dF 0),(26,ptr dF 0),(24,ptr cK 0),(23,ptr dF 0),(22,ptr dF 0),(21,ptr dF 0),(19,ptr cK 0),(18,ptr dF 0),(17,ptr dF 0),(16,ptr dF 0),(14,ptr cK 0),(13,ptr dF 0),(12,ptr dF 0),(11,ptr dF 0),(0,bM.val)]) (by kernel_rfl) (aF.cons rfl (aI dR rfl rfl) (aF.cons rfl (aB dD rfl) (aF.cons rfl (aJ rfl) (aF.cons rfl (aI dY rfl rfl) (aF.cons rfl (aI dR rfl rfl) (aF.cons rfl (aB dD rfl) (aF.cons rfl (aJ rfl) (aF.cons rfl (aI dY rfl rfl) (aF.cons rfl (aI dR rfl rfl) (aF.cons rfl (aB dD rfl) (aF.cons rfl (aJ rfl) (aF.cons rfl (aI dY rfl rfl) (aF.cons rfl (aI dR rfl rfl) (aF.cons rfl (aB dD rfl) (aF.cons rfl (aJ rfl) (aF.cons rfl (aI dY rfl rfl) (aF.cons rfl (aI lW rfl rfl) (aF.nil)))))))))))))))))) ?_
 refine VD.one rfl ?_
 obtain ⟨vG,L5,hS⟩:=bF hS
 refine VL.cT (fM cK OT L5) rfl (by decide) ?_
 rintro ⟨tJ,BT⟩ rfl
 try dsimp only
 refine VL.back (D':=[(29,ptr cK 0),(28,ptr dF 0),(27,ptr dF 0),(26,ptr dF 0),(24,ptr cK 0),(23,ptr dF 0),(22,ptr dF 0),(21,ptr dF 0),(19,ptr cK 0),(18,ptr dF 0),(17,ptr dF 0),(16,ptr dF 0),(0,bM.val)]) (by kernel_rfl) (aF.cons rfl (aI dR rfl rfl) (aF.cons rfl (aB dD rfl) (aF.cons rfl (aJ rfl) (aF.cons rfl (aI dY rfl rfl) (aF.cons rfl (aI dR rfl rfl) (aF.cons rfl (aB dD rfl) (aF.cons rfl (aJ rfl) (aF.cons rfl (aI dY rfl rfl) (aF.cons rfl (aI dR rfl rfl) (aF.cons rfl (aB dD rfl) (aF.cons rfl (aJ rfl) (aF.cons rfl (aI dY rfl rfl) (aF.cons rfl (aI lW rfl rfl) (aF.nil)))))))))))))) ?_
 refine VD.one rfl ?_
 obtain ⟨YX,aEl,hS⟩:=bF hS
 refine VL.cT (iZ cK BT aEl) rfl (by decide) ?_
 rintro ⟨VT,aTb⟩ rfl
 try dsimp only
 refine VL.back (D':=[(29,ptr cK 0),(28,ptr dF 0),(27,ptr dF 0),(26,ptr dF 0),(24,ptr cK 0),(23,ptr dF 0),(22,ptr dF 0),(21,ptr dF 0),(0,bM.val)]) (by kernel_rfl) (aF.cons rfl (aI dR rfl rfl) (aF.cons rfl (aB dD rfl) (aF.cons rfl (aJ rfl) (aF.cons rfl (aI dY rfl rfl) (aF.cons rfl (aI dR rfl rfl) (aF.cons rfl (aB dD rfl) (aF.cons rfl (aJ rfl) (aF.cons rfl (aI dY rfl rfl) (aF.cons rfl (aI lW rfl rfl) (aF.nil)))))))))) ?_
 refine VD.one rfl ?_
 obtain ⟨aKk,aWC,hS⟩:=bF hS
 refine VL.cT (fM cK aTb aWC) rfl (by decide) ?_
 rintro ⟨VV,aTf⟩ rfl
 try dsimp only
 refine VL.back (D':=[(29,ptr cK 0),(28,ptr dF 0),(27,ptr dF 0),(26,ptr dF 0),(0,bM.val)]) (by kernel_rfl) (aF.cons rfl (aI dR rfl rfl) (aF.cons rfl (aB dD rfl) (aF.cons rfl (aJ rfl) (aF.cons rfl (aI dY rfl rfl) (aF.cons rfl (aI lW rfl rfl) (aF.nil)))))) ?_
 refine VD.one rfl ?_
 obtain ⟨QC,aEt,hS⟩:=bF hS
 refine VL.cT (fM cK aTf aEt) rfl (by decide) ?_
 rintro ⟨VW,aBd⟩ rfl
 try dsimp only
 refine VL.back (D':=[(0,bM.val)]) (by kernel_rfl) (aF.cons rfl (aI lW rfl rfl) (aF.nil)) ?_
 refine Zw rfl (eO (vs:=[(0,str pT),(1,i64 tI),(2,i64 tJ),(3,str VT),(4,i64 VV),(5,i64 VW)]) (cs := #[str pT,i64 tI,i64 tJ,str VT,i64 VV,i64 VW]) rfl (by kernel_rfl)) ?_
 refine VD.one rfl ?_
 refine VL.lit (α:=aQ) (xs:=[.tmp 33]) (vs:=[.agg #[str pT,i64 tI,i64 tJ,str VT,i64 VV,i64 VW]]) [⟨pT,tI,tJ,VT,VV,VW⟩] Tryz.underlying51 aSE (by decide) rfl rfl rfl rfl (by decide) (fun _ _ _ _=>trivial) (by decide) (fun a0g aXG => ?_) (by decide)
 replace hS:=dL aXG hS
 refine VL.back (D':=[(0,bM.val)]) (by kernel_rfl) (aF.cons rfl (aI lW rfl rfl) (aF.nil)) ?_
 refine VD.one rfl ?_
 obtain ⟨b35,hS⟩:=bQ hS
 refine VL.app (s:=bM) (r:=a0g) Tryz.underlying51 aRm (by decide) rfl Fo.out (CW b35) (CX b35 (by decide)) (by decide) (fun aBp aFP => ?_)
 replace hS:=dL aFP hS
 refine VL.back (D':=[]) (by kernel_rfl) (aF.nil) ?_
 refine VD.one rfl ?_
 refine Zv (vc:=[aBp.val]) (cs':=[aBp.val]) rfl aZn ?_
 refine VL.back (D':=[]) (by kernel_rfl) (aF.nil) ?_
 cases hS
 exact VD.nil (pK (.inl rfl) rfl (aBp,⟨aBd.b,aBd.at_,aBd.err⟩) rfl rfl (by (try dsimp only); exact dQ.out) (by (try dsimp only); exact fL.out))
theorem JN (bY:Nat) (eL:bH) (aP:Nat) (bK:dO) (cW:Nat) (aX:Sv aQ) (cX:Nat) {r:cE×bH×List aQ} (hS:Sh.pY eL bK.pl aX.l=some r) :
 Ct Tryz.prog 142 [ptr bY 0,.func (.func 202) #[] #[ptr cW 0,ptr cX 0]] (bK.b.ok.and bK.err.ok) (Ow.star (bT aP [bK.b.val,i64 bK.at_,bK.err.val] 233) (Ow.star (bT bY [ptr aP 0,.bool eL.bad] 161) (Ow.star (Sv.own aX 218) (Ow.star (bT cW [aX.val] 51) (bT cX [ptr bY 0] 159))))) (X:=dO×bH×Sv aQ) (fun x => .tuple #[]) (fun x=>r=(x.1.pl,x.2.1,x.2.2.l)) (fun x=>(x.1.b.ok.and x.1.err.ok)) (fun x=>Ow.star (bT aP [x.1.b.val,i64 x.1.at_,x.1.err.val] 233) (Ow.star (bT bY [ptr aP 0,.bool x.2.1.bad] 161) (Ow.star (bT cW [x.2.2.val] 51) (Ow.star (Sv.own x.2.2 218) (bT cX [ptr bY 0] 159))))):=by
 refine Zo Tryz.func142 Tryz.ntmps142 fun c => ?_
 unfold Sh.pY at hS
 refine Zq (Zr ?_)
 refine Zm ?_
 refine Zu (aJ rfl) ?_
 refine Zu (aB dD rfl) ?_
 refine Zu (aI dR rfl rfl) ?_
 obtain ⟨gS,tC,hS⟩:=bF hS
 refine VL.cT (fM aP bK tC) rfl (by decide) ?_
 rintro ⟨eD,fG⟩ rfl
 try dsimp only
 refine Zy ?_
 refine VC.j0 (S:=Bool) (fun (fV:Bool)=>fV) (fun (fV:Bool)=>[(0,ptr bY 0),(1,.func (.func 202) #[] #[ptr cW 0,ptr cX 0]),(4,i64 eD)]) (fun (fV:Bool)=>Mo.tt) (fun (fV:Bool)=>Ow.star (bT aP [fG.b.val,i64 fG.at_,fG.err.val] 233) (Ow.star (bT bY [ptr aP 0,.bool fV] 161) (Ow.star (bT cW [aX.val] 51) (Ow.star (bT cX [ptr bY 0] 159) (Ow.star (Sv.own aX 218) (Ow.emp)))))) hS ?_ ?_
 ·
  clear hS
  intro k3 hS
  refine Zr ?_
  refine Zy ?_
  refine Zu (aJ rfl) ?_
  refine Zu (aB lU rfl) ?_
  refine Zu (aI OD rfl rfl) ?_
  refine Zm ?_
  refine rC 16 hS (fun h16 hS => ?_) (fun h16 hS => ?_)
  ·
   refine VL.runs 3 [(19,some true)] (by kernel_rfl) ?_
   refine Zu (aJ rfl) ?_
   refine Zu (aB lU rfl) ?_
   refine Zv (vc:=[.bool true]) (cs':=[ptr aP 0,.bool true]) rfl IS ?_
   refine VL.mt true [0,1,4] (fun _ _ h=>h) hS rfl
  refine Zg ?_
  refine Zh (dA rfl rfl) ?_
  refine Zf ?_
  refine Zu (aJ rfl) ?_
  refine Zu (aB lU rfl) ?_
  refine Zv (vc:=[.bool (decide (eD < 0))]) (cs':=[ptr aP 0,.bool (decide (eD < 0))]) rfl IS ?_
  refine VL.mt (decide (eD < 0)) [0,1,4] (fun _ _ h=>h) hS rfl
 clear hS
 rintro fV hS
 refine Zq (Zr ?_)
 refine Zy ?_
 refine Zb ?_
 refine VC.iter (S:=Int×Sv UInt8×Int×Er×Sv aQ) (fun sg=>(sg.1,sg.2.1.l,sg.2.2.1,sg.2.2.2.1.pl,sg.2.2.2.2.l)) (fun sg=>[(0,ptr bY 0),(1,.func (.func 202) #[] #[ptr cW 0,ptr cX 0]),(4,i64 eD),(5,i64 sg.1)]) (fun sg=>(sg.2.1.ok.and sg.2.2.2.1.ok)) (fun sg=>Ow.star (bT aP [sg.2.1.val,i64 sg.2.2.1,sg.2.2.2.1.val] 233) (Ow.star (bT bY [ptr aP 0,.bool fV] 161) (Ow.star (bT cW [sg.2.2.2.2.val] 51) (Ow.star (bT cX [ptr bY 0] 159) (Ow.star (Sv.own sg.2.2.2.2 218) (Ow.emp)))))) (0,fG.b,fG.at_,fG.err,aX) [0,1,4,5] hS rfl ?_
 clear hS
 rintro ⟨jV,gX,kS,kT,nJ⟩ m1 y1 hS hK1
 refine Zq (Zq (Zr ?_))
 refine Zy ?_
 refine Zu (dA rfl rfl) ?_
 refine Zm ?_
 refine jJ 25 hS (fun h25 hS => ?_) (fun h25 hS => ?_)
 ·
  refine Zg ?_
  refine Zh (aJ rfl) ?_
  refine Zh (aB dD rfl) ?_
  refine Zh (aI dR rfl rfl) ?_
  refine VL.guard rfl rfl ?_
  obtain ⟨IB,L8,hS⟩:=bF hS
  refine VL.cT (mD aP (⟨gX,kS,kT⟩:dO) L8) rfl (by decide) ?_
  rintro HM rfl
  try dsimp only
  refine Zh (vT Tryz.underlying26 rfl) ?_
  refine Zy ?_
  refine VC.keep (ρ':=[(0,ptr bY 0),(1,.func (.func 202) #[] #[ptr cW 0,ptr cX 0]),(4,i64 eD),(5,i64 jV),(32,.bool (decide (HM.pl.isNil=true)))]) [0,1,4,5,32] rfl ?_
  refine Zc hS (fun h32 hS => ?_) (fun h32 hS => ?_)
  ·
   refine Zk ?_
   refine Zq (Zb (Zr ?_))
   refine Zm ?_
   obtain ⟨o8,GZ,hS⟩:=bF hS
   refine VL.uI (vs:=[]) (caps:=[ptr cW 0,ptr cX 0]) (HU cW nJ cX bY (⟨fV⟩:bH) aP (⟨gX,kS,kT⟩:dO) GZ) rfl rfl (by decide) ?_
   rintro ⟨DF,p9⟩ rfl
   try dsimp only
   refine Zl ?_
   refine Zr ?_
   refine Zm ?_
   obtain ⟨b34,hS⟩:=bQ hS
   refine Zu (dZ rfl rfl b34) ?_
   refine Za ?_
   refine VL.kE ((jV+1),p9.b,p9.at_,p9.err,DF) [0,1,4,5] (fun _ _ h=>h) (go2 hS hK1) rfl
  replace hS:=fF hS hK1
  cases hS
  exact VC.exit (pK (.inl rfl) rfl (⟨gX,kS,kT⟩,⟨fV⟩,nJ) rfl rfl (by (try dsimp only); exact dQ.out) (by (try dsimp only); exact fL.out))
 refine VL.runs 7 [(32,some false)] (by kernel_rfl) ?_
 refine Zl ?_
 refine VC.rL rfl ?_
 replace hS:=fF hS hK1
 cases hS
 exact VC.exit (pK (.inl rfl) rfl (⟨gX,kS,kT⟩,⟨fV⟩,nJ) rfl rfl (by (try dsimp only); exact dQ.out) (by (try dsimp only); exact fL.out))
theorem xA (aD:Sv aQ) {r:List aQ} (hS:Sh.jW aD.l=some r) :
 Ct Tryz.prog 203 [aD.val] aD.ok (Ow.emp) (X:=Sv aQ) (fun x=>x.val) (fun x=>r=x.l) (fun x=>x.ok) (fun x=>Ow.emp):=by
 refine Zo Tryz.func203 Tryz.ntmps203 fun c => ?_
 unfold Sh.jW at hS
 refine Zq (Zr ?_)
 refine Zy ?_
 refine Zq (Zr ?_)
 refine Zy ?_
 refine Zu (fH (s:=aD) Tryz.underlying51 rfl) ?_
 refine Zm ?_
 refine Zu (fH (s:=aD) Tryz.underlying51 rfl) ?_
 obtain ⟨b8,hS⟩:=bQ hS
 refine VL.RW Tryz.underlying51 pS rfl rfl rfl b8.1 (b8.2) (by decide) fun BZ vQ => ?_
 replace hS:=dL vQ hS
 refine Zy ?_
 cases hS
 exact VC.ret (iU (.inr rfl) rfl rfl BZ rfl rfl (by (try dsimp only); exact dQ.out) (fun _ _=>trivial))
theorem qG (bY:Nat) (eL:bH) (aP:Nat) (bK:dO) {r:List aQ×cE×bH} (hS:Sh.nW eL bK.pl=some r) :
 Ct Tryz.prog 141 [ptr bY 0] (bK.b.ok.and bK.err.ok) (Ow.star (bT aP [bK.b.val,i64 bK.at_,bK.err.val] 233) (bT bY [ptr aP 0,.bool eL.bad] 161)) (X:=Sv aQ×dO×bH) (fun x=>x.1.val) (fun x=>r=(x.1.l,x.2.1.pl,x.2.2)) (fun x=>(x.1.ok.and (x.2.1.b.ok.and x.2.1.err.ok))) (fun x=>Ow.star (bT aP [x.2.1.b.val,i64 x.2.1.at_,x.2.1.err.val] 233) (bT bY [ptr aP 0,.bool x.2.2.bad] 161)):=by
 refine Zo Tryz.func141 Tryz.ntmps141 fun c => ?_
 unfold Sh.nW at hS
 refine Zq (Zr ?_)
 refine VL.box (cs:=[ptr bY 0]) rfl rfl (by decide) fun cM => ?_
 refine Zy ?_
 refine Zq (Zr ?_)
 refine VL.alloc (cs:=[.slice none 0 0]) (by kernel_rfl) (by decide) fun eZ => ?_
 refine Zl ?_
 refine Zq (Zr ?_)
 refine Zu (aI dY rfl rfl) ?_
 refine Zu (tK rfl) ?_
 refine VL.qU (⟨none,0,[]⟩:Sv aQ) 218 ⟨rfl,rfl⟩ ?_
 refine VL.RL eZ (cs':=[(⟨none,0,[]⟩:Sv aQ).val]) rfl ?_
 obtain ⟨vI,SM,hS⟩:=bF hS
 refine VL.cT (JN bY eL aP bK eZ (⟨none,0,[]⟩:Sv aQ) cM SM) rfl (by decide) ?_
 rintro ⟨vR,MP,BW⟩ rfl
 try dsimp only
 refine Zl ?_
 refine Zq (Zr ?_)
 refine Zu (aI lW rfl rfl) ?_
 refine VL.shut BW 218 (fun _ _ _ _=>trivial) ?_
 obtain ⟨E6,G0,hS⟩:=bF hS
 refine VL.gI (xA BW G0) rfl (by decide) ?_
 rintro vS rfl
 try dsimp only
 refine Zy ?_
 cases hS
 exact VC.ret (iU (.inr rfl) rfl rfl (vS,⟨vR.b,vR.at_,vR.err⟩,⟨MP.bad⟩) rfl rfl (by (try dsimp only); exact dQ.out) (by (try dsimp only); exact fL.out))
theorem MT (mU:Nat) (bM:eK) (j7:Nat) (dF:Nat) (a_1_:bH) (cK:Nat) (dS:dO) {r:dN×cE} (hS:Sh.rF bM.pl a_1_ dS.pl=some r) :
 Ct Tryz.prog 143 [ptr mU 0,ptr j7 0] (bM.work.ok.and (bM.index.ok.and (bM.aN.ok.and (bM.aT.ok.and (bM.aO.ok.and (bM.aU.ok.and ((wL bM.bJ.l).and (dS.b.ok.and dS.err.ok)))))))) (Ow.star (Sv.own bM.refs 216) (Ow.star (Sv.own bM.bJ 155) (Ow.star (bT mU [bM.work.val,bM.index.val,bM.refs.val,str bM.aG,i64 bM.aH,str bM.aW,i64 bM.aS,str bM.aV,bM.aN.val,bM.aT.val,i64 bM.aY,str bM.aM,str bM.aC,i64 bM.aE,bM.aO.val,bM.aU.val,bM.bJ.val] 61) (Ow.star (bT cK [dS.b.val,i64 dS.at_,dS.err.val] 233) (Ow.star (bT dF [ptr cK 0,.bool a_1_.bad] 161) (bT j7 [ptr dF 0] 159)))))) (X:=eK×dO) (fun x => .tuple #[]) (fun x=>r=(x.1.pl,x.2.pl)) (fun x=>(x.1.work.ok.and (x.1.index.ok.and (x.1.aN.ok.and (x.1.aT.ok.and (x.1.aO.ok.and (x.1.aU.ok.and ((wL x.1.bJ.l).and (x.2.b.ok.and x.2.err.ok))))))))) (fun x=>Ow.star (bT mU [x.1.work.val,x.1.index.val,x.1.refs.val,str x.1.aG,i64 x.1.aH,str x.1.aW,i64 x.1.aS,str x.1.aV,x.1.aN.val,x.1.aT.val,i64 x.1.aY,str x.1.aM,str x.1.aC,i64 x.1.aE,x.1.aO.val,x.1.aU.val,x.1.bJ.val] 61) (Ow.star (Sv.own x.1.refs 216) (Ow.star (Sv.own x.1.bJ 155) (Ow.star (bT cK [x.2.b.val,i64 x.2.at_,x.2.err.val] 233) (Ow.star (bT dF [ptr cK 0,.bool a_1_.bad] 161) (bT j7 [ptr dF 0] 159)))))):=by
 refine Zo Tryz.func143 Tryz.ntmps143 fun c => ?_
 unfold Sh.rF at hS
 refine VC.draw [(0,true),(1,true),(2,true),(3,true),(4,true),(5,true),(7,true),(8,true),(9,true),(10,true),(6,false),(11,false),(12,true),(13,false),(14,false),(15,true),(16,false)] mixed (by kernel_rfl) (by kernel_rfl) (by kernel_rfl) ?_
 refine Zw rfl (aB lK rfl) ?_
 refine Zw rfl (aI qS rfl rfl) ?_
 refine Zw rfl (aI dY rfl rfl) ?_
 refine Zw rfl (aJ rfl) ?_
 refine Zw rfl (aB dD rfl) ?_
 refine Zw rfl (aI dR rfl rfl) ?_
 refine Zw rfl (aI dY rfl rfl) ?_
 refine Zw rfl (aJ rfl) ?_
 refine Zw rfl (aB dD rfl) ?_
 refine Zw rfl (aI dR rfl rfl) ?_
 refine VD.one rfl ?_
 obtain ⟨FN,L9,hS⟩:=bF hS
 refine VL.cT (iZ cK dS L9) rfl (by decide) ?_
 rintro ⟨D4,aFa⟩ rfl
 try dsimp only
 refine VL.back (D':=[(10,ptr cK 0),(9,ptr dF 0),(8,ptr dF 0),(7,ptr dF 0),(1,bM.refs.val),(0,ptr mU 2)]) (by kernel_rfl) (aF.cons rfl (aI dR rfl rfl) (aF.cons rfl (aB dD rfl) (aF.cons rfl (aJ rfl) (aF.cons rfl (aI dY rfl rfl) (aF.cons rfl (aI qS rfl rfl) (aF.cons rfl (aB lK rfl) (aF.nil))))))) ?_
 refine VD.one rfl ?_
 obtain ⟨aCW,aV5,hS⟩:=bF hS
 refine VL.cT (fM cK aFa aV5) rfl (by decide) ?_
 rintro ⟨VO,aB5⟩ rfl
 try dsimp only
 refine VL.back (D':=[(1,bM.refs.val),(0,ptr mU 2)]) (by kernel_rfl) (aF.cons rfl (aI qS rfl rfl) (aF.cons rfl (aB lK rfl) (aF.nil))) ?_
 refine Zw rfl (eO (vs:=[(0,str D4),(1,i64 VO)]) (cs := #[str D4,i64 VO]) rfl (by kernel_rfl)) ?_
 refine VD.one rfl ?_
 refine VL.lit (α:=dI) (xs:=[.tmp 14]) (vs:=[.agg #[str D4,i64 VO]]) [⟨D4,VO⟩] Tryz.underlying52 aSD (by decide) rfl rfl rfl rfl (by decide) (fun _ _ _ _=>trivial) (by decide) (fun a01 aWl => ?_) (by decide)
 replace hS:=dL aWl hS
 refine VL.back (D':=[(1,bM.refs.val),(0,ptr mU 2)]) (by kernel_rfl) (aF.cons rfl (aI qS rfl rfl) (aF.cons rfl (aB lK rfl) (aF.nil))) ?_
 refine VD.one rfl ?_
 obtain ⟨b16,hS⟩:=bQ hS
 refine VL.app (s:=bM.refs) (r:=a01) Tryz.underlying52 aRl (by decide) rfl Fo.out (CW b16) (CX b16 (by decide)) (by decide) (fun SZ UH => ?_)
 replace hS:=dL UH hS
 refine VL.back (D':=[]) (by kernel_rfl) (aF.nil) ?_
 refine Zw rfl (aB lK rfl) ?_
 refine VD.one rfl ?_
 refine Zv (vc:=[SZ.val]) (cs':=[bM.work.val,bM.index.val,SZ.val,str bM.aG,i64 bM.aH,str bM.aW,i64 bM.aS,str bM.aV,bM.aN.val,bM.aT.val,i64 bM.aY,str bM.aM,str bM.aC,i64 bM.aE,bM.aO.val,bM.aU.val,bM.bJ.val]) rfl aFC ?_
 refine VL.back (D':=[]) (by kernel_rfl) (aF.nil) ?_
 cases hS
 exact VD.nil (pK (.inl rfl) rfl (⟨bM.work,bM.index,SZ,bM.aG,bM.aH,bM.aW,bM.aS,bM.aV,bM.aN,bM.aT,bM.aY,bM.aM,bM.aC,bM.aE,bM.aO,bM.aU,bM.bJ⟩,⟨aB5.b,aB5.at_,aB5.err⟩) rfl rfl (by (try dsimp only); exact dQ.out) (by (try dsimp only); exact fL.out))
theorem tZ (bY:Nat) (eL:bH) (aP:Nat) (bK:dO) (cW:Nat) (aX:eK) (cX:Nat) {r:cE×bH×dN} (hS:Sh.pZ eL bK.pl aX.pl=some r) :
 Ct Tryz.prog 142 [ptr bY 0,.func (.func 143) #[] #[ptr cW 0,ptr cX 0]] (bK.b.ok.and (bK.err.ok.and (aX.work.ok.and (aX.index.ok.and (aX.aN.ok.and (aX.aT.ok.and (aX.aO.ok.and (aX.aU.ok.and (wL aX.bJ.l))))))))) (Ow.star (bT aP [bK.b.val,i64 bK.at_,bK.err.val] 233) (Ow.star (bT bY [ptr aP 0,.bool eL.bad] 161) (Ow.star (Sv.own aX.refs 216) (Ow.star (Sv.own aX.bJ 155) (Ow.star (bT cW [aX.work.val,aX.index.val,aX.refs.val,str aX.aG,i64 aX.aH,str aX.aW,i64 aX.aS,str aX.aV,aX.aN.val,aX.aT.val,i64 aX.aY,str aX.aM,str aX.aC,i64 aX.aE,aX.aO.val,aX.aU.val,aX.bJ.val] 61) (bT cX [ptr bY 0] 159)))))) (X:=dO×bH×eK) (fun x => .tuple #[]) (fun x=>r=(x.1.pl,x.2.1,x.2.2.pl)) (fun x=>(x.1.b.ok.and (x.1.err.ok.and (x.2.2.work.ok.and (x.2.2.index.ok.and (x.2.2.aN.ok.and (x.2.2.aT.ok.and (x.2.2.aO.ok.and (x.2.2.aU.ok.and (wL x.2.2.bJ.l)))))))))) (fun x=>Ow.star (bT aP [x.1.b.val,i64 x.1.at_,x.1.err.val] 233) (Ow.star (bT bY [ptr aP 0,.bool x.2.1.bad] 161) (Ow.star (bT cW [x.2.2.work.val,x.2.2.index.val,x.2.2.refs.val,str x.2.2.aG,i64 x.2.2.aH,str x.2.2.aW,i64 x.2.2.aS,str x.2.2.aV,x.2.2.aN.val,x.2.2.aT.val,i64 x.2.2.aY,str x.2.2.aM,str x.2.2.aC,i64 x.2.2.aE,x.2.2.aO.val,x.2.2.aU.val,x.2.2.bJ.val] 61) (Ow.star (Sv.own x.2.2.refs 216) (Ow.star (Sv.own x.2.2.bJ 155) (bT cX [ptr bY 0] 159)))))):=by
 refine Zo Tryz.func142 Tryz.ntmps142 fun c => ?_
 unfold Sh.pZ at hS
 refine Zq (Zr ?_)
 refine Zm ?_
 refine Zu (aJ rfl) ?_
 refine Zu (aB dD rfl) ?_
 refine Zu (aI dR rfl rfl) ?_
 obtain ⟨gS,tC,hS⟩:=bF hS
 refine VL.cT (fM aP bK tC) rfl (by decide) ?_
 rintro ⟨eD,fG⟩ rfl
 try dsimp only
 refine Zy ?_
 refine VC.j0 (S:=Bool) (fun (fV:Bool)=>fV) (fun (fV:Bool)=>[(0,ptr bY 0),(1,.func (.func 143) #[] #[ptr cW 0,ptr cX 0]),(4,i64 eD)]) (fun (fV:Bool)=>Mo.tt) (fun (fV:Bool)=>Ow.star (bT aP [fG.b.val,i64 fG.at_,fG.err.val] 233) (Ow.star (bT bY [ptr aP 0,.bool fV] 161) (Ow.star (bT cW [aX.work.val,aX.index.val,aX.refs.val,str aX.aG,i64 aX.aH,str aX.aW,i64 aX.aS,str aX.aV,aX.aN.val,aX.aT.val,i64 aX.aY,str aX.aM,str aX.aC,i64 aX.aE,aX.aO.val,aX.aU.val,aX.bJ.val] 61) (Ow.star (bT cX [ptr bY 0] 159) (Ow.star (Sv.own aX.refs 216) (Ow.star (Sv.own aX.bJ 155) (Ow.emp))))))) hS ?_ ?_
 ·
  clear hS
  intro k3 hS
  refine Zr ?_
  refine Zy ?_
  refine Zu (aJ rfl) ?_
  refine Zu (aB lU rfl) ?_
  refine Zu (aI OD rfl rfl) ?_
  refine Zm ?_
  refine rC 16 hS (fun h16 hS => ?_) (fun h16 hS => ?_)
  ·
   refine VL.runs 3 [(19,some true)] (by kernel_rfl) ?_
   refine Zu (aJ rfl) ?_
   refine Zu (aB lU rfl) ?_
   refine Zv (vc:=[.bool true]) (cs':=[ptr aP 0,.bool true]) rfl IS ?_
   refine VL.mt true [0,1,4] (fun _ _ h=>h) hS rfl
  refine Zg ?_
  refine Zh (dA rfl rfl) ?_
  refine Zf ?_
  refine Zu (aJ rfl) ?_
  refine Zu (aB lU rfl) ?_
  refine Zv (vc:=[.bool (decide (eD < 0))]) (cs':=[ptr aP 0,.bool (decide (eD < 0))]) rfl IS ?_
  refine VL.mt (decide (eD < 0)) [0,1,4] (fun _ _ h=>h) hS rfl
 clear hS
 rintro fV hS
 refine Zq (Zr ?_)
 refine Zy ?_
 refine Zb ?_
 refine VC.iter (S:=Int×Sv UInt8×Int×Er×Sv aZ×Sv aQ×Sv dI×bN×Int×bN×Int×bN×Sv cA×Sv cA×Int×bN×bN×Int×Sv aQ×Sv aZ×Sv bR) (fun sg=>(sg.1,sg.2.1.l,sg.2.2.1,sg.2.2.2.1.pl,sg.2.2.2.2.1.l,sg.2.2.2.2.2.1.l,sg.2.2.2.2.2.2.1.l,sg.2.2.2.2.2.2.2.1,sg.2.2.2.2.2.2.2.2.1,sg.2.2.2.2.2.2.2.2.2.1,sg.2.2.2.2.2.2.2.2.2.2.1,sg.2.2.2.2.2.2.2.2.2.2.2.1,sg.2.2.2.2.2.2.2.2.2.2.2.2.1.l,sg.2.2.2.2.2.2.2.2.2.2.2.2.2.1.l,sg.2.2.2.2.2.2.2.2.2.2.2.2.2.2.1,sg.2.2.2.2.2.2.2.2.2.2.2.2.2.2.2.1,sg.2.2.2.2.2.2.2.2.2.2.2.2.2.2.2.2.1,sg.2.2.2.2.2.2.2.2.2.2.2.2.2.2.2.2.2.1,sg.2.2.2.2.2.2.2.2.2.2.2.2.2.2.2.2.2.2.1.l,sg.2.2.2.2.2.2.2.2.2.2.2.2.2.2.2.2.2.2.2.1.l,(sg.2.2.2.2.2.2.2.2.2.2.2.2.2.2.2.2.2.2.2.2.l.map bR.pl))) (fun sg=>[(0,ptr bY 0),(1,.func (.func 143) #[] #[ptr cW 0,ptr cX 0]),(4,i64 eD),(5,i64 sg.1)]) (fun sg=>(sg.2.1.ok.and (sg.2.2.2.1.ok.and (sg.2.2.2.2.1.ok.and (sg.2.2.2.2.2.1.ok.and (sg.2.2.2.2.2.2.2.2.2.2.2.2.1.ok.and (sg.2.2.2.2.2.2.2.2.2.2.2.2.2.1.ok.and (sg.2.2.2.2.2.2.2.2.2.2.2.2.2.2.2.2.2.2.1.ok.and (sg.2.2.2.2.2.2.2.2.2.2.2.2.2.2.2.2.2.2.2.1.ok.and (wL sg.2.2.2.2.2.2.2.2.2.2.2.2.2.2.2.2.2.2.2.2.l)))))))))) (fun sg=>Ow.star (bT aP [sg.2.1.val,i64 sg.2.2.1,sg.2.2.2.1.val] 233) (Ow.star (bT bY [ptr aP 0,.bool fV] 161) (Ow.star (bT cW [sg.2.2.2.2.1.val,sg.2.2.2.2.2.1.val,sg.2.2.2.2.2.2.1.val,str sg.2.2.2.2.2.2.2.1,i64 sg.2.2.2.2.2.2.2.2.1,str sg.2.2.2.2.2.2.2.2.2.1,i64 sg.2.2.2.2.2.2.2.2.2.2.1,str sg.2.2.2.2.2.2.2.2.2.2.2.1,sg.2.2.2.2.2.2.2.2.2.2.2.2.1.val,sg.2.2.2.2.2.2.2.2.2.2.2.2.2.1.val,i64 sg.2.2.2.2.2.2.2.2.2.2.2.2.2.2.1,str sg.2.2.2.2.2.2.2.2.2.2.2.2.2.2.2.1,str sg.2.2.2.2.2.2.2.2.2.2.2.2.2.2.2.2.1,i64 sg.2.2.2.2.2.2.2.2.2.2.2.2.2.2.2.2.2.1,sg.2.2.2.2.2.2.2.2.2.2.2.2.2.2.2.2.2.2.1.val,sg.2.2.2.2.2.2.2.2.2.2.2.2.2.2.2.2.2.2.2.1.val,sg.2.2.2.2.2.2.2.2.2.2.2.2.2.2.2.2.2.2.2.2.val] 61) (Ow.star (bT cX [ptr bY 0] 159) (Ow.star (Sv.own sg.2.2.2.2.2.2.1 216) (Ow.star (Sv.own sg.2.2.2.2.2.2.2.2.2.2.2.2.2.2.2.2.2.2.2.2 155) (Ow.emp))))))) (0,fG.b,fG.at_,fG.err,aX.work,aX.index,aX.refs,aX.aG,aX.aH,aX.aW,aX.aS,aX.aV,aX.aN,aX.aT,aX.aY,aX.aM,aX.aC,aX.aE,aX.aO,aX.aU,aX.bJ) [0,1,4,5] hS rfl ?_
 clear hS
 rintro ⟨jV,gX,kS,kT,nJ,aAT,R3,R5,R7,R9,SB,SD,SF,SH,LK,LM,LO,LQ,LS,LV,LX⟩ m1 y1 hS hK1
 refine Zq (Zq (Zr ?_))
 refine Zy ?_
 refine Zu (dA rfl rfl) ?_
 refine Zm ?_
 refine jJ 25 hS (fun h25 hS => ?_) (fun h25 hS => ?_)
 ·
  refine Zg ?_
  refine Zh (aJ rfl) ?_
  refine Zh (aB dD rfl) ?_
  refine Zh (aI dR rfl rfl) ?_
  refine VL.guard rfl rfl ?_
  obtain ⟨aMx,aQ2,hS⟩:=bF hS
  refine VL.cT (mD aP (⟨gX,kS,kT⟩:dO) aQ2) rfl (by decide) ?_
  rintro aPH rfl
  try dsimp only
  refine Zh (vT Tryz.underlying26 rfl) ?_
  refine Zy ?_
  refine VC.keep (ρ':=[(0,ptr bY 0),(1,.func (.func 143) #[] #[ptr cW 0,ptr cX 0]),(4,i64 eD),(5,i64 jV),(32,.bool (decide (aPH.pl.isNil=true)))]) [0,1,4,5,32] rfl ?_
  refine Zc hS (fun h32 hS => ?_) (fun h32 hS => ?_)
  ·
   refine Zk ?_
   refine Zq (Zb (Zr ?_))
   refine Zm ?_
   obtain ⟨qH,aQa,hS⟩:=bF hS
   refine VL.uI (vs:=[]) (caps:=[ptr cW 0,ptr cX 0]) (MT cW (⟨nJ,aAT,R3,R5,R7,R9,SB,SD,SF,SH,LK,LM,LO,LQ,LS,LV,LX⟩:eK) cX bY (⟨fV⟩:bH) aP (⟨gX,kS,kT⟩:dO) aQa) rfl rfl (by decide) ?_
   rintro ⟨oM,X2⟩ rfl
   try dsimp only
   refine Zl ?_
   refine Zr ?_
   refine Zm ?_
   obtain ⟨b34,hS⟩:=bQ hS
   refine Zu (dZ rfl rfl b34) ?_
   refine Za ?_
   refine VL.kE ((jV+1),X2.b,X2.at_,X2.err,oM.work,oM.index,oM.refs,oM.aG,oM.aH,oM.aW,oM.aS,oM.aV,oM.aN,oM.aT,oM.aY,oM.aM,oM.aC,oM.aE,oM.aO,oM.aU,oM.bJ) [0,1,4,5] (fun _ _ h=>h) (go2 hS hK1) rfl
  replace hS:=fF hS hK1
  cases hS
  exact VC.exit (pK (.inl rfl) rfl (⟨gX,kS,kT⟩,⟨fV⟩,⟨nJ,aAT,R3,R5,R7,R9,SB,SD,SF,SH,LK,LM,LO,LQ,LS,LV,LX⟩) rfl rfl (by (try dsimp only); exact dQ.out) (by (try dsimp only); exact fL.out))
 refine VL.runs 7 [(32,some false)] (by kernel_rfl) ?_
 refine Zl ?_
 refine VC.rL rfl ?_
 replace hS:=fF hS hK1
 cases hS
 exact VC.exit (pK (.inl rfl) rfl (⟨gX,kS,kT⟩,⟨fV⟩,⟨nJ,aAT,R3,R5,R7,R9,SB,SD,SF,SH,LK,LM,LO,LQ,LS,LV,LX⟩) rfl rfl (by (try dsimp only); exact dQ.out) (by (try dsimp only); exact fL.out))
theorem s3 (bY:Nat) (eL:bH) (aP:Nat) (bK:dO) {r:lV×cE} (hS:Sh.qA eL bK.pl=some r) :
 Ct Tryz.prog 144 [ptr bY 0] (bK.b.ok.and bK.err.ok) (Ow.star (bT aP [bK.b.val,i64 bK.at_,bK.err.val] 233) (bT bY [ptr aP 0,.bool eL.bad] 161)) (X:=lV×dO) (fun x => .agg #[str x.1.branch,i64 x.1.cB]) (fun x=>r=(x.1,x.2.pl)) (fun x=>(x.2.b.ok.and x.2.err.ok)) (fun x=>Ow.star (bT aP [x.2.b.val,i64 x.2.at_,x.2.err.val] 233) (bT bY [ptr aP 0,.bool eL.bad] 161)):=by
 refine Zo Tryz.func144 Tryz.ntmps144 fun c => ?_
 unfold Sh.qA at hS
 refine Zq (Zr ?_)
 refine VL.alloc (cs:=[str [],i64 0]) (by kernel_rfl) (by decide) fun nA => ?_
 refine Zl ?_
 refine Zq ?_
 refine VC.draw [(0,true),(1,true),(2,true),(3,true),(5,true),(6,true),(7,true),(8,true),(4,false),(9,false),(10,true),(11,false)] mixed (by kernel_rfl) (by kernel_rfl) (by kernel_rfl) ?_
 refine Zw rfl (bI rfl) ?_
 refine Zw rfl (aJ rfl) ?_
 refine Zw rfl (aB dD rfl) ?_
 refine Zw rfl (aI dR rfl rfl) ?_
 refine Zw rfl (bI rfl) ?_
 refine Zw rfl (aJ rfl) ?_
 refine Zw rfl (aB dD rfl) ?_
 refine Zw rfl (aI dR rfl rfl) ?_
 refine VD.one rfl ?_
 obtain ⟨W3,aJo,hS⟩:=bF hS
 refine VL.cT (iZ aP bK aJo) rfl (by decide) ?_
 rintro ⟨yW,aF8⟩ rfl
 try dsimp only
 refine VL.back (D':=[(8,ptr aP 0),(7,ptr bY 0),(6,ptr bY 0)]) (by kernel_rfl) (aF.cons rfl (aI dR rfl rfl) (aF.cons rfl (aB dD rfl) (aF.cons rfl (aJ rfl) (aF.nil)))) ?_
 refine VD.one rfl ?_
 obtain ⟨sU,BE,hS⟩:=bF hS
 refine VL.cT (fM aP aF8 BE) rfl (by decide) ?_
 rintro ⟨lY,HG⟩ rfl
 try dsimp only
 refine VL.back (D':=[]) (by kernel_rfl) (aF.nil) ?_
 refine Zw rfl (eO (vs:=[(0,str yW),(1,i64 lY)]) (cs := #[str yW,i64 lY]) rfl (by kernel_rfl)) ?_
 refine VD.one rfl ?_
 refine Zv (vc:=[str yW,i64 lY]) (cs':=[str yW,i64 lY]) rfl aAr ?_
 refine VL.back (D':=[]) (by kernel_rfl) (aF.nil) ?_
 refine VD.to (fun _ _ h=>h) ?_
 refine VC.keep (ρ':=[(2,ptr nA 0)]) [2] rfl ?_
 cases hS
 exact VC.ret (oV (vs:=[.agg #[str yW,i64 lY]]) (.inr rfl) rfl (jY.cell IM rfl rfl Rd.blk (jY.nil)) (⟨yW,lY⟩,⟨HG.b,HG.at_,HG.err⟩) rfl rfl (by (try dsimp only); exact dQ.out) (by (try dsimp only); exact fL.out))
theorem JS (mU:Nat) (bM:Sv cA) (j7:Nat) (dF:Nat) (a_1_:bH) (cK:Nat) (dS:dO) {r:List cA×cE} (hS:Sh.p6 bM.l a_1_ dS.pl=some r) :
 Ct Tryz.prog 245 [ptr mU 0,ptr j7 0] (dS.b.ok.and dS.err.ok) (Ow.star (Sv.own bM 278) (Ow.star (bT mU [bM.val] 55) (Ow.star (bT cK [dS.b.val,i64 dS.at_,dS.err.val] 233) (Ow.star (bT dF [ptr cK 0,.bool a_1_.bad] 161) (bT j7 [ptr dF 0] 159))))) (X:=Sv cA×dO) (fun x => .tuple #[]) (fun x=>r=(x.1.l,x.2.pl)) (fun x=>(x.2.b.ok.and x.2.err.ok)) (fun x=>Ow.star (bT mU [x.1.val] 55) (Ow.star (Sv.own x.1 278) (Ow.star (bT cK [x.2.b.val,i64 x.2.at_,x.2.err.val] 233) (Ow.star (bT dF [ptr cK 0,.bool a_1_.bad] 161) (bT j7 [ptr dF 0] 159))))):=by
 refine Zo Tryz.func245 Tryz.ntmps245 fun c => ?_
 unfold Sh.p6 at hS
 refine VC.draw [(0,true),(1,true),(2,true),(3,true),(4,true),(6,true),(7,true),(8,true),(9,true),(11,true),(12,true),(13,true),(14,true),(5,false),(10,false),(15,false),(16,true),(17,false),(18,false),(19,false)] mixed (by kernel_rfl) (by kernel_rfl) (by kernel_rfl) ?_
 refine Zw rfl (aI mG rfl rfl) ?_
 refine Zw rfl (aI dY rfl rfl) ?_
 refine Zw rfl (aJ rfl) ?_
 refine Zw rfl (aB dD rfl) ?_
 refine Zw rfl (aI dR rfl rfl) ?_
 refine Zw rfl (aI dY rfl rfl) ?_
 refine Zw rfl (aJ rfl) ?_
 refine Zw rfl (aB dD rfl) ?_
 refine Zw rfl (aI dR rfl rfl) ?_
 refine Zw rfl (aI dY rfl rfl) ?_
 refine Zw rfl (aJ rfl) ?_
 refine Zw rfl (aB dD rfl) ?_
 refine Zw rfl (aI dR rfl rfl) ?_
 refine VD.one rfl ?_
 obtain ⟨lT,oH,hS⟩:=bF hS
 refine VL.cT (iZ cK dS oH) rfl (by decide) ?_
 rintro ⟨pT,F3⟩ rfl
 try dsimp only
 refine VL.back (D':=[(14,ptr cK 0),(13,ptr dF 0),(12,ptr dF 0),(11,ptr dF 0),(9,ptr cK 0),(8,ptr dF 0),(7,ptr dF 0),(6,ptr dF 0),(0,bM.val)]) (by kernel_rfl) (aF.cons rfl (aI dR rfl rfl) (aF.cons rfl (aB dD rfl) (aF.cons rfl (aJ rfl) (aF.cons rfl (aI dY rfl rfl) (aF.cons rfl (aI dR rfl rfl) (aF.cons rfl (aB dD rfl) (aF.cons rfl (aJ rfl) (aF.cons rfl (aI dY rfl rfl) (aF.cons rfl (aI mG rfl rfl) (aF.nil)))))))))) ?_
 refine VD.one rfl ?_
 obtain ⟨H7,TR,hS⟩:=bF hS
 refine VL.cT (fM cK F3 TR) rfl (by decide) ?_
 rintro ⟨tI,OT⟩ rfl
 try dsimp only
 refine VL.back (D':=[(14,ptr cK 0),(13,ptr dF 0),(12,ptr dF 0),(11,ptr dF 0),(0,bM.val)]) (by kernel_rfl) (aF.cons rfl (aI dR rfl rfl) (aF.cons rfl (aB dD rfl) (aF.cons rfl (aJ rfl) (aF.cons rfl (aI dY rfl rfl) (aF.cons rfl (aI mG rfl rfl) (aF.nil)))))) ?_
 refine VD.one rfl ?_
 obtain ⟨vG,L5,hS⟩:=bF hS
 refine VL.cT (iZ cK OT L5) rfl (by decide) ?_
 rintro ⟨tJ,BT⟩ rfl
 try dsimp only
 refine VL.back (D':=[(0,bM.val)]) (by kernel_rfl) (aF.cons rfl (aI mG rfl rfl) (aF.nil)) ?_
 refine Zw rfl (eO (vs:=[(0,str pT),(1,i64 tI),(2,str tJ)]) (cs := #[str pT,i64 tI,str tJ]) rfl (by kernel_rfl)) ?_
 refine VD.one rfl ?_
 refine VL.lit (α:=cA) (xs:=[.tmp 18]) (vs:=[.agg #[str pT,i64 tI,str tJ]]) [⟨pT,tI,tJ⟩] Tryz.underlying55 aSG (by decide) rfl rfl rfl rfl (by decide) (fun _ _ _ _=>trivial) (by decide) (fun aKL aFI => ?_) (by decide)
 replace hS:=dL aFI hS
 refine VL.back (D':=[(0,bM.val)]) (by kernel_rfl) (aF.cons rfl (aI mG rfl rfl) (aF.nil)) ?_
 refine VD.one rfl ?_
 obtain ⟨b20,hS⟩:=bQ hS
 refine VL.app (s:=bM) (r:=aKL) Tryz.underlying55 aH6 (by decide) rfl Fo.out (CW b20) (CX b20 (by decide)) (by decide) (fun S0 aFK => ?_)
 replace hS:=dL aFK hS
 refine VL.back (D':=[]) (by kernel_rfl) (aF.nil) ?_
 refine VD.one rfl ?_
 refine Zv (vc:=[S0.val]) (cs':=[S0.val]) rfl aJs ?_
 refine VL.back (D':=[]) (by kernel_rfl) (aF.nil) ?_
 cases hS
 exact VD.nil (pK (.inl rfl) rfl (S0,⟨BT.b,BT.at_,BT.err⟩) rfl rfl (by (try dsimp only); exact dQ.out) (by (try dsimp only); exact fL.out))
theorem JO (bY:Nat) (eL:bH) (aP:Nat) (bK:dO) (cW:Nat) (aX:Sv cA) (cX:Nat) {r:cE×bH×List cA} (hS:Sh.p4 eL bK.pl aX.l=some r) :
 Ct Tryz.prog 142 [ptr bY 0,.func (.func 245) #[] #[ptr cW 0,ptr cX 0]] (bK.b.ok.and bK.err.ok) (Ow.star (bT aP [bK.b.val,i64 bK.at_,bK.err.val] 233) (Ow.star (bT bY [ptr aP 0,.bool eL.bad] 161) (Ow.star (Sv.own aX 278) (Ow.star (bT cW [aX.val] 55) (bT cX [ptr bY 0] 159))))) (X:=dO×bH×Sv cA) (fun x => .tuple #[]) (fun x=>r=(x.1.pl,x.2.1,x.2.2.l)) (fun x=>(x.1.b.ok.and x.1.err.ok)) (fun x=>Ow.star (bT aP [x.1.b.val,i64 x.1.at_,x.1.err.val] 233) (Ow.star (bT bY [ptr aP 0,.bool x.2.1.bad] 161) (Ow.star (bT cW [x.2.2.val] 55) (Ow.star (Sv.own x.2.2 278) (bT cX [ptr bY 0] 159))))):=by
 refine Zo Tryz.func142 Tryz.ntmps142 fun c => ?_
 unfold Sh.p4 at hS
 refine Zq (Zr ?_)
 refine Zm ?_
 refine Zu (aJ rfl) ?_
 refine Zu (aB dD rfl) ?_
 refine Zu (aI dR rfl rfl) ?_
 obtain ⟨gS,tC,hS⟩:=bF hS
 refine VL.cT (fM aP bK tC) rfl (by decide) ?_
 rintro ⟨eD,fG⟩ rfl
 try dsimp only
 refine Zy ?_
 refine VC.j0 (S:=Bool) (fun (fV:Bool)=>fV) (fun (fV:Bool)=>[(0,ptr bY 0),(1,.func (.func 245) #[] #[ptr cW 0,ptr cX 0]),(4,i64 eD)]) (fun (fV:Bool)=>Mo.tt) (fun (fV:Bool)=>Ow.star (bT aP [fG.b.val,i64 fG.at_,fG.err.val] 233) (Ow.star (bT bY [ptr aP 0,.bool fV] 161) (Ow.star (bT cW [aX.val] 55) (Ow.star (bT cX [ptr bY 0] 159) (Ow.star (Sv.own aX 278) (Ow.emp)))))) hS ?_ ?_
 ·
  clear hS
  intro k3 hS
  refine Zr ?_
  refine Zy ?_
  refine Zu (aJ rfl) ?_
  refine Zu (aB lU rfl) ?_
  refine Zu (aI OD rfl rfl) ?_
  refine Zm ?_
  refine rC 16 hS (fun h16 hS => ?_) (fun h16 hS => ?_)
  ·
   refine VL.runs 3 [(19,some true)] (by kernel_rfl) ?_
   refine Zu (aJ rfl) ?_
   refine Zu (aB lU rfl) ?_
   refine Zv (vc:=[.bool true]) (cs':=[ptr aP 0,.bool true]) rfl IS ?_
   refine VL.mt true [0,1,4] (fun _ _ h=>h) hS rfl
  refine Zg ?_
  refine Zh (dA rfl rfl) ?_
  refine Zf ?_
  refine Zu (aJ rfl) ?_
  refine Zu (aB lU rfl) ?_
  refine Zv (vc:=[.bool (decide (eD < 0))]) (cs':=[ptr aP 0,.bool (decide (eD < 0))]) rfl IS ?_
  refine VL.mt (decide (eD < 0)) [0,1,4] (fun _ _ h=>h) hS rfl
 clear hS
 rintro fV hS
 refine Zq (Zr ?_)
 refine Zy ?_
 refine Zb ?_
 refine VC.iter (S:=Int×Sv UInt8×Int×Er×Sv cA) (fun sg=>(sg.1,sg.2.1.l,sg.2.2.1,sg.2.2.2.1.pl,sg.2.2.2.2.l)) (fun sg=>[(0,ptr bY 0),(1,.func (.func 245) #[] #[ptr cW 0,ptr cX 0]),(4,i64 eD),(5,i64 sg.1)]) (fun sg=>(sg.2.1.ok.and sg.2.2.2.1.ok)) (fun sg=>Ow.star (bT aP [sg.2.1.val,i64 sg.2.2.1,sg.2.2.2.1.val] 233) (Ow.star (bT bY [ptr aP 0,.bool fV] 161) (Ow.star (bT cW [sg.2.2.2.2.val] 55) (Ow.star (bT cX [ptr bY 0] 159) (Ow.star (Sv.own sg.2.2.2.2 278) (Ow.emp)))))) (0,fG.b,fG.at_,fG.err,aX) [0,1,4,5] hS rfl ?_
 clear hS
 rintro ⟨jV,gX,kS,kT,nJ⟩ m1 y1 hS hK1
 refine Zq (Zq (Zr ?_))
 refine Zy ?_
 refine Zu (dA rfl rfl) ?_
 refine Zm ?_
 refine jJ 25 hS (fun h25 hS => ?_) (fun h25 hS => ?_)
 ·
  refine Zg ?_
  refine Zh (aJ rfl) ?_
  refine Zh (aB dD rfl) ?_
  refine Zh (aI dR rfl rfl) ?_
  refine VL.guard rfl rfl ?_
  obtain ⟨IB,L8,hS⟩:=bF hS
  refine VL.cT (mD aP (⟨gX,kS,kT⟩:dO) L8) rfl (by decide) ?_
  rintro HM rfl
  try dsimp only
  refine Zh (vT Tryz.underlying26 rfl) ?_
  refine Zy ?_
  refine VC.keep (ρ':=[(0,ptr bY 0),(1,.func (.func 245) #[] #[ptr cW 0,ptr cX 0]),(4,i64 eD),(5,i64 jV),(32,.bool (decide (HM.pl.isNil=true)))]) [0,1,4,5,32] rfl ?_
  refine Zc hS (fun h32 hS => ?_) (fun h32 hS => ?_)
  ·
   refine Zk ?_
   refine Zq (Zb (Zr ?_))
   refine Zm ?_
   obtain ⟨o8,GZ,hS⟩:=bF hS
   refine VL.uI (vs:=[]) (caps:=[ptr cW 0,ptr cX 0]) (JS cW nJ cX bY (⟨fV⟩:bH) aP (⟨gX,kS,kT⟩:dO) GZ) rfl rfl (by decide) ?_
   rintro ⟨DF,p9⟩ rfl
   try dsimp only
   refine Zl ?_
   refine Zr ?_
   refine Zm ?_
   obtain ⟨b34,hS⟩:=bQ hS
   refine Zu (dZ rfl rfl b34) ?_
   refine Za ?_
   refine VL.kE ((jV+1),p9.b,p9.at_,p9.err,DF) [0,1,4,5] (fun _ _ h=>h) (go2 hS hK1) rfl
  replace hS:=fF hS hK1
  cases hS
  exact VC.exit (pK (.inl rfl) rfl (⟨gX,kS,kT⟩,⟨fV⟩,nJ) rfl rfl (by (try dsimp only); exact dQ.out) (by (try dsimp only); exact fL.out))
 refine VL.runs 7 [(32,some false)] (by kernel_rfl) ?_
 refine Zl ?_
 refine VC.rL rfl ?_
 replace hS:=fF hS hK1
 cases hS
 exact VC.exit (pK (.inl rfl) rfl (⟨gX,kS,kT⟩,⟨fV⟩,nJ) rfl rfl (by (try dsimp only); exact dQ.out) (by (try dsimp only); exact fL.out))
theorem zW (aD:Sv cA) {r:List cA} (hS:Sh.kY aD.l=some r) :
 Ct Tryz.prog 246 [aD.val] aD.ok (Ow.emp) (X:=Sv cA) (fun x=>x.val) (fun x=>r=x.l) (fun x=>x.ok) (fun x=>Ow.emp):=by
 refine Zo Tryz.func246 Tryz.ntmps246 fun c => ?_
 unfold Sh.kY at hS
 refine Zq (Zr ?_)
 refine Zy ?_
 refine Zq (Zr ?_)
 refine Zy ?_
 refine Zu (fH (s:=aD) Tryz.underlying55 rfl) ?_
 refine Zm ?_
 refine Zu (fH (s:=aD) Tryz.underlying55 rfl) ?_
 obtain ⟨b8,hS⟩:=bQ hS
 refine VL.RW Tryz.underlying55 z7 rfl rfl rfl b8.1 (b8.2) (by decide) fun BZ vQ => ?_
 replace hS:=dL vQ hS
 refine Zy ?_
 cases hS
 exact VC.ret (iU (.inr rfl) rfl rfl BZ rfl rfl (by (try dsimp only); exact dQ.out) (fun _ _=>trivial))
theorem CD (bY:Nat) (eL:bH) (aP:Nat) (bK:dO) {r:List cA×cE×bH} (hS:Sh.pF eL bK.pl=some r) :
 Ct Tryz.prog 204 [ptr bY 0] (bK.b.ok.and bK.err.ok) (Ow.star (bT aP [bK.b.val,i64 bK.at_,bK.err.val] 233) (bT bY [ptr aP 0,.bool eL.bad] 161)) (X:=Sv cA×dO×bH) (fun x=>x.1.val) (fun x=>r=(x.1.l,x.2.1.pl,x.2.2)) (fun x=>(x.1.ok.and (x.2.1.b.ok.and x.2.1.err.ok))) (fun x=>Ow.star (bT aP [x.2.1.b.val,i64 x.2.1.at_,x.2.1.err.val] 233) (bT bY [ptr aP 0,.bool x.2.2.bad] 161)):=by
 refine Zo Tryz.func204 Tryz.ntmps204 fun c => ?_
 unfold Sh.pF at hS
 refine Zq (Zr ?_)
 refine VL.box (cs:=[ptr bY 0]) rfl rfl (by decide) fun cM => ?_
 refine Zy ?_
 refine Zq (Zr ?_)
 refine VL.alloc (cs:=[.slice none 0 0]) (by kernel_rfl) (by decide) fun eZ => ?_
 refine Zl ?_
 refine Zq (Zr ?_)
 refine Zu (aI dY rfl rfl) ?_
 refine Zu (tK rfl) ?_
 refine VL.qU (⟨none,0,[]⟩:Sv cA) 278 ⟨rfl,rfl⟩ ?_
 refine VL.RL eZ (cs':=[(⟨none,0,[]⟩:Sv cA).val]) rfl ?_
 obtain ⟨vI,SM,hS⟩:=bF hS
 refine VL.cT (JO bY eL aP bK eZ (⟨none,0,[]⟩:Sv cA) cM SM) rfl (by decide) ?_
 rintro ⟨vR,MP,BW⟩ rfl
 try dsimp only
 refine Zl ?_
 refine Zq (Zr ?_)
 refine Zu (aI mG rfl rfl) ?_
 refine VL.shut BW 278 (fun _ _ _ _=>trivial) ?_
 obtain ⟨E6,G0,hS⟩:=bF hS
 refine VL.gI (zW BW G0) rfl (by decide) ?_
 rintro vS rfl
 try dsimp only
 refine Zy ?_
 cases hS
 exact VC.ret (iU (.inr rfl) rfl rfl (vS,⟨vR.b,vR.at_,vR.err⟩,⟨MP.bad⟩) rfl rfl (by (try dsimp only); exact dQ.out) (by (try dsimp only); exact fL.out))
theorem yB (bY:Nat) (eL:bH) (aP:Nat) (bK:dO) {r:mB×cE×bH} (hS:Sh.tN eL bK.pl=some r) :
 Ct Tryz.prog 145 [ptr bY 0] (bK.b.ok.and bK.err.ok) (Ow.star (bT aP [bK.b.val,i64 bK.at_,bK.err.val] 233) (bT bY [ptr aP 0,.bool eL.bad] 161)) (X:=oK×dO×bH) (fun x => .agg (cS.enc x.1).toArray) (fun x=>r=(x.1.pl,x.2.1.pl,x.2.2)) (fun x=>(x.1.m.and (x.2.1.b.ok.and x.2.1.err.ok))) (fun x=>Ow.star (bT aP [x.2.1.b.val,i64 x.2.1.at_,x.2.1.err.val] 233) (bT bY [ptr aP 0,.bool x.2.2.bad] 161)):=by
 refine Zo Tryz.func145 Tryz.ntmps145 fun c => ?_
 unfold Sh.tN at hS
 refine Zq (Zr ?_)
 refine VL.alloc (cs:=[str [],i64 0,str [],.slice none 0 0,.slice none 0 0,i64 0,str [],str [],i64 0,.slice none 0 0,.slice none 0 0]) (by kernel_rfl) (by decide) fun nA => ?_
 refine Zl ?_
 refine Zq ?_
 refine VC.draw [(0,true),(1,true),(2,true),(3,true),(5,true),(6,true),(7,true),(8,true),(10,true),(11,true),(12,true),(13,true),(15,true),(17,true),(19,true),(20,true),(21,true),(22,true),(24,true),(25,true),(26,true),(27,true),(29,true),(31,true),(33,true),(4,false),(9,false),(14,false),(16,false),(18,false),(23,false),(28,false),(30,false),(32,false),(34,false),(35,true),(36,false)] mixed (by kernel_rfl) (by kernel_rfl) (by kernel_rfl) ?_
 refine Zw rfl (bI rfl) ?_
 refine Zw rfl (aJ rfl) ?_
 refine Zw rfl (aB dD rfl) ?_
 refine Zw rfl (aI dR rfl rfl) ?_
 refine Zw rfl (bI rfl) ?_
 refine Zw rfl (aJ rfl) ?_
 refine Zw rfl (aB dD rfl) ?_
 refine Zw rfl (aI dR rfl rfl) ?_
 refine Zw rfl (bI rfl) ?_
 refine Zw rfl (aJ rfl) ?_
 refine Zw rfl (aB dD rfl) ?_
 refine Zw rfl (aI dR rfl rfl) ?_
 refine Zw rfl (bI rfl) ?_
 refine Zw rfl (bI rfl) ?_
 refine Zw rfl (bI rfl) ?_
 refine Zw rfl (aJ rfl) ?_
 refine Zw rfl (aB dD rfl) ?_
 refine Zw rfl (aI dR rfl rfl) ?_
 refine Zw rfl (bI rfl) ?_
 refine Zw rfl (aJ rfl) ?_
 refine Zw rfl (aB dD rfl) ?_
 refine Zw rfl (aI dR rfl rfl) ?_
 refine Zw rfl (bI rfl) ?_
 refine Zw rfl (bI rfl) ?_
 refine Zw rfl (bI rfl) ?_
 refine VD.one rfl ?_
 obtain ⟨W3,aJo,hS⟩:=bF hS
 refine VL.cT (iZ aP bK aJo) rfl (by decide) ?_
 rintro ⟨yW,aF8⟩ rfl
 try dsimp only
 refine VL.back (D':=[(27,ptr aP 0),(26,ptr bY 0),(25,ptr bY 0),(22,ptr aP 0),(21,ptr bY 0),(20,ptr bY 0),(13,ptr aP 0),(12,ptr bY 0),(11,ptr bY 0),(8,ptr aP 0),(7,ptr bY 0),(6,ptr bY 0)]) (by kernel_rfl) (aF.cons rfl (aI dR rfl rfl) (aF.cons rfl (aB dD rfl) (aF.cons rfl (aJ rfl) (aF.cons rfl (aI dR rfl rfl) (aF.cons rfl (aB dD rfl) (aF.cons rfl (aJ rfl) (aF.cons rfl (aI dR rfl rfl) (aF.cons rfl (aB dD rfl) (aF.cons rfl (aJ rfl) (aF.cons rfl (aI dR rfl rfl) (aF.cons rfl (aB dD rfl) (aF.cons rfl (aJ rfl) (aF.nil))))))))))))) ?_
 refine VD.one rfl ?_
 obtain ⟨sU,BE,hS⟩:=bF hS
 refine VL.cT (fM aP aF8 BE) rfl (by decide) ?_
 rintro ⟨lY,HG⟩ rfl
 try dsimp only
 refine VL.back (D':=[(27,ptr aP 0),(26,ptr bY 0),(25,ptr bY 0),(22,ptr aP 0),(21,ptr bY 0),(20,ptr bY 0),(13,ptr aP 0),(12,ptr bY 0),(11,ptr bY 0)]) (by kernel_rfl) (aF.cons rfl (aI dR rfl rfl) (aF.cons rfl (aB dD rfl) (aF.cons rfl (aJ rfl) (aF.cons rfl (aI dR rfl rfl) (aF.cons rfl (aB dD rfl) (aF.cons rfl (aJ rfl) (aF.cons rfl (aI dR rfl rfl) (aF.cons rfl (aB dD rfl) (aF.cons rfl (aJ rfl) (aF.nil)))))))))) ?_
 refine VD.one rfl ?_
 obtain ⟨vH,L6,hS⟩:=bF hS
 refine VL.cT (iZ aP HG L6) rfl (by decide) ?_
 rintro ⟨gE,ES⟩ rfl
 try dsimp only
 refine VL.back (D':=[(27,ptr aP 0),(26,ptr bY 0),(25,ptr bY 0),(22,ptr aP 0),(21,ptr bY 0),(20,ptr bY 0)]) (by kernel_rfl) (aF.cons rfl (aI dR rfl rfl) (aF.cons rfl (aB dD rfl) (aF.cons rfl (aJ rfl) (aF.cons rfl (aI dR rfl rfl) (aF.cons rfl (aB dD rfl) (aF.cons rfl (aJ rfl) (aF.nil))))))) ?_
 refine VD.one rfl ?_
 obtain ⟨CM,aEk,hS⟩:=bF hS
 refine VL.cT (CD bY eL aP ES aEk) rfl (by decide) ?_
 rintro ⟨KV,aT7,aT8⟩ rfl
 try dsimp only
 refine VL.back (D':=[(27,ptr aP 0),(26,ptr bY 0),(25,ptr bY 0),(22,ptr aP 0),(21,ptr bY 0),(20,ptr bY 0)]) (by kernel_rfl) (aF.cons rfl (aI dR rfl rfl) (aF.cons rfl (aB dD rfl) (aF.cons rfl (aJ rfl) (aF.cons rfl (aI dR rfl rfl) (aF.cons rfl (aB dD rfl) (aF.cons rfl (aJ rfl) (aF.nil))))))) ?_
 refine VD.one rfl ?_
 obtain ⟨aCw,aVq,hS⟩:=bF hS
 refine VL.cT (CD bY aT8 aP aT7 aVq) rfl (by decide) ?_
 rintro ⟨KW,aT9,aJB⟩ rfl
 try dsimp only
 refine VL.back (D':=[(27,ptr aP 0),(26,ptr bY 0),(25,ptr bY 0),(22,ptr aP 0),(21,ptr bY 0),(20,ptr bY 0)]) (by kernel_rfl) (aF.cons rfl (aI dR rfl rfl) (aF.cons rfl (aB dD rfl) (aF.cons rfl (aJ rfl) (aF.cons rfl (aI dR rfl rfl) (aF.cons rfl (aB dD rfl) (aF.cons rfl (aJ rfl) (aF.nil))))))) ?_
 refine VD.one rfl ?_
 obtain ⟨DR,T6,hS⟩:=bF hS
 refine VL.cT (fM aP aT9 T6) rfl (by decide) ?_
 rintro ⟨lE,aTe⟩ rfl
 try dsimp only
 refine VL.back (D':=[(27,ptr aP 0),(26,ptr bY 0),(25,ptr bY 0)]) (by kernel_rfl) (aF.cons rfl (aI dR rfl rfl) (aF.cons rfl (aB dD rfl) (aF.cons rfl (aJ rfl) (aF.nil)))) ?_
 refine VD.one rfl ?_
 obtain ⟨AJ,aEs,hS⟩:=bF hS
 refine VL.cT (iZ aP aTe aEs) rfl (by decide) ?_
 rintro ⟨sJ,aTh⟩ rfl
 try dsimp only
 refine VL.back (D':=[]) (by kernel_rfl) (aF.nil) ?_
 refine VD.one rfl ?_
 obtain ⟨CN,aEu,hS⟩:=bF hS
 refine VL.cT (s3 bY aJB aP aTh aEu) rfl (by decide) ?_
 rintro ⟨wG,aTi⟩ rfl
 try dsimp only
 refine VL.back (D':=[]) (by kernel_rfl) (aF.nil) ?_
 refine VD.one rfl ?_
 obtain ⟨F9,aQ7,hS⟩:=bF hS
 refine VL.cT (qG bY aJB aP aTi aQ7) rfl (by decide) ?_
 rintro ⟨GO,aPM,aPN⟩ rfl
 try dsimp only
 refine VL.back (D':=[]) (by kernel_rfl) (aF.nil) ?_
 refine VD.one rfl ?_
 obtain ⟨EB,aA5,hS⟩:=bF hS
 refine VL.cT (qN bY aPN aP aPM aA5) rfl (by decide) ?_
 rintro ⟨GP,X4,aPP⟩ rfl
 try dsimp only
 refine VL.back (D':=[]) (by kernel_rfl) (aF.nil) ?_
 refine Zw rfl (eO (vs:=[(0,str yW),(1,i64 lY),(2,str gE),(3,KV.val),(4,KW.val),(5,i64 lE),(6,str sJ),(7,.agg #[str wG.branch,i64 wG.cB]),(8,GO.val),(9,GP.val)]) (cs := #[str yW,i64 lY,str gE,KV.val,KW.val,i64 lE,str sJ,str wG.branch,i64 wG.cB,GO.val,GP.val]) rfl (by kernel_rfl)) ?_
 refine VD.one rfl ?_
 refine Zv (vc:=[str yW,i64 lY,str gE,KV.val,KW.val,i64 lE,str sJ,str wG.branch,i64 wG.cB,GO.val,GP.val]) (cs':=[str yW,i64 lY,str gE,KV.val,KW.val,i64 lE,str sJ,str wG.branch,i64 wG.cB,GO.val,GP.val]) rfl XO ?_
 refine VL.back (D':=[]) (by kernel_rfl) (aF.nil) ?_
 refine VD.to (fun _ _ h=>h) ?_
 refine VC.keep (ρ':=[(2,ptr nA 0)]) [2] rfl ?_
 cases hS
 exact VC.ret (oV (vs:=[.agg #[str yW,i64 lY,str gE,KV.val,KW.val,i64 lE,str sJ,str wG.branch,i64 wG.cB,GO.val,GP.val]]) (.inr rfl) rfl (jY.cell QJ rfl rfl Rd.blk (jY.nil)) (⟨yW,lY,gE,KV,KW,lE,sJ,wG.branch,wG.cB,GO,GP⟩,⟨X4.b,X4.at_,X4.err⟩,⟨aPP.bad⟩) rfl rfl (by (try dsimp only); exact dQ.out) (by (try dsimp only); exact fL.out))
end Go.Proofs.YthbccdlpalenlaaGreatDoor
end
