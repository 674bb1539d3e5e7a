/- Part of the proofs of: what one side did, as pieces, done to base, is that side; merged with nothing done by the other it is that, too (any two texts) -/
import Derived.Test.YtcenmlklkpgmnaaGreatDoorProg
import Derived.Test.YtcenmlklkpgmnaaGreatDoorPB
set_option linter.unusedVariables false
set_option linter.unusedSimpArgs false
set_option linter.unusedSectionVars false
section
set_option linter.unusedVariables false
namespace Go.Proofs.YtcenmlklkpgmnaaGreatDoor
set_option maxHeartbeats 4000000
set_option maxRecDepth 100000
set_option synthInstance.maxSize 2000
set_option synthInstance.maxHeartbeats 1000000
open Go.RowKit Go.V
open Go.S hiding aV
theorem mixed:Tryz.prog.follows .mixedOrders=true:=by kernel_rfl
theorem DO:OneCell Tryz.prog 124:=jI Tryz.underlying124 rfl
theorem aH7:(Tryz.prog.info? 124).map (·.size)=some 1:=by kernel_rfl
theorem Y0:OneCell Tryz.prog 27:=jI Tryz.underlying27 rfl
theorem fR:(Tryz.prog.info? 59).map (·.size)=some 21:=by kernel_rfl
theorem cE:pW Tryz.prog 59 21:=mZ Tryz.underlying59 rfl (by kernel_rfl)
theorem fP:(Tryz.prog.info? 42).map (·.size)=some 3:=by kernel_rfl
theorem dS:dN Tryz.prog 59 0 0:=cH (n:=16) (f:=⟨_,_,0,_,_,_,_⟩) Tryz.underlying59 rfl (by kernel_rfl)
theorem qS:dN Tryz.prog 54 0 0:=cH (n:=0) (f:=⟨_,_,0,_,_,_,_⟩) Tryz.underlying54 rfl (by kernel_rfl)
theorem iN:OneCell Tryz.prog 35:=jI Tryz.underlying35 rfl
theorem i7:pW Tryz.prog 42 3:=mZ Tryz.underlying42 rfl (by kernel_rfl)
theorem oZ:dN Tryz.prog 42 0 0:=cH (n:=0) (f:=⟨_,_,0,_,_,_,_⟩) Tryz.underlying42 rfl (by kernel_rfl)
theorem dK:OneCell Tryz.prog 9:=jI Tryz.underlying9 rfl
theorem HP:((Tryz.prog.info? 42).map fun i=>(i.size,i.zero.isSome))=some (3,true):=by kernel_rfl
theorem aTy:((Tryz.prog.info? 9).map fun i=>(i.size,i.bytes,i.zero.map fun z=>z.cells.toList))=some (1,16,some [str []]):=by kernel_rfl
theorem o4:(Tryz.prog.info? 9).map (·.size)=some 1:=by kernel_rfl
theorem aE5:(Tryz.prog.info? 5).map (·.size)=some 1:=by kernel_rfl
theorem aGZ:OneCell Tryz.prog 5:=jI Tryz.underlying5 rfl
theorem JQ:dN Tryz.prog 42 1 1:=cH (n:=0) (f:=⟨_,_,1,_,_,_,_⟩) Tryz.underlying42 rfl (by kernel_rfl)
theorem fG:OneCell Tryz.prog 3:=jI Tryz.underlying3 rfl
theorem F8:dN Tryz.prog 42 2 2:=cH (n:=0) (f:=⟨_,_,2,_,_,_,_⟩) Tryz.underlying42 rfl (by kernel_rfl)
theorem aRU:((Tryz.prog.info? 42).map (·.size)).isSome=true:=by kernel_rfl
theorem P3:((Tryz.prog.info? 42).map fun i=>(i.size,i.bytes,(i.zero.map fun z=>z.cells.size)))=some (3,40,some 3):=by kernel_rfl
theorem aNX : ∀ w:World,(zeroValue 42).run Tryz.prog w = .ok (.agg #[str [],i64 0,str []]) w:=by intro w; kernel_rfl
theorem E4:pW Tryz.prog 54 17:=mZ Tryz.underlying54 rfl (by kernel_rfl)
theorem dV:dN Tryz.prog 183 0 0:=cH (n:=0) (f:=⟨_,_,0,_,_,_,_⟩) Tryz.underlying183 rfl (by kernel_rfl)
theorem oI:((Tryz.prog.info? 3).map fun i=>(i.size,i.zero.isSome))=some (1,true):=by kernel_rfl
theorem AE:(Tryz.prog.info? 3).map (·.size)=some 1:=by kernel_rfl
theorem JO:dN Tryz.prog 181 0 0:=cH (n:=0) (f:=⟨_,_,0,_,_,_,_⟩) Tryz.underlying181 rfl (by kernel_rfl)
theorem aUV:((Tryz.prog.info? 5).map fun i=>(i.size,i.zero.isSome))=some (1,true):=by kernel_rfl
theorem aND:((Tryz.prog.info? 5).map fun i=>(i.size,i.bytes,(i.zero.map fun z=>z.cells.size)))=some (1,1,some 1):=by kernel_rfl
theorem wL:((Tryz.prog.info? 9).map fun i=>(i.size,i.zero.isSome))=some (1,true):=by kernel_rfl
theorem aUQ:((Tryz.prog.info? 5).map fun i=>(i.size,i.bytes,i.zero))=some (1,1,some (.int .u8 0)):=by kernel_rfl
theorem o3:dN Tryz.prog 54 1 1:=cH (n:=0) (f:=⟨_,_,1,_,_,_,_⟩) Tryz.underlying54 rfl (by kernel_rfl)
theorem lW:OneCell Tryz.prog 36:=jI Tryz.underlying36 rfl
theorem jM:(Tryz.prog.info? 97).map (·.size)=some 6:=by kernel_rfl
theorem pM:pW Tryz.prog 97 6:=mZ Tryz.underlying97 rfl (by kernel_rfl)
theorem wK:dN Tryz.prog 97 0 0:=cH (n:=0) (f:=⟨_,_,0,_,_,_,_⟩) Tryz.underlying97 rfl (by kernel_rfl)
theorem F9:dN Tryz.prog 97 1 1:=cH (n:=0) (f:=⟨_,_,1,_,_,_,_⟩) Tryz.underlying97 rfl (by kernel_rfl)
theorem UI:dN Tryz.prog 97 2 2:=cH (n:=0) (f:=⟨_,_,2,_,_,_,_⟩) Tryz.underlying97 rfl (by kernel_rfl)
theorem UJ:dN Tryz.prog 97 3 3:=cH (n:=0) (f:=⟨_,_,3,_,_,_,_⟩) Tryz.underlying97 rfl (by kernel_rfl)
theorem aNQ:dN Tryz.prog 97 4 4:=cH (n:=0) (f:=⟨_,_,4,_,_,_,_⟩) Tryz.underlying97 rfl (by kernel_rfl)
theorem aNR:dN Tryz.prog 97 5 5:=cH (n:=0) (f:=⟨_,_,5,_,_,_,_⟩) Tryz.underlying97 rfl (by kernel_rfl)
theorem j4:dN Tryz.prog 54 2 2:=cH (n:=0) (f:=⟨_,_,2,_,_,_,_⟩) Tryz.underlying54 rfl (by kernel_rfl)
theorem rW:OneCell Tryz.prog 45:=jI Tryz.underlying45 rfl
theorem nO:(Tryz.prog.info? 253).map (·.size)=some 2:=by kernel_rfl
theorem aAC:pW Tryz.prog 253 2:=mZ Tryz.underlying253 rfl (by kernel_rfl)
theorem aBu:dN Tryz.prog 253 0 0:=cH (n:=0) (f:=⟨_,_,0,_,_,_,_⟩) Tryz.underlying253 rfl (by kernel_rfl)
theorem P5:dN Tryz.prog 253 1 1:=cH (n:=0) (f:=⟨_,_,1,_,_,_,_⟩) Tryz.underlying253 rfl (by kernel_rfl)
theorem nM:dN Tryz.prog 54 3 3:=cH (n:=1) (f:=⟨_,_,3,_,_,_,_⟩) Tryz.underlying54 rfl (by kernel_rfl)
theorem UC:pW Tryz.prog 47 2:=mZ Tryz.underlying47 rfl (by kernel_rfl)
theorem NQ:dN Tryz.prog 47 0 0:=cH (n:=0) (f:=⟨_,_,0,_,_,_,_⟩) Tryz.underlying47 rfl (by kernel_rfl)
theorem BA:dN Tryz.prog 47 1 1:=cH (n:=0) (f:=⟨_,_,1,_,_,_,_⟩) Tryz.underlying47 rfl (by kernel_rfl)
theorem qT:dN Tryz.prog 54 4 5:=cH (n:=10) (f:=⟨_,_,5,_,_,_,_⟩) Tryz.underlying54 rfl (by kernel_rfl)
theorem aH1:pW Tryz.prog 50 11:=mZ Tryz.underlying50 rfl (by kernel_rfl)
theorem DM:dN Tryz.prog 50 0 0:=cH (n:=0) (f:=⟨_,_,0,_,_,_,_⟩) Tryz.underlying50 rfl (by kernel_rfl)
theorem aNE:dN Tryz.prog 50 1 1:=cH (n:=0) (f:=⟨_,_,1,_,_,_,_⟩) Tryz.underlying50 rfl (by kernel_rfl)
theorem aNF:dN Tryz.prog 50 2 2:=cH (n:=0) (f:=⟨_,_,2,_,_,_,_⟩) Tryz.underlying50 rfl (by kernel_rfl)
theorem aEY:dN Tryz.prog 50 3 3:=cH (n:=0) (f:=⟨_,_,3,_,_,_,_⟩) Tryz.underlying50 rfl (by kernel_rfl)
theorem E5:OneCell Tryz.prog 48:=jI Tryz.underlying48 rfl
theorem aCo:(Tryz.prog.info? 169).map (·.size)=some 3:=by kernel_rfl
theorem aNA:pW Tryz.prog 169 3:=mZ Tryz.underlying169 rfl (by kernel_rfl)
theorem aNG:dN Tryz.prog 50 4 4:=cH (n:=0) (f:=⟨_,_,4,_,_,_,_⟩) Tryz.underlying50 rfl (by kernel_rfl)
theorem aNH:dN Tryz.prog 50 5 5:=cH (n:=0) (f:=⟨_,_,5,_,_,_,_⟩) Tryz.underlying50 rfl (by kernel_rfl)
theorem aNI:dN Tryz.prog 50 6 6:=cH (n:=0) (f:=⟨_,_,6,_,_,_,_⟩) Tryz.underlying50 rfl (by kernel_rfl)
theorem aNJ:dN Tryz.prog 50 7 7:=cH (n:=1) (f:=⟨_,_,7,_,_,_,_⟩) Tryz.underlying50 rfl (by kernel_rfl)
theorem aNK:dN Tryz.prog 50 8 9:=cH (n:=0) (f:=⟨_,_,9,_,_,_,_⟩) Tryz.underlying50 rfl (by kernel_rfl)
theorem aNL:dN Tryz.prog 50 9 10:=cH (n:=0) (f:=⟨_,_,10,_,_,_,_⟩) Tryz.underlying50 rfl (by kernel_rfl)
theorem wJ:dN Tryz.prog 54 5 16:=cH (n:=0) (f:=⟨_,_,16,_,_,_,_⟩) Tryz.underlying54 rfl (by kernel_rfl)
theorem HQ:OneCell Tryz.prog 52:=jI Tryz.underlying52 rfl
theorem aCp:(Tryz.prog.info? 258).map (·.size)=some 4:=by kernel_rfl
theorem aNB:pW Tryz.prog 258 4:=mZ Tryz.underlying258 rfl (by kernel_rfl)
theorem lJ:dN Tryz.prog 59 1 17:=cH (n:=0) (f:=⟨_,_,17,_,_,_,_⟩) Tryz.underlying59 rfl (by kernel_rfl)
theorem qC:OneCell Tryz.prog 55:=jI Tryz.underlying55 rfl
theorem SI:(Tryz.prog.info? 67).map (·.size)=some 4:=by kernel_rfl
theorem aH3:pW Tryz.prog 67 4:=mZ Tryz.underlying67 rfl (by kernel_rfl)
theorem aE0:dN Tryz.prog 67 0 0:=cH (n:=0) (f:=⟨_,_,0,_,_,_,_⟩) Tryz.underlying67 rfl (by kernel_rfl)
theorem UG:dN Tryz.prog 67 1 1:=cH (n:=0) (f:=⟨_,_,1,_,_,_,_⟩) Tryz.underlying67 rfl (by kernel_rfl)
theorem zD:OneCell Tryz.prog 65:=jI Tryz.underlying65 rfl
theorem aNN:dN Tryz.prog 67 2 2:=cH (n:=0) (f:=⟨_,_,2,_,_,_,_⟩) Tryz.underlying67 rfl (by kernel_rfl)
theorem aNO:dN Tryz.prog 67 3 3:=cH (n:=0) (f:=⟨_,_,3,_,_,_,_⟩) Tryz.underlying67 rfl (by kernel_rfl)
theorem NR:dN Tryz.prog 59 2 18:=cH (n:=1) (f:=⟨_,_,18,_,_,_,_⟩) Tryz.underlying59 rfl (by kernel_rfl)
theorem aEZ:dN Tryz.prog 57 0 0:=cH (n:=0) (f:=⟨_,_,0,_,_,_,_⟩) Tryz.underlying57 rfl (by kernel_rfl)
theorem oK:OneCell Tryz.prog 23:=jI Tryz.underlying23 rfl
theorem aNM:dN Tryz.prog 57 1 1:=cH (n:=0) (f:=⟨_,_,1,_,_,_,_⟩) Tryz.underlying57 rfl (by kernel_rfl)
theorem UF:dN Tryz.prog 59 3 20:=cH (n:=0) (f:=⟨_,_,20,_,_,_,_⟩) Tryz.underlying59 rfl (by kernel_rfl)
theorem aUT:((Tryz.prog.info? 5).map (·.size)).isSome=true:=by kernel_rfl
theorem dF:OneCell Tryz.prog 221:=jI Tryz.underlying221 rfl
theorem cM:dN Tryz.prog 225 0 0:=cH (n:=0) (f:=⟨_,_,0,_,_,_,_⟩) Tryz.underlying225 rfl (by kernel_rfl)
theorem cZ:OneCell Tryz.prog 222:=jI Tryz.underlying222 rfl
theorem P6:dN Tryz.prog 298 2 2:=cH (n:=0) (f:=⟨_,_,2,_,_,_,_⟩) Tryz.underlying298 rfl (by kernel_rfl)
theorem rR:dN Tryz.prog 298 1 1:=cH (n:=0) (f:=⟨_,_,1,_,_,_,_⟩) Tryz.underlying298 rfl (by kernel_rfl)
theorem JP:dN Tryz.prog 298 0 0:=cH (n:=0) (f:=⟨_,_,0,_,_,_,_⟩) Tryz.underlying298 rfl (by kernel_rfl)
theorem iZ:dN Tryz.prog 225 1 1:=cH (n:=0) (f:=⟨_,_,1,_,_,_,_⟩) Tryz.underlying225 rfl (by kernel_rfl)
theorem nN:OneCell Tryz.prog 4:=jI Tryz.underlying4 rfl
theorem pP:(Tryz.prog.info? 4).map (·.size)=some 1:=by kernel_rfl
theorem W4:(Tryz.prog.info? 35).map (·.size)=some 1:=by kernel_rfl
theorem aCm:((Tryz.prog.info? 97).map fun i=>(i.size,i.zero.isSome))=some (6,true):=by kernel_rfl
theorem UE:((Tryz.prog.info? 97).map fun i=>(i.size,i.bytes,(i.zero.map fun z=>z.cells.size)))=some (6,64,some 6):=by kernel_rfl
theorem aG0:(Tryz.prog.info? 36).map (·.size)=some 1:=by kernel_rfl
theorem W6:(Tryz.prog.info? 54).map (·.size)=some 17:=by kernel_rfl
theorem aE3:((Tryz.prog.info? 253).map fun i=>(i.size,i.zero.isSome))=some (2,true):=by kernel_rfl
theorem UD:((Tryz.prog.info? 253).map fun i=>(i.size,i.bytes,(i.zero.map fun z=>z.cells.size)))=some (2,24,some 2):=by kernel_rfl
theorem W5:(Tryz.prog.info? 45).map (·.size)=some 1:=by kernel_rfl
theorem SG:(Tryz.prog.info? 47).map (·.size)=some 2:=by kernel_rfl
theorem aNT:((Tryz.prog.info? 169).map fun i=>(i.size,i.zero.isSome))=some (3,true):=by kernel_rfl
theorem aNC:((Tryz.prog.info? 169).map fun i=>(i.size,i.bytes,(i.zero.map fun z=>z.cells.size)))=some (3,40,some 3):=by kernel_rfl
theorem aUX:(Tryz.prog.info? 48).map (·.size)=some 1:=by kernel_rfl
theorem SH:(Tryz.prog.info? 50).map (·.size)=some 11:=by kernel_rfl
theorem aG1:(Tryz.prog.info? 52).map (·.size)=some 1:=by kernel_rfl
theorem aAE:((Tryz.prog.info? 3).map fun i=>(i.size,i.bytes,(i.zero.map fun z=>z.cells.size)))=some (1,8,some 1):=by kernel_rfl
theorem aCr:(Tryz.prog.info? 65).map (·.size)=some 1:=by kernel_rfl
theorem aCl:((Tryz.prog.info? 67).map fun i=>(i.size,i.zero.isSome))=some (4,true):=by kernel_rfl
theorem YY:((Tryz.prog.info? 67).map fun i=>(i.size,i.bytes,(i.zero.map fun z=>z.cells.size)))=some (4,72,some 4):=by kernel_rfl
theorem aCq:(Tryz.prog.info? 55).map (·.size)=some 1:=by kernel_rfl
theorem LI:((Tryz.prog.info? 9).map fun i=>(i.size,i.bytes,(i.zero.map fun z=>z.cells.size)))=some (1,16,some 1):=by kernel_rfl
theorem aUW:(Tryz.prog.info? 23).map (·.size)=some 1:=by kernel_rfl
theorem aG2:(Tryz.prog.info? 57).map (·.size)=some 2:=by kernel_rfl
theorem LJ:(Tryz.prog.info? 101).map (·.size)=some 6:=by kernel_rfl
theorem WY:dN Tryz.prog 101 3 3:=cH (n:=0) (f:=⟨_,_,3,_,_,_,_⟩) Tryz.underlying101 rfl (by kernel_rfl)
theorem oY:pW Tryz.prog 101 6:=mZ Tryz.underlying101 rfl (by kernel_rfl)
theorem pN:dN Tryz.prog 101 0 0:=cH (n:=0) (f:=⟨_,_,0,_,_,_,_⟩) Tryz.underlying101 rfl (by kernel_rfl)
theorem oE:dN Tryz.prog 101 1 1:=cH (n:=0) (f:=⟨_,_,1,_,_,_,_⟩) Tryz.underlying101 rfl (by kernel_rfl)
theorem aBr:dN Tryz.prog 101 2 2:=cH (n:=0) (f:=⟨_,_,2,_,_,_,_⟩) Tryz.underlying101 rfl (by kernel_rfl)
theorem aR0:((Tryz.prog.info? 81).map fun i=>(i.size,i.zero.isSome))=some (1,true):=by kernel_rfl
theorem aUY:(Tryz.prog.info? 81).map (·.size)=some 1:=by kernel_rfl
theorem aR1:OneCell Tryz.prog 81:=jI Tryz.underlying81 rfl
theorem aRX:((Tryz.prog.info? 97).map (·.size)).isSome=true:=by kernel_rfl
theorem aNY : ∀ w:World,(zeroValue 97).run Tryz.prog w = .ok (.agg #[str [],i64 0,i64 0,str [],i64 0,i64 0]) w:=by intro w; kernel_rfl
theorem aRT : ∀ (x0:List UInt8) (x1:Int) (x2:List UInt8) (y0:List UInt8) (y1:Int) (y2:List UInt8) (w:World),(Op.equalIn 10000 42 (.agg #[str x0,i64 x1,str x2]) (.agg #[str y0,i64 y1,str y2])).run Tryz.prog w = .ok (decide (x0=y0∧x1=y1∧x2=y2)) w:=by
 intro x0 x1 x2 y0 y1 y2 w
 have hS:Tryz.prog.underlying 42=some (.struct (Tryz.prog.fieldsOf 42)):=by kernel_rfl
 rw [show (10000:Nat)=9999+1 from rfl,run_equalIn_agg w 9999 42 _ _ hS (by kernel_rfl)]
 simp only [Program.fieldsOf,Tryz.underlying42]
 go_simp
 by_cases h0:x0=y0 <;> by_cases h1:x1=y1 <;> by_cases h2:x2=y2 <;> simp [h0,h1,h2]
theorem aRS:Tryz.prog.eqGuardType Tryz.prog.depth 42=false:=by kernel_rfl
theorem aVb : ∀ w:World,(zeroValue 3).run Tryz.prog w = .ok (i64 0) w:=by intro w; kernel_rfl
theorem aRV:((Tryz.prog.info? 67).map (·.size)).isSome=true:=by kernel_rfl
theorem aNS:((Tryz.prog.info? 253).map (·.size)).isSome=true:=by kernel_rfl
theorem aKO:dN Tryz.prog 101 4 4:=cH (n:=0) (f:=⟨_,_,4,_,_,_,_⟩) Tryz.underlying101 rfl (by kernel_rfl)
theorem A9:pW Tryz.prog 38 3:=mZ Tryz.underlying38 rfl (by kernel_rfl)
theorem qR:dN Tryz.prog 38 0 0:=cH (n:=0) (f:=⟨_,_,0,_,_,_,_⟩) Tryz.underlying38 rfl (by kernel_rfl)
theorem aCk:((Tryz.prog.info? 35).map fun i=>(i.size,i.zero.isSome))=some (1,true):=by kernel_rfl
theorem Y2:(Tryz.prog.info? 393).map (·.size)=some 4:=by kernel_rfl
theorem aAD:pW Tryz.prog 393 4:=mZ Tryz.underlying393 rfl (by kernel_rfl)
theorem aAJ : ∀ (x0:List UInt8) (x1:Int) (x2:List UInt8) (x3:Bool) (y0:List UInt8) (y1:Int) (y2:List UInt8) (y3:Bool) (w:World),(Op.equalIn 10000 393 (.agg #[str x0,i64 x1,str x2,.bool x3]) (.agg #[str y0,i64 y1,str y2,.bool y3])).run Tryz.prog w = .ok (decide (x0=y0∧x1=y1∧x2=y2∧x3=y3)) w:=by
 intro x0 x1 x2 x3 y0 y1 y2 y3 w
 have hS:Tryz.prog.underlying 393=some (.struct (Tryz.prog.fieldsOf 393)):=by kernel_rfl
 rw [show (10000:Nat)=9999+1 from rfl,run_equalIn_agg w 9999 393 _ _ hS (by kernel_rfl)]
 simp only [Program.fieldsOf,Tryz.underlying393]
 go_simp
 by_cases h0:x0=y0 <;> by_cases h1:x1=y1 <;> by_cases h2:x2=y2 <;> by_cases h3:x3=y3 <;> simp [h0,h1,h2,h3]
theorem aAH:Tryz.prog.eqGuardType Tryz.prog.depth 393=false:=by kernel_rfl
theorem DL:dN Tryz.prog 38 2 2:=cH (n:=0) (f:=⟨_,_,2,_,_,_,_⟩) Tryz.underlying38 rfl (by kernel_rfl)
theorem aBv:dN Tryz.prog 393 1 3:=cH (n:=0) (f:=⟨_,_,3,_,_,_,_⟩) Tryz.underlying393 rfl (by kernel_rfl)
theorem W3:dN Tryz.prog 393 0 0:=cH (n:=2) (f:=⟨_,_,0,_,_,_,_⟩) Tryz.underlying393 rfl (by kernel_rfl)
theorem aUS:((Tryz.prog.info? 3).map (·.size)).isSome=true:=by kernel_rfl
theorem aRY:((Tryz.prog.info? 65).map fun i=>(i.size,i.zero.isSome))=some (1,true):=by kernel_rfl
theorem aRR:((Tryz.prog.info? 65).map fun i=>(i.size,i.bytes,(i.zero.map fun z=>z.cells.size)))=some (1,24,some 1):=by kernel_rfl
theorem aV9:((Tryz.prog.info? 4).map fun i=>(i.size,i.bytes,i.zero.map fun z=>z.cells.toList))=some (1,1,some [.bool false]):=by kernel_rfl
theorem Y1:(Tryz.prog.info? 118).map (·.size)=some 4:=by kernel_rfl
theorem F7:pW Tryz.prog 118 4:=mZ Tryz.underlying118 rfl (by kernel_rfl)
theorem aAI : ∀ (x0:List UInt8) (x1:Int) (x2:List UInt8) (x3:Bool) (y0:List UInt8) (y1:Int) (y2:List UInt8) (y3:Bool) (w:World),(Op.equalIn 10000 118 (.agg #[str x0,i64 x1,str x2,.bool x3]) (.agg #[str y0,i64 y1,str y2,.bool y3])).run Tryz.prog w = .ok (decide (x0=y0∧x1=y1∧x2=y2∧x3=y3)) w:=by
 intro x0 x1 x2 x3 y0 y1 y2 y3 w
 have hS:Tryz.prog.underlying 118=some (.struct (Tryz.prog.fieldsOf 118)):=by kernel_rfl
 rw [show (10000:Nat)=9999+1 from rfl,run_equalIn_agg w 9999 118 _ _ hS (by kernel_rfl)]
 simp only [Program.fieldsOf,Tryz.underlying118]
 go_simp
 by_cases h0:x0=y0 <;> by_cases h1:x1=y1 <;> by_cases h2:x2=y2 <;> by_cases h3:x3=y3 <;> simp [h0,h1,h2,h3]
theorem aAG:Tryz.prog.eqGuardType Tryz.prog.depth 118=false:=by kernel_rfl
theorem aBt:dN Tryz.prog 118 0 0:=cH (n:=2) (f:=⟨_,_,0,_,_,_,_⟩) Tryz.underlying118 rfl (by kernel_rfl)
theorem CP:dN Tryz.prog 118 1 3:=cH (n:=0) (f:=⟨_,_,3,_,_,_,_⟩) Tryz.underlying118 rfl (by kernel_rfl)
theorem aEX:dN Tryz.prog 38 1 1:=cH (n:=0) (f:=⟨_,_,1,_,_,_,_⟩) Tryz.underlying38 rfl (by kernel_rfl)
theorem SF:(Tryz.prog.info? 38).map (·.size)=some 3:=by kernel_rfl
theorem aH2:pW Tryz.prog 57 2:=mZ Tryz.underlying57 rfl (by kernel_rfl)
theorem aUU:((Tryz.prog.info? 9).map (·.size)).isSome=true:=by kernel_rfl
theorem aV8:((Tryz.prog.info? 3).map fun i=>(i.size,i.bytes,i.zero.map fun z=>z.cells.toList))=some (1,8,some [i64 0]):=by kernel_rfl
theorem aBs:dN Tryz.prog 108 2 2:=cH (n:=0) (f:=⟨_,_,2,_,_,_,_⟩) Tryz.underlying108 rfl (by kernel_rfl)
theorem P4:dN Tryz.prog 108 1 1:=cH (n:=0) (f:=⟨_,_,1,_,_,_,_⟩) Tryz.underlying108 rfl (by kernel_rfl)
theorem EA:(Tryz.prog.info? 75).map (·.size)=some 2:=by kernel_rfl
theorem WZ:dN Tryz.prog 108 0 0:=cH (n:=0) (f:=⟨_,_,0,_,_,_,_⟩) Tryz.underlying108 rfl (by kernel_rfl)
theorem aRZ:((Tryz.prog.info? 75).map fun i=>(i.size,i.zero.isSome))=some (2,true):=by kernel_rfl
theorem aH4:((Tryz.prog.info? 75).map fun i=>(i.size,i.bytes,(i.zero.map fun z=>z.cells.size)))=some (2,24,some 2):=by kernel_rfl
theorem YW:pW Tryz.prog 75 2:=mZ Tryz.underlying75 rfl (by kernel_rfl)
theorem UH:dN Tryz.prog 75 0 0:=cH (n:=0) (f:=⟨_,_,0,_,_,_,_⟩) Tryz.underlying75 rfl (by kernel_rfl)
theorem aRW:((Tryz.prog.info? 75).map (·.size)).isSome=true:=by kernel_rfl
theorem aCs:(Tryz.prog.info? 78).map (·.size)=some 5:=by kernel_rfl
theorem YX:pW Tryz.prog 78 5:=mZ Tryz.underlying78 rfl (by kernel_rfl)
theorem aH6:((Tryz.prog.info? 78).map fun i=>(i.size,i.zero.isSome))=some (5,true):=by kernel_rfl
theorem aH5:((Tryz.prog.info? 78).map fun i=>(i.size,i.bytes,(i.zero.map fun z=>z.cells.size)))=some (5,56,some 5):=by kernel_rfl
theorem aAM:dN Tryz.prog 78 4 4:=cH (n:=0) (f:=⟨_,_,4,_,_,_,_⟩) Tryz.underlying78 rfl (by kernel_rfl)
theorem aCn:OneCell Tryz.prog 25:=jI Tryz.underlying25 rfl
theorem aAL:dN Tryz.prog 78 1 1:=cH (n:=0) (f:=⟨_,_,1,_,_,_,_⟩) Tryz.underlying78 rfl (by kernel_rfl)
theorem aNP:dN Tryz.prog 78 3 3:=cH (n:=0) (f:=⟨_,_,3,_,_,_,_⟩) Tryz.underlying78 rfl (by kernel_rfl)
theorem DN:dN Tryz.prog 78 0 0:=cH (n:=0) (f:=⟨_,_,0,_,_,_,_⟩) Tryz.underlying78 rfl (by kernel_rfl)
theorem aE2:dN Tryz.prog 78 2 2:=cH (n:=0) (f:=⟨_,_,2,_,_,_,_⟩) Tryz.underlying78 rfl (by kernel_rfl)
theorem aE1:dN Tryz.prog 75 1 1:=cH (n:=0) (f:=⟨_,_,1,_,_,_,_⟩) Tryz.underlying75 rfl (by kernel_rfl)
theorem aGK (v:Value):Ct Tryz.prog 121 [.nilIface,v] Mo.tt Ow.emp (X:=Unit) (fun _ => .bool false) (fun _=>True) (fun _=>Mo.tt) (fun _=>Ow.emp):=by
 refine Zo Tryz.func121 Tryz.ntmps121 fun c => ?_
 refine Zq (Zr ?_)
 refine Zy ?_
 refine Zq (Zq (Zr ?_))
 refine Zm ?_
 refine Zu (aFo Tryz.underlying27 rfl) ?_
 refine Zl ?_
 refine VC.EV rfl ?_
 refine Zq (Zr ?_)
 refine Zy ?_
 exact Ze
theorem aBg  {r:bM} (hS:Sh.TB=some r) :
 Ct Tryz.prog 12 [] Mo.tt (Ow.emp) (X:=Unit) (fun _ => .agg #[.slice none 0 0,.slice none 0 0,.slice none 0 0,str [109,97,105,110],i64 0,str [],i64 0,str [],.slice none 0 0,.slice none 0 0,i64 0,str [],str [],i64 0,.slice none 0 0,.slice none 0 0,.slice none 0 0,.slice none 0 0,.slice none 0 0,.slice none 0 0,i64 0]) (fun _=>True) (fun _=>Mo.tt) (fun _=>Ow.emp):=by
 refine Zo Tryz.func12 Tryz.ntmps12 fun c => ?_
 unfold Sh.TB at hS
 refine Zq (Zr ?_)
 refine VL.alloc (cs:=[.slice none 0 0,.slice none 0 0,.slice none 0 0,str [],i64 0,str [],i64 0,str [],.slice none 0 0,.slice none 0 0,i64 0,str [],str [],i64 0,.slice none 0 0,.slice none 0 0,.slice none 0 0,.slice none 0 0,.slice none 0 0,.slice none 0 0,i64 0]) (by kernel_rfl) (by decide) fun aWC => ?_
 refine Zl ?_
 refine Zq (Zr ?_)
 refine Zu (fH (vs:=[(0,str [109,97,105,110])]) (cs := #[str [109,97,105,110],i64 0]) rfl (by kernel_rfl)) ?_
 refine Zu (fH (vs:=[(3,.agg #[str [109,97,105,110],i64 0])]) (cs := #[.slice none 0 0,.slice none 0 0,.slice none 0 0,str [109,97,105,110],i64 0,str [],i64 0,str [],.slice none 0 0,.slice none 0 0,i64 0,str [],str [],i64 0,.slice none 0 0,.slice none 0 0,.slice none 0 0]) rfl (by kernel_rfl)) ?_
 refine Zu (fH (vs:=[(0,.agg #[.slice none 0 0,.slice none 0 0,.slice none 0 0,str [109,97,105,110],i64 0,str [],i64 0,str [],.slice none 0 0,.slice none 0 0,i64 0,str [],str [],i64 0,.slice none 0 0,.slice none 0 0,.slice none 0 0])]) (cs := #[.slice none 0 0,.slice none 0 0,.slice none 0 0,str [109,97,105,110],i64 0,str [],i64 0,str [],.slice none 0 0,.slice none 0 0,i64 0,str [],str [],i64 0,.slice none 0 0,.slice none 0 0,.slice none 0 0,.slice none 0 0,.slice none 0 0,.slice none 0 0,i64 0]) rfl (by kernel_rfl)) ?_
 refine Zv (vc:=[.slice none 0 0,.slice none 0 0,.slice none 0 0,str [109,97,105,110],i64 0,str [],i64 0,str [],.slice none 0 0,.slice none 0 0,i64 0,str [],str [],i64 0,.slice none 0 0,.slice none 0 0,.slice none 0 0,.slice none 0 0,.slice none 0 0,.slice none 0 0,i64 0]) (cs':=[.slice none 0 0,.slice none 0 0,.slice none 0 0,str [109,97,105,110],i64 0,str [],i64 0,str [],.slice none 0 0,.slice none 0 0,i64 0,str [],str [],i64 0,.slice none 0 0,.slice none 0 0,.slice none 0 0,.slice none 0 0,.slice none 0 0,.slice none 0 0,i64 0]) rfl fR ?_
 refine Zl ?_
 cases hS
 exact VC.ret (jV (vs:=[.agg #[.slice none 0 0,.slice none 0 0,.slice none 0 0,str [109,97,105,110],i64 0,str [],i64 0,str [],.slice none 0 0,.slice none 0 0,i64 0,str [],str [],i64 0,.slice none 0 0,.slice none 0 0,.slice none 0 0,.slice none 0 0,.slice none 0 0,.slice none 0 0,i64 0]]) (.inr rfl) rfl (eW.cell cE rfl rfl Rd.blk (eW.nil)) () rfl trivial (by (try dsimp only); exact cO.out) (fun _ _=>trivial))
theorem DH (fL:aV) {r:Bool} (hS:Sh.cmp_isNaN_string fL=some r) :
 Ct Tryz.prog 185 [str fL] Mo.tt (Ow.emp) (X:=Unit) (fun _ => .bool r) (fun _=>True) (fun _=>Mo.tt) (fun _=>Ow.emp):=by
 refine Zo Tryz.func185 Tryz.ntmps185 fun c => ?_
 unfold Sh.cmp_isNaN_string at hS
 refine Zq (Zr ?_)
 refine Zy ?_
 refine Zq (Zr ?_)
 refine Zy ?_
 refine Zu (rL rfl rfl) ?_
 refine Zy ?_
 cases hS
 exact Ze
theorem AV (fL:aV) (vC:aV) {r:Int} (hS:Sh.p8 fL vC=some r) :
 Ct Tryz.prog 112 [str fL,str vC] Mo.tt (Ow.emp) (X:=Unit) (fun _=>i64 r) (fun _=>True) (fun _=>Mo.tt) (fun _=>Ow.emp):=by
 refine Zo Tryz.func112 Tryz.ntmps112 fun c => ?_
 unfold Sh.p8 at hS
 refine Zq (Zr ?_)
 refine Zy ?_
 refine Zq (Zr ?_)
 refine Zm ?_
 obtain ⟨B6,F1,hS⟩:=aU hS
 refine Zu (cN (DH fL F1) rfl (fun _ _=>rfl)) ?_
 refine Zy ?_
 refine Zq (Zr ?_)
 refine Zm ?_
 obtain ⟨eS,EX,hS⟩:=aU hS
 refine Zu (cN (DH vC EX) rfl (fun _ _=>rfl)) ?_
 refine Zy ?_
 refine Zq (Zq (Zr ?_))
 refine Zy ?_
 refine iT hS (fun h11 hS => ?_) (fun h11 hS => ?_)
 ·
  refine Zq (Zq (Zr ?_))
  refine Zy ?_
  refine VC.keep (ρ':=[(12,.bool eS)]) [12] rfl ?_
  refine iT hS (fun h12 hS => ?_) (fun h12 hS => ?_)
  ·
   refine Zq (Zr ?_)
   refine Zy ?_
   cases hS
   exact Ze
  refine Zk ?_
  refine Zq (Zr ?_)
  refine Zy ?_
  cases hS
  exact Ze
 refine Zk ?_
 refine Zq (Zq (Zr ?_))
 refine Zy ?_
 refine VC.keep (ρ':=[(0,str fL),(1,str vC),(13,.bool eS)]) [0,1,13] rfl ?_
 refine iT hS (fun h13 hS => ?_) (fun h13 hS => ?_)
 ·
  refine Zq (Zr ?_)
  refine Zy ?_
  cases hS
  exact Ze
 refine Zk ?_
 refine Zq (Zq (Zr ?_))
 refine Zy ?_
 refine Zu (aSe rfl rfl) ?_
 refine Zl ?_
 refine iT hS (fun h16 hS => ?_) (fun h16 hS => ?_)
 ·
  refine Zq (Zr ?_)
  refine Zy ?_
  cases hS
  exact Ze
 refine Zk ?_
 refine Zq (Zq (Zr ?_))
 refine Zy ?_
 refine Zu (aSd rfl rfl) ?_
 refine Zl ?_
 refine iT hS (fun h19 hS => ?_) (fun h19 hS => ?_)
 ·
  refine Zq (Zr ?_)
  refine Zy ?_
  cases hS
  exact Ze
 refine Zk ?_
 refine Zq (Zr ?_)
 refine Zy ?_
 cases hS
 exact Ze
theorem CV (bU:aV) (b_1:aV) {r:Int} (hS:Sh.sM bU b_1=some r) :
 Ct Tryz.prog 70 [str bU,str b_1] Mo.tt (Ow.emp) (X:=Unit) (fun _=>i64 r) (fun _=>True) (fun _=>Mo.tt) (fun _=>Ow.emp):=by
 refine Zo Tryz.func70 Tryz.ntmps70 fun c => ?_
 unfold Sh.sM at hS
 refine Zq (Zr ?_)
 refine Zy ?_
 refine Zq (Zr ?_)
 refine Zy ?_
 obtain ⟨iR,lI,hS⟩:=aU hS
 refine Zu (cN (AV bU b_1 lI) rfl (fun _ _=>rfl)) ?_
 refine Zy ?_
 cases hS
 exact Ze
theorem DJ (zL:aD) (p_1:aV) {r:Int} (hS:Sh.pL zL p_1=some r) :
 Ct Tryz.prog 108 [.agg #[str zL.path,i64 zL.mode,str zL.data],str p_1] Mo.tt (Ow.emp) (X:=Unit) (fun _=>i64 r) (fun _=>True) (fun _=>Mo.tt) (fun _=>Ow.emp):=by
 refine Zo Tryz.func108 Tryz.ntmps108 fun c => ?_
 unfold Sh.pL at hS
 refine Zq (Zr ?_)
 refine VL.box (cs:=[str zL.path,i64 zL.mode,str zL.data]) rfl rfl (by decide) fun eP => ?_
 refine Zy ?_
 refine Zq (Zr ?_)
 refine Zu (aC oZ rfl) ?_
 refine Zu (aT dK rfl rfl) ?_
 refine Zm ?_
 obtain ⟨lQ,zK,hS⟩:=aU hS
 refine Zu (cN (CV zL.path p_1 zK) rfl (fun _ _=>rfl)) ?_
 refine Zy ?_
 cases hS
 exact Ze
theorem pH (fL:Sv aD) (kL:aV) {r:Int×Bool} (hS:Sh.gC fL.l kL=some r) :
 Ct Tryz.prog 107 [fL.val,str kL,.func (.func 108) #[] #[]] fL.ok (Ow.emp) (X:=Unit) (fun _ => .tuple #[i64 r.1,.bool r.2]) (fun _=>True) (fun _=>Mo.tt) (fun _=>Ow.emp):=by
 refine Zo Tryz.func107 Tryz.ntmps107 fun c => ?_
 unfold Sh.gC at hS
 refine Zq (Zr ?_)
 refine Zy ?_
 refine Zq (Zr ?_)
 refine Zm ?_
 refine Zu (dO (s:=fL) Tryz.underlying35 rfl) ?_
 refine Zy ?_
 refine Zq (Zr ?_)
 refine Zy ?_
 refine Zq (Zb ?_)
 refine VC.iter (S:=Int×Int) (fun sg=>(sg.1,sg.2)) (fun sg=>[(0,fL.val),(1,str kL),(2,.func (.func 108) #[] #[]),(8,i64 (fL.l.length:Int)),(9,i64 sg.1),(10,i64 sg.2)]) (fun sg=>Mo.tt) (fun sg=>Ow.emp) (0,(fL.l.length:Int)) [0,1,2,8,9,10] hS rfl ?_
 clear hS
 rintro ⟨mH,mU⟩ m1 y1 hS hK1
 refine Zq (Zq (Zr ?_))
 refine Zy ?_
 refine Zu (dL rfl rfl) ?_
 refine Zl ?_
 refine Zc hS (fun h17 hS => ?_) (fun h17 hS => ?_)
 ·
  refine Zk ?_
  refine Zb (Zq (Zr ?_))
  refine Zy ?_
  obtain ⟨b20,hS⟩:=bS hS
  refine Zu (cK rfl rfl b20) ?_
  refine Zu (y4 Tryz.underlying3 Tryz.underlying152 rfl) ?_
  refine Zu (aDX rfl rfl (by decide)) ?_
  refine Zu (y4 Tryz.underlying152 Tryz.underlying3 rfl) ?_
  refine Zy ?_
  refine VC.keep (ρ':=[(0,fL.val),(1,str kL),(2,.func (.func 108) #[] #[]),(8,i64 (fL.l.length:Int)),(9,i64 mH),(10,i64 mU),(11,i64 (IntKind.wrap .i64 (BP .u64 (IntKind.wrap .u64 (mH+mU)) 1)))]) [0,1,2,8,9,10,11] rfl ?_
  refine Zq (Zr ?_)
  refine Zy ?_
  obtain ⟨TS,U8,UR,hS⟩:=e8 hS
  refine Zu (fM (s:=fL) Tryz.underlying35 fP rfl rfl U8 (bQ U8 UR)) ?_
  refine Zu (lZ (s:=fL) i7 rfl rfl UR) ?_
  refine Zm ?_
  obtain ⟨HA,T9,hS⟩:=aU hS
  refine Zu (GV (DJ TS kL T9) rfl rfl (fun _ _=>rfl)) ?_
  refine Zu (dL rfl rfl) ?_
  refine Zl ?_
  refine VC.keep (ρ':=[(0,fL.val),(1,str kL),(2,.func (.func 108) #[] #[]),(8,i64 (fL.l.length:Int)),(9,i64 mH),(10,i64 mU),(11,i64 (IntKind.wrap .i64 (BP .u64 (IntKind.wrap .u64 (mH+mU)) 1))),(31,.bool (decide (HA < 0)))]) [0,1,2,8,9,10,11,31] rfl ?_
  refine Zc hS (fun h31 hS => ?_) (fun h31 hS => ?_)
  ·
   refine Zr ?_
   refine Zm ?_
   obtain ⟨b33,hS⟩:=bS hS
   refine Zu (cK rfl rfl b33) ?_
   refine Za ?_
   refine VL.jC (((IntKind.wrap .i64 (BP .u64 (IntKind.wrap .u64 (mH+mU)) 1))+1),mU) [0,1,2,8,9,10] (fun _ _ h=>h) (go2 hS hK1) rfl
  refine Zr ?_
  refine Zy ?_
  refine VL.jC (mH,(IntKind.wrap .i64 (BP .u64 (IntKind.wrap .u64 (mH+mU)) 1))) [0,1,2,8,9,10] (fun _ _ h=>h) (go2 hS hK1) rfl
 replace hS:=gQ hS hK1
 refine Zx ?_
 refine Zq (Zr ?_)
 refine Zy ?_
 refine Zu (dL rfl rfl) ?_
 refine Zm ?_
 refine mF 39 hS (fun h39 hS => ?_) (fun h39 hS => ?_)
 ·
  refine Zy ?_
  obtain ⟨TT,U9,US,hS⟩:=e8 hS
  refine Zh (fM (s:=fL) Tryz.underlying35 fP rfl rfl U9 (bQ U9 US)) ?_
  refine Zh (lZ (s:=fL) i7 rfl rfl US) ?_
  refine Zg ?_
  obtain ⟨TP,aCj,hS⟩:=aU hS
  refine Zh (GV (DJ TT kL aCj) rfl rfl (fun _ _=>rfl)) ?_
  refine Zh (hU rfl rfl) ?_
  refine Zy ?_
  refine VC.keep (ρ':=[(6,i64 mH),(7,.bool (decide (TP=0)))]) [6,7] rfl ?_
  cases hS
  exact VC.ret (CA (.inr rfl) rfl rfl rfl () rfl trivial (fun _ _=>trivial) (fun _ _=>trivial))
 refine VL.runs 9 [(48,some false)] (by kernel_rfl) ?_
 refine Zy ?_
 refine VC.keep (ρ':=[(6,i64 mH),(7,.bool false)]) [6,7] rfl ?_
 cases hS
 exact VC.ret (CA (.inr rfl) rfl rfl rfl () rfl trivial (fun _ _=>trivial) (fun _ _=>trivial))
theorem F5 (dB:Sv aD) (p_1:aV) {r:Int×Bool} (hS:Sh.rQ dB.l p_1=some r) :
 Ct Tryz.prog 64 [dB.val,str p_1] dB.ok (Ow.emp) (X:=Unit) (fun _ => .tuple #[i64 r.1,.bool r.2]) (fun _=>True) (fun _=>Mo.tt) (fun _=>Ow.emp):=by
 refine Zo Tryz.func64 Tryz.ntmps64 fun c => ?_
 unfold Sh.rQ at hS
 refine Zq (Zr ?_)
 refine Zy ?_
 refine Zq (Zr ?_)
 refine Zy ?_
 obtain ⟨B6,F1,hS⟩:=aU hS
 refine Zu (cN (pH dB p_1 F1) rfl (fun _ _=>rfl)) ?_
 refine Zu (bG rfl rfl) ?_
 refine Zu (bG rfl rfl) ?_
 refine Zy ?_
 cases hS
 exact VC.ret (CA (.inr rfl) rfl rfl rfl () rfl trivial (fun _ _=>trivial) (fun _ _=>trivial))
theorem pK (dB:Sv aD) (p_1:aV) {r:aD×Bool} (hS:Sh.mG dB.l p_1=some r) :
 Ct Tryz.prog 35 [dB.val,str p_1] dB.ok (Ow.emp) (X:=Unit) (fun _ => .tuple #[.agg #[str r.1.path,i64 r.1.mode,str r.1.data],.bool r.2]) (fun _=>True) (fun _=>Mo.tt) (fun _=>Ow.emp):=by
 refine Zo Tryz.func35 Tryz.ntmps35 fun c => ?_
 unfold Sh.mG at hS
 refine Zq (Zr ?_)
 refine VL.alloc (cs:=[str [],i64 0,str []]) (by kernel_rfl) (by decide) fun uY => ?_
 refine Zy ?_
 refine Zq (Zr ?_)
 refine Zy ?_
 obtain ⟨uE,T1,hS⟩:=aU hS
 refine Zu (cN (F5 dB p_1 T1) rfl (fun _ _=>rfl)) ?_
 refine Zm ?_
 refine Zu (bG rfl rfl) ?_
 refine Zu (bG rfl rfl) ?_
 refine Zy ?_
 refine VC.keep (ρ':=[(0,dB.val),(4,ptr uY 0),(6,i64 uE.1),(7,.bool uE.2)]) [0,4,6,7] rfl ?_
 refine Zq (Zq (Zr ?_))
 refine Zm ?_
 refine Zu (lN rfl) ?_
 refine Zl ?_
 refine iT hS (fun h15 hS => ?_) (fun h15 hS => ?_)
 ·
  refine Zq (Zr ?_)
  refine Zu (fH (vs:=[]) (cs := #[str [],i64 0,str []]) rfl (by kernel_rfl)) ?_
  refine Zv (vc:=[str [],i64 0,str []]) (cs':=[str [],i64 0,str []]) rfl fP ?_
  refine Zy ?_
  cases hS
  exact VC.ret (jV (vs:=[.agg #[str [],i64 0,str []],.bool false]) (.inr rfl) rfl (eW.cell i7 rfl rfl Rd.blk (eW.tmp rfl (eW.nil))) () rfl trivial (by (try dsimp only); exact cO.out) (fun _ _=>trivial))
 refine Zk ?_
 refine Zq (Zr ?_)
 refine Zy ?_
 obtain ⟨C7,aIR,aHf,hS⟩:=e8 hS
 refine Zu (fM (s:=dB) Tryz.underlying35 fP rfl rfl aIR (bQ aIR aHf)) ?_
 refine Zu (lZ (s:=dB) i7 rfl rfl aHf) ?_
 refine Zv (vc:=[str C7.path,i64 C7.mode,str C7.data]) (cs':=[str C7.path,i64 C7.mode,str C7.data]) rfl fP ?_
 refine Zy ?_
 refine VC.keep (ρ':=[(4,ptr uY 0),(5,.bool true)]) [4,5] rfl ?_
 cases hS
 exact VC.ret (jV (vs:=[.agg #[str C7.path,i64 C7.mode,str C7.data],.bool true]) (.inr rfl) rfl (eW.cell i7 rfl rfl Rd.blk (eW.tmp rfl (eW.nil))) () rfl trivial (by (try dsimp only); exact cO.out) (fun _ _=>trivial))
theorem q5 (aB:aV) {r:Int} (hS:Sh.lG aB=some r) :
 Ct Tryz.prog 290 [str aB] Mo.tt (Ow.emp) (X:=Unit) (fun _=>i64 r) (fun _=>True) (fun _=>Mo.tt) (fun _=>Ow.emp):=by
 refine Zo Tryz.func290 Tryz.ntmps290 fun c => ?_
 unfold Sh.lG at hS
 refine Zq (Zr ?_)
 refine Zy ?_
 refine Zq (Zq (Zr ?_))
 refine Zm ?_
 cases hS
theorem wI (aB:aV) {r:Int×Int} (hS:Sh.mB aB=some r) :
 Ct Tryz.prog 292 [str aB] Mo.tt (Ow.emp) (X:=Unit) (fun _ => .tuple #[.int .i32 r.1,i64 r.2]) (fun _=>True) (fun _=>Mo.tt) (fun _=>Ow.emp):=by
 refine Zo Tryz.func292 Tryz.ntmps292 fun c => ?_
 unfold Sh.mB at hS
 refine Zq (Zr ?_)
 refine Zy ?_
 refine Zq (Zr ?_)
 refine Zm ?_
 refine Zu (nT Tryz.underlying9 rfl) ?_
 refine Zy ?_
 refine Zq (Zq (Zr ?_))
 refine Zm ?_
 refine Zu (dL rfl rfl) ?_
 refine Zl ?_
 refine Zc hS (fun h16 hS => ?_) (fun h16 hS => ?_)
 ·
  refine Zq (Zr ?_)
  refine Zy ?_
  cases hS
  exact VC.ret (CA (.inr rfl) rfl rfl rfl () rfl trivial (fun _ _=>trivial) (fun _ _=>trivial))
 refine Zk ?_
 refine Zq (Zr ?_)
 refine Zm ?_
 obtain ⟨aPo,aSW,aSL,hS⟩:=e8 hS
 refine Zu (LY Tryz.underlying9 rfl rfl aSW aSL) ?_
 refine Zy ?_
 refine VC.keep (ρ':=[(0,str aB),(4,i64 (aB.length:Int)),(5,.int .u8 (aPo.toNat:Int))]) [0,4,5] rfl ?_
 refine Zq (Zr ?_)
 refine Zm ?_
 cases hS
theorem zB (aB:aV) {r:Int×Int} (hS:Sh.nX aB=some r) :
 Ct Tryz.prog 212 [str aB] Mo.tt (Ow.emp) (X:=Unit) (fun _ => .tuple #[.int .i32 r.1,i64 r.2]) (fun _=>True) (fun _=>Mo.tt) (fun _=>Ow.emp):=by
 refine Zo Tryz.func212 Tryz.ntmps212 fun c => ?_
 unfold Sh.nX at hS
 refine Zq (Zr ?_)
 refine Zy ?_
 refine Zq ?_
 refine VC.gD (S:=Bool) (fun (O4:Bool)=>O4) (fun (O4:Bool)=>[(0,str aB),(10,.bool O4)]) (fun (O4:Bool)=>Mo.tt) (fun (O4:Bool)=>Ow.emp) hS ?_ ?_
 ·
  clear hS
  intro k2 hS
  refine Zr ?_
  refine Zm ?_
  refine Zu (rL rfl rfl) ?_
  refine Zm ?_
  refine NH 6 hS (fun h6 hS => ?_) (fun h6 hS => ?_)
  ·
   refine Zg ?_
   obtain ⟨aPr,aU7,aU3,hS⟩:=e8 hS
   refine Zh (LY Tryz.underlying9 rfl rfl aU7 aU3) ?_
   refine Zh (dL rfl rfl) ?_
   refine Zt ?_
   refine VL.mt (decide ((aPr.toNat:Int) < 128)) [0,10] (fun _ _ h=>h) hS rfl
  refine VL.runs 4 [(10,some false)] (by kernel_rfl) ?_
  refine VL.mt false [0,10] (fun _ _ h=>h) hS rfl
 clear hS
 rintro O4 hS
 refine iT hS (fun h10 hS => ?_) (fun h10 hS => ?_)
 ·
  refine Zq (Zr ?_)
  refine Zm ?_
  obtain ⟨aHI,aSV,aSK,hS⟩:=e8 hS
  refine Zu (LY Tryz.underlying9 rfl rfl aSV aSK) ?_
  refine Zu (aSb Tryz.underlying5 Tryz.underlying21 rfl (aTK aHI)) ?_
  refine Zy ?_
  cases hS
  exact VC.ret (CA (.inr rfl) rfl rfl rfl () rfl trivial (fun _ _=>trivial) (fun _ _=>trivial))
 refine Zr ?_
 refine Zm ?_
 obtain ⟨X5,aQH,hS⟩:=aU hS
 refine Zu (cN (wI aB aQH) rfl (fun _ _=>rfl)) ?_
 refine Zm ?_
 refine Zu (bG rfl rfl) ?_
 refine Zu (bG rfl rfl) ?_
 refine Zy ?_
 cases hS
 exact VC.ret (CA (.inr rfl) rfl rfl rfl () rfl trivial (fun _ _=>trivial) (fun _ _=>trivial))
theorem Q0 (aB:aV) (n_1:Int) {r:List aV} (hS:Sh.C0 aB n_1=some r) :
 Ct Tryz.prog 209 [str aB,i64 n_1] Mo.tt (Ow.emp) (X:=Sv aV) (fun x=>x.val) (fun x=>r=x.l) (fun x=>Mo.tt) (fun x=>Sv.own x 9):=by
 refine Zo Tryz.func209 Tryz.ntmps209 fun c => ?_
 unfold Sh.C0 at hS
 refine Zq (Zr ?_)
 refine Zy ?_
 refine Zq (Zr ?_)
 refine Zm ?_
 obtain ⟨iJ,EZ,hS⟩:=aU hS
 refine Zu (cN (q5 aB EZ) rfl (fun _ _=>rfl)) ?_
 refine Zy ?_
 refine VC.gD (S:=Int) (fun (BE:Int)=>BE) (fun (BE:Int)=>[(0,str aB),(1,i64 BE)]) (fun (BE:Int)=>Mo.tt) (fun (BE:Int)=>Ow.emp) hS ?_ ?_
 ·
  clear hS
  intro k3 hS
  refine VC.gD (S:=Bool) (fun (O7:Bool)=>O7) (fun (O7:Bool)=>[(0,str aB),(1,i64 n_1),(5,i64 iJ),(18,.bool O7)]) (fun (O7:Bool)=>Mo.tt) (fun (O7:Bool)=>Ow.emp) hS ?_ ?_
  ·
   clear hS
   intro k5 hS
   refine Zr ?_
   refine Zm ?_
   refine Zu (dL rfl rfl) ?_
   refine Zm ?_
   refine mF 14 hS (fun h14 hS => ?_) (fun h14 hS => ?_)
   ·
    refine VL.runs 4 [(18,some true)] (by kernel_rfl) ?_
    refine VL.mt true [0,1,5,18] (fun _ _ h=>h) hS rfl
   refine Zy ?_
   refine Zh (jF rfl rfl) ?_
   refine Zf ?_
   refine VL.mt (decide (iJ < n_1)) [0,1,5,18] (fun _ _ h=>h) hS rfl
  clear hS
  rintro O7 hS
  refine iT hS (fun h18 hS => ?_) (fun h18 hS => ?_)
  ·
   refine Zr ?_
   refine Zy ?_
   refine VL.mt iJ [0,1] (fun _ _ h=>h) hS rfl
  refine VC.fZ n_1 [0,1] (fun _ _ h=>h) hS rfl
 clear hS
 rintro BE hS
 refine Zq (Zr ?_)
 refine Zm ?_
 obtain ⟨b21,hS⟩:=bS hS
 refine VL.make (α:=aV) (z:=[]) Tryz.underlying23 aTy (by decide) rfl rfl b21.1 (Int.le_refl _) (by omega) (by omega) (by decide) (fun aUw aRl => ?_)
 replace hS:=b5 aRl hS
 refine Zy ?_
 refine Zq (Zq (Zr ?_))
 refine Zy ?_
 refine Zb ?_
 refine VC.iter (S:=aV×Sv aV×Int) (fun sg=>(sg.1,sg.2.1.l,sg.2.2)) (fun sg=>[(0,str sg.1),(1,i64 BE),(6,sg.2.1.val),(7,i64 sg.2.2)]) (fun sg=>Mo.tt) (fun sg=>Ow.star (Sv.own sg.2.1 9) (Ow.emp)) (aB,aUw,0) [0,1,6,7] hS rfl ?_
 clear hS
 rintro ⟨OO,JH,LM⟩ m1 y1 hS hK1
 refine Zq (Zq (Zr ?_))
 refine Zy ?_
 obtain ⟨b24,hS⟩:=bS hS
 refine Zu (o7 rfl rfl b24) ?_
 refine Zu (dL rfl rfl) ?_
 refine Zl ?_
 refine Zc hS (fun h25 hS => ?_) (fun h25 hS => ?_)
 ·
  refine Zk ?_
  refine Zq (Zb (Zq (Zr ?_)))
  refine Zm ?_
  obtain ⟨IF,aLe,hS⟩:=aU hS
  refine Zu (cN (zB OO aLe) rfl (fun _ _=>rfl)) ?_
  refine Zm ?_
  refine Zu (bG rfl rfl) ?_
  refine Zu (bG rfl rfl) ?_
  refine Zy ?_
  refine VC.keep (ρ':=[(0,str OO),(1,i64 BE),(6,JH.val),(7,i64 LM),(9,i64 IF.2)]) [0,1,6,7,9] rfl ?_
  refine Zq (Zr ?_)
  refine Zy ?_
  obtain ⟨b37,hS⟩:=bS hS
  obtain ⟨ZC,aLt,hS⟩:=AF hS
  refine Zu (VV Tryz.underlying9 rfl rfl b37.1 b37.2 aLt) ?_
  obtain ⟨aTo,aFI,aEd,hS⟩:=e8 hS
  refine Zu (l5 (s:=JH) Tryz.underlying23 o4 rfl rfl aFI (bQ aFI aEd)) ?_
  refine VL.sJ (s:=JH) (T:=9) (j:=0) (vc:=[str ZC]) (ZC:aV) (by decide) rfl rfl aEd rfl o4 rfl rfl (Nat.le_of_ble_eq_true rfl) rfl (fun w14 hw14 haw14 hcw14 hvw14 hbw14 how14 => ?_)
  rw [← hvw14]
  replace hS:=b5 hw14 hS
  refine Zl ?_
  refine Zr ?_
  refine Zy ?_
  obtain ⟨b41,hS⟩:=bS hS
  obtain ⟨MN,Z4,hS⟩:=AF hS
  refine Zu (J9 Tryz.underlying9 rfl rfl b41.1 b41.2 Z4) ?_
  refine Zy ?_
  refine VC.keep (ρ':=[(0,str MN),(1,i64 BE),(6,w14.val),(7,i64 LM)]) [0,1,6,7] rfl ?_
  refine Zr ?_
  refine Zm ?_
  obtain ⟨b27,hS⟩:=bS hS
  refine Zu (cK rfl rfl b27) ?_
  refine Za ?_
  refine VL.jC (MN,w14,(LM+1)) [0,1,6,7] (fun _ _ h=>h) (go2 hS hK1) rfl
 replace hS:=gQ hS hK1
 refine Zx ?_
 refine Zq (Zq (Zr ?_))
 refine Zm ?_
 refine Zu (jF rfl rfl) ?_
 refine Zl ?_
 refine Zc hS (fun h43 hS => ?_) (fun h43 hS => ?_)
 ·
  refine Zr ?_
  refine Zy ?_
  obtain ⟨b46,hS⟩:=bS hS
  refine Zu (o7 rfl rfl b46) ?_
  refine Zm ?_
  obtain ⟨aTs,aFQ,aEk,hS⟩:=e8 hS
  refine Zu (l5 (s:=JH) Tryz.underlying23 o4 rfl rfl aFQ (bQ aFQ aEk)) ?_
  refine VL.sJ (s:=JH) (T:=9) (j:=0) (vc:=[str OO]) (OO:aV) (by decide) rfl rfl aEk rfl o4 rfl rfl (Nat.le_of_ble_eq_true rfl) rfl (fun w18 hw18 haw18 hcw18 hvw18 hbw18 how18 => ?_)
  rw [← hvw18]
  replace hS:=b5 hw18 hS
  refine Zl ?_
  refine VC.keep (ρ':=[(6,w18.val)]) [6] rfl ?_
  refine Zq (Zr ?_)
  refine Zy ?_
  cases hS
  exact VC.ret (fA (.inr rfl) rfl rfl w18 rfl rfl (by (try dsimp only); exact cO.out) (by (try dsimp only); exact eT.out))
 refine Zk ?_
 refine Zq (Zr ?_)
 refine Zy ?_
 refine VC.keep (ρ':=[(4,JH.val)]) [4] rfl ?_
 cases hS
 exact VC.ret (fA (.inr rfl) rfl rfl JH rfl rfl (by (try dsimp only); exact cO.out) (by (try dsimp only); exact eT.out))
theorem zQ (aB:aV) (dU:Int) {r:Int} (hS:Sh.lF aB dU=some r) :
 Ct Tryz.prog 65 [str aB,.int .u8 dU] Mo.tt (Ow.emp) (X:=Unit) (fun _=>i64 r) (fun _=>True) (fun _=>Mo.tt) (fun _=>Ow.emp):=by
 refine Zo Tryz.func65 Tryz.ntmps65 fun c => ?_
 unfold Sh.lF at hS
 refine Zq (Zr ?_)
 refine Zy ?_
 refine Zq (Zr ?_)
 refine Zy ?_
 refine Zu (aCL Tryz.func109 rfl rfl (by kernel_rfl) (by kernel_rfl) rfl (fun w=>aVM aB dU w)) ?_
 refine Zy ?_
 cases hS
 exact Ze
theorem tI (aB:aV) (fI:aV) {r:Int} (hS:Sh.jD aB fI=some r) :
 Ct Tryz.prog 36 [str aB,str fI] Mo.tt (Ow.emp) (X:=Unit) (fun _=>i64 r) (fun _=>True) (fun _=>Mo.tt) (fun _=>Ow.emp):=by
 refine Zo Tryz.func36 Tryz.ntmps36 fun c => ?_
 unfold Sh.jD at hS
 refine Zq (Zr ?_)
 refine Zy ?_
 refine Zq (Zr ?_)
 refine Zm ?_
 refine Zu (nT Tryz.underlying9 rfl) ?_
 refine Zy ?_
 refine Zq (Zb ?_)
 refine VC.gD (S:=Bool) (fun (O6:Bool)=>O6) (fun (O6:Bool)=>[(0,str aB),(1,str fI),(5,i64 (fI.length:Int)),(16,.bool O6)]) (fun (O6:Bool)=>Mo.tt) (fun (O6:Bool)=>Ow.emp) hS ?_ ?_
 ·
  clear hS
  intro k2 hS
  refine Zr ?_
  refine Zm ?_
  refine Zu (hU rfl rfl) ?_
  refine Zm ?_
  refine mF 19 hS (fun h19 hS => ?_) (fun h19 hS => ?_)
  ·
   refine VL.runs 5 [(16,some true)] (by kernel_rfl) ?_
   refine VL.mt true [0,1,5,16] (fun _ _ h=>h) hS rfl
  refine Zy ?_
  refine Zh (yK rfl rfl) ?_
  refine Zy ?_
  refine VL.mt (decide (fI=aB)) [0,1,5,16] (fun _ _ h=>h) hS rfl
 clear hS
 rintro O6 hS
 refine iT hS (fun h16 hS => ?_) (fun h16 hS => ?_)
 ·
  refine Zq (Zr ?_)
  refine Zy ?_
  cases hS
  exact Ze
 refine Zq (Zr ?_)
 refine Zm ?_
 refine Zu (hU rfl rfl) ?_
 refine Zy ?_
 refine Zc hS (fun h24 hS => ?_) (fun h24 hS => ?_)
 ·
  refine Zq (Zr ?_)
  refine Zy ?_
  obtain ⟨aHN,aSX,aSM,hS⟩:=e8 hS
  refine Zu (LY Tryz.underlying9 rfl rfl aSX aSM) ?_
  obtain ⟨HA,T9,hS⟩:=aU hS
  refine Zu (cN (zQ aB (aHN.toNat:Int) T9) rfl (fun _ _=>rfl)) ?_
  refine Zy ?_
  refine VC.keep (ρ':=[(4,i64 HA)]) [4] rfl ?_
  cases hS
  exact Ze
 refine Zq (Zr ?_)
 refine Zy ?_
 refine Zu (nT Tryz.underlying9 rfl) ?_
 refine Zu (qF rfl rfl) ?_
 refine Zy ?_
 refine VC.keep (ρ':=[(0,str aB),(1,str fI),(5,i64 (fI.length:Int)),(31,.bool (decide ((aB.length:Int)≤(fI.length:Int))))]) [0,1,5,31] rfl ?_
 refine Zc hS (fun h31 hS => ?_) (fun h31 hS => ?_)
 ·
  refine Zq (Zr ?_)
  refine Zy ?_
  cases hS
  exact Ze
 refine Zq (Zr ?_)
 refine Zm ?_
 cases hS
theorem wF (aB:aV) (fI:aV) {r:Int} (hS:Sh.o9 aB fI=some r) :
 Ct Tryz.prog 15 [str aB,str fI] Mo.tt (Ow.emp) (X:=Unit) (fun _=>i64 r) (fun _=>True) (fun _=>Mo.tt) (fun _=>Ow.emp):=by
 refine Zo Tryz.func15 Tryz.ntmps15 fun c => ?_
 unfold Sh.o9 at hS
 refine Zq (Zr ?_)
 refine Zy ?_
 refine Zq (Zr ?_)
 refine Zy ?_
 obtain ⟨iR,lI,hS⟩:=aU hS
 refine Zu (cN (tI aB fI lI) rfl (fun _ _=>rfl)) ?_
 refine Zy ?_
 cases hS
 exact Ze
theorem V0 (aB:aV) (fI:aV) {r:Int} (hS:Sh.xC aB fI=some r) :
 Ct Tryz.prog 210 [str aB,str fI] Mo.tt (Ow.emp) (X:=Unit) (fun _=>i64 r) (fun _=>True) (fun _=>Mo.tt) (fun _=>Ow.emp):=by
 refine Zo Tryz.func210 Tryz.ntmps210 fun c => ?_
 unfold Sh.xC at hS
 refine Zq (Zr ?_)
 refine Zy ?_
 refine Zq (Zq (Zr ?_))
 refine Zm ?_
 refine Zu (nT Tryz.underlying9 rfl) ?_
 refine Zu (hU rfl rfl) ?_
 refine Zl ?_
 refine Zc hS (fun h9 hS => ?_) (fun h9 hS => ?_)
 ·
  refine Zq (Zr ?_)
  refine Zm ?_
  obtain ⟨iJ,EZ,hS⟩:=aU hS
  refine Zu (cN (q5 aB EZ) rfl (fun _ _=>rfl)) ?_
  obtain ⟨b12,hS⟩:=bS hS
  refine Zu (cK rfl rfl b12) ?_
  refine Zy ?_
  cases hS
  exact Ze
 refine Zk ?_
 refine Zq (Zq (Zr ?_))
 refine Zm ?_
 refine Zu (nT Tryz.underlying9 rfl) ?_
 refine Zu (hU rfl rfl) ?_
 refine Zl ?_
 refine Zc hS (fun h15 hS => ?_) (fun h15 hS => ?_)
 ·
  refine Zq (Zr ?_)
  refine Zy ?_
  obtain ⟨z7,Y5,Y3,hS⟩:=e8 hS
  refine Zu (LY Tryz.underlying9 rfl rfl Y5 Y3) ?_
  refine Zu (aCL Tryz.func291 rfl rfl (by kernel_rfl) (by kernel_rfl) rfl (fun w=>aTL aB (z7.toNat:Int) w)) ?_
  refine Zy ?_
  refine VC.keep (ρ':=[(4,i64 (aHY aB (z7.toNat:Int)))]) [4] rfl ?_
  cases hS
  exact Ze
 refine Zk ?_
 refine Zq (Zr ?_)
 refine Zy ?_
 refine Zb ?_
 refine VC.iter (S:=aV×Int) (fun sg=>(sg.1,sg.2)) (fun sg=>[(0,str sg.1),(1,str fI),(5,i64 sg.2)]) (fun sg=>Mo.tt) (fun sg=>Ow.emp) (aB,0) [0,1,5] hS rfl ?_
 clear hS
 rintro ⟨aCM,aA5⟩ m1 y1 hS hK1
 refine Zb (Zq (Zr ?_))
 refine Zy ?_
 obtain ⟨JC,aQZ,hS⟩:=aU hS
 refine Zu (cN (wF aCM fI aQZ) rfl (fun _ _=>rfl)) ?_
 refine Zy ?_
 refine Zq (Zq (Zr ?_))
 refine Zm ?_
 refine Zu (hU rfl rfl) ?_
 refine Zl ?_
 refine Zc hS (fun h24 hS => ?_) (fun h24 hS => ?_)
 ·
  refine Zq (Zr ?_)
  refine Zy ?_
  refine VC.keep (ρ':=[(4,i64 aA5)]) [4] rfl ?_
  replace hS:=gQ hS hK1
  cases hS
  exact Ze
 refine Zk ?_
 refine Zq (Zr ?_)
 refine Zm ?_
 obtain ⟨b27,hS⟩:=bS hS
 refine Zu (cK rfl rfl b27) ?_
 refine Zy ?_
 refine VC.keep (ρ':=[(0,str aCM),(1,str fI),(5,i64 (aA5+1)),(6,i64 JC)]) [0,1,5,6] rfl ?_
 refine Zr ?_
 refine Zy ?_
 refine Zu (nT Tryz.underlying9 rfl) ?_
 obtain ⟨b32,hS⟩:=bS hS
 refine Zu (cK rfl rfl b32) ?_
 obtain ⟨b33,hS⟩:=bS hS
 obtain ⟨aHA,aQp,hS⟩:=AF hS
 refine Zu (J9 Tryz.underlying9 rfl rfl b33.1 b33.2 aQp) ?_
 refine Za ?_
 refine VL.jC (aHA,(aA5+1)) [0,1,5] (fun _ _ h=>h) (go2 hS hK1) rfl
theorem OX (aB:aV) (jS:aV) (sepSave_2:Int) (n_3:Int) {r:List aV} (hS:Sh.wG aB jS sepSave_2 n_3=some r) :
 Ct Tryz.prog 126 [str aB,str jS,i64 sepSave_2,i64 n_3] Mo.tt (Ow.emp) (X:=Sv aV) (fun x=>x.val) (fun x=>r=x.l) (fun x=>x.ok) (fun x=>Ow.emp):=by
 refine Zo Tryz.func126 Tryz.ntmps126 fun c => ?_
 unfold Sh.wG at hS
 refine Zq (Zr ?_)
 refine Zy ?_
 refine Zq (Zq (Zr ?_))
 refine Zm ?_
 refine Zu (hU rfl rfl) ?_
 refine Zl ?_
 refine Zc hS (fun h13 hS => ?_) (fun h13 hS => ?_)
 ·
  refine Zq (Zr ?_)
  refine Zy ?_
  cases hS
  exact VC.ret (fA (.inr rfl) rfl rfl ⟨none,0,[]⟩ rfl rfl (by (try dsimp only); exact cO.out) (fun _ _=>trivial))
 refine Zk ?_
 refine Zq (Zq (Zr ?_))
 refine Zy ?_
 refine Zc hS (fun h15 hS => ?_) (fun h15 hS => ?_)
 ·
  refine Zq (Zr ?_)
  refine Zy ?_
  obtain ⟨X6,aC7,hS⟩:=aU hS
  refine VL.cA (Q0 aB n_3 aC7) rfl (by decide) ?_
  rintro aAg rfl
  try dsimp only
  refine Zy ?_
  refine VC.keep (ρ':=[(8,aAg.val)]) [8] rfl ?_
  refine VC.shut aAg 9 (fun _ _ _ _=>trivial) ?_
  cases hS
  exact VC.ret (fA (.inr rfl) rfl rfl aAg rfl rfl (by (try dsimp only); exact cO.out) (fun _ _=>trivial))
 refine Zk ?_
 refine VC.gD (S:=Int) (fun (DR:Int)=>DR) (fun (DR:Int)=>[(0,str aB),(1,str jS),(2,i64 sepSave_2),(3,i64 DR)]) (fun (DR:Int)=>Mo.tt) (fun (DR:Int)=>Ow.emp) hS ?_ ?_
 ·
  clear hS
  intro k3 hS
  refine Zq (Zr ?_)
  refine Zm ?_
  refine Zu (dL rfl rfl) ?_
  refine Zl ?_
  refine Zc hS (fun h20 hS => ?_) (fun h20 hS => ?_)
  ·
   refine Zr ?_
   refine Zy ?_
   obtain ⟨aDb,aQ1,hS⟩:=aU hS
   refine Zu (cN (V0 aB jS aQ1) rfl (fun _ _=>rfl)) ?_
   obtain ⟨b24,hS⟩:=bS hS
   refine Zu (cK rfl rfl b24) ?_
   refine Za ?_
   refine VL.mt (aDb+1) [0,1,2,3] (fun _ _ h=>h) hS rfl
  refine VC.fZ n_3 [0,1,2,3] (fun _ _ h=>h) hS rfl
 clear hS
 rintro DR hS
 refine Zq (Zr ?_)
 refine Zy ?_
 refine Zu (nT Tryz.underlying9 rfl) ?_
 obtain ⟨b28,hS⟩:=bS hS
 refine Zu (cK rfl rfl b28) ?_
 refine Zu (aGb rfl) ?_
 refine Zy ?_
 refine Zq (Zr ?_)
 refine Zm ?_
 obtain ⟨b31,hS⟩:=bS hS
 refine VL.make (α:=aV) (z:=[]) Tryz.underlying23 aTy (by decide) rfl rfl b31.1 (Int.le_refl _) (by omega) (by omega) (by decide) (fun aOy aRw => ?_)
 replace hS:=b5 aRw hS
 refine Zy ?_
 refine VC.keep (ρ':=[(0,str aB),(1,str jS),(2,i64 sepSave_2),(3,i64 (min DR ((aB.length:Int)+1))),(9,aOy.val)]) [0,1,2,3,9] rfl ?_
 refine Zq (Zr ?_)
 refine Zm ?_
 obtain ⟨b33,hS⟩:=bS hS
 refine Zu (o7 rfl rfl b33) ?_
 refine Zy ?_
 refine Zq (Zr ?_)
 refine Zy ?_
 refine VC.gD (S:=aV×Sv aV×Int) (fun sg=>(sg.1,sg.2.1.l,sg.2.2)) (fun sg=>[(0,str sg.1),(9,sg.2.1.val),(10,i64 sg.2.2)]) (fun sg=>Mo.tt) (fun sg=>Ow.star (Sv.own sg.2.1 9) (Ow.emp)) hS ?_ ?_
 ·
  clear hS
  intro k10 hS
  refine Zb ?_
  refine VC.iter (S:=aV×Sv aV×Int) (fun sg=>(sg.1,sg.2.1.l,sg.2.2)) (fun sg=>[(0,str sg.1),(1,str jS),(2,i64 sepSave_2),(3,i64 ((min DR ((aB.length:Int)+1)) - 1)),(9,sg.2.1.val),(10,i64 sg.2.2)]) (fun sg=>Mo.tt) (fun sg=>Ow.star (Sv.own sg.2.1 9) (Ow.emp)) (aB,aOy,0) [0,1,2,3,9,10] hS rfl ?_
  clear hS
  rintro ⟨CY,IJ,v8⟩ m1 y1 hS hK1
  refine Zq (Zq (Zr ?_))
  refine Zy ?_
  refine Zu (dL rfl rfl) ?_
  refine Zl ?_
  refine Zc hS (fun h36 hS => ?_) (fun h36 hS => ?_)
  ·
   refine Zk ?_
   refine Zb (Zq (Zr ?_))
   refine Zy ?_
   obtain ⟨yE,aLw,hS⟩:=aU hS
   refine Zu (cN (wF CY jS aLw) rfl (fun _ _=>rfl)) ?_
   refine Zy ?_
   refine Zq (Zq (Zr ?_))
   refine Zm ?_
   refine Zu (dL rfl rfl) ?_
   refine Zl ?_
   refine VC.keep (ρ':=[(0,str CY),(1,str jS),(2,i64 sepSave_2),(3,i64 ((min DR ((aB.length:Int)+1)) - 1)),(9,IJ.val),(10,i64 v8),(11,i64 yE),(41,.bool (decide (yE < 0)))]) [0,1,2,3,9,10,11,41] rfl ?_
   refine Zc hS (fun h41 hS => ?_) (fun h41 hS => ?_)
   ·
    replace hS:=gQ hS hK1
    refine VC.eM (CY,IJ,v8) [0,9,10] (fun _ _ h=>h) hS rfl
   refine Zk ?_
   refine Zq (Zr ?_)
   refine Zy ?_
   obtain ⟨b47,hS⟩:=bS hS
   refine Zu (cK rfl rfl b47) ?_
   obtain ⟨b48,hS⟩:=bS hS
   obtain ⟨ZD,aMH,hS⟩:=AF hS
   refine Zu (VV Tryz.underlying9 rfl rfl b48.1 b48.2 aMH) ?_
   obtain ⟨aTt,aFS,aEl,hS⟩:=e8 hS
   refine Zu (l5 (s:=IJ) Tryz.underlying23 o4 rfl rfl aFS (bQ aFS aEl)) ?_
   refine VL.sJ (s:=IJ) (T:=9) (j:=0) (vc:=[str ZD]) (ZD:aV) (by decide) rfl rfl aEl rfl o4 rfl rfl (Nat.le_of_ble_eq_true rfl) rfl (fun w17 hw17 haw17 hcw17 hvw17 hbw17 how17 => ?_)
   rw [← hvw17]
   replace hS:=b5 hw17 hS
   refine Zl ?_
   refine VC.keep (ρ':=[(0,str CY),(1,str jS),(2,i64 sepSave_2),(3,i64 ((min DR ((aB.length:Int)+1)) - 1)),(9,w17.val),(10,i64 v8),(11,i64 yE)]) [0,1,2,3,9,10,11] rfl ?_
   refine Zq (Zr ?_)
   refine Zy ?_
   refine Zu (nT Tryz.underlying9 rfl) ?_
   obtain ⟨b54,hS⟩:=bS hS
   refine Zu (cK rfl rfl b54) ?_
   obtain ⟨b55,hS⟩:=bS hS
   obtain ⟨QO,aMT,hS⟩:=AF hS
   refine Zu (J9 Tryz.underlying9 rfl rfl b55.1 b55.2 aMT) ?_
   refine Zy ?_
   refine VC.keep (ρ':=[(0,str QO),(1,str jS),(2,i64 sepSave_2),(3,i64 ((min DR ((aB.length:Int)+1)) - 1)),(9,w17.val),(10,i64 v8)]) [0,1,2,3,9,10] rfl ?_
   refine Zr ?_
   refine Zm ?_
   obtain ⟨b57,hS⟩:=bS hS
   refine Zu (cK rfl rfl b57) ?_
   refine Za ?_
   refine VL.jC (QO,w17,(v8+1)) [0,1,2,3,9,10] (fun _ _ h=>h) (go2 hS hK1) rfl
  replace hS:=gQ hS hK1
  refine VC.eM (CY,IJ,v8) [0,9,10] (fun _ _ h=>h) hS rfl
 clear hS
 rintro ⟨aIp,aEA,SK⟩ hS
 refine Zq (Zr ?_)
 refine Zy ?_
 obtain ⟨aKD,aFX,aEp,hS⟩:=e8 hS
 refine Zu (l5 (s:=aEA) Tryz.underlying23 o4 rfl rfl aFX (bQ aFX aEp)) ?_
 refine VL.sJ (s:=aEA) (T:=9) (j:=0) (vc:=[str aIp]) (aIp:aV) (by decide) rfl rfl aEp rfl o4 rfl rfl (Nat.le_of_ble_eq_true rfl) rfl (fun w21 hw21 haw21 hcw21 hvw21 hbw21 how21 => ?_)
 rw [← hvw21]
 replace hS:=b5 hw21 hS
 refine Zl ?_
 refine Zq (Zr ?_)
 refine Zy ?_
 obtain ⟨b64,hS⟩:=bS hS
 refine Zu (cK rfl rfl b64) ?_
 refine VL.shut w21 9 (fun _ _ _ _=>trivial) ?_
 obtain ⟨b65,hS⟩:=bS hS
 refine VL.sto Tryz.underlying23 o4 rfl rfl b65.1 (b65.2) (by decide) fun aIy aNv => ?_
 replace hS:=b5 aNv hS
 refine Zy ?_
 refine VC.keep (ρ':=[(8,aIy.val)]) [8] rfl ?_
 cases hS
 exact VC.ret (fA (.inr rfl) rfl rfl aIy rfl rfl (by (try dsimp only); exact cO.out) (fun _ _=>trivial))
theorem H6 (aB:aV) (jS:aV) {r:List aV} (hS:Sh.uA aB jS=some r) :
 Ct Tryz.prog 85 [str aB,str jS] Mo.tt (Ow.emp) (X:=Sv aV) (fun x=>x.val) (fun x=>r=x.l) (fun x=>x.ok) (fun x=>Ow.emp):=by
 refine Zo Tryz.func85 Tryz.ntmps85 fun c => ?_
 unfold Sh.uA at hS
 refine Zq (Zr ?_)
 refine Zy ?_
 refine Zq (Zr ?_)
 refine Zy ?_
 obtain ⟨iR,lI,hS⟩:=aU hS
 refine VL.cR (OX aB jS 0 (-1) lI) rfl (by decide) ?_
 rintro lY rfl
 try dsimp only
 refine Zy ?_
 cases hS
 exact VC.ret (fA (.inr rfl) rfl rfl lY rfl rfl (by (try dsimp only); exact cO.out) (fun _ _=>trivial))
theorem aB9 (cB:Int) {r:Bool} (hS:Sh.GJ cB=some r) :
 Ct Tryz.prog 184 [.int .u8 cB] Mo.tt (Ow.emp) (X:=Unit) (fun _ => .bool r) (fun _=>True) (fun _=>Mo.tt) (fun _=>Ow.emp):=by
 refine Zo Tryz.func184 Tryz.ntmps184 fun c => ?_
 unfold Sh.GJ at hS
 refine Zq (Zr ?_)
 refine Zy ?_
 refine VC.gD (S:=Unit) (fun (_:Unit)=>()) (fun (_:Unit)=>[(0,.int .u8 cB)]) (fun (_:Unit)=>Mo.tt) (fun (_:Unit)=>Ow.emp) hS ?_ ?_
 ·
  clear hS
  intro k1 hS
  refine Zq (Zr ?_)
  refine Zy ?_
  refine Zb ?_
  refine VC.gD (S:=Unit) (fun (_:Unit)=>()) (fun (_:Unit)=>[]) (fun (_:Unit)=>Mo.tt) (fun (_:Unit)=>Ow.emp) hS ?_ ?_
  ·
   clear hS
   intro k2 hS
   refine Zb (Zb (Zb (Zq (Zq (Zq (Zr ?_))))))
   refine Zu (hU rfl rfl) ?_
   refine Zy ?_
   refine Zc hS (fun h4 hS => ?_) (fun h4 hS => ?_)
   ·
    refine VC.eM () [] (fun _ _ h=>h) hS rfl
   refine Zk ?_
   refine Zq (Zq (Zr ?_))
   refine Zu (hU rfl rfl) ?_
   refine Zy ?_
   refine Zc hS (fun h6 hS => ?_) (fun h6 hS => ?_)
   ·
    refine VC.eM () [] (fun _ _ h=>h) hS rfl
   refine Zk ?_
   refine Zq (Zr ?_)
   refine Zu (hU rfl rfl) ?_
   refine Zy ?_
   refine Zc hS (fun h8 hS => ?_) (fun h8 hS => ?_)
   ·
    refine VC.eM () [] (fun _ _ h=>h) hS rfl
   refine Zk ?_
   refine VC.eM () [0] (fun _ _ h=>h) hS rfl
  clear hS
  rintro _ hS
  refine Zq (Zq (Zr ?_))
  refine Zy ?_
  cases hS
  exact Ze
 clear hS
 rintro _ hS
 refine Zq (Zr ?_)
 refine Zm ?_
 refine Zu (qF rfl rfl) ?_
 refine Zm ?_
 refine mF 12 hS (fun h12 hS => ?_) (fun h12 hS => ?_)
 ·
  refine Zg ?_
  refine Zh (SX rfl rfl) ?_
  refine Zy ?_
  refine mF 16 hS (fun h16 hS => ?_) (fun h16 hS => ?_)
  ·
   refine VL.runs 8 [(2,some true)] (by kernel_rfl) ?_
   refine Zl ?_
   cases hS
   exact Ze
  refine Zg ?_
  refine Zh (qF rfl rfl) ?_
  refine Zg ?_
  refine mF 19 hS (fun h19 hS => ?_) (fun h19 hS => ?_)
  ·
   refine Zg ?_
   refine Zh (SX rfl rfl) ?_
   refine Zh (jR rfl rfl) ?_
   refine Zy ?_
   refine VC.keep (ρ':=[(2,.bool (decide (cB≤57)))]) [2] rfl ?_
   cases hS
   exact Ze
  refine Zy ?_
  refine Zh (iG rfl rfl) ?_
  refine Zy ?_
  refine VC.keep (ρ':=[(2,.bool false)]) [2] rfl ?_
  cases hS
  exact Ze
 refine VL.runs 4 [(16,some false)] (by kernel_rfl) ?_
 refine Zg ?_
 refine Zh (qF rfl rfl) ?_
 refine Zg ?_
 refine mF 19 hS (fun h19 hS => ?_) (fun h19 hS => ?_)
 ·
  refine Zg ?_
  refine Zh (SX rfl rfl) ?_
  refine Zh (jR rfl rfl) ?_
  refine Zy ?_
  refine VC.keep (ρ':=[(2,.bool (decide (cB≤57)))]) [2] rfl ?_
  cases hS
  exact Ze
 refine Zy ?_
 refine Zh (iG rfl rfl) ?_
 refine Zy ?_
 refine VC.keep (ρ':=[(2,.bool false)]) [2] rfl ?_
 cases hS
 exact Ze
theorem aBa (aB:aV) {r:Bool} (hS:Sh.GK aB=some r) :
 Ct Tryz.prog 111 [str aB] Mo.tt (Ow.emp) (X:=Unit) (fun _ => .bool r) (fun _=>True) (fun _=>Mo.tt) (fun _=>Ow.emp):=by
 refine Zo Tryz.func111 Tryz.ntmps111 fun c => ?_
 unfold Sh.GK at hS
 refine Zq (Zr ?_)
 refine Zy ?_
 refine Zq ?_
 refine VC.gD (S:=Bool) (fun (pE:Bool)=>pE) (fun (pE:Bool)=>[(0,str aB),(14,.bool pE)]) (fun (pE:Bool)=>Mo.tt) (fun (pE:Bool)=>Ow.emp) hS ?_ ?_
 ·
  clear hS
  intro k2 hS
  refine Zr ?_
  refine Zy ?_
  refine mF 7 hS (fun h7 hS => ?_) (fun h7 hS => ?_)
  ·
   refine VL.runs 7 [(14,some true)] (by kernel_rfl) ?_
   refine VL.mt true [0,14] (fun _ _ h=>h) hS rfl
  refine Zg ?_
  refine Zh (yK rfl rfl) ?_
  refine Zy ?_
  refine mF 11 hS (fun h11 hS => ?_) (fun h11 hS => ?_)
  ·
   refine VL.runs 3 [(14,some true)] (by kernel_rfl) ?_
   refine VL.mt true [0,14] (fun _ _ h=>h) hS rfl
  refine Zg ?_
  refine Zh (yK rfl rfl) ?_
  refine Zf ?_
  refine VL.mt (decide (aB=[46,46])) [0,14] (fun _ _ h=>h) hS rfl
 clear hS
 rintro pE hS
 refine iT hS (fun h14 hS => ?_) (fun h14 hS => ?_)
 ·
  refine Zq (Zr ?_)
  refine Zy ?_
  cases hS
  exact Ze
 refine Zk ?_
 refine Zq (Zq (Zr ?_))
 refine Zm ?_
 obtain ⟨b16,hS⟩:=bS hS
 refine VL.s2b Tryz.underlying9 Tryz.underlying124 Tryz.underlying5 rfl b16 (by decide) fun S5 aCt => ?_
 replace hS:=b5 aCt hS
 refine Zu (dO (s:=S5) Tryz.underlying124 rfl) ?_
 refine Zy ?_
 refine Zb ?_
 refine VC.iter (S:=Int) (fun (EK:Int)=>EK) (fun (EK:Int)=>[(16,S5.val),(17,i64 (S5.l.length:Int)),(18,i64 EK)]) (fun (EK:Int)=>Mo.tt) (fun (EK:Int)=>Ow.emp) 0 [16,17,18] hS rfl ?_
 clear hS
 rintro EK m1 y1 hS hK1
 refine Zq (Zr ?_)
 refine Zu (dL rfl rfl) ?_
 refine Zl ?_
 refine Zq ?_
 refine Zc hS (fun h19 hS => ?_) (fun h19 hS => ?_)
 ·
  refine Zk ?_
  refine Zq (Zb (Zq (Zr ?_)))
  obtain ⟨aHK,aIV,aHj,hS⟩:=e8 hS
  refine Zu (fM (s:=S5) Tryz.underlying124 aE5 rfl rfl aIV (bQ aIV aHj)) ?_
  refine Zu (rH (s:=S5) aGZ rfl aHj rfl) ?_
  refine Zy ?_
  refine Zq (Zr ?_)
  refine Zm ?_
  obtain ⟨aBQ,aCb,hS⟩:=aU hS
  refine Zu (cN (aB9 (aHK.toNat:Int) aCb) rfl (fun _ _=>rfl)) ?_
  refine Zu (lN rfl) ?_
  refine Zl ?_
  refine iT hS (fun h24 hS => ?_) (fun h24 hS => ?_)
  ·
   refine Zq (Zr ?_)
   refine Zy ?_
   refine VC.keep (ρ':=[(2,.bool false)]) [2] rfl ?_
   replace hS:=gQ hS hK1
   cases hS
   exact Ze
  refine Zk ?_
  refine Zr ?_
  obtain ⟨b25,hS⟩:=bS hS
  refine Zu (cK rfl rfl b25) ?_
  refine Zm ?_
  refine VL.jC (EK+1) [16,17,18] (fun _ _ h=>h) (go2 hS hK1) rfl
 replace hS:=gQ hS hK1
 refine Zx ?_
 refine Zq (Zr ?_)
 refine Zy ?_
 cases hS
 exact Ze
theorem N4 (yZ:aV) {r:Int} (hS:Sh.AH yZ=some r) :
 Ct Tryz.prog 69 [str yZ] Mo.tt (Ow.emp) (X:=Unit) (fun _=>i64 r) (fun _=>True) (fun _=>Mo.tt) (fun _=>Ow.emp):=by
 refine Zo Tryz.func69 Tryz.ntmps69 fun c => ?_
 unfold Sh.AH at hS
 refine Zq (Zr ?_)
 refine Zy ?_
 refine Zq (Zq (Zr ?_))
 refine Zm ?_
 refine Zu (nT Tryz.underlying9 rfl) ?_
 refine Zu (jF rfl rfl) ?_
 refine Zl ?_
 refine Zc hS (fun h7 hS => ?_) (fun h7 hS => ?_)
 ·
  refine Zq (Zr ?_)
  refine Zy ?_
  cases hS
  exact Ze
 refine Zk ?_
 refine Zq (Zq (Zr ?_))
 refine Zm ?_
 obtain ⟨PT,aGW,hS⟩:=aU hS
 refine VL.cR (H6 yZ [47] aGW) rfl (by decide) ?_
 rintro VQ rfl
 try dsimp only
 refine Zu (dO (s:=VQ) Tryz.underlying23 rfl) ?_
 refine Zy ?_
 refine Zb ?_
 refine VC.iter (S:=Int) (fun (nH:Int)=>nH) (fun (nH:Int)=>[(9,VQ.val),(10,i64 (VQ.l.length:Int)),(11,i64 nH)]) (fun (nH:Int)=>Mo.tt) (fun (nH:Int)=>Ow.emp) 0 [9,10,11] hS rfl ?_
 clear hS
 rintro nH m1 y1 hS hK1
 refine Zq (Zr ?_)
 refine Zu (dL rfl rfl) ?_
 refine Zl ?_
 refine Zq ?_
 refine Zc hS (fun h12 hS => ?_) (fun h12 hS => ?_)
 ·
  refine Zk ?_
  refine Zq (Zb (Zq (Zr ?_)))
  obtain ⟨PW,U5,P7,hS⟩:=e8 hS
  refine Zu (fM (s:=VQ) Tryz.underlying23 o4 rfl rfl U5 (bQ U5 P7)) ?_
  refine Zu (rH (s:=VQ) dK rfl P7 rfl) ?_
  refine Zy ?_
  refine Zq (Zr ?_)
  refine Zm ?_
  obtain ⟨qK,K8,hS⟩:=aU hS
  refine Zu (cN (aBa PW K8) rfl (fun _ _=>rfl)) ?_
  refine Zu (lN rfl) ?_
  refine Zl ?_
  refine iT hS (fun h17 hS => ?_) (fun h17 hS => ?_)
  ·
   refine Zq (Zr ?_)
   refine Zy ?_
   refine VC.keep (ρ':=[(2,i64 5)]) [2] rfl ?_
   replace hS:=gQ hS hK1
   cases hS
   exact Ze
  refine Zk ?_
  refine Zr ?_
  obtain ⟨b18,hS⟩:=bS hS
  refine Zu (cK rfl rfl b18) ?_
  refine Zm ?_
  refine VL.jC (nH+1) [9,10,11] (fun _ _ h=>h) (go2 hS hK1) rfl
 replace hS:=gQ hS hK1
 refine Zx ?_
 refine Zq (Zr ?_)
 refine Zy ?_
 cases hS
 exact Ze
theorem zP (aB:aV) (oU:aV) {r:Bool} (hS:Sh.lE aB oU=some r) :
 Ct Tryz.prog 202 [str aB,str oU] Mo.tt (Ow.emp) (X:=Unit) (fun _ => .bool r) (fun _=>True) (fun _=>Mo.tt) (fun _=>Ow.emp):=by
 refine Zo Tryz.func202 Tryz.ntmps202 fun c => ?_
 unfold Sh.lE at hS
 refine Zq (Zr ?_)
 refine Zy ?_
 refine Zq (Zr ?_)
 refine Zm ?_
 refine Zu (nT Tryz.underlying9 rfl) ?_
 refine Zm ?_
 refine Zu (nT Tryz.underlying9 rfl) ?_
 refine Zu (qF rfl rfl) ?_
 refine Zm ?_
 refine mF 10 hS (fun h10 hS => ?_) (fun h10 hS => ?_)
 ·
  refine Zy ?_
  refine Zh (nT Tryz.underlying9 rfl) ?_
  obtain ⟨b14,hS⟩:=bS hS
  obtain ⟨MJ,T5,hS⟩:=AF hS
  refine Zh (VV Tryz.underlying9 rfl rfl b14.1 b14.2 T5) ?_
  refine Zg ?_
  refine Zh (yK rfl rfl) ?_
  refine Zy ?_
  refine VC.keep (ρ':=[(4,.bool (decide (MJ=oU)))]) [4] rfl ?_
  cases hS
  exact Ze
 refine VL.runs 8 [(4,some false)] (by kernel_rfl) ?_
 refine Zl ?_
 cases hS
 exact Ze
theorem ND (aB:aV) (oU:aV) {r:Bool} (hS:Sh.uS aB oU=some r) :
 Ct Tryz.prog 118 [str aB,str oU] Mo.tt (Ow.emp) (X:=Unit) (fun _ => .bool r) (fun _=>True) (fun _=>Mo.tt) (fun _=>Ow.emp):=by
 refine Zo Tryz.func118 Tryz.ntmps118 fun c => ?_
 unfold Sh.uS at hS
 refine Zq (Zr ?_)
 refine Zy ?_
 refine Zq (Zr ?_)
 refine Zy ?_
 obtain ⟨iR,lI,hS⟩:=aU hS
 refine Zu (cN (zP aB oU lI) rfl (fun _ _=>rfl)) ?_
 refine Zy ?_
 cases hS
 exact Ze
theorem N5 (yZ:aV) (NL:aV) {r:Bool} (hS:Sh.AJ yZ NL=some r) :
 Ct Tryz.prog 78 [str yZ,str NL] Mo.tt (Ow.emp) (X:=Unit) (fun _ => .bool r) (fun _=>True) (fun _=>Mo.tt) (fun _=>Ow.emp):=by
 refine Zo Tryz.func78 Tryz.ntmps78 fun c => ?_
 unfold Sh.AJ at hS
 refine Zq (Zr ?_)
 refine Zy ?_
 refine Zq (Zq (Zr ?_))
 refine Zy ?_
 refine Zc hS (fun h6 hS => ?_) (fun h6 hS => ?_)
 ·
  refine Zq (Zr ?_)
  refine Zm ?_
  refine Zu (rL rfl rfl) ?_
  refine Zy ?_
  cases hS
  exact Ze
 refine Zk ?_
 refine Zq (Zr ?_)
 refine Zm ?_
 refine Zu (nT Tryz.underlying9 rfl) ?_
 refine Zm ?_
 refine Zu (nT Tryz.underlying9 rfl) ?_
 obtain ⟨b13,hS⟩:=bS hS
 refine Zu (cK rfl rfl b13) ?_
 refine Zu (jF rfl rfl) ?_
 refine Zm ?_
 refine mF 15 hS (fun h15 hS => ?_) (fun h15 hS => ?_)
 ·
  refine Zy ?_
  obtain ⟨b18,hS⟩:=bS hS
  obtain ⟨X6,aC7,hS⟩:=AF hS
  refine Zh (QG rfl rfl b18 aC7) ?_
  obtain ⟨aGo,aQP,hS⟩:=aU hS
  refine Zh (cN (ND yZ X6 aQP) rfl (fun _ _=>rfl)) ?_
  refine Zy ?_
  refine VC.keep (ρ':=[(4,.bool aGo)]) [4] rfl ?_
  cases hS
  exact Ze
 refine VL.runs 6 [(4,some false)] (by kernel_rfl) ?_
 refine Zl ?_
 refine VC.keep (ρ':=[(4,.bool false)]) [4] rfl ?_
 cases hS
 exact Ze
theorem wR (bU:aV) (b_1:aV) {r:Bool} (hS:Sh.rY bU b_1=some r) :
 Ct Tryz.prog 47 [str bU,str b_1] Mo.tt (Ow.emp) (X:=Unit) (fun _ => .bool r) (fun _=>True) (fun _=>Mo.tt) (fun _=>Ow.emp):=by
 refine Zo Tryz.func47 Tryz.ntmps47 fun c => ?_
 unfold Sh.rY at hS
 refine Zq (Zr ?_)
 refine Zy ?_
 refine Zq (Zr ?_)
 refine Zm ?_
 refine Zu (rL rfl rfl) ?_
 refine Zm ?_
 refine NH 7 hS (fun h7 hS => ?_) (fun h7 hS => ?_)
 ·
  refine Zg ?_
  refine Zh (rL rfl rfl) ?_
  refine Zy ?_
  refine NH 11 hS (fun h11 hS => ?_) (fun h11 hS => ?_)
  ·
   refine Zy ?_
   obtain ⟨MJ,T5,hS⟩:=aU hS
   refine Zh (cN (N5 bU b_1 T5) rfl (fun _ _=>rfl)) ?_
   refine Zg ?_
   refine uV 15 hS (fun h15 hS => ?_) (fun h15 hS => ?_)
   ·
    refine VL.runs 3 [(18,none)] (by kernel_rfl) ?_
    refine Zh (jR rfl rfl) ?_
    refine Zy ?_
    refine VC.keep (ρ':=[(4,.bool true)]) [4] rfl ?_
    cases hS
    exact Ze
   refine Zy ?_
   obtain ⟨aBL,aQM,hS⟩:=aU hS
   refine Zh (cN (N5 b_1 bU aQM) rfl (fun _ _=>rfl)) ?_
   refine Zh (iG rfl rfl) ?_
   refine Zy ?_
   refine VC.keep (ρ':=[(4,.bool aBL)]) [4] rfl ?_
   cases hS
   exact Ze
  refine VL.runs 10 [(4,some false)] (by kernel_rfl) ?_
  refine Zl ?_
  cases hS
  exact Ze
 refine VL.runs 14 [(4,some false)] (by kernel_rfl) ?_
 refine Zl ?_
 cases hS
 exact Ze
theorem M9 (kJ:aD) (gS:Nat) (a_1:aD) {r:Bool} (hS:Sh.qQ kJ a_1=some r) :
 Ct Tryz.prog 71 [.agg #[str kJ.path,i64 kJ.mode,str kJ.data],ptr gS 0] (Cells gS 0 [str a_1.path,i64 a_1.mode,str a_1.data]) (Ow.emp) (X:=Unit) (fun _ => .bool r) (fun _=>True) (fun _=>Mo.tt) (fun _=>Ow.emp):=by
 refine Zo Tryz.func71 Tryz.ntmps71 fun c => ?_
 unfold Sh.qQ at hS
 refine Zq (Zr ?_)
 refine VL.box (cs:=[str kJ.path,i64 kJ.mode,str kJ.data]) rfl rfl (by decide) fun eP => ?_
 refine Zy ?_
 refine Zq (Zr ?_)
 refine Zu (aC oZ rfl) ?_
 refine Zu (aT dK rfl rfl) ?_
 refine Zu (aC oZ rfl) ?_
 refine Zu (CE dK rfl rfl) ?_
 obtain ⟨lQ,zK,hS⟩:=aU hS
 refine Zu (cN (wR kJ.path a_1.path zK) rfl (fun _ _=>rfl)) ?_
 refine Zy ?_
 cases hS
 exact Ze
theorem u9 (aB:Sv aD) (eC:Nat) (eU:aD) {r:Int} (hS:Sh.jA aB.l eU=some r) :
 Ct Tryz.prog 77 [aB.val,.func (.func 71) #[] #[ptr eC 0]] (aB.ok.and (Cells eC 0 [str eU.path,i64 eU.mode,str eU.data])) (Ow.emp) (X:=Unit) (fun _=>i64 r) (fun _=>True) (fun _=>Mo.tt) (fun _=>Ow.emp):=by
 refine Zo Tryz.func77 Tryz.ntmps77 fun c => ?_
 unfold Sh.jA at hS
 refine Zq (Zr ?_)
 refine Zy ?_
 refine Zq (Zq (Zr ?_))
 refine Zm ?_
 refine Zu (dO (s:=aB) Tryz.underlying35 rfl) ?_
 refine Zy ?_
 refine Zb ?_
 refine VC.iter (S:=Int) (fun (cS:Int)=>cS) (fun (cS:Int)=>[(0,aB.val),(1,.func (.func 71) #[] #[ptr eC 0]),(7,i64 (aB.l.length:Int)),(8,i64 cS)]) (fun (cS:Int)=>Mo.tt) (fun (cS:Int)=>Ow.emp) 0 [0,1,7,8] hS rfl ?_
 clear hS
 rintro cS m1 y1 hS hK1
 refine Zq (Zr ?_)
 refine Zu (dL rfl rfl) ?_
 refine Zl ?_
 refine Zq ?_
 refine Zc hS (fun h9 hS => ?_) (fun h9 hS => ?_)
 ·
  refine Zk ?_
  refine Zq (Zb (Zq (Zr ?_)))
  refine Zy ?_
  refine Zq (Zr ?_)
  refine Zy ?_
  obtain ⟨gF,mD,mC,hS⟩:=e8 hS
  refine Zu (fM (s:=aB) Tryz.underlying35 fP rfl rfl mD (bQ mD mC)) ?_
  refine Zu (lZ (s:=aB) i7 rfl rfl mC) ?_
  obtain ⟨kQ,rV,hS⟩:=aU hS
  refine Zu (tN (vs:=[.agg #[str gF.path,i64 gF.mode,str gF.data]]) (caps:=[ptr eC 0]) (M9 gF eC eU rV) rfl rfl (fun _ _=>rfl)) ?_
  refine Zl ?_
  refine VC.keep (ρ':=[(0,aB.val),(1,.func (.func 71) #[] #[ptr eC 0]),(7,i64 (aB.l.length:Int)),(8,i64 cS),(5,i64 cS),(16,.bool kQ)]) [0,1,7,8,5,16] rfl ?_
  refine iT hS (fun h16 hS => ?_) (fun h16 hS => ?_)
  ·
   refine Zq (Zr ?_)
   refine Zy ?_
   replace hS:=gQ hS hK1
   cases hS
   exact Ze
  refine Zk ?_
  refine Zr ?_
  obtain ⟨b18,hS⟩:=bS hS
  refine Zu (cK rfl rfl b18) ?_
  refine Zm ?_
  refine VL.jC (cS+1) [0,1,7,8] (fun _ _ h=>h) (go2 hS hK1) rfl
 replace hS:=gQ hS hK1
 refine Zx ?_
 refine Zq (Zr ?_)
 refine Zy ?_
 cases hS
 exact Ze
theorem tQ (aB:Sv aD) (eC:Nat) (eU:aD) {r:Bool} (hS:Sh.gI aB.l eU=some r) :
 Ct Tryz.prog 45 [aB.val,.func (.func 71) #[] #[ptr eC 0]] (aB.ok.and (Cells eC 0 [str eU.path,i64 eU.mode,str eU.data])) (Ow.emp) (X:=Unit) (fun _ => .bool r) (fun _=>True) (fun _=>Mo.tt) (fun _=>Ow.emp):=by
 refine Zo Tryz.func45 Tryz.ntmps45 fun c => ?_
 unfold Sh.gI at hS
 refine Zq (Zr ?_)
 refine Zy ?_
 refine Zq (Zr ?_)
 refine Zy ?_
 obtain ⟨iR,lI,hS⟩:=aU hS
 refine Zu (oO (u9 aB eC eU lI) rfl (fun _ _=>rfl)) ?_
 refine Zu (qF rfl rfl) ?_
 refine Zy ?_
 cases hS
 exact Ze
theorem QZ (dB:Sv aD) (i_1:Int) {r:Int} (hS:Sh.tG dB.l i_1=some r) :
 Ct Tryz.prog 40 [dB.val,i64 i_1] dB.ok (Ow.emp) (X:=Unit) (fun _=>i64 r) (fun _=>True) (fun _=>Mo.tt) (fun _=>Ow.emp):=by
 refine Zo Tryz.func40 Tryz.ntmps40 fun c => ?_
 unfold Sh.tG at hS
 refine Zq (Zr ?_)
 refine Zy ?_
 refine Zq (Zr ?_)
 refine Zy ?_
 obtain ⟨xF,aOR,aOE,hS⟩:=e8 hS
 refine Zu (fM (s:=dB) Tryz.underlying35 fP rfl rfl aOR (bQ aOR aOE)) ?_
 refine Zu (lZ (s:=dB) i7 rfl rfl aOE) ?_
 refine VL.alloc (cs:=[str [],i64 0,str []]) (by kernel_rfl) (by decide) fun aBm => ?_
 refine Zv (vc:=[str xF.path,i64 xF.mode,str xF.data]) (cs':=[str xF.path,i64 xF.mode,str xF.data]) rfl fP ?_
 refine Zl ?_
 refine Zq (Zq (Zr ?_))
 refine Zu (aC oZ rfl) ?_
 refine Zu (aT dK rfl rfl) ?_
 obtain ⟨zZ,K6,hS⟩:=aU hS
 refine Zu (cN (N4 xF.path K6) rfl (fun _ _=>rfl)) ?_
 refine Zy ?_
 refine VC.keep (ρ':=[(0,dB.val),(1,i64 i_1),(5,ptr aBm 0),(6,i64 zZ)]) [0,1,5,6] rfl ?_
 refine Zq (Zr ?_)
 refine Zm ?_
 refine Zu (vJ rfl rfl) ?_
 refine Zl ?_
 refine rI hS (fun h15 hS => ?_) (fun h15 hS => ?_)
 ·
  refine Zq (Zr ?_)
  refine Zy ?_
  cases hS
  exact Ze
 refine Zk ?_
 refine Zq (Zb ?_)
 refine VC.gD (S:=Bool) (fun (gY:Bool)=>gY) (fun (gY:Bool)=>[(0,dB.val),(1,i64 i_1),(5,ptr aBm 0),(17,.bool gY)]) (fun (gY:Bool)=>Mo.tt) (fun (gY:Bool)=>Ow.star (bP aBm [str xF.path,i64 xF.mode,str xF.data] 42) (Ow.emp)) hS ?_ ?_
 ·
  clear hS
  intro k5 hS
  refine Zr ?_
  refine Zu (aC JQ rfl) ?_
  refine Zu (aT fG rfl rfl) ?_
  refine Zu (vJ rfl rfl) ?_
  refine Zm ?_
  refine NH 21 hS (fun h21 hS => ?_) (fun h21 hS => ?_)
  ·
   refine Zh (aC JQ rfl) ?_
   refine Zh (aT fG rfl rfl) ?_
   refine Zh (vJ rfl rfl) ?_
   refine Zy ?_
   refine VL.mt (!decide (xF.mode=2)) [0,1,5,17] (fun _ _ h=>h) hS rfl
  refine VL.runs 5 [(17,some false)] (by kernel_rfl) ?_
  refine VL.mt false [0,1,5,17] (fun _ _ h=>h) hS rfl
 clear hS
 rintro gY hS
 refine iT hS (fun h17 hS => ?_) (fun h17 hS => ?_)
 ·
  refine Zq (Zr ?_)
  refine Zy ?_
  cases hS
  exact Ze
 refine Zq (Zr ?_)
 refine Zu (aC F8 rfl) ?_
 refine Zu (aT dK rfl rfl) ?_
 refine Zu (nT Tryz.underlying9 rfl) ?_
 refine Zu (jF rfl rfl) ?_
 refine Zy ?_
 refine Zc hS (fun h26 hS => ?_) (fun h26 hS => ?_)
 ·
  refine Zq (Zr ?_)
  refine Zy ?_
  cases hS
  exact Ze
 refine VC.gD (S:=Bool) (fun (PG:Bool)=>PG) (fun (PG:Bool)=>[(0,dB.val),(1,i64 i_1),(5,ptr aBm 0),(31,.bool PG)]) (fun (PG:Bool)=>Mo.tt) (fun (PG:Bool)=>Ow.star (bP aBm [str xF.path,i64 xF.mode,str xF.data] 42) (Ow.emp)) hS ?_ ?_
 ·
  clear hS
  intro k7 hS
  refine VC.draw ((List.range 15).map fun k=>(k,true)) mixed (by kernel_rfl) (by kernel_rfl) (by kernel_rfl) ?_
  refine Zw rfl (bT rfl) ?_
  refine Zw rfl (jF rfl rfl) ?_
  refine Zw rfl (bT rfl) ?_
  refine VD.uP 34 rfl (fun h34 => ?_) (fun h34 => ?_)
  ·
   replace hS:=MZ h34 hS
   refine Zi rfl (bT rfl) ?_
   refine Zi rfl (bT rfl) ?_
   obtain ⟨b37,hS⟩:=bS hS
   refine Zi rfl (o7 rfl rfl b37) ?_
   obtain ⟨aHR,aIb,aHx,hS⟩:=e8 hS
   refine Zi rfl (fM (s:=dB) Tryz.underlying35 fP rfl rfl aIb (bQ aIb aHx)) ?_
   refine Zi rfl (aC oZ rfl) ?_
   refine Zi rfl (XT (s:=dB) dK rfl aHx rfl) ?_
   refine Zi rfl (aC oZ rfl) ?_
   refine Zi rfl (aT dK rfl rfl) ?_
   obtain ⟨aHE,aRC,hS⟩:=aU hS
   refine Zi rfl (cN (CV aHR.path xF.path aRC) rfl (fun _ _=>rfl)) ?_
   refine Zi rfl (qF rfl rfl) ?_
   refine Zw rfl (jR rfl rfl) ?_
   refine Zw rfl (fT rfl) ?_
   refine VD.mt (decide (0≤aHE)) [0,1,5,31] (fun _ _ h=>h) hS rfl
  replace hS:=RD h34 hS
  refine Zd ?_
  refine Zd ?_
  refine Zd ?_
  refine Zd ?_
  refine Zd ?_
  refine Zd ?_
  refine Zd ?_
  refine Zd ?_
  refine Zd ?_
  refine Zd ?_
  refine Zw rfl (iG rfl rfl) ?_
  refine Zw rfl (fT rfl) ?_
  refine VD.mt false [0,1,5,31] (fun _ _ h=>h) hS rfl
 clear hS
 rintro PG hS
 refine iT hS (fun h31 hS => ?_) (fun h31 hS => ?_)
 ·
  refine Zq (Zr ?_)
  refine Zy ?_
  cases hS
  exact Ze
 refine Zq (Zr ?_)
 refine Zy ?_
 obtain ⟨b49,hS⟩:=bS hS
 refine VL.sto Tryz.underlying35 fP rfl rfl b49.1 (b49.2) (by decide) fun aSr aNg => ?_
 replace hS:=b5 aNg hS
 refine Zu (qH rfl) ?_
 obtain ⟨QN,Z7,hS⟩:=aU hS
 refine Zu (oO (tQ aSr aBm xF Z7) rfl (fun _ _=>rfl)) ?_
 refine Zy ?_
 refine iT hS (fun h46 hS => ?_) (fun h46 hS => ?_)
 ·
  refine Zq (Zr ?_)
  refine Zy ?_
  refine VC.keep (ρ':=[(4,i64 11)]) [4] rfl ?_
  cases hS
  exact Ze
 refine Zk ?_
 refine Zq (Zr ?_)
 refine Zy ?_
 refine VC.keep (ρ':=[(4,i64 0)]) [4] rfl ?_
 cases hS
 exact Ze
theorem yH (dB:Sv aD) {r:gR} (hS:Sh.oS dB.l=some r) :
 Ct Tryz.prog 24 [dB.val] dB.ok (Ow.emp) (X:=Er) (fun x=>x.val) (fun x=>r=x.pl) (fun x=>x.ok) (fun x=>Ow.emp):=by
 refine Zo Tryz.func24 Tryz.ntmps24 fun c => ?_
 unfold Sh.oS at hS
 refine Zq (Zr ?_)
 refine Zy ?_
 refine Zq (Zq (Zr ?_))
 refine Zm ?_
 refine Zu (dO (s:=dB) Tryz.underlying35 rfl) ?_
 refine Zu (jF rfl rfl) ?_
 refine Zl ?_
 refine Zc hS (fun h7 hS => ?_) (fun h7 hS => ?_)
 ·
  refine Zq (Zr ?_)
  refine Zu (BM Tryz.underlying81 (fun _ h=>by cases h) rfl) ?_
  refine Zu (fH (vs:=[(0,str [102,105,108,101]),(1,i64 64),(2,(Er.no 4).val)]) (cs := #[str [102,105,108,101],i64 64,(Er.no 4).val]) rfl (by kernel_rfl)) ?_
  refine VL.box (cs:=[str [102,105,108,101],i64 64,(Er.no 4).val]) rfl rfl (by decide) fun AQ => ?_
  refine VL.aBD AQ ?_
  refine Zu (BM Tryz.underlying84 (fun _ h=>by cases h) rfl) ?_
  refine Zy ?_
  cases hS
  exact VC.ret (fA (.inr rfl) rfl rfl (Er.fault AQ [102,105,108,101] 64 (Er.no 4)) rfl rfl (by (try dsimp only); exact cO.out) (fun _ _=>trivial))
 refine Zk ?_
 refine Zq (Zq (Zr ?_))
 refine Zm ?_
 refine Zu (dO (s:=dB) Tryz.underlying35 rfl) ?_
 refine Zy ?_
 refine Zb ?_
 refine VC.iter (S:=Int) (fun (uB:Int)=>uB) (fun (uB:Int)=>[(0,dB.val),(13,i64 (dB.l.length:Int)),(14,i64 uB)]) (fun (uB:Int)=>Mo.tt) (fun (uB:Int)=>Ow.emp) 0 [0,13,14] hS rfl ?_
 clear hS
 rintro uB m1 y1 hS hK1
 refine Zq (Zr ?_)
 refine Zu (dL rfl rfl) ?_
 refine Zl ?_
 refine Zq ?_
 refine Zc hS (fun h15 hS => ?_) (fun h15 hS => ?_)
 ·
  refine Zk ?_
  refine Zq (Zb (Zq (Zr ?_)))
  refine Zy ?_
  refine Zq (Zr ?_)
  refine Zy ?_
  obtain ⟨G9,aC8,hS⟩:=aU hS
  refine Zu (cN (QZ dB uB aC8) rfl (fun _ _=>rfl)) ?_
  refine Zy ?_
  refine Zq (Zr ?_)
  refine Zm ?_
  refine Zu (vJ rfl rfl) ?_
  refine Zl ?_
  refine rI hS (fun h21 hS => ?_) (fun h21 hS => ?_)
  ·
   refine Zq (Zr ?_)
   refine Zy ?_
   refine Zu (BM Tryz.underlying81 (fun _ h=>by cases h) rfl) ?_
   refine Zu (fH (vs:=[(0,str [102,105,108,101]),(1,i64 uB),(2,(Er.no G9).val)]) (cs := #[str [102,105,108,101],i64 uB,(Er.no G9).val]) rfl (by kernel_rfl)) ?_
   refine VL.box (cs:=[str [102,105,108,101],i64 uB,(Er.no G9).val]) rfl rfl (by decide) fun aGN => ?_
   refine VL.aBD aGN ?_
   refine Zu (BM Tryz.underlying84 (fun _ h=>by cases h) rfl) ?_
   refine Zy ?_
   refine VC.keep (ρ':=[(2,(Er.fault aGN [102,105,108,101] uB (Er.no G9)).val)]) [2] rfl ?_
   replace hS:=gQ hS hK1
   cases hS
   exact VC.ret (fA (.inr rfl) rfl rfl (Er.fault aGN [102,105,108,101] uB (Er.no G9)) rfl rfl (by (try dsimp only); exact cO.out) (fun _ _=>trivial))
  refine Zk ?_
  refine VC.keep (ρ':=[(0,dB.val),(13,i64 (dB.l.length:Int)),(14,i64 uB)]) [0,13,14] rfl ?_
  refine Zr ?_
  obtain ⟨b28,hS⟩:=bS hS
  refine Zu (cK rfl rfl b28) ?_
  refine Zm ?_
  refine VL.jC (uB+1) [0,13,14] (fun _ _ h=>h) (go2 hS hK1) rfl
 replace hS:=gQ hS hK1
 refine Zx ?_
 refine Zq (Zr ?_)
 refine Zy ?_
 cases hS
 exact VC.ret (fA (.inr rfl) rfl rfl .nil rfl rfl (by (try dsimp only); exact cO.out) (fun _ _=>trivial))
theorem aBe (WW:Er) {r:gR} (hS:Sh.S2 WW.pl=some r) :
 Ct Tryz.prog 81 [WW.val] WW.ok (Ow.emp) (X:=Er) (fun x=>x.val) (fun x=>r=x.pl) (fun x=>x.ok) (fun x=>Ow.emp):=by
 refine Zo Tryz.func81 Tryz.ntmps81 fun c => ?_
 unfold Sh.S2 at hS
 refine Zq (Zr ?_)
 refine Zy ?_
 refine Zq (Zr ?_)
 refine VL.alloc (cs:=[i64 0]) (by kernel_rfl) (by decide) fun iM => ?_
 refine Zl ?_
 refine Zq (Zq (Zr ?_))
 refine Zm ?_
 refine Zu (BM Tryz.underlying204 (fun _ h=>by cases h) rfl) ?_
 rcases WW with _ | _ | ⟨_,_,_,_⟩
 rotate_left
 ·
  exact absurd hS (by simp [Er.pl])
 ·
  exact absurd hS (by simp [Er.pl])
 dsimp only [Er.pl] at hS
 refine VL.cR (aGK _) rfl (by decide) ?_
 rintro _ _
 refine Zl ?_
 refine VC.vY rfl ?_
 refine Zk ?_
 refine Zq (Zr ?_)
 refine Zy ?_
 cases hS
 exact VC.ret (fA (.inr rfl) rfl rfl (Er.nil) rfl rfl (by (try dsimp only); exact cO.out) (fun _ _=>trivial))
theorem gV (aB:Sv aD) {r:List aD} (hS:Sh.fX aB.l=some r) :
 Ct Tryz.prog 123 [aB.val] aB.ok (Ow.emp) (X:=Sv aD) (fun x=>x.val) (fun x=>r=x.l) (fun x=>Mo.tt) (fun x=>Sv.own x 42):=by
 refine Zo Tryz.func123 Tryz.ntmps123 fun c => ?_
 unfold Sh.fX at hS
 refine Zq (Zr ?_)
 refine Zy ?_
 refine Zq (Zq (Zr ?_))
 refine Zm ?_
 refine Zu (DZ (s:=aB) Tryz.underlying35 rfl) ?_
 refine Zl ?_
 refine VC.slnil (s:=aB) rfl (fun h4 => ?_) ?_
 ·
  have hS:(some [])=some r:=by
    simp [lt,gd,h4] at hS ⊢
    try exact hS
  refine Zq (Zr ?_)
  refine Zy ?_
  refine VC.lR (⟨none,0,[]⟩:Sv aD) 42 ⟨rfl,rfl⟩ ?_
  cases hS
  exact VC.ret (fA (.inr rfl) rfl rfl ⟨none,0,[]⟩ rfl rfl (by (try dsimp only); exact cO.out) (by (try dsimp only); exact eT.out))
 refine Zk ?_
 refine Zq (Zr ?_)
 refine VL.YE (α:=aD) Tryz.underlying35 aRU (by decide) (fun wY qD uM => ?_)
 refine VL.lR wY 42 ⟨uM,qD⟩ ?_
 replace hS:=b5 qD hS
 refine Zm ?_
 obtain ⟨b7,hS⟩:=bS hS
 refine VL.app (s:=wY) (r:=aB) Tryz.underlying35 P3 (by decide) rfl Fo.out (uW b7) (uX b7 (by decide)) (by decide) (fun GY yI => ?_)
 replace hS:=b5 yI hS
 refine Zy ?_
 cases hS
 exact VC.ret (fA (.inr rfl) rfl rfl GY rfl rfl (by (try dsimp only); exact cO.out) (by (try dsimp only); exact eT.out))
theorem B9 (zL:aD) (gS:Nat) (a_1:aV) {r:Bool} (hS:Sh.uL zL a_1=some r) :
 Ct Tryz.prog 124 [.agg #[str zL.path,i64 zL.mode,str zL.data],ptr gS 0] (Cells gS 0 [str a_1]) (Ow.emp) (X:=Unit) (fun _ => .bool r) (fun _=>True) (fun _=>Mo.tt) (fun _=>Ow.emp):=by
 refine Zo Tryz.func124 Tryz.ntmps124 fun c => ?_
 unfold Sh.uL at hS
 refine Zq (Zr ?_)
 refine VL.box (cs:=[str zL.path,i64 zL.mode,str zL.data]) rfl rfl (by decide) fun eP => ?_
 refine Zy ?_
 refine Zq (Zr ?_)
 refine Zu (aC oZ rfl) ?_
 refine Zu (aT dK rfl rfl) ?_
 refine Zu (CE dK rfl rfl) ?_
 obtain ⟨uF,zJ,hS⟩:=aU hS
 refine Zu (cN (wR zL.path a_1 zJ) rfl (fun _ _=>rfl)) ?_
 refine Zy ?_
 cases hS
 exact Ze
theorem tT (aB:Sv aD) (eC:Nat) (eU:aV) {r:Int} (hS:Sh.kE aB.l eU=some r) :
 Ct Tryz.prog 77 [aB.val,.func (.func 124) #[] #[ptr eC 0]] (aB.ok.and (Cells eC 0 [str eU])) (Ow.emp) (X:=Unit) (fun _=>i64 r) (fun _=>True) (fun _=>Mo.tt) (fun _=>Ow.emp):=by
 refine Zo Tryz.func77 Tryz.ntmps77 fun c => ?_
 unfold Sh.kE at hS
 refine Zq (Zr ?_)
 refine Zy ?_
 refine Zq (Zq (Zr ?_))
 refine Zm ?_
 refine Zu (dO (s:=aB) Tryz.underlying35 rfl) ?_
 refine Zy ?_
 refine Zb ?_
 refine VC.iter (S:=Int) (fun (cS:Int)=>cS) (fun (cS:Int)=>[(0,aB.val),(1,.func (.func 124) #[] #[ptr eC 0]),(7,i64 (aB.l.length:Int)),(8,i64 cS)]) (fun (cS:Int)=>Mo.tt) (fun (cS:Int)=>Ow.emp) 0 [0,1,7,8] hS rfl ?_
 clear hS
 rintro cS m1 y1 hS hK1
 refine Zq (Zr ?_)
 refine Zu (dL rfl rfl) ?_
 refine Zl ?_
 refine Zq ?_
 refine Zc hS (fun h9 hS => ?_) (fun h9 hS => ?_)
 ·
  refine Zk ?_
  refine Zq (Zb (Zq (Zr ?_)))
  refine Zy ?_
  refine Zq (Zr ?_)
  refine Zy ?_
  obtain ⟨gF,mD,mC,hS⟩:=e8 hS
  refine Zu (fM (s:=aB) Tryz.underlying35 fP rfl rfl mD (bQ mD mC)) ?_
  refine Zu (lZ (s:=aB) i7 rfl rfl mC) ?_
  obtain ⟨kQ,rV,hS⟩:=aU hS
  refine Zu (tN (vs:=[.agg #[str gF.path,i64 gF.mode,str gF.data]]) (caps:=[ptr eC 0]) (B9 gF eC eU rV) rfl rfl (fun _ _=>rfl)) ?_
  refine Zl ?_
  refine VC.keep (ρ':=[(0,aB.val),(1,.func (.func 124) #[] #[ptr eC 0]),(7,i64 (aB.l.length:Int)),(8,i64 cS),(5,i64 cS),(16,.bool kQ)]) [0,1,7,8,5,16] rfl ?_
  refine iT hS (fun h16 hS => ?_) (fun h16 hS => ?_)
  ·
   refine Zq (Zr ?_)
   refine Zy ?_
   replace hS:=gQ hS hK1
   cases hS
   exact Ze
  refine Zk ?_
  refine Zr ?_
  obtain ⟨b18,hS⟩:=bS hS
  refine Zu (cK rfl rfl b18) ?_
  refine Zm ?_
  refine VL.jC (cS+1) [0,1,7,8] (fun _ _ h=>h) (go2 hS hK1) rfl
 replace hS:=gQ hS hK1
 refine Zx ?_
 refine Zq (Zr ?_)
 refine Zy ?_
 cases hS
 exact Ze
theorem uO (aB:Sv aD) (dJ:Nat) (dX:aV) {r:List aD} (hS:Sh.lC aB.l dX=some r) :
 Ct Tryz.prog 122 [aB.val,.func (.func 124) #[] #[ptr dJ 0]] Mo.tt (Ow.star (Sv.own aB 42) (bP dJ [str dX] 9)) (X:=Sv aD) (fun x=>x.val) (fun x=>r=x.l) (fun x=>Mo.tt) (fun x=>Ow.star (Sv.own x 42) (bP dJ [str dX] 9)):=by
 refine Zo Tryz.func122 Tryz.ntmps122 fun c => ?_
 unfold Sh.lC at hS
 refine Zq (Zr ?_)
 refine Zy ?_
 refine Zq (Zr ?_)
 refine Zy ?_
 obtain ⟨dG,lU,hS⟩:=aU hS
 refine Zu (oO (tT aB dJ dX lU) rfl (fun _ _=>rfl)) ?_
 refine Zy ?_
 refine Zq (Zq (Zr ?_))
 refine Zm ?_
 refine Zu (hU rfl rfl) ?_
 refine Zl ?_
 refine Zc hS (fun h12 hS => ?_) (fun h12 hS => ?_)
 ·
  refine Zq (Zr ?_)
  refine Zy ?_
  cases hS
  exact VC.ret (fA (.inr rfl) rfl rfl aB rfl rfl (by (try dsimp only); exact cO.out) (by (try dsimp only); exact eT.out))
 refine Zk ?_
 refine Zq (Zq (Zr ?_))
 refine Zm ?_
 obtain ⟨b15,hS⟩:=bS hS
 refine Zu (cK rfl rfl b15) ?_
 refine Zy ?_
 refine VC.keep (ρ':=[(0,aB.val),(1,.func (.func 124) #[] #[ptr dJ 0]),(5,i64 dG),(6,i64 (dG+1))]) [0,1,5,6] rfl ?_
 refine Zb ?_
 refine VC.iter (S:=Sv aD×Int×Int) (fun sg=>(sg.1.l,sg.2.1,sg.2.2)) (fun sg=>[(0,sg.1.val),(1,.func (.func 124) #[] #[ptr dJ 0]),(5,i64 sg.2.1),(6,i64 sg.2.2)]) (fun sg=>Mo.tt) (fun sg=>Ow.star (bP dJ [str dX] 9) (Ow.star (Sv.own sg.1 42) (Ow.emp))) (aB,dG,(dG+1)) [0,1,5,6] hS rfl ?_
 clear hS
 rintro ⟨e6,gH,kU⟩ m1 y1 hS hK1
 refine Zq (Zq (Zr ?_))
 refine Zy ?_
 refine Zu (dO (s:=e6) Tryz.underlying35 rfl) ?_
 refine Zu (dL rfl rfl) ?_
 refine Zl ?_
 refine Zc hS (fun h19 hS => ?_) (fun h19 hS => ?_)
 ·
  refine Zk ?_
  refine VC.gD (S:=Sv aD×Int) (fun sg=>(sg.1.l,sg.2)) (fun sg=>[(0,sg.1.val),(1,.func (.func 124) #[] #[ptr dJ 0]),(5,i64 sg.2),(6,i64 kU)]) (fun sg=>Mo.tt) (fun sg=>Ow.star (bP dJ [str dX] 9) (Ow.star (Sv.own sg.1 42) (Ow.emp))) hS ?_ ?_
  ·
   clear hS
   intro k7 hS
   refine Zb (Zq (Zr ?_))
   refine Zy ?_
   obtain ⟨cY,wB,v7,hS⟩:=e8 hS
   refine Zu (l5 (s:=e6) Tryz.underlying35 fP rfl rfl wB (bQ wB v7)) ?_
   refine Zu (VT (s:=e6) i7 rfl rfl v7) ?_
   refine VL.alloc (cs:=[str [],i64 0,str []]) (by kernel_rfl) (by decide) fun ZT => ?_
   refine Zv (vc:=[str cY.path,i64 cY.mode,str cY.data]) (cs':=[str cY.path,i64 cY.mode,str cY.data]) rfl fP ?_
   refine Zl ?_
   refine VC.keep (ρ':=[(0,e6.val),(1,.func (.func 124) #[] #[ptr dJ 0]),(5,i64 gH),(6,i64 kU),(7,ptr ZT 0)]) [0,1,5,6,7] rfl ?_
   refine Zq (Zr ?_)
   refine Zm ?_
   refine Zu (cL i7 rfl rfl) ?_
   obtain ⟨wH,AY,hS⟩:=aU hS
   refine Zu (tN (vs:=[.agg #[str cY.path,i64 cY.mode,str cY.data]]) (caps:=[ptr dJ 0]) (B9 cY dJ dX AY) rfl rfl (fun _ _=>rfl)) ?_
   refine Zu (lN rfl) ?_
   refine Zl ?_
   refine iT hS (fun h29 hS => ?_) (fun h29 hS => ?_)
   ·
    refine Zq (Zr ?_)
    refine Zy ?_
    refine Zu (cL i7 rfl rfl) ?_
    obtain ⟨MT,wO,wM,hS⟩:=e8 hS
    refine Zu (l5 (s:=e6) Tryz.underlying35 fP rfl rfl wO (bQ wO wM)) ?_
    refine VL.sJ (s:=e6) (T:=42) (j:=0) (vc:=[str cY.path,i64 cY.mode,str cY.data]) (⟨cY.path,cY.mode,cY.data⟩:aD) (by decide) rfl rfl wM rfl fP rfl rfl (Nat.le_of_ble_eq_true rfl) rfl (fun w12 hw12 haw12 hcw12 hvw12 hbw12 how12 => ?_)
    rw [← hvw12]
    replace hS:=b5 hw12 hS
    refine Zl ?_
    refine VC.keep (ρ':=[(0,w12.val),(1,.func (.func 124) #[] #[ptr dJ 0]),(5,i64 gH),(6,i64 kU)]) [0,1,5,6] rfl ?_
    refine Zr ?_
    refine Zm ?_
    obtain ⟨b35,hS⟩:=bS hS
    refine Zu (cK rfl rfl b35) ?_
    refine Za ?_
    refine VL.mt (w12,(gH+1)) [0,1,5,6] (fun _ _ h=>h) hS rfl
   refine VC.fZ (e6,gH) [0,1,5,6] (fun _ _ h=>h) hS rfl
  clear hS
  rintro ⟨BO,BC⟩ hS
  refine Zr ?_
  refine Zm ?_
  obtain ⟨b21,hS⟩:=bS hS
  refine Zu (cK rfl rfl b21) ?_
  refine Za ?_
  refine VL.jC (BO,BC,(kU+1)) [0,1,5,6] (fun _ _ h=>h) (go2 hS hK1) rfl
 replace hS:=gQ hS hK1
 refine Zx ?_
 refine Zq (Zr ?_)
 refine Zy ?_
 obtain ⟨b38,hS⟩:=bS hS
 refine VL.fits (s:=e6) (e:=42) Fo.out fun A3 => ?_
 refine Zu (HX (s:=e6) Tryz.underlying35 fP rfl rfl b38.1 b38.2 A3) ?_
 refine VL.aEK (s:=e6) (i:=gH.toNat) (.agg #[str [],i64 0,str []]) Tryz.underlying35 aNX rfl rfl rfl (by have:=b38; dsimp only at this ⊢; omega) Fo.out fun BQ GF G3 => ?_
 replace hS:=b5 GF hS
 refine Zl ?_
 refine VC.keep (ρ':=[(0,e6.val),(5,i64 gH)]) [0,5] rfl ?_
 refine Zq (Zr ?_)
 refine Zy ?_
 refine Zu (VS (s:=e6) (q:=BQ) Tryz.underlying35 fP rfl rfl b38.1 b38.2 A3 G3) ?_
 refine Zy ?_
 cases hS
 exact VC.ret (fA (.inr rfl) rfl rfl BQ rfl rfl (by (try dsimp only); exact cO.out) (by (try dsimp only); exact eT.out))
theorem eN (aB:Sv aD) {r:List aD} (hS:Sh.dM aB.l=some r) :
 Ct Tryz.prog 29 [aB.val] aB.ok (Ow.emp) (X:=Sv aD) (fun x=>x.val) (fun x=>r=x.l) (fun x=>x.ok) (fun x=>Ow.emp):=by
 refine Zo Tryz.func29 Tryz.ntmps29 fun c => ?_
 unfold Sh.dM at hS
 refine Zq (Zr ?_)
 refine Zy ?_
 refine Zq (Zr ?_)
 refine Zy ?_
 refine Zu (dO (s:=aB) Tryz.underlying35 rfl) ?_
 refine Zm ?_
 refine Zu (dO (s:=aB) Tryz.underlying35 rfl) ?_
 obtain ⟨b8,hS⟩:=bS hS
 refine VL.M7 Tryz.underlying35 fP rfl rfl rfl b8.1 (b8.2) (by decide) fun wZ qU => ?_
 replace hS:=b5 qU hS
 refine Zy ?_
 cases hS
 exact VC.ret (fA (.inr rfl) rfl rfl wZ rfl rfl (by (try dsimp only); exact cO.out) (fun _ _=>trivial))
theorem QY (dB:Sv aD) (p_1:aV) {r:List aD} (hS:Sh.CO dB.l p_1=some r) :
 Ct Tryz.prog 82 [dB.val,str p_1] dB.ok (Ow.emp) (X:=Sv aD) (fun x=>x.val) (fun x=>r=x.l) (fun x=>x.ok) (fun x=>Ow.emp):=by
 refine Zo Tryz.func82 Tryz.ntmps82 fun c => ?_
 unfold Sh.CO at hS
 refine Zq (Zr ?_)
 refine VL.box (cs:=[str p_1]) rfl rfl (by decide) fun iM => ?_
 refine Zy ?_
 refine Zq (Zr ?_)
 refine Zm ?_
 obtain ⟨II,SA,hS⟩:=aU hS
 refine VL.cA (gV dB SA) rfl (by decide) ?_
 rintro VN rfl
 try dsimp only
 refine Zu (qH rfl) ?_
 obtain ⟨vA,F2,hS⟩:=aU hS
 refine VL.cA (uO VN iM p_1 F2) rfl (by decide) ?_
 rintro sC rfl
 try dsimp only
 refine VL.shut sC 42 (fun _ _ _ _=>trivial) ?_
 obtain ⟨PV,SC,hS⟩:=aU hS
 refine VL.cR (eN sC SC) rfl (by decide) ?_
 rintro VR rfl
 try dsimp only
 refine Zy ?_
 cases hS
 exact VC.ret (fA (.inr rfl) rfl rfl VR rfl rfl (by (try dsimp only); exact cO.out) (fun _ _=>trivial))
theorem fE (rJ:Nat) (HE:eB) (l_1:Sv Int) {r:dH} (hS:Sh.fQ HE.pl l_1.l=some r) :
 Ct Tryz.prog 178 [ptr rJ 0,l_1.val] l_1.ok (Ow.star (Sv.own HE.eD 5) (bP rJ [HE.eD.val] 183)) (X:=eB) (fun x => .tuple #[]) (fun x=>r=x.pl) (fun x=>Mo.tt) (fun x=>Ow.star (bP rJ [x.eD.val] 183) (Sv.own x.eD 5)):=by
 refine Zo Tryz.func178 Tryz.ntmps178 fun c => ?_
 unfold Sh.fQ at hS
 refine Zq (Zr ?_)
 refine Zm ?_
 refine Zu (dO (s:=l_1) Tryz.underlying65 rfl) ?_
 refine Zy ?_
 refine Zb ?_
 refine VC.iter (S:=Int×Sv UInt8) (fun sg=>(sg.1,sg.2.l)) (fun sg=>[(0,ptr rJ 0),(7,l_1.val),(8,i64 (l_1.l.length:Int)),(9,i64 sg.1)]) (fun sg=>Mo.tt) (fun sg=>Ow.star (bP rJ [sg.2.val] 183) (Ow.star (Sv.own sg.2 5) (Ow.emp))) (0,HE.eD) [0,7,8,9] hS rfl ?_
 clear hS
 rintro ⟨CG,HI⟩ m1 y1 hS hK1
 refine Zq (Zr ?_)
 refine Zu (dL rfl rfl) ?_
 refine Zl ?_
 refine Zq ?_
 refine Zc hS (fun h10 hS => ?_) (fun h10 hS => ?_)
 ·
  refine Zk ?_
  refine Zq (Zb (Zq (Zr ?_)))
  obtain ⟨yU,U4,UO,hS⟩:=e8 hS
  refine Zu (fM (s:=l_1) Tryz.underlying65 AE rfl rfl U4 (bQ U4 UO)) ?_
  refine Zu (rH (s:=l_1) fG rfl UO rfl) ?_
  refine Zy ?_
  refine Zq (Zr ?_)
  refine Zm ?_
  refine Zu (y4 Tryz.underlying3 Tryz.underlying271 rfl) ?_
  refine Zu (aOr rfl rfl (by decide)) ?_
  refine Zm ?_
  refine Zu (aDX rfl rfl (by decide)) ?_
  refine Zu (y4 Tryz.underlying2 Tryz.underlying271 rfl) ?_
  refine Zu (aOs rfl rfl) ?_
  refine Zy ?_
  refine VC.keep (ρ':=[(0,ptr rJ 0),(7,l_1.val),(8,i64 (l_1.l.length:Int)),(9,i64 CG),(6,.int .u64 (Q7 .u64 (VY .u64 (IntKind.wrap .u64 yU) 1) (IntKind.wrap .u64 (BP .i64 yU 63))))]) [0,7,8,9,6] rfl ?_
  refine Zq (Zb ?_)
  refine VC.iter (S:=Unit) (fun (_:Unit)=>()) (fun (_:Unit)=>[(0,ptr rJ 0),(6,.int .u64 (Q7 .u64 (VY .u64 (IntKind.wrap .u64 yU) 1) (IntKind.wrap .u64 (BP .i64 yU 63)))),(7,l_1.val),(8,i64 (l_1.l.length:Int)),(9,i64 CG)]) (fun (_:Unit)=>Mo.tt) (fun (_:Unit)=>Ow.star (bP rJ [HI.val] 183) (Ow.star (Sv.own HI 5) (Ow.emp))) () [0,6,7,8,9] hS rfl ?_
  clear hS
  rintro _ m2 y2 hS hK2
  refine Zq (Zq (Zr ?_))
  refine Zm ?_
  refine Zu (qF rfl rfl) ?_
  refine Zl ?_
  refine Zc hS (fun h21 hS => ?_) (fun h21 hS => ?_)
  ·
   refine Zk ?_
   refine Zb (Zq ?_)
   cases hS
  replace hS:=gQ hS hK2
  refine Zx ?_
  refine Zr ?_
  refine Zy ?_
  refine Zu (aG rfl) ?_
  refine Zu (aC JO rfl) ?_
  refine Zu (aT DO rfl rfl) ?_
  refine Zm ?_
  refine Zu (y4 Tryz.underlying271 Tryz.underlying5 rfl) ?_
  obtain ⟨aPu,hS⟩:=bS hS
  obtain ⟨aD6,aPw,hS⟩:=AF hS
  refine VL.M6 43 rfl (congrArg (Value.int .u8) (aUB aPu aPw)) ?_
  refine VL.lit (α:=UInt8) (xs:=[.tmp 43]) (vs:=[.int .u8 (aD6.toNat:Int)]) [aD6] Tryz.underlying124 aUV (by decide) rfl rfl rfl rfl (by decide) (fun _ _ _ _=>trivial) (by decide) (fun aVH aSC => ?_) (by decide)
  replace hS:=b5 aSC hS
  obtain ⟨b45,hS⟩:=bS hS
  refine VL.app (s:=HI) (r:=aVH) Tryz.underlying124 aND (by decide) rfl Fo.out (uW b45) (uX b45 (by decide)) (by decide) (fun aGh aSD => ?_)
  replace hS:=b5 aSD hS
  refine Zu (aG rfl) ?_
  refine Zu (aC JO rfl) ?_
  refine Zv (vc:=[aGh.val]) (cs':=[aGh.val]) rfl aH7 ?_
  refine Zl ?_
  refine VC.keep (ρ':=[(0,ptr rJ 0),(7,l_1.val),(8,i64 (l_1.l.length:Int)),(9,i64 CG)]) [0,7,8,9] rfl ?_
  refine Zr ?_
  obtain ⟨b48,hS⟩:=bS hS
  refine Zu (cK rfl rfl b48) ?_
  refine Zm ?_
  refine VL.jC ((CG+1),aGh) [0,7,8,9] (fun _ _ h=>h) (go2 hS hK1) rfl
 replace hS:=gQ hS hK1
 cases hS
 exact VC.exit (p9 (.inl rfl) rfl ⟨HI⟩ rfl rfl (by (try dsimp only); exact cO.out) (by (try dsimp only); exact eT.out))
theorem iP (rJ:Nat) (HE:eB) (l_1:Sv aV) {r:dH} (hS:Sh.iY HE.pl l_1.l=some r) :
 Ct Tryz.prog 179 [ptr rJ 0,l_1.val] l_1.ok (Ow.star (Sv.own HE.eD 5) (bP rJ [HE.eD.val] 183)) (X:=eB) (fun x => .tuple #[]) (fun x=>r=x.pl) (fun x=>Mo.tt) (fun x=>Ow.star (bP rJ [x.eD.val] 183) (Sv.own x.eD 5)):=by
 refine Zo Tryz.func179 Tryz.ntmps179 fun c => ?_
 unfold Sh.iY at hS
 refine Zq (Zr ?_)
 refine Zm ?_
 refine Zu (dO (s:=l_1) Tryz.underlying23 rfl) ?_
 refine Zy ?_
 refine Zb ?_
 refine VC.iter (S:=Int×Sv UInt8) (fun sg=>(sg.1,sg.2.l)) (fun sg=>[(0,ptr rJ 0),(6,l_1.val),(7,i64 (l_1.l.length:Int)),(8,i64 sg.1)]) (fun sg=>Mo.tt) (fun sg=>Ow.star (bP rJ [sg.2.val] 183) (Ow.star (Sv.own sg.2 5) (Ow.emp))) (0,HE.eD) [0,6,7,8] hS rfl ?_
 clear hS
 rintro ⟨cS,HI⟩ m1 y1 hS hK1
 refine Zq (Zr ?_)
 refine Zu (dL rfl rfl) ?_
 refine Zl ?_
 refine Zq ?_
 refine Zc hS (fun h9 hS => ?_) (fun h9 hS => ?_)
 ·
  refine Zk ?_
  refine Zq (Zb (Zq (Zr ?_)))
  obtain ⟨mY,U3,UN,hS⟩:=e8 hS
  refine Zu (fM (s:=l_1) Tryz.underlying23 o4 rfl rfl U3 (bQ U3 UN)) ?_
  refine Zu (rH (s:=l_1) dK rfl UN rfl) ?_
  refine Zy ?_
  refine Zq (Zr ?_)
  refine Zy ?_
  refine Zu (nT Tryz.underlying9 rfl) ?_
  refine VL.lit (α:=Int) (xs:=[.tmp 14]) (vs:=[i64 (mY.length:Int)]) [(mY.length:Int)] Tryz.underlying65 oI (by decide) rfl rfl rfl rfl (by decide) (fun _ _ _ _=>trivial) (by decide) (fun aUl aR8 => ?_) (by decide)
  replace hS:=b5 aR8 hS
  obtain ⟨EN,aC5,hS⟩:=aU hS
  refine VL.cA (fE rJ (⟨HI⟩:eB) aUl aC5) rfl (by decide) ?_
  rintro VF rfl
  try dsimp only
  refine Zl ?_
  refine VC.keep (ρ':=[(0,ptr rJ 0),(6,l_1.val),(7,i64 (l_1.l.length:Int)),(8,i64 cS),(5,str mY)]) [0,6,7,8,5] rfl ?_
  refine Zr ?_
  refine Zy ?_
  refine Zu (aG rfl) ?_
  refine Zu (aC JO rfl) ?_
  refine Zu (aT DO rfl rfl) ?_
  refine Zm ?_
  obtain ⟨b23,hS⟩:=bS hS
  refine VL.aV1 (s:=VF.eD) (r:=mY) Tryz.underlying124 Tryz.underlying9 aUQ rfl Fo.out b23 (by decide) fun aGe aRo _ => ?_
  replace hS:=b5 aRo hS
  refine Zu (aG rfl) ?_
  refine Zu (aC JO rfl) ?_
  refine Zv (vc:=[aGe.val]) (cs':=[aGe.val]) rfl aH7 ?_
  refine Zl ?_
  refine VC.keep (ρ':=[(0,ptr rJ 0),(6,l_1.val),(7,i64 (l_1.l.length:Int)),(8,i64 cS)]) [0,6,7,8] rfl ?_
  refine Zr ?_
  obtain ⟨b26,hS⟩:=bS hS
  refine Zu (cK rfl rfl b26) ?_
  refine Zm ?_
  refine VL.jC ((cS+1),aGe) [0,6,7,8] (fun _ _ h=>h) (go2 hS hK1) rfl
 replace hS:=gQ hS hK1
 cases hS
 exact VC.exit (p9 (.inl rfl) rfl ⟨HI⟩ rfl rfl (by (try dsimp only); exact cO.out) (by (try dsimp only); exact eT.out))
theorem xB (cG:Nat) (w_0:eB) (r_1:Sv aD) {r:dH} (hS:Sh.sI w_0.pl r_1.l=some r) :
 Ct Tryz.prog 176 [ptr cG 0,r_1.val] r_1.ok (Ow.star (Sv.own w_0.eD 5) (bP cG [w_0.eD.val] 183)) (X:=eB) (fun x => .tuple #[]) (fun x=>r=x.pl) (fun x=>Mo.tt) (fun x=>Ow.star (bP cG [x.eD.val] 183) (Sv.own x.eD 5)):=by
 refine Zo Tryz.func176 Tryz.ntmps176 fun c => ?_
 unfold Sh.sI at hS
 refine Zq (Zr ?_)
 refine Zm ?_
 refine Zu (aG rfl) ?_
 refine Zu (aC dV rfl) ?_
 refine Zm ?_
 refine Zu (dO (s:=r_1) Tryz.underlying35 rfl) ?_
 refine VL.lit (α:=Int) (xs:=[.tmp 10]) (vs:=[i64 (r_1.l.length:Int)]) [(r_1.l.length:Int)] Tryz.underlying65 oI (by decide) rfl rfl rfl rfl (by decide) (fun _ _ _ _=>trivial) (by decide) (fun OP LK => ?_) (by decide)
 replace hS:=b5 LK hS
 obtain ⟨kH,rU,hS⟩:=aU hS
 refine VL.cA (fE cG w_0 OP rU) rfl (by decide) ?_
 rintro fN rfl
 try dsimp only
 refine Zl ?_
 refine Zq (Zr ?_)
 refine Zm ?_
 refine Zu (dO (s:=r_1) Tryz.underlying35 rfl) ?_
 refine Zy ?_
 refine VC.keep (ρ':=[(0,ptr cG 0),(13,r_1.val),(14,i64 (r_1.l.length:Int)),(15,i64 0)]) [0,13,14,15] rfl ?_
 refine Zb ?_
 refine VC.iter (S:=Int×Sv UInt8) (fun sg=>(sg.1,sg.2.l)) (fun sg=>[(0,ptr cG 0),(13,r_1.val),(14,i64 (r_1.l.length:Int)),(15,i64 sg.1)]) (fun sg=>Mo.tt) (fun sg=>Ow.star (bP cG [sg.2.val] 183) (Ow.star (Sv.own sg.2 5) (Ow.emp))) (0,fN.eD) [0,13,14,15] hS rfl ?_
 clear hS
 rintro ⟨uC,fK⟩ m1 y1 hS hK1
 refine Zq (Zr ?_)
 refine Zu (dL rfl rfl) ?_
 refine Zl ?_
 refine Zq ?_
 refine Zc hS (fun h16 hS => ?_) (fun h16 hS => ?_)
 ·
  refine Zk ?_
  refine Zq (Zb (Zq (Zr ?_)))
  obtain ⟨iK,U6,UP,hS⟩:=e8 hS
  refine Zu (fM (s:=r_1) Tryz.underlying35 fP rfl rfl U6 (bQ U6 UP)) ?_
  refine Zu (lZ (s:=r_1) i7 rfl rfl UP) ?_
  refine VL.alloc (cs:=[str [],i64 0,str []]) (by kernel_rfl) (by decide) fun aBo => ?_
  refine Zv (vc:=[str iK.path,i64 iK.mode,str iK.data]) (cs':=[str iK.path,i64 iK.mode,str iK.data]) rfl fP ?_
  refine Zl ?_
  refine Zq ?_
  refine VC.draw [(0,true),(1,true),(2,true),(3,true),(4,true),(5,false),(6,false)] mixed (by kernel_rfl) (by kernel_rfl) (by kernel_rfl) ?_
  refine Zw rfl (bT rfl) ?_
  refine Zw rfl (aG rfl) ?_
  refine Zw rfl (aC dV rfl) ?_
  refine Zw rfl (aC oZ rfl) ?_
  refine Zw rfl (aT dK rfl rfl) ?_
  refine VD.one rfl ?_
  refine VL.lit (α:=aV) (xs:=[.tmp 23]) (vs:=[str iK.path]) [iK.path] Tryz.underlying23 wL (by decide) rfl rfl rfl rfl (by decide) (fun _ _ _ _=>trivial) (by decide) (fun aGf aCv => ?_) (by decide)
  replace hS:=b5 aCv hS
  refine VL.back (D':=[(2,ptr cG 0),(1,ptr cG 0)]) (by kernel_rfl) (aN.cons rfl (aC dV rfl) (aN.cons rfl (aG rfl) (aN.nil))) ?_
  refine VD.one rfl ?_
  obtain ⟨V6,Z2,hS⟩:=aU hS
  refine VL.cA (iP cG (⟨fK⟩:eB) aGf Z2) rfl (by decide) ?_
  rintro XI rfl
  try dsimp only
  refine VL.back (D':=[]) (by kernel_rfl) (aN.nil) ?_
  refine VD.to (fun _ _ h=>h) ?_
  refine VC.keep (ρ':=[(0,ptr cG 0),(13,r_1.val),(14,i64 (r_1.l.length:Int)),(15,i64 uC),(5,ptr aBo 0)]) [0,13,14,15,5] rfl ?_
  refine Zq ?_
  refine VC.draw [(0,true),(1,true),(2,true),(3,true),(4,true),(5,false),(6,false)] mixed (by kernel_rfl) (by kernel_rfl) (by kernel_rfl) ?_
  refine Zw rfl (bT rfl) ?_
  refine Zw rfl (aG rfl) ?_
  refine Zw rfl (aC dV rfl) ?_
  refine Zw rfl (aC JQ rfl) ?_
  refine Zw rfl (aT fG rfl rfl) ?_
  refine VD.one rfl ?_
  refine VL.lit (α:=Int) (xs:=[.tmp 30]) (vs:=[i64 iK.mode]) [iK.mode] Tryz.underlying65 oI (by decide) rfl rfl rfl rfl (by decide) (fun _ _ _ _=>trivial) (by decide) (fun aSg aN3 => ?_) (by decide)
  replace hS:=b5 aN3 hS
  refine VL.back (D':=[(2,ptr cG 0),(1,ptr cG 0)]) (by kernel_rfl) (aN.cons rfl (aC dV rfl) (aN.cons rfl (aG rfl) (aN.nil))) ?_
  refine VD.one rfl ?_
  obtain ⟨aJO,aLj,hS⟩:=aU hS
  refine VL.cA (fE cG XI aSg aLj) rfl (by decide) ?_
  rintro aKb rfl
  try dsimp only
  refine VL.back (D':=[]) (by kernel_rfl) (aN.nil) ?_
  refine VD.to (fun _ _ h=>h) ?_
  refine VC.keep (ρ':=[(0,ptr cG 0),(13,r_1.val),(14,i64 (r_1.l.length:Int)),(15,i64 uC),(5,ptr aBo 0)]) [0,13,14,15,5] rfl ?_
  refine VC.draw [(0,true),(1,true),(2,true),(3,true),(4,true),(5,false),(6,false)] mixed (by kernel_rfl) (by kernel_rfl) (by kernel_rfl) ?_
  refine Zw rfl (bT rfl) ?_
  refine Zw rfl (aG rfl) ?_
  refine Zw rfl (aC dV rfl) ?_
  refine Zw rfl (aC F8 rfl) ?_
  refine Zw rfl (aT dK rfl rfl) ?_
  refine VD.one rfl ?_
  refine VL.lit (α:=aV) (xs:=[.tmp 37]) (vs:=[str iK.data]) [iK.data] Tryz.underlying23 wL (by decide) rfl rfl rfl rfl (by decide) (fun _ _ _ _=>trivial) (by decide) (fun aSl aN9 => ?_) (by decide)
  replace hS:=b5 aN9 hS
  refine VL.back (D':=[(2,ptr cG 0),(1,ptr cG 0)]) (by kernel_rfl) (aN.cons rfl (aC dV rfl) (aN.cons rfl (aG rfl) (aN.nil))) ?_
  refine VD.one rfl ?_
  obtain ⟨aJW,aLy,hS⟩:=aU hS
  refine VL.cA (iP cG aKb aSl aLy) rfl (by decide) ?_
  rintro aKk rfl
  try dsimp only
  refine VL.back (D':=[]) (by kernel_rfl) (aN.nil) ?_
  refine VD.to (fun _ _ h=>h) ?_
  refine VC.keep (ρ':=[(0,ptr cG 0),(13,r_1.val),(14,i64 (r_1.l.length:Int)),(15,i64 uC)]) [0,13,14,15] rfl ?_
  refine Zr ?_
  obtain ⟨b40,hS⟩:=bS hS
  refine Zu (cK rfl rfl b40) ?_
  refine Zm ?_
  refine VL.jC ((uC+1),aKk.eD) [0,13,14,15] (fun _ _ h=>h) (go2 hS hK1) rfl
 replace hS:=gQ hS hK1
 cases hS
 exact VC.exit (p9 (.inl rfl) rfl ⟨fK⟩ rfl rfl (by (try dsimp only); exact cO.out) (by (try dsimp only); exact eT.out))
theorem y9 (cG:Nat) (w_0:eB) (l_1:Sv aK) {r:dH} (hS:Sh.rF w_0.pl l_1.l=some r) :
 Ct Tryz.prog 177 [ptr cG 0,l_1.val] l_1.ok (Ow.star (Sv.own w_0.eD 5) (bP cG [w_0.eD.val] 183)) (X:=eB) (fun x => .tuple #[]) (fun x=>r=x.pl) (fun x=>Mo.tt) (fun x=>Ow.star (bP cG [x.eD.val] 183) (Sv.own x.eD 5)):=by
 refine Zo Tryz.func177 Tryz.ntmps177 fun c => ?_
 unfold Sh.rF at hS
 refine Zq (Zr ?_)
 refine Zm ?_
 refine Zu (aG rfl) ?_
 refine Zu (aC dV rfl) ?_
 refine Zm ?_
 refine Zu (dO (s:=l_1) Tryz.underlying36 rfl) ?_
 refine VL.lit (α:=Int) (xs:=[.tmp 10]) (vs:=[i64 (l_1.l.length:Int)]) [(l_1.l.length:Int)] Tryz.underlying65 oI (by decide) rfl rfl rfl rfl (by decide) (fun _ _ _ _=>trivial) (by decide) (fun OP LK => ?_) (by decide)
 replace hS:=b5 LK hS
 obtain ⟨kH,rU,hS⟩:=aU hS
 refine VL.cA (fE cG w_0 OP rU) rfl (by decide) ?_
 rintro fN rfl
 try dsimp only
 refine Zl ?_
 refine Zq (Zr ?_)
 refine Zm ?_
 refine Zu (dO (s:=l_1) Tryz.underlying36 rfl) ?_
 refine Zy ?_
 refine VC.keep (ρ':=[(0,ptr cG 0),(13,l_1.val),(14,i64 (l_1.l.length:Int)),(15,i64 0)]) [0,13,14,15] rfl ?_
 refine Zb ?_
 refine VC.iter (S:=Int×Sv UInt8) (fun sg=>(sg.1,sg.2.l)) (fun sg=>[(0,ptr cG 0),(13,l_1.val),(14,i64 (l_1.l.length:Int)),(15,i64 sg.1)]) (fun sg=>Mo.tt) (fun sg=>Ow.star (bP cG [sg.2.val] 183) (Ow.star (Sv.own sg.2 5) (Ow.emp))) (0,fN.eD) [0,13,14,15] hS rfl ?_
 clear hS
 rintro ⟨uC,fK⟩ m1 y1 hS hK1
 refine Zq (Zr ?_)
 refine Zu (dL rfl rfl) ?_
 refine Zl ?_
 refine Zq ?_
 refine Zc hS (fun h16 hS => ?_) (fun h16 hS => ?_)
 ·
  refine Zk ?_
  refine Zq (Zb (Zq (Zr ?_)))
  obtain ⟨iK,U6,UP,hS⟩:=e8 hS
  refine Zu (fM (s:=l_1) Tryz.underlying36 jM rfl rfl U6 (bQ U6 UP)) ?_
  refine Zu (lZ (s:=l_1) pM rfl rfl UP) ?_
  refine VL.alloc (cs:=[str [],i64 0,i64 0,str [],i64 0,i64 0]) (by kernel_rfl) (by decide) fun aBo => ?_
  refine Zv (vc:=[str iK.path,i64 iK.fS,i64 iK.mode,str iK.data,i64 iK.time,i64 iK.size]) (cs':=[str iK.path,i64 iK.fS,i64 iK.mode,str iK.data,i64 iK.time,i64 iK.size]) rfl jM ?_
  refine Zl ?_
  refine Zq ?_
  refine VC.draw [(0,true),(1,true),(2,true),(3,true),(4,true),(5,false),(6,false)] mixed (by kernel_rfl) (by kernel_rfl) (by kernel_rfl) ?_
  refine Zw rfl (bT rfl) ?_
  refine Zw rfl (aG rfl) ?_
  refine Zw rfl (aC dV rfl) ?_
  refine Zw rfl (aC wK rfl) ?_
  refine Zw rfl (aT dK rfl rfl) ?_
  refine VD.one rfl ?_
  refine VL.lit (α:=aV) (xs:=[.tmp 23]) (vs:=[str iK.path]) [iK.path] Tryz.underlying23 wL (by decide) rfl rfl rfl rfl (by decide) (fun _ _ _ _=>trivial) (by decide) (fun aGf aCv => ?_) (by decide)
  replace hS:=b5 aCv hS
  refine VL.back (D':=[(2,ptr cG 0),(1,ptr cG 0)]) (by kernel_rfl) (aN.cons rfl (aC dV rfl) (aN.cons rfl (aG rfl) (aN.nil))) ?_
  refine VD.one rfl ?_
  obtain ⟨V6,Z2,hS⟩:=aU hS
  refine VL.cA (iP cG (⟨fK⟩:eB) aGf Z2) rfl (by decide) ?_
  rintro XI rfl
  try dsimp only
  refine VL.back (D':=[]) (by kernel_rfl) (aN.nil) ?_
  refine VD.to (fun _ _ h=>h) ?_
  refine VC.keep (ρ':=[(0,ptr cG 0),(13,l_1.val),(14,i64 (l_1.l.length:Int)),(15,i64 uC),(5,ptr aBo 0)]) [0,13,14,15,5] rfl ?_
  refine Zq ?_
  refine VC.draw [(0,true),(1,true),(2,true),(3,true),(4,true),(5,true),(6,true),(7,false),(8,false)] mixed (by kernel_rfl) (by kernel_rfl) (by kernel_rfl) ?_
  refine Zw rfl (bT rfl) ?_
  refine Zw rfl (aG rfl) ?_
  refine Zw rfl (aC dV rfl) ?_
  refine Zw rfl (aC F9 rfl) ?_
  refine Zw rfl (aT fG rfl rfl) ?_
  refine Zw rfl (aC UI rfl) ?_
  refine Zw rfl (aT fG rfl rfl) ?_
  refine VD.one rfl ?_
  refine VL.lit (α:=Int) (xs:=[.tmp 30,.tmp 32]) (vs:=[i64 iK.fS,i64 iK.mode]) [iK.fS,iK.mode] Tryz.underlying65 oI (by decide) rfl rfl rfl rfl (by decide) (fun _ _ _ _=>trivial) (by decide) (fun aSh aN4 => ?_) (by decide)
  replace hS:=b5 aN4 hS
  refine VL.back (D':=[(2,ptr cG 0),(1,ptr cG 0)]) (by kernel_rfl) (aN.cons rfl (aC dV rfl) (aN.cons rfl (aG rfl) (aN.nil))) ?_
  refine VD.one rfl ?_
  obtain ⟨aJP,aLl,hS⟩:=aU hS
  refine VL.cA (fE cG XI aSh aLl) rfl (by decide) ?_
  rintro aKc rfl
  try dsimp only
  refine VL.back (D':=[]) (by kernel_rfl) (aN.nil) ?_
  refine VD.to (fun _ _ h=>h) ?_
  refine VC.keep (ρ':=[(0,ptr cG 0),(13,l_1.val),(14,i64 (l_1.l.length:Int)),(15,i64 uC),(5,ptr aBo 0)]) [0,13,14,15,5] rfl ?_
  refine Zq ?_
  refine VC.draw [(0,true),(1,true),(2,true),(3,true),(4,true),(5,false),(6,false)] mixed (by kernel_rfl) (by kernel_rfl) (by kernel_rfl) ?_
  refine Zw rfl (bT rfl) ?_
  refine Zw rfl (aG rfl) ?_
  refine Zw rfl (aC dV rfl) ?_
  refine Zw rfl (aC UJ rfl) ?_
  refine Zw rfl (aT dK rfl rfl) ?_
  refine VD.one rfl ?_
  refine VL.lit (α:=aV) (xs:=[.tmp 39]) (vs:=[str iK.data]) [iK.data] Tryz.underlying23 wL (by decide) rfl rfl rfl rfl (by decide) (fun _ _ _ _=>trivial) (by decide) (fun aSm aNa => ?_) (by decide)
  replace hS:=b5 aNa hS
  refine VL.back (D':=[(2,ptr cG 0),(1,ptr cG 0)]) (by kernel_rfl) (aN.cons rfl (aC dV rfl) (aN.cons rfl (aG rfl) (aN.nil))) ?_
  refine VD.one rfl ?_
  obtain ⟨MN,Z4,hS⟩:=aU hS
  refine VL.cA (iP cG aKc aSm Z4) rfl (by decide) ?_
  rintro aKl rfl
  try dsimp only
  refine VL.back (D':=[]) (by kernel_rfl) (aN.nil) ?_
  refine VD.to (fun _ _ h=>h) ?_
  refine VC.keep (ρ':=[(0,ptr cG 0),(13,l_1.val),(14,i64 (l_1.l.length:Int)),(15,i64 uC),(5,ptr aBo 0)]) [0,13,14,15,5] rfl ?_
  refine VC.draw [(0,true),(1,true),(2,true),(3,true),(4,true),(5,true),(6,true),(7,false),(8,false)] mixed (by kernel_rfl) (by kernel_rfl) (by kernel_rfl) ?_
  refine Zw rfl (bT rfl) ?_
  refine Zw rfl (aG rfl) ?_
  refine Zw rfl (aC dV rfl) ?_
  refine Zw rfl (aC aNQ rfl) ?_
  refine Zw rfl (aT fG rfl rfl) ?_
  refine Zw rfl (aC aNR rfl) ?_
  refine Zw rfl (aT fG rfl rfl) ?_
  refine VD.one rfl ?_
  refine VL.lit (α:=Int) (xs:=[.tmp 46,.tmp 48]) (vs:=[i64 iK.time,i64 iK.size]) [iK.time,iK.size] Tryz.underlying65 oI (by decide) rfl rfl rfl rfl (by decide) (fun _ _ _ _=>trivial) (by decide) (fun aSs aNh => ?_) (by decide)
  replace hS:=b5 aNh hS
  refine VL.back (D':=[(2,ptr cG 0),(1,ptr cG 0)]) (by kernel_rfl) (aN.cons rfl (aC dV rfl) (aN.cons rfl (aG rfl) (aN.nil))) ?_
  refine VD.one rfl ?_
  obtain ⟨WA,Z6,hS⟩:=aU hS
  refine VL.cA (fE cG aKl aSs Z6) rfl (by decide) ?_
  rintro XN rfl
  try dsimp only
  refine VL.back (D':=[]) (by kernel_rfl) (aN.nil) ?_
  refine VD.to (fun _ _ h=>h) ?_
  refine VC.keep (ρ':=[(0,ptr cG 0),(13,l_1.val),(14,i64 (l_1.l.length:Int)),(15,i64 uC)]) [0,13,14,15] rfl ?_
  refine Zr ?_
  obtain ⟨b51,hS⟩:=bS hS
  refine Zu (cK rfl rfl b51) ?_
  refine Zm ?_
  refine VL.jC ((uC+1),XN.eD) [0,13,14,15] (fun _ _ h=>h) (go2 hS hK1) rfl
 replace hS:=gQ hS hK1
 cases hS
 exact VC.exit (p9 (.inl rfl) rfl ⟨fK⟩ rfl rfl (by (try dsimp only); exact cO.out) (by (try dsimp only); exact eT.out))
theorem CF (cG:Nat) (w_0:eB) (h_1:nI) {r:dH} (hS:Sh.uR w_0.pl h_1=some r) :
 Ct Tryz.prog 180 [ptr cG 0,.agg #[str h_1.branch,i64 h_1.c8]] Mo.tt (Ow.star (Sv.own w_0.eD 5) (bP cG [w_0.eD.val] 183)) (X:=eB) (fun x => .tuple #[]) (fun x=>r=x.pl) (fun x=>Mo.tt) (fun x=>Ow.star (bP cG [x.eD.val] 183) (Sv.own x.eD 5)):=by
 refine Zo Tryz.func180 Tryz.ntmps180 fun c => ?_
 unfold Sh.uR at hS
 refine Zq (Zr ?_)
 refine VL.box (cs:=[str h_1.branch,i64 h_1.c8]) rfl rfl (by decide) fun iM => ?_
 refine Zl ?_
 refine Zq ?_
 refine VC.draw [(0,true),(1,true),(2,true),(3,true),(4,true),(5,false),(6,false)] mixed (by kernel_rfl) (by kernel_rfl) (by kernel_rfl) ?_
 refine Zw rfl (bT rfl) ?_
 refine Zw rfl (aG rfl) ?_
 refine Zw rfl (aC dV rfl) ?_
 refine Zw rfl (aC NQ rfl) ?_
 refine Zw rfl (aT dK rfl rfl) ?_
 refine VD.one rfl ?_
 refine VL.lit (α:=aV) (xs:=[.tmp 8]) (vs:=[str h_1.branch]) [h_1.branch] Tryz.underlying23 wL (by decide) rfl rfl rfl rfl (by decide) (fun _ _ _ _=>trivial) (by decide) (fun aFv aAR => ?_) (by decide)
 replace hS:=b5 aAR hS
 refine VL.back (D':=[(2,ptr cG 0),(1,ptr cG 0)]) (by kernel_rfl) (aN.cons rfl (aC dV rfl) (aN.cons rfl (aG rfl) (aN.nil))) ?_
 refine VD.one rfl ?_
 obtain ⟨MI,T0,hS⟩:=aU hS
 refine VL.cA (iP cG w_0 aFv T0) rfl (by decide) ?_
 rintro GL rfl
 try dsimp only
 refine VL.back (D':=[]) (by kernel_rfl) (aN.nil) ?_
 refine VD.to (fun _ _ h=>h) ?_
 refine VC.draw [(0,true),(1,true),(2,true),(3,true),(4,true),(5,false),(6,false)] mixed (by kernel_rfl) (by kernel_rfl) (by kernel_rfl) ?_
 refine Zw rfl (bT rfl) ?_
 refine Zw rfl (aG rfl) ?_
 refine Zw rfl (aC dV rfl) ?_
 refine Zw rfl (aC BA rfl) ?_
 refine Zw rfl (aT fG rfl rfl) ?_
 refine VD.one rfl ?_
 refine VL.lit (α:=Int) (xs:=[.tmp 15]) (vs:=[i64 h_1.c8]) [h_1.c8] Tryz.underlying65 oI (by decide) rfl rfl rfl rfl (by decide) (fun _ _ _ _=>trivial) (by decide) (fun S6 UK => ?_) (by decide)
 replace hS:=b5 UK hS
 refine VL.back (D':=[(2,ptr cG 0),(1,ptr cG 0)]) (by kernel_rfl) (aN.cons rfl (aC dV rfl) (aN.cons rfl (aG rfl) (aN.nil))) ?_
 refine VD.one rfl ?_
 obtain ⟨JB,T7,hS⟩:=aU hS
 refine VL.cA (fE cG GL S6 T7) rfl (by decide) ?_
 rintro GP rfl
 try dsimp only
 refine VL.back (D':=[]) (by kernel_rfl) (aN.nil) ?_
 cases hS
 exact VD.nil (p9 (.inl rfl) rfl ⟨GP.eD⟩ rfl rfl (by (try dsimp only); exact cO.out) (by (try dsimp only); exact eT.out))
theorem BX (cG:Nat) (w_0:eB) (l_1:Sv cT) {r:dH} (hS:Sh.s8 w_0.pl l_1.l=some r) :
 Ct Tryz.prog 276 [ptr cG 0,l_1.val] l_1.ok (Ow.star (Sv.own w_0.eD 5) (bP cG [w_0.eD.val] 183)) (X:=eB) (fun x => .tuple #[]) (fun x=>r=x.pl) (fun x=>Mo.tt) (fun x=>Ow.star (bP cG [x.eD.val] 183) (Sv.own x.eD 5)):=by
 refine Zo Tryz.func276 Tryz.ntmps276 fun c => ?_
 unfold Sh.s8 at hS
 refine Zq (Zr ?_)
 refine Zm ?_
 refine Zu (aG rfl) ?_
 refine Zu (aC dV rfl) ?_
 refine Zm ?_
 refine Zu (dO (s:=l_1) Tryz.underlying48 rfl) ?_
 refine VL.lit (α:=Int) (xs:=[.tmp 10]) (vs:=[i64 (l_1.l.length:Int)]) [(l_1.l.length:Int)] Tryz.underlying65 oI (by decide) rfl rfl rfl rfl (by decide) (fun _ _ _ _=>trivial) (by decide) (fun OP LK => ?_) (by decide)
 replace hS:=b5 LK hS
 obtain ⟨kH,rU,hS⟩:=aU hS
 refine VL.cA (fE cG w_0 OP rU) rfl (by decide) ?_
 rintro fN rfl
 try dsimp only
 refine Zl ?_
 refine Zq (Zr ?_)
 refine Zm ?_
 refine Zu (dO (s:=l_1) Tryz.underlying48 rfl) ?_
 refine Zy ?_
 refine VC.keep (ρ':=[(0,ptr cG 0),(13,l_1.val),(14,i64 (l_1.l.length:Int)),(15,i64 0)]) [0,13,14,15] rfl ?_
 refine Zb ?_
 refine VC.iter (S:=Unit) (fun (_:Unit)=>()) (fun (_:Unit)=>[(0,ptr cG 0),(13,l_1.val),(14,i64 (l_1.l.length:Int)),(15,i64 0)]) (fun (_:Unit)=>Mo.tt) (fun (_:Unit)=>Ow.star (bP cG [fN.eD.val] 183) (Ow.star (Sv.own fN.eD 5) (Ow.emp))) () [0,13,14,15] hS rfl ?_
 clear hS
 rintro _ m1 y1 hS hK1
 refine Zq (Zr ?_)
 refine Zu (dL rfl rfl) ?_
 refine Zl ?_
 refine Zq ?_
 refine Zc hS (fun h16 hS => ?_) (fun h16 hS => ?_)
 ·
  refine Zk ?_
  refine Zq (Zb (Zq (Zr ?_)))
  obtain ⟨TQ,aIN,aHc,hS⟩:=e8 hS
  refine Zu (fM (s:=l_1) Tryz.underlying48 aCo rfl rfl aIN (bQ aIN aHc)) ?_
  refine Zu (lZ (s:=l_1) aNA rfl rfl aHc) ?_
  refine VL.alloc (cs:=[str [],i64 0,str []]) (by kernel_rfl) (by decide) fun aLQ => ?_
  refine Zv (vc:=[str TQ.verb,i64 TQ.c8,str TQ.text]) (cs':=[str TQ.verb,i64 TQ.c8,str TQ.text]) rfl aCo ?_
  refine Zl ?_
  refine Zq ?_
  cases hS
 replace hS:=gQ hS hK1
 cases hS
 exact VC.exit (p9 (.inl rfl) rfl ⟨fN.eD⟩ rfl rfl (by (try dsimp only); exact cO.out) (by (try dsimp only); exact eT.out))
theorem OV (cG:Nat) (w_0:eB) (s_1:vD) {r:dH} (hS:Sh.BW w_0.pl s_1.pl=some r) :
 Ct Tryz.prog 181 [ptr cG 0,.agg (HD s_1).toArray] (s_1.lT.ok.and (s_1.todo.ok.and (s_1.index.ok.and s_1.work.ok))) (Ow.star (Sv.own w_0.eD 5) (bP cG [w_0.eD.val] 183)) (X:=eB) (fun x => .tuple #[]) (fun x=>r=x.pl) (fun x=>Mo.tt) (fun x=>Ow.star (bP cG [x.eD.val] 183) (Sv.own x.eD 5)):=by
 refine Zo Tryz.func181 Tryz.ntmps181 fun c => ?_
 unfold Sh.BW at hS
 refine Zq (Zr ?_)
 refine VL.box (cs:=(HD s_1)) rfl rfl (by decide) fun iM => ?_
 refine Zl ?_
 refine Zq ?_
 refine VC.draw [(0,true),(1,true),(2,true),(3,true),(4,true),(5,false),(6,false)] mixed (by kernel_rfl) (by kernel_rfl) (by kernel_rfl) ?_
 refine Zw rfl (bT rfl) ?_
 refine Zw rfl (aG rfl) ?_
 refine Zw rfl (aC dV rfl) ?_
 refine Zw rfl (aC DM rfl) ?_
 refine Zw rfl (aT dK rfl rfl) ?_
 refine VD.one rfl ?_
 refine VL.lit (α:=aV) (xs:=[.tmp 8]) (vs:=[str s_1.kind]) [s_1.kind] Tryz.underlying23 wL (by decide) rfl rfl rfl rfl (by decide) (fun _ _ _ _=>trivial) (by decide) (fun aFv aAR => ?_) (by decide)
 replace hS:=b5 aAR hS
 refine VL.back (D':=[(2,ptr cG 0),(1,ptr cG 0)]) (by kernel_rfl) (aN.cons rfl (aC dV rfl) (aN.cons rfl (aG rfl) (aN.nil))) ?_
 refine VD.one rfl ?_
 obtain ⟨MI,T0,hS⟩:=aU hS
 refine VL.cA (iP cG w_0 aFv T0) rfl (by decide) ?_
 rintro GL rfl
 try dsimp only
 refine VL.back (D':=[]) (by kernel_rfl) (aN.nil) ?_
 refine VD.to (fun _ _ h=>h) ?_
 refine Zq ?_
 refine VC.draw [(0,true),(1,true),(2,true),(3,true),(4,true),(5,false),(6,false)] mixed (by kernel_rfl) (by kernel_rfl) (by kernel_rfl) ?_
 refine Zw rfl (bT rfl) ?_
 refine Zw rfl (aG rfl) ?_
 refine Zw rfl (aC dV rfl) ?_
 refine Zw rfl (aC aNE rfl) ?_
 refine Zw rfl (aT fG rfl rfl) ?_
 refine VD.one rfl ?_
 refine VL.lit (α:=Int) (xs:=[.tmp 15]) (vs:=[i64 s_1.other]) [s_1.other] Tryz.underlying65 oI (by decide) rfl rfl rfl rfl (by decide) (fun _ _ _ _=>trivial) (by decide) (fun S6 UK => ?_) (by decide)
 replace hS:=b5 UK hS
 refine VL.back (D':=[(2,ptr cG 0),(1,ptr cG 0)]) (by kernel_rfl) (aN.cons rfl (aC dV rfl) (aN.cons rfl (aG rfl) (aN.nil))) ?_
 refine VD.one rfl ?_
 obtain ⟨JB,T7,hS⟩:=aU hS
 refine VL.cA (fE cG GL S6 T7) rfl (by decide) ?_
 rintro GP rfl
 try dsimp only
 refine VL.back (D':=[]) (by kernel_rfl) (aN.nil) ?_
 refine VD.to (fun _ _ h=>h) ?_
 refine VC.keep (ρ':=[(0,ptr cG 0),(3,ptr iM 0)]) [0,3] rfl ?_
 refine Zq ?_
 refine VC.draw [(0,true),(1,true),(2,true),(3,true),(4,true),(5,false),(6,false)] mixed (by kernel_rfl) (by kernel_rfl) (by kernel_rfl) ?_
 refine Zw rfl (bT rfl) ?_
 refine Zw rfl (aG rfl) ?_
 refine Zw rfl (aC dV rfl) ?_
 refine Zw rfl (aC aNF rfl) ?_
 refine Zw rfl (aT dK rfl rfl) ?_
 refine VD.one rfl ?_
 refine VL.lit (α:=aV) (xs:=[.tmp 22]) (vs:=[str s_1.text]) [s_1.text] Tryz.underlying23 wL (by decide) rfl rfl rfl rfl (by decide) (fun _ _ _ _=>trivial) (by decide) (fun aUy aRp => ?_) (by decide)
 replace hS:=b5 aRp hS
 refine VL.back (D':=[(2,ptr cG 0),(1,ptr cG 0)]) (by kernel_rfl) (aN.cons rfl (aC dV rfl) (aN.cons rfl (aG rfl) (aN.nil))) ?_
 refine VD.one rfl ?_
 obtain ⟨aJH,aL7,hS⟩:=aU hS
 refine VL.cA (iP cG GP aUy aL7) rfl (by decide) ?_
 rintro aK1 rfl
 try dsimp only
 refine VL.back (D':=[]) (by kernel_rfl) (aN.nil) ?_
 refine VD.to (fun _ _ h=>h) ?_
 refine Zq (Zr ?_)
 refine Zm ?_
 refine Zu (aC aEY rfl) ?_
 refine Zu (aT E5 rfl rfl) ?_
 obtain ⟨MM,aLa,hS⟩:=aU hS
 refine VL.cA (BX cG aK1 s_1.lT aLa) rfl (by decide) ?_
 rintro aK4 rfl
 try dsimp only
 refine Zl ?_
 refine VC.keep (ρ':=[(0,ptr cG 0),(3,ptr iM 0)]) [0,3] rfl ?_
 refine Zq (Zr ?_)
 refine Zm ?_
 refine Zu (aC aNG rfl) ?_
 refine Zu (aT E5 rfl rfl) ?_
 obtain ⟨aJN,aLi,hS⟩:=aU hS
 refine VL.cA (BX cG aK4 s_1.todo aLi) rfl (by decide) ?_
 rintro aKa rfl
 try dsimp only
 refine Zl ?_
 refine Zq ?_
 refine VC.draw [(0,true),(1,true),(2,true),(3,true),(4,true),(5,false),(6,false)] mixed (by kernel_rfl) (by kernel_rfl) (by kernel_rfl) ?_
 refine Zw rfl (bT rfl) ?_
 refine Zw rfl (aG rfl) ?_
 refine Zw rfl (aC dV rfl) ?_
 refine Zw rfl (aC aNH rfl) ?_
 refine Zw rfl (aT fG rfl rfl) ?_
 refine VD.one rfl ?_
 refine VL.lit (α:=Int) (xs:=[.tmp 37]) (vs:=[i64 s_1.made]) [s_1.made] Tryz.underlying65 oI (by decide) rfl rfl rfl rfl (by decide) (fun _ _ _ _=>trivial) (by decide) (fun aSk aN8 => ?_) (by decide)
 replace hS:=b5 aN8 hS
 refine VL.back (D':=[(2,ptr cG 0),(1,ptr cG 0)]) (by kernel_rfl) (aN.cons rfl (aC dV rfl) (aN.cons rfl (aG rfl) (aN.nil))) ?_
 refine VD.one rfl ?_
 obtain ⟨aJV,aLx,hS⟩:=aU hS
 refine VL.cA (fE cG aKa aSk aLx) rfl (by decide) ?_
 rintro aKj rfl
 try dsimp only
 refine VL.back (D':=[]) (by kernel_rfl) (aN.nil) ?_
 refine VD.to (fun _ _ h=>h) ?_
 refine VC.keep (ρ':=[(0,ptr cG 0),(3,ptr iM 0)]) [0,3] rfl ?_
 refine Zq ?_
 refine VC.draw [(0,true),(1,true),(2,true),(3,true),(4,true),(5,false),(6,false)] mixed (by kernel_rfl) (by kernel_rfl) (by kernel_rfl) ?_
 refine Zw rfl (bT rfl) ?_
 refine Zw rfl (aG rfl) ?_
 refine Zw rfl (aC dV rfl) ?_
 refine Zw rfl (aC aNI rfl) ?_
 refine Zw rfl (aT dK rfl rfl) ?_
 refine VD.one rfl ?_
 refine VL.lit (α:=aV) (xs:=[.tmp 44]) (vs:=[str s_1.branch]) [s_1.branch] Tryz.underlying23 wL (by decide) rfl rfl rfl rfl (by decide) (fun _ _ _ _=>trivial) (by decide) (fun aSp aNd => ?_) (by decide)
 replace hS:=b5 aNd hS
 refine VL.back (D':=[(2,ptr cG 0),(1,ptr cG 0)]) (by kernel_rfl) (aN.cons rfl (aC dV rfl) (aN.cons rfl (aG rfl) (aN.nil))) ?_
 refine VD.one rfl ?_
 obtain ⟨aJ2,aMG,hS⟩:=aU hS
 refine VL.cA (iP cG aKj aSp aMG) rfl (by decide) ?_
 rintro aKp rfl
 try dsimp only
 refine VL.back (D':=[]) (by kernel_rfl) (aN.nil) ?_
 refine VD.to (fun _ _ h=>h) ?_
 refine Zq (Zr ?_)
 refine Zm ?_
 refine Zu (aC aNJ rfl) ?_
 refine Zu (LX (j:=7) (n:=2) UC rfl rfl rfl) ?_
 obtain ⟨WA,Z6,hS⟩:=aU hS
 refine VL.cA (CF cG aKp (⟨s_1.cU,s_1.cV⟩:nI) Z6) rfl (by decide) ?_
 rintro XN rfl
 try dsimp only
 refine Zl ?_
 refine VC.keep (ρ':=[(0,ptr cG 0),(3,ptr iM 0)]) [0,3] rfl ?_
 refine Zq (Zr ?_)
 refine Zm ?_
 refine Zu (aC aNK rfl) ?_
 refine Zu (aT lW rfl rfl) ?_
 obtain ⟨aJ7,aMS,hS⟩:=aU hS
 refine VL.cA (y9 cG XN s_1.index aMS) rfl (by decide) ?_
 rintro aKs rfl
 try dsimp only
 refine Zl ?_
 refine Zr ?_
 refine Zm ?_
 refine Zu (aC aNL rfl) ?_
 refine Zu (aT iN rfl rfl) ?_
 obtain ⟨aJb,aMX,hS⟩:=aU hS
 refine VL.cA (xB cG aKs s_1.work aMX) rfl (by decide) ?_
 rintro aKu rfl
 try dsimp only
 cases hS
 exact VL.nil (p9 (.inl rfl) rfl ⟨aKu.eD⟩ rfl rfl (by (try dsimp only); exact cO.out) (by (try dsimp only); exact eT.out))
theorem D2 (cG:Nat) (w_0:eB) (n_1:iX) {r:dH} (hS:Sh.wE w_0.pl n_1.pl=some r) :
 Ct Tryz.prog 105 [ptr cG 0,.agg (kS n_1).toArray] (n_1.work.ok.and (n_1.index.ok.and (n_1.refs.ok.and (n_1.fV.ok.and (n_1.gK.ok.and (n_1.fW.ok.and (n_1.gL.ok.and n_1.fB.ok))))))) (Ow.star (Sv.own w_0.eD 5) (bP cG [w_0.eD.val] 183)) (X:=eB) (fun x => .tuple #[]) (fun x=>r=x.pl) (fun x=>Mo.tt) (fun x=>Ow.star (bP cG [x.eD.val] 183) (Sv.own x.eD 5)):=by
 refine Zo Tryz.func105 Tryz.ntmps105 fun c => ?_
 unfold Sh.wE at hS
 refine Zq (Zr ?_)
 refine VL.box (cs:=(kS n_1)) rfl rfl (by decide) fun iM => ?_
 refine Zl ?_
 refine Zq (Zr ?_)
 refine Zm ?_
 refine Zu (aC qS rfl) ?_
 refine Zu (aT iN rfl rfl) ?_
 obtain ⟨uE,T1,hS⟩:=aU hS
 refine VL.cA (xB cG w_0 n_1.work T1) rfl (by decide) ?_
 rintro aOY rfl
 try dsimp only
 refine Zl ?_
 refine Zq (Zr ?_)
 refine Zm ?_
 refine Zu (aC o3 rfl) ?_
 refine Zu (aT lW rfl rfl) ?_
 obtain ⟨aPP,aQF,hS⟩:=aU hS
 refine VL.cA (y9 cG aOY n_1.index aQF) rfl (by decide) ?_
 rintro aO2 rfl
 try dsimp only
 refine Zl ?_
 refine VC.keep (ρ':=[(0,ptr cG 0),(3,ptr iM 0)]) [0,3] rfl ?_
 refine Zq ?_
 refine VC.draw [(0,true),(1,true),(2,true),(3,true),(4,true),(5,true),(6,false),(7,false)] mixed (by kernel_rfl) (by kernel_rfl) (by kernel_rfl) ?_
 refine Zw rfl (bT rfl) ?_
 refine Zw rfl (aG rfl) ?_
 refine Zw rfl (aC dV rfl) ?_
 refine Zw rfl (aC j4 rfl) ?_
 refine Zw rfl (aT rW rfl rfl) ?_
 refine Zw rfl (dO (s:=n_1.refs) Tryz.underlying45 rfl) ?_
 refine VD.one rfl ?_
 refine VL.lit (α:=Int) (xs:=[.tmp 21]) (vs:=[i64 (n_1.refs.l.length:Int)]) [(n_1.refs.l.length:Int)] Tryz.underlying65 oI (by decide) rfl rfl rfl rfl (by decide) (fun _ _ _ _=>trivial) (by decide) (fun aUx aRn => ?_) (by decide)
 replace hS:=b5 aRn hS
 refine VL.back (D':=[(2,ptr cG 0),(1,ptr cG 0)]) (by kernel_rfl) (aN.cons rfl (aC dV rfl) (aN.cons rfl (aG rfl) (aN.nil))) ?_
 refine VD.one rfl ?_
 obtain ⟨C5,LD,hS⟩:=aU hS
 refine VL.cA (fE cG aO2 aUx LD) rfl (by decide) ?_
 rintro GQ rfl
 try dsimp only
 refine VL.back (D':=[]) (by kernel_rfl) (aN.nil) ?_
 refine VD.to (fun _ _ h=>h) ?_
 refine Zq (Zq (Zr ?_))
 refine Zu (aC j4 rfl) ?_
 refine Zu (aT rW rfl rfl) ?_
 refine Zu (dO (s:=n_1.refs) Tryz.underlying45 rfl) ?_
 refine Zy ?_
 refine VC.keep (ρ':=[(0,ptr cG 0),(3,ptr iM 0),(25,n_1.refs.val),(26,i64 (n_1.refs.l.length:Int)),(27,i64 0)]) [0,3,25,26,27] rfl ?_
 refine Zb ?_
 refine VC.iter (S:=Int×Sv UInt8) (fun sg=>(sg.1,sg.2.l)) (fun sg=>[(0,ptr cG 0),(3,ptr iM 0),(25,n_1.refs.val),(26,i64 (n_1.refs.l.length:Int)),(27,i64 sg.1)]) (fun sg=>Mo.tt) (fun sg=>Ow.star (bP cG [sg.2.val] 183) (Ow.star (bP iM (kS n_1) 54) (Ow.star (Sv.own sg.2 5) (Ow.emp)))) (0,GQ.eD) [0,3,25,26,27] hS rfl ?_
 clear hS
 rintro ⟨PE,jZ⟩ m1 y1 hS hK1
 refine Zq (Zr ?_)
 refine Zu (dL rfl rfl) ?_
 refine Zl ?_
 refine Zq ?_
 refine Zc hS (fun h28 hS => ?_) (fun h28 hS => ?_)
 ·
  refine Zk ?_
  refine Zq (Zb (Zq (Zr ?_)))
  obtain ⟨HC,aI5,aHr,hS⟩:=e8 hS
  refine Zu (fM (s:=n_1.refs) Tryz.underlying45 nO rfl rfl aI5 (bQ aI5 aHr)) ?_
  refine Zu (lZ (s:=n_1.refs) aAC rfl rfl aHr) ?_
  refine VL.alloc (cs:=[str [],i64 0]) (by kernel_rfl) (by decide) fun aUG => ?_
  refine Zv (vc:=[str HC.name,i64 HC.c8]) (cs':=[str HC.name,i64 HC.c8]) rfl nO ?_
  refine Zl ?_
  refine Zq ?_
  refine VC.draw [(0,true),(1,true),(2,true),(3,true),(4,true),(5,false),(6,false)] mixed (by kernel_rfl) (by kernel_rfl) (by kernel_rfl) ?_
  refine Zw rfl (bT rfl) ?_
  refine Zw rfl (aG rfl) ?_
  refine Zw rfl (aC dV rfl) ?_
  refine Zw rfl (aC aBu rfl) ?_
  refine Zw rfl (aT dK rfl rfl) ?_
  refine VD.one rfl ?_
  refine VL.lit (α:=aV) (xs:=[.tmp 35]) (vs:=[str HC.name]) [HC.name] Tryz.underlying23 wL (by decide) rfl rfl rfl rfl (by decide) (fun _ _ _ _=>trivial) (by decide) (fun aSj aN7 => ?_) (by decide)
  replace hS:=b5 aN7 hS
  refine VL.back (D':=[(2,ptr cG 0),(1,ptr cG 0)]) (by kernel_rfl) (aN.cons rfl (aC dV rfl) (aN.cons rfl (aG rfl) (aN.nil))) ?_
  refine VD.one rfl ?_
  obtain ⟨aJT,aLu,hS⟩:=aU hS
  refine VL.cA (iP cG (⟨jZ⟩:eB) aSj aLu) rfl (by decide) ?_
  rintro aKi rfl
  try dsimp only
  refine VL.back (D':=[]) (by kernel_rfl) (aN.nil) ?_
  refine VD.to (fun _ _ h=>h) ?_
  refine VC.keep (ρ':=[(0,ptr cG 0),(3,ptr iM 0),(25,n_1.refs.val),(26,i64 (n_1.refs.l.length:Int)),(27,i64 PE),(5,ptr aUG 0)]) [0,3,25,26,27,5] rfl ?_
  refine VC.draw [(0,true),(1,true),(2,true),(3,true),(4,true),(5,false),(6,false)] mixed (by kernel_rfl) (by kernel_rfl) (by kernel_rfl) ?_
  refine Zw rfl (bT rfl) ?_
  refine Zw rfl (aG rfl) ?_
  refine Zw rfl (aC dV rfl) ?_
  refine Zw rfl (aC P5 rfl) ?_
  refine Zw rfl (aT fG rfl rfl) ?_
  refine VD.one rfl ?_
  refine VL.lit (α:=Int) (xs:=[.tmp 42]) (vs:=[i64 HC.c8]) [HC.c8] Tryz.underlying65 oI (by decide) rfl rfl rfl rfl (by decide) (fun _ _ _ _=>trivial) (by decide) (fun aSn aNb => ?_) (by decide)
  replace hS:=b5 aNb hS
  refine VL.back (D':=[(2,ptr cG 0),(1,ptr cG 0)]) (by kernel_rfl) (aN.cons rfl (aC dV rfl) (aN.cons rfl (aG rfl) (aN.nil))) ?_
  refine VD.one rfl ?_
  obtain ⟨aJZ,aMC,hS⟩:=aU hS
  refine VL.cA (fE cG aKi aSn aMC) rfl (by decide) ?_
  rintro aKn rfl
  try dsimp only
  refine VL.back (D':=[]) (by kernel_rfl) (aN.nil) ?_
  refine VD.to (fun _ _ h=>h) ?_
  refine VC.keep (ρ':=[(0,ptr cG 0),(3,ptr iM 0),(25,n_1.refs.val),(26,i64 (n_1.refs.l.length:Int)),(27,i64 PE)]) [0,3,25,26,27] rfl ?_
  refine Zr ?_
  obtain ⟨b45,hS⟩:=bS hS
  refine Zu (cK rfl rfl b45) ?_
  refine Zm ?_
  refine VL.jC ((PE+1),aKn.eD) [0,3,25,26,27] (fun _ _ h=>h) (go2 hS hK1) rfl
 replace hS:=gQ hS hK1
 refine Zx ?_
 refine Zq (Zr ?_)
 refine Zm ?_
 refine Zu (aC nM rfl) ?_
 refine Zu (LX (j:=3) (n:=2) UC rfl rfl rfl) ?_
 obtain ⟨V8,Z5,hS⟩:=aU hS
 refine VL.cA (CF cG (⟨jZ⟩:eB) (⟨n_1.cU,n_1.cV⟩:nI) Z5) rfl (by decide) ?_
 rintro XM rfl
 try dsimp only
 refine Zl ?_
 refine Zq (Zr ?_)
 refine Zm ?_
 refine Zu (aC qT rfl) ?_
 refine Zu (LX (j:=5) (n:=11) aH1 rfl rfl rfl) ?_
 obtain ⟨aJ5,aMO,hS⟩:=aU hS
 refine VL.cA (OV cG XM (⟨n_1.j5,n_1.iW,n_1.j7,n_1.fV,n_1.gK,n_1.j6,n_1.hG,n_1.eX,n_1.eY,n_1.fW,n_1.gL⟩:vD) aMO) rfl (by decide) ?_
 rintro aKq rfl
 try dsimp only
 refine Zl ?_
 refine VC.keep (ρ':=[(0,ptr cG 0),(3,ptr iM 0)]) [0,3] rfl ?_
 refine Zq ?_
 refine VC.draw [(0,true),(1,true),(2,true),(3,true),(4,true),(5,true),(6,false),(7,false)] mixed (by kernel_rfl) (by kernel_rfl) (by kernel_rfl) ?_
 refine Zw rfl (bT rfl) ?_
 refine Zw rfl (aG rfl) ?_
 refine Zw rfl (aC dV rfl) ?_
 refine Zw rfl (aC wJ rfl) ?_
 refine Zw rfl (aT HQ rfl rfl) ?_
 refine Zw rfl (qG dR.pl (s:=n_1.fB) Tryz.underlying52 rfl) ?_
 refine VD.one rfl ?_
 refine VL.lit (α:=Int) (xs:=[.tmp 59]) (vs:=[i64 ((n_1.fB.l.map dR.pl).length:Int)]) [((n_1.fB.l.map dR.pl).length:Int)] Tryz.underlying65 oI (by decide) rfl rfl rfl rfl (by decide) (fun _ _ _ _=>trivial) (by decide) (fun aD2 aAQ => ?_) (by decide)
 replace hS:=b5 aAQ hS
 refine VL.back (D':=[(2,ptr cG 0),(1,ptr cG 0)]) (by kernel_rfl) (aN.cons rfl (aC dV rfl) (aN.cons rfl (aG rfl) (aN.nil))) ?_
 refine VD.one rfl ?_
 obtain ⟨WD,aM2,hS⟩:=aU hS
 refine VL.cA (fE cG aKq aD2 aM2) rfl (by decide) ?_
 rintro XQ rfl
 try dsimp only
 refine VL.back (D':=[]) (by kernel_rfl) (aN.nil) ?_
 refine VD.to (fun _ _ h=>h) ?_
 refine Zq (Zr ?_)
 refine Zu (aC wJ rfl) ?_
 refine Zu (aT HQ rfl rfl) ?_
 refine Zu (qG dR.pl (s:=n_1.fB) Tryz.underlying52 rfl) ?_
 refine Zy ?_
 refine VC.keep (ρ':=[(0,ptr cG 0),(63,n_1.fB.val),(64,i64 ((n_1.fB.l.map dR.pl).length:Int)),(65,i64 0)]) [0,63,64,65] rfl ?_
 refine Zb ?_
 refine VC.iter (S:=Unit) (fun (_:Unit)=>()) (fun (_:Unit)=>[(0,ptr cG 0),(63,n_1.fB.val),(64,i64 ((n_1.fB.l.map dR.pl).length:Int)),(65,i64 0)]) (fun (_:Unit)=>Mo.tt) (fun (_:Unit)=>Ow.star (bP cG [XQ.eD.val] 183) (Ow.star (bP iM (kS n_1) 54) (Ow.star (Sv.own XQ.eD 5) (Ow.emp)))) () [0,63,64,65] hS rfl ?_
 clear hS
 rintro _ m1 y1 hS hK1
 refine Zq (Zr ?_)
 refine Zu (dL rfl rfl) ?_
 refine Zl ?_
 refine Zq ?_
 refine Zc hS (fun h66 hS => ?_) (fun h66 hS => ?_)
 ·
  refine Zk ?_
  refine Zq (Zb (Zq (Zr ?_)))
  obtain ⟨DF,aF2,aAV,hS⟩:=IK hS
  refine VL.deep DF.m aAV (fun _ q=>q) ?_
  refine Zu (fM (s:=n_1.fB) Tryz.underlying52 aCp rfl rfl aF2 (bQ aF2 aAV)) ?_
  refine Zu (lZ (s:=n_1.fB) aNB rfl rfl aAV) ?_
  refine VL.alloc (cs:=[i64 0,.slice none 0 0,.slice none 0 0,str []]) (by kernel_rfl) (by decide) fun aVz => ?_
  refine Zv (vc:=[i64 DF.base,DF.index.val,DF.work.val,str DF.text]) (cs':=[i64 DF.base,DF.index.val,DF.work.val,str DF.text]) rfl aCp ?_
  refine Zl ?_
  refine Zq ?_
  cases hS
 replace hS:=gQ hS hK1
 cases hS
 exact VC.exit (p9 (.inl rfl) rfl ⟨XQ.eD⟩ rfl rfl (by (try dsimp only); exact cO.out) (by (try dsimp only); exact eT.out))
theorem BZ (cG:Nat) (w_0:eB) (l_1:Sv aV) {r:dH} (hS:Sh.s9 w_0.pl l_1.l=some r) :
 Ct Tryz.prog 229 [ptr cG 0,l_1.val] l_1.ok (Ow.star (Sv.own w_0.eD 5) (bP cG [w_0.eD.val] 183)) (X:=eB) (fun x => .tuple #[]) (fun x=>r=x.pl) (fun x=>Mo.tt) (fun x=>Ow.star (bP cG [x.eD.val] 183) (Sv.own x.eD 5)):=by
 refine Zo Tryz.func229 Tryz.ntmps229 fun c => ?_
 unfold Sh.s9 at hS
 refine Zq (Zr ?_)
 refine Zm ?_
 refine Zu (aG rfl) ?_
 refine Zu (aC dV rfl) ?_
 refine Zm ?_
 refine Zu (dO (s:=l_1) Tryz.underlying23 rfl) ?_
 refine VL.lit (α:=Int) (xs:=[.tmp 8]) (vs:=[i64 (l_1.l.length:Int)]) [(l_1.l.length:Int)] Tryz.underlying65 oI (by decide) rfl rfl rfl rfl (by decide) (fun _ _ _ _=>trivial) (by decide) (fun aVo aU2 => ?_) (by decide)
 replace hS:=b5 aU2 hS
 obtain ⟨qJ,EY,hS⟩:=aU hS
 refine VL.cA (fE cG w_0 aVo EY) rfl (by decide) ?_
 rintro iF rfl
 try dsimp only
 refine Zl ?_
 refine Zr ?_
 refine Zm ?_
 refine Zu (aG rfl) ?_
 refine Zu (aC dV rfl) ?_
 refine Zm ?_
 obtain ⟨C3,T6,hS⟩:=aU hS
 refine VL.cA (iP cG iF l_1 T6) rfl (by decide) ?_
 rintro VE rfl
 try dsimp only
 cases hS
 exact VL.nil (p9 (.inl rfl) rfl ⟨VE.eD⟩ rfl rfl (by (try dsimp only); exact cO.out) (by (try dsimp only); exact eT.out))
theorem MF (cG:Nat) (w_0:eB) (s_1:cC) {r:dH} (hS:Sh.yR w_0.pl s_1.pl=some r) :
 Ct Tryz.prog 144 [ptr cG 0,.agg (aE s_1).toArray] (s_1.bD.ok.and (s_1.aX.ok.and (s_1.bK.ok.and (s_1.aM.ok.and (s_1.aR.ok.and (s_1.aO.ok.and (s_1.aS.ok.and (s_1.aZ.ok.and (s_1.bB.ok.and (s_1.bL.ok.and s_1.bE.ok)))))))))) (Ow.star (Sv.own w_0.eD 5) (bP cG [w_0.eD.val] 183)) (X:=eB) (fun x => .tuple #[]) (fun x=>r=x.pl) (fun x=>Mo.tt) (fun x=>Ow.star (bP cG [x.eD.val] 183) (Sv.own x.eD 5)):=by
 refine Zo Tryz.func144 Tryz.ntmps144 fun c => ?_
 unfold Sh.yR at hS
 refine Zq (Zr ?_)
 refine VL.box (cs:=(aE s_1)) rfl rfl (by decide) fun iM => ?_
 refine Zl ?_
 refine Zq (Zr ?_)
 refine Zm ?_
 refine Zu (aC dS rfl) ?_
 refine Zu (LX (j:=0) (n:=17) E4 rfl rfl rfl) ?_
 obtain ⟨EU,aAA,hS⟩:=aU hS
 refine VL.cA (D2 cG w_0 (⟨s_1.bD,s_1.aX,s_1.bK,s_1.aP,s_1.aF,s_1.bC,s_1.bA,s_1.bJ,s_1.aM,s_1.aR,s_1.bI,s_1.aW,s_1.aI,s_1.aJ,s_1.aO,s_1.aS,s_1.aZ⟩:iX) aAA) rfl (by decide) ?_
 rintro QF rfl
 try dsimp only
 refine Zl ?_
 refine Zq ?_
 refine VC.draw [(0,true),(1,true),(2,true),(3,true),(4,true),(5,true),(6,false),(7,false)] mixed (by kernel_rfl) (by kernel_rfl) (by kernel_rfl) ?_
 refine Zw rfl (bT rfl) ?_
 refine Zw rfl (aG rfl) ?_
 refine Zw rfl (aC dV rfl) ?_
 refine Zw rfl (aC lJ rfl) ?_
 refine Zw rfl (aT qC rfl rfl) ?_
 refine Zw rfl (qG cD.pl (s:=s_1.bB) Tryz.underlying55 rfl) ?_
 refine VD.one rfl ?_
 refine VL.lit (α:=Int) (xs:=[.tmp 15]) (vs:=[i64 ((s_1.bB.l.map cD.pl).length:Int)]) [((s_1.bB.l.map cD.pl).length:Int)] Tryz.underlying65 oI (by decide) rfl rfl rfl rfl (by decide) (fun _ _ _ _=>trivial) (by decide) (fun S5 aCt => ?_) (by decide)
 replace hS:=b5 aCt hS
 refine VL.back (D':=[(2,ptr cG 0),(1,ptr cG 0)]) (by kernel_rfl) (aN.cons rfl (aC dV rfl) (aN.cons rfl (aG rfl) (aN.nil))) ?_
 refine VD.one rfl ?_
 obtain ⟨C4,LB,hS⟩:=aU hS
 refine VL.cA (fE cG QF S5 LB) rfl (by decide) ?_
 rintro DV rfl
 try dsimp only
 refine VL.back (D':=[]) (by kernel_rfl) (aN.nil) ?_
 refine VD.to (fun _ _ h=>h) ?_
 refine VC.keep (ρ':=[(0,ptr cG 0),(3,ptr iM 0)]) [0,3] rfl ?_
 refine Zq (Zq (Zr ?_))
 refine Zu (aC lJ rfl) ?_
 refine Zu (aT qC rfl rfl) ?_
 refine Zu (qG cD.pl (s:=s_1.bB) Tryz.underlying55 rfl) ?_
 refine Zy ?_
 refine Zb ?_
 refine VC.iter (S:=Int×Sv UInt8) (fun sg=>(sg.1,sg.2.l)) (fun sg=>[(0,ptr cG 0),(3,ptr iM 0),(19,s_1.bB.val),(20,i64 ((s_1.bB.l.map cD.pl).length:Int)),(21,i64 sg.1)]) (fun sg=>Mo.tt) (fun sg=>Ow.star (bP cG [sg.2.val] 183) (Ow.star (bP iM (aE s_1) 59) (Ow.star (Sv.own sg.2 5) (Ow.emp)))) (0,DV.eD) [0,3,19,20,21] hS rfl ?_
 clear hS
 rintro ⟨JA,aEG⟩ m1 y1 hS hK1
 refine Zq (Zr ?_)
 refine Zu (dL rfl rfl) ?_
 refine Zl ?_
 refine Zq ?_
 refine Zc hS (fun h22 hS => ?_) (fun h22 hS => ?_)
 ·
  refine Zk ?_
  refine Zq (Zb (Zq (Zr ?_)))
  obtain ⟨qL,aI2,aCz,hS⟩:=IK hS
  refine VL.deep qL.m aCz (fun _ q=>q) ?_
  refine Zu (fM (s:=s_1.bB) Tryz.underlying55 SI rfl rfl aI2 (bQ aI2 aCz)) ?_
  refine Zu (lZ (s:=s_1.bB) aH3 rfl rfl aCz) ?_
  refine VL.alloc (cs:=[.slice none 0 0,.slice none 0 0,i64 0,str []]) (by kernel_rfl) (by decide) fun aLR => ?_
  refine Zv (vc:=[qL.tree.val,qL.parents.val,i64 qL.time,str qL.text]) (cs':=[qL.tree.val,qL.parents.val,i64 qL.time,str qL.text]) rfl SI ?_
  refine Zl ?_
  refine Zq (Zr ?_)
  refine Zm ?_
  refine Zu (aC aE0 rfl) ?_
  refine Zu (aT iN rfl rfl) ?_
  obtain ⟨wH,AY,hS⟩:=aU hS
  refine VL.cA (xB cG (⟨aEG⟩:eB) qL.tree AY) rfl (by decide) ?_
  rintro aK3 rfl
  try dsimp only
  refine Zl ?_
  refine VC.keep (ρ':=[(0,ptr cG 0),(3,ptr iM 0),(19,s_1.bB.val),(20,i64 ((s_1.bB.l.map cD.pl).length:Int)),(21,i64 JA),(5,ptr aLR 0)]) [0,3,19,20,21,5] rfl ?_
  refine Zq ?_
  refine VC.draw [(0,true),(1,true),(2,true),(3,true),(4,true),(5,true),(6,false),(7,false)] mixed (by kernel_rfl) (by kernel_rfl) (by kernel_rfl) ?_
  refine Zw rfl (bT rfl) ?_
  refine Zw rfl (aG rfl) ?_
  refine Zw rfl (aC dV rfl) ?_
  refine Zw rfl (aC UG rfl) ?_
  refine Zw rfl (aT zD rfl rfl) ?_
  refine Zw rfl (dO (s:=qL.parents) Tryz.underlying65 rfl) ?_
  refine VD.one rfl ?_
  refine VL.lit (α:=Int) (xs:=[.tmp 34]) (vs:=[i64 (qL.parents.l.length:Int)]) [(qL.parents.l.length:Int)] Tryz.underlying65 oI (by decide) rfl rfl rfl rfl (by decide) (fun _ _ _ _=>trivial) (by decide) (fun aSi aN6 => ?_) (by decide)
  replace hS:=b5 aN6 hS
  refine VL.back (D':=[(2,ptr cG 0),(1,ptr cG 0)]) (by kernel_rfl) (aN.cons rfl (aC dV rfl) (aN.cons rfl (aG rfl) (aN.nil))) ?_
  refine VD.one rfl ?_
  obtain ⟨aJR,aLp,hS⟩:=aU hS
  refine VL.cA (fE cG aK3 aSi aLp) rfl (by decide) ?_
  rintro aKf rfl
  try dsimp only
  refine VL.back (D':=[]) (by kernel_rfl) (aN.nil) ?_
  refine VD.to (fun _ _ h=>h) ?_
  refine VC.keep (ρ':=[(0,ptr cG 0),(3,ptr iM 0),(19,s_1.bB.val),(20,i64 ((s_1.bB.l.map cD.pl).length:Int)),(21,i64 JA),(5,ptr aLR 0)]) [0,3,19,20,21,5] rfl ?_
  refine Zq ?_
  refine VC.draw [(0,true),(1,true),(2,true),(3,true),(4,true),(5,false)] mixed (by kernel_rfl) (by kernel_rfl) (by kernel_rfl) ?_
  refine Zw rfl (bT rfl) ?_
  refine Zw rfl (aG rfl) ?_
  refine Zw rfl (aC dV rfl) ?_
  refine Zw rfl (aC UG rfl) ?_
  refine Zw rfl (aT zD rfl rfl) ?_
  refine VD.one rfl ?_
  obtain ⟨aJX,aMA,hS⟩:=aU hS
  refine VL.cA (fE cG aKf qL.parents aMA) rfl (by decide) ?_
  rintro aKm rfl
  try dsimp only
  refine VL.back (D':=[]) (by kernel_rfl) (aN.nil) ?_
  refine VD.to (fun _ _ h=>h) ?_
  refine Zq ?_
  refine VC.draw [(0,true),(1,true),(2,true),(3,true),(4,true),(5,false),(6,false)] mixed (by kernel_rfl) (by kernel_rfl) (by kernel_rfl) ?_
  refine Zw rfl (bT rfl) ?_
  refine Zw rfl (aG rfl) ?_
  refine Zw rfl (aC dV rfl) ?_
  refine Zw rfl (aC aNN rfl) ?_
  refine Zw rfl (aT fG rfl rfl) ?_
  refine VD.one rfl ?_
  refine VL.lit (α:=Int) (xs:=[.tmp 47]) (vs:=[i64 qL.time]) [qL.time] Tryz.underlying65 oI (by decide) rfl rfl rfl rfl (by decide) (fun _ _ _ _=>trivial) (by decide) (fun aSq aNf => ?_) (by decide)
  replace hS:=b5 aNf hS
  refine VL.back (D':=[(2,ptr cG 0),(1,ptr cG 0)]) (by kernel_rfl) (aN.cons rfl (aC dV rfl) (aN.cons rfl (aG rfl) (aN.nil))) ?_
  refine VD.one rfl ?_
  obtain ⟨V8,Z5,hS⟩:=aU hS
  refine VL.cA (fE cG aKm aSq Z5) rfl (by decide) ?_
  rintro XM rfl
  try dsimp only
  refine VL.back (D':=[]) (by kernel_rfl) (aN.nil) ?_
  refine VD.to (fun _ _ h=>h) ?_
  refine VC.keep (ρ':=[(0,ptr cG 0),(3,ptr iM 0),(19,s_1.bB.val),(20,i64 ((s_1.bB.l.map cD.pl).length:Int)),(21,i64 JA),(5,ptr aLR 0)]) [0,3,19,20,21,5] rfl ?_
  refine VC.draw [(0,true),(1,true),(2,true),(3,true),(4,true),(5,false),(6,false)] mixed (by kernel_rfl) (by kernel_rfl) (by kernel_rfl) ?_
  refine Zw rfl (bT rfl) ?_
  refine Zw rfl (aG rfl) ?_
  refine Zw rfl (aC dV rfl) ?_
  refine Zw rfl (aC aNO rfl) ?_
  refine Zw rfl (aT dK rfl rfl) ?_
  refine VD.one rfl ?_
  refine VL.lit (α:=aV) (xs:=[.tmp 54]) (vs:=[str qL.text]) [qL.text] Tryz.underlying23 wL (by decide) rfl rfl rfl rfl (by decide) (fun _ _ _ _=>trivial) (by decide) (fun aSx aNn => ?_) (by decide)
  replace hS:=b5 aNn hS
  refine VL.back (D':=[(2,ptr cG 0),(1,ptr cG 0)]) (by kernel_rfl) (aN.cons rfl (aC dV rfl) (aN.cons rfl (aG rfl) (aN.nil))) ?_
  refine VD.one rfl ?_
  obtain ⟨aJa,aMW,hS⟩:=aU hS
  refine VL.cA (iP cG XM aSx aMW) rfl (by decide) ?_
  rintro aKt rfl
  try dsimp only
  refine VL.back (D':=[]) (by kernel_rfl) (aN.nil) ?_
  refine VD.to (fun _ _ h=>h) ?_
  refine VC.keep (ρ':=[(0,ptr cG 0),(3,ptr iM 0),(19,s_1.bB.val),(20,i64 ((s_1.bB.l.map cD.pl).length:Int)),(21,i64 JA)]) [0,3,19,20,21] rfl ?_
  refine Zr ?_
  obtain ⟨b57,hS⟩:=bS hS
  refine Zu (cK rfl rfl b57) ?_
  refine Zm ?_
  refine VL.jC ((JA+1),aKt.eD) [0,3,19,20,21] (fun _ _ h=>h) (go2 hS hK1) rfl
 replace hS:=gQ hS hK1
 refine Zx ?_
 refine Zq (Zr ?_)
 refine Zm ?_
 refine Zu (aC NR rfl) ?_
 refine Zu (aC aEZ rfl) ?_
 refine Zu (aT oK rfl rfl) ?_
 obtain ⟨aJf,aM3,hS⟩:=aU hS
 refine VL.cA (BZ cG (⟨aEG⟩:eB) s_1.bL aM3) rfl (by decide) ?_
 rintro aKv rfl
 try dsimp only
 refine Zl ?_
 refine VC.keep (ρ':=[(0,ptr cG 0),(3,ptr iM 0)]) [0,3] rfl ?_
 refine Zq (Zr ?_)
 refine Zm ?_
 refine Zu (aC NR rfl) ?_
 refine Zu (aC aNM rfl) ?_
 refine Zu (aT oK rfl rfl) ?_
 obtain ⟨aJm,aMb,hS⟩:=aU hS
 refine VL.cA (BZ cG aKv s_1.bE aMb) rfl (by decide) ?_
 rintro aKz rfl
 try dsimp only
 refine Zl ?_
 refine VC.draw [(0,true),(1,true),(2,true),(3,true),(4,true),(5,false),(6,false)] mixed (by kernel_rfl) (by kernel_rfl) (by kernel_rfl) ?_
 refine Zw rfl (bT rfl) ?_
 refine Zw rfl (aG rfl) ?_
 refine Zw rfl (aC dV rfl) ?_
 refine Zw rfl (aC UF rfl) ?_
 refine Zw rfl (aT fG rfl rfl) ?_
 refine VD.one rfl ?_
 refine VL.lit (α:=Int) (xs:=[.tmp 72]) (vs:=[i64 s_1.time]) [s_1.time] Tryz.underlying65 oI (by decide) rfl rfl rfl rfl (by decide) (fun _ _ _ _=>trivial) (by decide) (fun aTD aNx => ?_) (by decide)
 replace hS:=b5 aNx hS
 refine VL.back (D':=[(2,ptr cG 0),(1,ptr cG 0)]) (by kernel_rfl) (aN.cons rfl (aC dV rfl) (aN.cons rfl (aG rfl) (aN.nil))) ?_
 refine VD.one rfl ?_
 obtain ⟨aJq,aMh,hS⟩:=aU hS
 refine VL.cA (fE cG aKz aTD aMh) rfl (by decide) ?_
 rintro aLA rfl
 try dsimp only
 refine VL.back (D':=[]) (by kernel_rfl) (aN.nil) ?_
 cases hS
 exact VD.nil (p9 (.inl rfl) rfl ⟨aLA.eD⟩ rfl rfl (by (try dsimp only); exact cO.out) (by (try dsimp only); exact eT.out))
theorem w6 (aB:Sv UInt8) {r:List UInt8} (hS:Sh.pT aB.l=some r) :
 Ct Tryz.prog 183 [aB.val] aB.ok (Ow.emp) (X:=Sv UInt8) (fun x=>x.val) (fun x=>r=x.l) (fun x=>Mo.tt) (fun x=>Sv.own x 5):=by
 refine Zo Tryz.func183 Tryz.ntmps183 fun c => ?_
 unfold Sh.pT at hS
 refine Zq (Zr ?_)
 refine Zy ?_
 refine Zq (Zq (Zr ?_))
 refine Zm ?_
 refine Zu (DZ (s:=aB) Tryz.underlying124 rfl) ?_
 refine Zl ?_
 refine VC.slnil (s:=aB) rfl (fun h4 => ?_) ?_
 ·
  have hS:(some [])=some r:=by
    simp [lt,gd,h4] at hS ⊢
    try exact hS
  refine Zq (Zr ?_)
  refine Zy ?_
  refine VC.lR (⟨none,0,[]⟩:Sv UInt8) 5 ⟨rfl,rfl⟩ ?_
  cases hS
  exact VC.ret (fA (.inr rfl) rfl rfl ⟨none,0,[]⟩ rfl rfl (by (try dsimp only); exact cO.out) (by (try dsimp only); exact eT.out))
 refine Zk ?_
 refine Zq (Zr ?_)
 refine VL.YE (α:=UInt8) Tryz.underlying124 aUT (by decide) (fun wY qD uM => ?_)
 refine VL.lR wY 5 ⟨uM,qD⟩ ?_
 replace hS:=b5 qD hS
 refine Zm ?_
 obtain ⟨b7,hS⟩:=bS hS
 refine VL.app (s:=wY) (r:=aB) Tryz.underlying124 aND (by decide) rfl Fo.out (uW b7) (uX b7 (by decide)) (by decide) (fun GY yI => ?_)
 replace hS:=b5 yI hS
 refine Zy ?_
 cases hS
 exact VC.ret (fA (.inr rfl) rfl rfl GY rfl rfl (by (try dsimp only); exact cO.out) (by (try dsimp only); exact eT.out))
theorem HF (aB:Sv UInt8) {r:List UInt8} (hS:Sh.uN aB.l=some r) :
 Ct Tryz.prog 182 [aB.val] aB.ok (Ow.emp) (X:=Sv UInt8) (fun x=>x.val) (fun x=>r=x.l) (fun x=>x.ok) (fun x=>Ow.emp):=by
 refine Zo Tryz.func182 Tryz.ntmps182 fun c => ?_
 unfold Sh.uN at hS
 refine Zq (Zr ?_)
 refine Zy ?_
 refine Zq (Zr ?_)
 refine Zy ?_
 refine Zu (dO (s:=aB) Tryz.underlying124 rfl) ?_
 refine Zm ?_
 refine Zu (dO (s:=aB) Tryz.underlying124 rfl) ?_
 obtain ⟨b8,hS⟩:=bS hS
 refine VL.M7 Tryz.underlying124 aE5 rfl rfl rfl b8.1 (b8.2) (by decide) fun wZ qU => ?_
 replace hS:=b5 qU hS
 refine Zy ?_
 cases hS
 exact VC.ret (fA (.inr rfl) rfl rfl wZ rfl rfl (by (try dsimp only); exact cO.out) (fun _ _=>trivial))
theorem ES (rJ:Nat) (HE:eB) {r:List UInt8} (hS:Sh.xV HE.pl=some r) :
 Ct Tryz.prog 106 [ptr rJ 0] Mo.tt (Ow.star (Sv.own HE.eD 5) (bP rJ [HE.eD.val] 183)) (X:=Sv UInt8) (fun x=>x.val) (fun x=>r=x.l) (fun x=>x.ok) (fun x=>Ow.star (bP rJ [HE.eD.val] 183) (Sv.own HE.eD 5)):=by
 refine Zo Tryz.func106 Tryz.ntmps106 fun c => ?_
 unfold Sh.xV at hS
 refine Zq (Zr ?_)
 refine Zy ?_
 refine Zq (Zr ?_)
 refine Zm ?_
 refine Zu (aG rfl) ?_
 refine Zu (aC JO rfl) ?_
 refine Zu (aT DO rfl rfl) ?_
 obtain ⟨iR,lI,hS⟩:=aU hS
 refine VL.aHX (w6 HE.eD lI) rfl (by decide) ?_
 rintro lY rfl
 try dsimp only
 refine VL.shut lY 5 (fun _ _ _ _=>trivial) ?_
 obtain ⟨lQ,zK,hS⟩:=aU hS
 refine VL.cR (HF lY zK) rfl (by decide) ?_
 rintro BL rfl
 try dsimp only
 refine Zy ?_
 cases hS
 exact VC.ret (fA (.inr rfl) rfl rfl BL rfl rfl (by (try dsimp only); exact cO.out) (by (try dsimp only); exact eT.out))
theorem X0 (aB:cC) {r:List UInt8} (hS:Sh.IY aB.pl=some r) :
 Ct Tryz.prog 94 [.agg (aE aB).toArray] (aB.bD.ok.and (aB.aX.ok.and (aB.bK.ok.and (aB.aM.ok.and (aB.aR.ok.and (aB.aO.ok.and (aB.aS.ok.and (aB.aZ.ok.and (aB.bB.ok.and (aB.bL.ok.and aB.bE.ok)))))))))) (Ow.emp) (X:=Sv UInt8) (fun x=>x.val) (fun x=>r=x.l) (fun x=>x.ok) (fun x=>Ow.emp):=by
 refine Zo Tryz.func94 Tryz.ntmps94 fun c => ?_
 unfold Sh.IY at hS
 refine Zq (Zr ?_)
 refine VL.box (cs:=(aE aB)) rfl rfl (by decide) fun iE => ?_
 refine Zy ?_
 refine Zq (Zr ?_)
 refine VL.alloc (cs:=[.slice none 0 0]) (by kernel_rfl) (by decide) fun jX => ?_
 refine Zl ?_
 refine Zq (Zr ?_)
 refine Zu (cL cE rfl rfl) ?_
 refine VL.lR (⟨none,0,[]⟩:Sv UInt8) 5 ⟨rfl,rfl⟩ ?_
 refine VL.SY jX (cs':=[(⟨none,0,[]⟩:Sv UInt8).val]) rfl ?_
 obtain ⟨q7,NM,hS⟩:=aU hS
 refine VL.cA (MF jX (⟨(⟨none,0,[]⟩:Sv UInt8)⟩:eB) aB NM) rfl (by decide) ?_
 rintro dI rfl
 try dsimp only
 refine Zl ?_
 refine Zq (Zr ?_)
 refine Zu (aC dV rfl) ?_
 obtain ⟨uJ,SB,hS⟩:=aU hS
 refine VL.cA (ES jX dI SB) rfl (by decide) ?_
 rintro aDT rfl
 try dsimp only
 refine Zy ?_
 cases hS
 exact VC.ret (fA (.inr rfl) rfl rfl aDT rfl rfl (by (try dsimp only); exact cO.out) (fun _ _=>trivial))
theorem aC0 (WQ:Sv UInt8) {r:bR} (hS:Sh.WV WQ.l=some r) :
 Ct Tryz.prog 141 [WQ.val] WQ.ok (Ow.emp) (X:=Nat×cQ) (fun x=>ptr x.1 0) (fun x=>r=x.2.pl) (fun x=>(x.2.b.ok.and x.2.err.ok)) (fun x=>bP x.1 [x.2.b.val,i64 x.2.at_,x.2.err.val] 298):=by
 refine Zo Tryz.func141 Tryz.ntmps141 fun c => ?_
 unfold Sh.WV at hS
 refine Zq (Zr ?_)
 refine Zy ?_
 refine Zq (Zr ?_)
 refine Zm ?_
 obtain ⟨aGF,aGV,hS⟩:=aU hS
 refine VL.cA (w6 WQ aGV) rfl (by decide) ?_
 rintro QB rfl
 try dsimp only
 refine Zu (fH (vs:=[(0,QB.val)]) (cs := #[QB.val,i64 0,.nilIface]) rfl (by kernel_rfl)) ?_
 refine VL.box (cs:=[QB.val,i64 0,.nilIface]) rfl rfl (by decide) fun AD => ?_
 refine Zy ?_
 refine VC.shut QB 5 (fun _ _ _ _=>trivial) ?_
 refine VC.SY AD (cs':=[QB.val,i64 0,(Er.nil).val]) rfl ?_
 cases hS
 exact VC.ret (fA (.inr rfl) rfl rfl (AD,⟨QB,0,(Er.nil)⟩) rfl rfl (by (try dsimp only); exact cO.out) (by (try dsimp only); exact eT.out))
end Go.Proofs.YtcenmlklkpgmnaaGreatDoor
end
