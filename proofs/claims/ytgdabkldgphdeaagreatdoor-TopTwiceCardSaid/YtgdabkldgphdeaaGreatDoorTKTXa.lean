/- Part of the proofs of: the law TopTwice: the same play leads to the same, each time (any acts) -/
import Derived.Test.YtgdabkldgphdeaaGreatDoorCards
import Derived.Test.YtgdabkldgphdeaaGreatDoorTie
import Derived.Test.YtgdabkldgphdeaaGreatDoorTWg
import Derived.Test.YtgdabkldgphdeaaGreatDoorTKa
set_option linter.unusedVariables false
set_option linter.unusedSimpArgs false
set_option linter.unusedSectionVars false
section
set_option linter.unusedVariables false
namespace Go.Proofs.YtgdabkldgphdeaaGreatDoor
open Go.ChangeShapes Go.WideShapes Go.ChangeAt Go.RowKit Go.V
open Go.S
theorem Tryz.own:ownKnob Tryz.prog.godebug=none:=by kernel_rfl
theorem Tryz.laidOut:laidOutB Tryz.prog=true:=by kernel_rfl
instance:Rg kF:=⟨fun x=>True⟩
set_option maxRecDepth 100000 in
theorem a7o:KQ Tryz.prog 50 kF:=fun {H enc W b0 sp hd fuel cs x} h=>by
  obtain ⟨hl,hf⟩:=aJ0 Tryz.underlying50 h
  rw [show Tryz.prog.cellsOf 50=4 by kernel_rfl] at hl
  match cs,hl with
  | [c0,c1,c2,c3],_ =>
    obtain ⟨x0,e0,m0,g0⟩:=KQ.fld (off:=0) (k:=1) (cs':=[c0]) (KQ.str Tryz.underlying9) (by kernel_rfl) (hf 0 _ rfl) rfl
    obtain rfl:c0=str x0:=List.head_eq_of_cons_eq e0
    obtain ⟨x1,e1,m1,g1⟩:=KQ.fld (off:=1) (k:=1) (cs':=[c1]) (KQ.str Tryz.underlying9) (by kernel_rfl) (hf 1 _ rfl) rfl
    obtain rfl:c1=str x1:=List.head_eq_of_cons_eq e1
    obtain ⟨x2,e2,m2,g2⟩:=KQ.fld (off:=2) (k:=1) (cs':=[c2]) (KQ.str Tryz.underlying9) (by kernel_rfl) (hf 2 _ rfl) rfl
    obtain rfl:c2=str x2:=List.head_eq_of_cons_eq e2
    obtain ⟨x3,e3,m3,g3⟩:=KQ.fld (off:=3) (k:=1) (cs':=[c3]) (KQ.bool Tryz.underlying4) (by kernel_rfl) (hf 3 _ rfl) rfl
    obtain rfl:c3 = .bool x3:=List.head_eq_of_cons_eq e3
    exact ⟨⟨x0,x1,x2,x3⟩,rfl,trivial,trivial⟩
set_option maxRecDepth 100000 in
theorem aDK (os:Os) (started:os.Started) (H:Type) (enc:TypeId×Value→H) :
    ReturnsInHanded {} Tryz.checked os 3 .any (fun w args=>(Rows.topTwiceSpec.pre enc Tryz.prog Tryz.f3 Rows.topTwiceRow.domain false w args∧laidMetH Tryz.prog Rows.topTwiceRow.laid w)∧sizedMet enc Tryz.prog Tryz.f3 (OpenSpec.ofChange Rows.topTwiceSpec) false w args)
      (Rows.topTwiceSpec.post enc Tryz.prog Tryz.f3 false true false false):=by
  refine returnsInHanded_of_change_and (C:=Tryz.checked) (X:=fun w _=>laidMetH Tryz.prog Rows.topTwiceRow.laid w) (fun _ _ _ hh h=>h.of_heap hh) Tryz.own started (by kernel_rfl) Tryz.func3
    (ChangeSpec.witness_shaped (enc:=enc) (C:=Tryz.checked) (os:=os) (X:=fun w _=>laidMetH Tryz.prog Rows.topTwiceRow.laid w) false ((a74 Tryz.prog os 0 (.iface 255 (.agg #[.pointer (some ⟨7,46,none⟩)]))).layVars Tryz.prog (Rows.topTwiceRow.laid.filter fun x=>x.2.handleName?.isNone)) #[.slice none 0 0] 8 (World.layVars_os _ _ _)
      (World.shaped_of_ZipB (by kernel_rfl) (by kernel_rfl)) (by kernel_rfl) (by kernel_rfl) (by kernel_rfl)
      (laidMetH_of_parts (aLd _ (by kernel_rfl) (by kernel_rfl)) (by kernel_rfl))) ?_
  intro W base args ds gs before hval0 hW hcnd _ hL _
  have hval : ∀ (j:Nat) t v,Tryz.f3.params[j]? = some t→args[j]? = some v→Value.okWide Tryz.prog W .any base t v:=hval0
  have hW':=hW
  obtain ⟨p,q,hA0,hV,hpq,hfz,hnd⟩:=hW'
  have hA:DataW.TrodAll enc Tryz.prog W 0 (fun _=>true) true Tryz.f3.params.toList args.toList ds p:=hA0
  rw [Tryz.params3] at hA hval
  obtain ⟨v0,vs0,d0,ds0,p0,q0,hargs,rfl,hp0,h0,r0⟩:=trodAll_cons hA
  obtain ⟨rfl,rfl,hq⟩:=trodAll_nil r0
  obtain rfl:args = #[v0]:=by cases args; simp_all
  obtain ⟨x0,e0,m0,g0⟩:=KQ.arg (KQ.sv (α:=kF) Tryz.underlying22 (by kernel_rfl) (by decide) a7o) h0
  obtain rfl:=aNq Tryz.underlying22 (hval 0 22 v0 rfl rfl) e0
  have gl2:=aUB (name := "internal/strconv.uint64pow10") (g:=2) (t:=274) (e:=204) (n:=20) (k := .u64) (zs:=Lib.pow10Tab) (by kernel_rfl) (by kernel_rfl) Tryz.underlying274 Tryz.underlying204 (by kernel_rfl) (by kernel_rfl) (by kernel_rfl) hL
  have gl0:=aIt (name := "errors.errorType") (g:=0) (nm:=[101,114,114,111,114]) (u0:=255) (ty0:=46) (d:=Rows.laid_errors_errorType) (v := .pointer (some ⟨7,46,none⟩)) (by kernel_rfl) (by kernel_rfl) (by kernel_rfl) (by kernel_rfl) (by kernel_rfl) (by kernel_rfl) (by kernel_rfl) hL
  refine (((UI x0 (aJZ x0.l)).law ⟨m0,⟨gl2,gl0⟩⟩)).mono fun e W' ⟨he,hg⟩=>⟨_,he,?_⟩
  exact aSc Tryz.laidOut (by kernel_rfl) (by kernel_rfl) Tryz.underlying4 rfl hW hg rfl
end Go.Proofs.YtgdabkldgphdeaaGreatDoor
end
