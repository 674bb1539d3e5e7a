/- Part of the proofs of: a folder's tree, put into a store, file by file, is there again, told in bytes and loaded; each file's bytes are there once, named by one name (any tree) -/
import Derived.Test.YtcenmlklkpgmnabGreatDoorCards
import Derived.Test.YtcenmlklkpgmnabGreatDoorTie
import Derived.Test.YtcenmlklkpgmnabGreatDoorSH
set_option linter.unusedVariables false
set_option linter.unusedSimpArgs false
set_option linter.unusedSectionVars false
section
set_option linter.unusedVariables false
namespace Go.Proofs.YtcenmlklkpgmnabGreatDoor
open Go.ChangeShapes Go.WideShapes Go.ChangeAt Go.RowKit Go.V
open Go.S hiding bB
theorem Tryz.own:ownKnob Tryz.prog.godebug=none:=by kernel_rfl
theorem Tryz.laidOut:laidOutB Tryz.prog=true:=by kernel_rfl
instance:Rg aC:=⟨fun x=>Rg.rg x.mode⟩
set_option maxRecDepth 100000 in
theorem a5X:JG Tryz.prog 36 aC:=fun {H enc W b0 sp hd fuel cs x} h=>by
  obtain ⟨hl,hf⟩:=aKU Tryz.underlying36 h
  rw [show Tryz.prog.cellsOf 36=3 by kernel_rfl] at hl
  match cs,hl with
  | [c0,c1,c2],_ =>
    obtain ⟨x0,e0,m0,g0⟩:=JG.fld (off:=0) (k:=1) (cs':=[c0]) (JG.str Tryz.underlying9) (by kernel_rfl) (hf 0 _ rfl) rfl
    obtain rfl:c0=str x0:=List.head_eq_of_cons_eq e0
    obtain ⟨x1,e1,m1,g1⟩:=JG.fld (off:=1) (k:=1) (cs':=[c1]) (JG.i64 Tryz.underlying3) (by kernel_rfl) (hf 1 _ rfl) rfl
    obtain rfl:c1=i64 x1:=List.head_eq_of_cons_eq e1
    obtain ⟨x2,e2,m2,g2⟩:=JG.fld (off:=2) (k:=1) (cs':=[c2]) (JG.str Tryz.underlying9) (by kernel_rfl) (hf 2 _ rfl) rfl
    obtain rfl:c2=str x2:=List.head_eq_of_cons_eq e2
    exact ⟨⟨x0,x1,x2⟩,rfl,trivial,g1⟩
set_option maxRecDepth 100000 in
theorem aCP (os:Os) (started:os.Started) (H:Type) (enc:TypeId×Value→H) :
    ReturnsInHanded {} Tryz.checked os 3 .any (fun w args=>(Rows.topStoresSpec.pre enc Tryz.prog Tryz.f3 Rows.topStoresRow.domain false w args∧laidMetH Tryz.prog Rows.topStoresRow.laid w)∧sizedMet enc Tryz.prog Tryz.f3 (OpenSpec.ofChange Rows.topStoresSpec) false w args)
      (Rows.topStoresSpec.post enc Tryz.prog Tryz.f3 false true false false):=by
  refine returnsInHanded_of_change_and (C:=Tryz.checked) (X:=fun w _=>laidMetH Tryz.prog Rows.topStoresRow.laid w) (fun _ _ _ hh h=>h.of_heap hh) Tryz.own started (by kernel_rfl) Tryz.func3
    (ChangeSpec.witness_shaped (enc:=enc) (C:=Tryz.checked) (os:=os) (X:=fun w _=>laidMetH Tryz.prog Rows.topStoresRow.laid w) false ((a5K Tryz.prog os 0 (.iface 328 (.agg #[.pointer (some ⟨7,26,none⟩)]))).layVars Tryz.prog (Rows.topStoresRow.laid.filter fun x=>x.2.handleName?.isNone)) #[.slice none 0 0] 8 (World.layVars_os _ _ _)
      (World.shaped_of_ZipB (by kernel_rfl) (by kernel_rfl)) (by kernel_rfl) (by kernel_rfl) (by kernel_rfl)
      (laidMetH_of_parts (aMC _ (by kernel_rfl) (by kernel_rfl)) (by kernel_rfl))) ?_
  intro W base args ds gs before hval0 hW hcnd _ hL _
  have hval : ∀ (j:Nat) t v,Tryz.f3.params[j]? = some t→args[j]? = some v→Value.okWide Tryz.prog W .any base t v:=hval0
  have hW':=hW
  obtain ⟨p,q,hA0,hV,hpq,hfz,hnd⟩:=hW'
  have hA:DataW.TrodAll enc Tryz.prog W 0 (fun _=>true) true Tryz.f3.params.toList args.toList ds p:=hA0
  rw [Tryz.params3] at hA hval
  obtain ⟨v0,vs0,d0,ds0,p0,q0,hargs,rfl,hp0,h0,r0⟩:=trodAll_cons hA
  obtain ⟨rfl,rfl,hq⟩:=trodAll_nil r0
  obtain rfl:args = #[v0]:=by cases args; simp_all
  obtain ⟨x0,e0,m0,g0⟩:=JG.arg (JG.sv (α:=aC) Tryz.underlying23 (by kernel_rfl) (by decide) a5X) h0
  obtain rfl:=aOA Tryz.underlying23 (hval 0 23 v0 rfl rfl) e0
  refine (((SE x0 (aOO x0.l)).law m0)).mono fun e W' ⟨he,hg⟩=>⟨_,he,?_⟩
  exact aSk Tryz.laidOut (by kernel_rfl) (by kernel_rfl) Tryz.underlying4 rfl hW hg rfl
end Go.Proofs.YtcenmlklkpgmnabGreatDoor
end
