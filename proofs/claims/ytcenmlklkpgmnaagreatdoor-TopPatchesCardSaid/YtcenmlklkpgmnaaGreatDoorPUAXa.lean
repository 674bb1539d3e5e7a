/- Part of the proofs of: what one side did, as pieces, done to base, is that side; merged with nothing done by the other it is that, too (any two texts) -/
import Derived.Test.YtcenmlklkpgmnaaGreatDoorCards
import Derived.Test.YtcenmlklkpgmnaaGreatDoorTie
import Derived.Test.YtcenmlklkpgmnaaGreatDoorPG
set_option linter.unusedVariables false
set_option linter.unusedSimpArgs false
set_option linter.unusedSectionVars false
section
set_option linter.unusedVariables false
namespace Go.Proofs.YtcenmlklkpgmnaaGreatDoor
open Go.ChangeShapes Go.WideShapes Go.ChangeAt Go.RowKit Go.V
open Go.S hiding aV
theorem Tryz.own:ownKnob Tryz.prog.godebug=none:=by kernel_rfl
theorem Tryz.laidOut:laidOutB Tryz.prog=true:=by kernel_rfl
set_option maxRecDepth 100000 in
theorem TG (os:Os) (started:os.Started) (H:Type) (enc:TypeId×Value→H) :
    ReturnsInHanded {} Tryz.checked os 3 .any (fun w args=>(Rows.topPatchesSpec.pre enc Tryz.prog Tryz.f3 Rows.topPatchesRow.domain false w args∧laidMetH Tryz.prog Rows.topPatchesRow.laid w)∧sizedMet enc Tryz.prog Tryz.f3 (OpenSpec.ofChange Rows.topPatchesSpec) false w args)
      (Rows.topPatchesSpec.post enc Tryz.prog Tryz.f3 false true false false):=by
  refine returnsInHanded_of_change_and (C:=Tryz.checked) (X:=fun w _=>laidMetH Tryz.prog Rows.topPatchesRow.laid w) (fun _ _ _ hh h=>h.of_heap hh) Tryz.own started (by kernel_rfl) Tryz.func3
    (ChangeSpec.witness_shaped (enc:=enc) (C:=Tryz.checked) (os:=os) (X:=fun w _=>laidMetH Tryz.prog Rows.topPatchesRow.laid w) false ((aUZ Tryz.prog os 1 (.iface 364 (.agg #[.pointer (some ⟨7,27,none⟩)]))).layVars Tryz.prog (Rows.topPatchesRow.laid.filter fun x=>x.2.handleName?.isNone)) #[str [],str []] 8 (World.layVars_os _ _ _)
      (World.shaped_of_ZipB (by kernel_rfl) (by kernel_rfl)) (by kernel_rfl) (by kernel_rfl) (by kernel_rfl)
      (laidMetH_of_parts (aEz _ (by kernel_rfl) (by kernel_rfl)) (by kernel_rfl))) ?_
  intro W base args ds gs before hval0 hW hcnd _ hL _
  have hval : ∀ (j:Nat) t v,Tryz.f3.params[j]? = some t→args[j]? = some v→Value.okWide Tryz.prog W .any base t v:=hval0
  have hW':=hW
  obtain ⟨p,q,hA0,hV,hpq,hfz,hnd⟩:=hW'
  have hA:DataW.TrodAll enc Tryz.prog W 0 (fun _=>true) true Tryz.f3.params.toList args.toList ds p:=hA0
  rw [Tryz.params3] at hA hval
  obtain ⟨v0,vs0,d0,ds0,p0,q0,hargs,rfl,hp0,h0,r0⟩:=trodAll_cons hA
  obtain ⟨v1,vs1,d1,ds1,p1,q1,rfl,rfl,hp1,h1,r1⟩:=trodAll_cons r0
  obtain ⟨rfl,rfl,hq⟩:=trodAll_nil r1
  obtain rfl:args = #[v0,v1]:=by cases args; simp_all
  obtain ⟨x0,rfl⟩:=aIj Tryz.underlying9 (hval 0 9 v0 rfl rfl)
  obtain ⟨x1,rfl⟩:=aIj Tryz.underlying9 (hval 1 9 v1 rfl rfl)
  refine (((KA x0 x1 (aF8 x0 x1)).law trivial)).mono fun e W' ⟨he,hg⟩=>⟨_,he,?_⟩
  exact aKV Tryz.laidOut (by kernel_rfl) (by kernel_rfl) Tryz.underlying4 rfl hW hg rfl
end Go.Proofs.YtcenmlklkpgmnaaGreatDoor
end
