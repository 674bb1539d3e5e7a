/- Part of the proofs of: a plan's folder, laid down by the journal, is on the disk as planned, and outlasts the power (any two trees, any keep) -/
import Derived.Test.YtedhnpjkoeblnaaGreatDoorCards
import Derived.Test.YtedhnpjkoeblnaaGreatDoorTie
import Derived.Test.YtedhnpjkoeblnaaGreatDoorLH
set_option linter.unusedVariables false
set_option linter.unusedSimpArgs false
set_option linter.unusedSectionVars false
section
set_option linter.unusedVariables false
namespace Go.Proofs.YtedhnpjkoeblnaaGreatDoor
open Go.ChangeShapes Go.WideShapes Go.ChangeAt Go.RowKit Go.V
open Go.S hiding aK
theorem Tryz.own:ownKnob Tryz.prog.godebug=none:=by kernel_rfl
theorem Tryz.laidOut:laidOutB Tryz.prog=true:=by kernel_rfl
instance:Rg aC:=⟨fun x=>Rg.rg x.mode⟩
set_option maxRecDepth 100000 in
theorem aXn:FA Tryz.prog 32 aC:=fun {H enc W b0 sp hd fuel cs x} h=>by
  obtain ⟨hl,hf⟩:=aK5 Tryz.underlying32 h
  rw [show Tryz.prog.cellsOf 32=3 by kernel_rfl] at hl
  match cs,hl with
  | [c0,c1,c2],_ =>
    obtain ⟨x0,e0,m0,g0⟩:=FA.fld (off:=0) (k:=1) (cs':=[c0]) (FA.str Tryz.underlying9) (by kernel_rfl) (hf 0 _ rfl) rfl
    obtain rfl:c0=str x0:=List.head_eq_of_cons_eq e0
    obtain ⟨x1,e1,m1,g1⟩:=FA.fld (off:=1) (k:=1) (cs':=[c1]) (FA.i64 Tryz.underlying3) (by kernel_rfl) (hf 1 _ rfl) rfl
    obtain rfl:c1=i64 x1:=List.head_eq_of_cons_eq e1
    obtain ⟨x2,e2,m2,g2⟩:=FA.fld (off:=2) (k:=1) (cs':=[c2]) (FA.str Tryz.underlying9) (by kernel_rfl) (hf 2 _ rfl) rfl
    obtain rfl:c2=str x2:=List.head_eq_of_cons_eq e2
    exact ⟨⟨x0,x1,x2⟩,rfl,trivial,g1⟩
set_option maxRecDepth 100000 in
theorem aEW (os:Os) (started:os.Started) (H:Type) (enc:TypeId×Value→H) :
    ReturnsInHanded {} Tryz.checked os 3 .any (fun w args=>(Rows.topLaidSpec.pre enc Tryz.prog Tryz.f3 Rows.topLaidRow.domain false w args∧laidMetH Tryz.prog Rows.topLaidRow.laid w)∧sizedMet enc Tryz.prog Tryz.f3 (OpenSpec.ofChange Rows.topLaidSpec) false w args)
      (Rows.topLaidSpec.post enc Tryz.prog Tryz.f3 false true false false):=by
  refine returnsInHanded_of_change_and (C:=Tryz.checked) (X:=fun w _=>laidMetH Tryz.prog Rows.topLaidRow.laid w) (fun _ _ _ hh h=>h.of_heap hh) Tryz.own started (by kernel_rfl) Tryz.func3
    (ChangeSpec.witness_shaped (enc:=enc) (C:=Tryz.checked) (os:=os) (X:=fun w _=>laidMetH Tryz.prog Rows.topLaidRow.laid w) false ((a5S Tryz.prog os 0 (.iface 383 (.agg #[.pointer (some ⟨7,27,none⟩)]))).layVars Tryz.prog (Rows.topLaidRow.laid.filter fun x=>x.2.handleName?.isNone)) #[.slice none 0 0,.slice none 0 0,.slice none 0 0] 8 (World.layVars_os _ _ _)
      (World.shaped_of_ZipB (by kernel_rfl) (by kernel_rfl)) (by kernel_rfl) (by kernel_rfl) (by kernel_rfl)
      (laidMetH_of_parts (aML _ (by kernel_rfl) (by kernel_rfl)) (by kernel_rfl))) ?_
  intro W base args ds gs before hval0 hW hcnd _ hL _
  have hval : ∀ (j:Nat) t v,Tryz.f3.params[j]? = some t→args[j]? = some v→Value.okWide Tryz.prog W .any base t v:=hval0
  have hW':=hW
  obtain ⟨p,q,hA0,hV,hpq,hfz,hnd⟩:=hW'
  have hA:DataW.TrodAll enc Tryz.prog W 0 (fun _=>true) true Tryz.f3.params.toList args.toList ds p:=hA0
  rw [Tryz.params3] at hA hval
  obtain ⟨v0,vs0,d0,ds0,p0,q0,hargs,rfl,hp0,h0,r0⟩:=trodAll_cons hA
  obtain ⟨v1,vs1,d1,ds1,p1,q1,rfl,rfl,hp1,h1,r1⟩:=trodAll_cons r0
  obtain ⟨v2,vs2,d2,ds2,p2,q2,rfl,rfl,hp2,h2,r2⟩:=trodAll_cons r1
  obtain ⟨rfl,rfl,hq⟩:=trodAll_nil r2
  obtain rfl:args = #[v0,v1,v2]:=by cases args; simp_all
  obtain ⟨x0,e0,m0,g0⟩:=FA.arg (FA.sv (α:=aC) Tryz.underlying23 (by kernel_rfl) (by decide) aXn) h0
  obtain rfl:=aAY Tryz.underlying23 (hval 0 23 v0 rfl rfl) e0
  obtain ⟨x1,e1,m1,g1⟩:=FA.arg (FA.sv (α:=aC) Tryz.underlying23 (by kernel_rfl) (by decide) aXn) h1
  obtain rfl:=aAY Tryz.underlying23 (hval 1 23 v1 rfl rfl) e1
  obtain ⟨x2,e2,m2,g2⟩:=FA.arg (FA.sv (α:=Bool) Tryz.underlying24 (by kernel_rfl) (by decide) (FA.bool Tryz.underlying4)) h2
  obtain rfl:=aAY Tryz.underlying24 (hval 2 24 v2 rfl rfl) e2
  have gl2:=aUP (name := "internal/strconv.uint64pow10") (g:=2) (t:=422) (e:=216) (n:=20) (k := .u64) (zs:=Lib.pow10Tab) (by kernel_rfl) (by kernel_rfl) Tryz.underlying422 Tryz.underlying216 (by kernel_rfl) (by kernel_rfl) (by kernel_rfl) hL
  refine (((V0 x0 x1 x2 (aNZ x0.l x1.l x2.l)).law ⟨m0,m1,m2,gl2⟩)).mono fun e W' ⟨he,hg⟩=>⟨_,he,?_⟩
  exact aTO Tryz.laidOut (by kernel_rfl) (by kernel_rfl) Tryz.underlying4 rfl hW hg rfl
end Go.Proofs.YtedhnpjkoeblnaaGreatDoor
end
