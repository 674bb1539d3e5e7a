/- Part of the proofs of: the law TopKeeps: what is changed and not committed is there, or put aside, behind every command that does not say otherwise (any acts, any line), where what is read is of bulk at most 1048576 -/
import Derived.Deep.DeepHandedRow
import Derived.LaidLaws
import Derived.Test.YtaohfeokfcdojaaGreatDoorCards
import Derived.Test.YtaohfeokfcdojaaGreatDoorTie
import Derived.Test.YtaohfeokfcdojaaGreatDoorTWg
import Derived.Test.YtaohfeokfcdojaaGreatDoorTKa
set_option linter.unusedVariables false
set_option linter.unusedSimpArgs false
set_option linter.unusedSectionVars false
section
set_option linter.unusedVariables false
set_option linter.unusedSectionVars false
namespace Go.Proofs.YtaohfeokfcdojaaGreatDoor
open Go.ChangeShapes Go.WideShapes Go.ChangeAt Go.RowKit Go.V
open Go.S
theorem Tryz.own:ownKnob Tryz.prog.godebug=none:=by kernel_rfl
theorem Tryz.laidOut:laidOutB Tryz.prog=true:=by kernel_rfl
theorem aS4 {P:Program} {H:Type} {enc:TypeId×Value→H} {W:World} {b0:Nat} {sp:Nat→Bool} {hd:Bool} {t:TypeId} {x:List UInt8} {d:DataW H} {p:List MemPlace} (ht:P.underlying t=some .string) (h:DataW.Trod enc P W b0 sp hd t (str x) d p):x.length≤Rows.uptoBulk d:=by
  obtain ⟨f,h⟩:=h
  obtain ⟨s,hs,he,_⟩:=DataW.trod_string ht h
  cases hs; cases he
  exact Nat.le_succ _
instance:Rg iV:=⟨fun x=>True⟩
set_option maxRecDepth 100000 in
theorem a5u:JD Tryz.prog 73 iV:=fun {H enc W b0 sp hd fuel cs x} h=>by
  obtain ⟨hl,hf⟩:=aID Tryz.underlying73 h
  rw [show Tryz.prog.cellsOf 73=4 by kernel_rfl] at hl
  match cs,hl with
  | [c0,c1,c2,c3],_ =>
    obtain ⟨x0,e0,m0,g0⟩:=JD.fld (off:=0) (k:=1) (cs':=[c0]) (JD.str Tryz.underlying9) (by kernel_rfl) (hf 0 _ rfl) rfl
    obtain rfl:c0=str x0:=List.head_eq_of_cons_eq e0
    obtain ⟨x1,e1,m1,g1⟩:=JD.fld (off:=1) (k:=1) (cs':=[c1]) (JD.str Tryz.underlying9) (by kernel_rfl) (hf 1 _ rfl) rfl
    obtain rfl:c1=str x1:=List.head_eq_of_cons_eq e1
    obtain ⟨x2,e2,m2,g2⟩:=JD.fld (off:=2) (k:=1) (cs':=[c2]) (JD.str Tryz.underlying9) (by kernel_rfl) (hf 2 _ rfl) rfl
    obtain rfl:c2=str x2:=List.head_eq_of_cons_eq e2
    obtain ⟨x3,e3,m3,g3⟩:=JD.fld (off:=3) (k:=1) (cs':=[c3]) (JD.bool Tryz.underlying4) (by kernel_rfl) (hf 3 _ rfl) rfl
    obtain rfl:c3 = .bool x3:=List.head_eq_of_cons_eq e3
    exact ⟨⟨x0,x1,x2,x3⟩,rfl,trivial,trivial⟩
set_option maxRecDepth 100000 in
theorem aGX (H:Type) (enc:TypeId×Value→H) (W:World) (base:Nat) (args:Array Value) (ds gs:List (DataW H)) (before:List MemPlace)
    (hval0 : ∀ (j:Nat) t v,Tryz.f3.params[j]? = some t→args[j]? = some v→Value.okWide Tryz.prog W .any base t v)
    (hW:DataW.Whole enc Tryz.prog Tryz.f3.params.toList Rows.topKeepsSpec.vars false W args.toList ds gs before) (hk:Rows.uptoSmall H (ds++gs)=true) (hL:laidMetH Tryz.prog Rows.topKeepsUptoRow.laid W) (hsh:W.ShapedOpen Tryz.prog) :
    Calls Tryz.prog 3 args W fun e W' => ∃ v,e = .returned v∧Rows.topKeepsSpec.post enc Tryz.prog Tryz.f3 false true false false W args v W':=by
  have hval : ∀ (j:Nat) t v,Tryz.f3.params[j]? = some t→args[j]? = some v→Value.okWide Tryz.prog W .any base t v:=hval0
  have hW':=hW
  obtain ⟨p,q,hA0,hV,hpq,hfz,hnd⟩:=hW'
  have hA:DataW.TrodAll enc Tryz.prog W 0 (fun _=>true) true Tryz.f3.params.toList args.toList ds p:=hA0
  rw [Tryz.params3] at hA hval
  obtain ⟨v0,vs0,d0,ds0,p0,q0,hargs,rfl,hp0,h0,r0⟩:=trodAll_cons hA
  obtain ⟨v1,vs1,d1,ds1,p1,q1,rfl,rfl,hp1,h1,r1⟩:=trodAll_cons r0
  obtain ⟨rfl,rfl,hq⟩:=trodAll_nil r1
  obtain rfl:args = #[v0,v1]:=by cases args; simp_all
  have hbulk:Rows.uptoBulkAll ([d0,d1]++gs)≤1048576:=of_decide_eq_true hk
  simp only [List.cons_append,List.nil_append,Rows.uptoBulkAll] at hbulk
  obtain ⟨x0,e0,m0,g0⟩:=JD.arg (JD.sv (α:=iV) Tryz.underlying22 (by kernel_rfl) (by decide) a5u) h0
  obtain rfl:=aMR Tryz.underlying22 (hval 0 22 v0 rfl rfl) e0
  obtain ⟨x1,rfl⟩:=a1A Tryz.underlying9 (hval 1 9 v1 rfl rfl)
  have w1:=aS4 Tryz.underlying9 h1
  have gl4:=aS6 (name := "internal/strconv.uint64pow10") (g:=4) (t:=395) (e:=262) (n:=20) (k := .u64) (zs:=Lib.pow10Tab) (by kernel_rfl) (by kernel_rfl) Tryz.underlying395 Tryz.underlying262 (by kernel_rfl) (by kernel_rfl) (by kernel_rfl) hL
  have gl1:=aH8 (name := "errors.errorType") (g:=1) (nm:=[101,114,114,111,114]) (u0:=333) (ty0:=28) (d:=Rows.laid_errors_errorType) (v := .pointer (some ⟨7,28,none⟩)) (by kernel_rfl) (by kernel_rfl) (by kernel_rfl) (by kernel_rfl) (by kernel_rfl) (by kernel_rfl) (by kernel_rfl) hL
  have gl0:=aCj.aVk (Tryz.aGb.s1_3 _ hsh)
  have B1:x1.length≤1000000000:=by have h:=w1; exact Nat.le_trans h (Nat.le_trans (Nat.le_trans (Nat.le_trans (Nat.le_add_right _ _) (Nat.le_add_left _ _)) hbulk) (by decide))
  refine ((((SR x0 x1).out (aIC x0.l x1 B1)).law ⟨m0,⟨gl4,gl1,gl0⟩⟩)).mono fun e W' ⟨he,hg⟩=>⟨_,he,?_⟩
  exact aRM Tryz.laidOut (by kernel_rfl) (by kernel_rfl) Tryz.underlying4 rfl hW hg rfl
theorem aDE (os:Os) {H:Type} (enc:TypeId×Value→H):DataW.whole enc Tryz.prog (((aML Tryz.prog os 1 (.iface 333 (.agg #[.pointer (some ⟨7,28,none⟩)]))).layVars Tryz.prog (Rows.topKeepsUptoRow.laid.filter fun x=>x.2.handleName?.isNone)).forCall (fun _ _=>0) ⟨#[],#[.slice none 0 0,str []],[]⟩).memory Tryz.f3.params.toList Rows.topKeepsSpec.vars false (#[.slice none 0 0,str []]:Array Value).toList 8=some ([.nil,.lit (.string [])],[],[]):=by kernel_rfl
theorem XD (os:Os):Input.okWideB Tryz.prog (((aML Tryz.prog os 1 (.iface 333 (.agg #[.pointer (some ⟨7,28,none⟩)]))).layVars Tryz.prog (Rows.topKeepsUptoRow.laid.filter fun x=>x.2.handleName?.isNone)).forCall (fun _ _=>0) ⟨#[],#[.slice none 0 0,str []],[]⟩) 3 ⟨#[],#[.slice none 0 0,str []],[]⟩=true:=by kernel_rfl
set_option maxRecDepth 100000 in
theorem UZ (os:Os) (started:os.Started) (H:Type) (enc:TypeId×Value→H) (F:Stop.Interp) :
    ReturnsInHanded {} Tryz.checked os 3 .any ((Rows.OpenSpec.upto Rows.topKeepsSpec).preRow enc Tryz.prog Tryz.f3 Rows.topKeepsUptoRow.domain false Rows.topKeepsUptoRow.laid) (((Rows.OpenSpec.upto Rows.topKeepsSpec).at F).post enc Tryz.prog Tryz.f3 false true false false):=by
  refine returnsInHanded_of_row (C:=Tryz.checked) (s:=Rows.OpenSpec.upto Rows.topKeepsSpec) Tryz.own started (by kernel_rfl) Tryz.func3
    ⟨((aML Tryz.prog os 1 (.iface 333 (.agg #[.pointer (some ⟨7,28,none⟩)]))).layVars Tryz.prog (Rows.topKeepsUptoRow.laid.filter fun x=>x.2.handleName?.isNone)),fun _ _=>0,⟨#[],#[.slice none 0 0,str []],[]⟩,(World.layVars_os _ _ _),World.shaped_of_ZipB (by kernel_rfl) (by kernel_rfl),(Input.okWide_of_okWideB (base:=0) (XD os)).1,(Input.okWide_of_okWideB (XD os)).2,
      OpenSpec.preRow_of_cond 8 (aDE os enc) (by kernel_rfl) (fun k hk=>by cases hk; kernel_rfl) (by kernel_rfl) (laidMetH_of_parts (aKI _ (by kernel_rfl) (by kernel_rfl)) (by kernel_rfl)),by
      simp only [Assume.holds]
      exact ⟨by simp,by simp,fun _=>Modest.zero,by simp,by simp⟩⟩ ?_
  intro W base args ds gs before hval hW _ hcond _ hL hsh _
  exact aGX H enc W base args ds gs before hval hW (hcond _ rfl) hL hsh
end Go.Proofs.YtaohfeokfcdojaaGreatDoor
end
