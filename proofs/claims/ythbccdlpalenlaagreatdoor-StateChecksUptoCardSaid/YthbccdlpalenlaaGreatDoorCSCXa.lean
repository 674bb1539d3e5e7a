/- Part of the proofs of: the law StateChecks (second form: where what is read is of bulk at most 1048576) -/
import Derived.Test.YthbccdlpalenlaaGreatDoorCards
import Derived.Test.YthbccdlpalenlaaGreatDoorTie
import Derived.Test.YthbccdlpalenlaaGreatDoorCG
set_option linter.unusedVariables false
set_option linter.unusedSimpArgs false
set_option linter.unusedSectionVars false
section
set_option linter.unusedVariables false
namespace Go.Proofs.YthbccdlpalenlaaGreatDoor
open Go.ChangeShapes Go.WideShapes Go.ChangeAt Go.RowKit Go.V
open Go.S hiding bN
set_option maxRecDepth 100000 in
theorem YJ (H:Type) (enc:TypeId×Value→H) (W:World) (base:Nat) (args:Array Value) (ds gs:List (DataW H)) (before:List MemPlace)
    (hval0 : ∀ (j:Nat) t v,Tryz.f10.params[j]? = some t→args[j]? = some v→Value.okWide Tryz.prog W .any base t v)
    (hW:DataW.Whole enc Tryz.prog Tryz.f10.params.toList Rows.stateChecksSpec.vars false W args.toList ds gs before) (hk:Rows.uptoSmall H (ds++gs)=true) (hL:laidMetH Tryz.prog Rows.stateChecksUptoRow.laid W) :
    Calls Tryz.prog 10 args W fun e W' => ∃ v,e = .returned v∧Rows.stateChecksSpec.post enc Tryz.prog Tryz.f10 false true false false W args v W':=by
  have hval : ∀ (j:Nat) t v,Tryz.f10.params[j]? = some t→args[j]? = some v→Value.okWide Tryz.prog W .any base t v:=hval0
  have hW':=hW
  obtain ⟨p,q,hA0,hV,hpq,hfz,hnd⟩:=hW'
  have hA:DataW.TrodAll enc Tryz.prog W 0 (fun _=>true) true Tryz.f10.params.toList args.toList ds p:=hA0
  rw [Tryz.params10] at hA hval
  obtain ⟨v0,vs0,d0,ds0,p0,q0,hargs,rfl,hp0,h0,r0⟩:=trodAll_cons hA
  obtain ⟨rfl,rfl,hq⟩:=trodAll_nil r0
  obtain rfl:args = #[v0]:=by cases args; simp_all
  have hbulk:Rows.uptoBulkAll ([d0]++gs)≤1048576:=of_decide_eq_true hk
  simp only [List.cons_append,List.nil_append,Rows.uptoBulkAll] at hbulk
  obtain ⟨x0,e0,m0,g0,w0⟩:=jE.arg a0I h0
  obtain ⟨c0,hc0⟩:=aIx Tryz.underlying71 (hval 0 71 v0 rfl rfl)
  obtain rfl:=aJh hc0 e0
  have gl2:=aPc (name := "internal/strconv.uint64pow10") (g:=2) (t:=384) (e:=234) (n:=20) (k := .u64) (zs:=Lib.pow10Tab) (by kernel_rfl) (by kernel_rfl) Tryz.underlying384 Tryz.underlying234 (by kernel_rfl) (by kernel_rfl) (by kernel_rfl) hL
  have gl0:=aFF (name := "errors.errorType") (g:=0) (nm:=[101,114,114,111,114]) (u0:=327) (ty0:=26) (d:=Rows.laid_errors_errorType) (v := .pointer (some ⟨7,26,none⟩)) (by kernel_rfl) (by kernel_rfl) (by kernel_rfl) (by kernel_rfl) (by kernel_rfl) (by kernel_rfl) (by kernel_rfl) hL
  have B0:Bk.bk x0.pl≤2000000:=by have h:=(NP x0▸w0); exact Nat.le_trans h (Nat.le_trans (Nat.le_trans (Nat.le_add_right _ _) hbulk) (by decide))
  refine (((RK x0 (ZP x0.pl (RM x0 g0) B0)).law ⟨m0.1,m0.2.1,m0.2.2.1,m0.2.2.2.1,m0.2.2.2.2.1,m0.2.2.2.2.2.1,m0.2.2.2.2.2.2.1,m0.2.2.2.2.2.2.2.1,m0.2.2.2.2.2.2.2.2.1,m0.2.2.2.2.2.2.2.2.2.1,m0.2.2.2.2.2.2.2.2.2.2,⟨gl2,gl0⟩⟩)).mono fun e W' ⟨he,hg⟩=>⟨_,he,?_⟩
  exact aOx Tryz.laidOut (by kernel_rfl) (by kernel_rfl) Tryz.underlying4 rfl hW hg rfl
theorem S2 (os:Os) {H:Type} (enc:TypeId×Value→H):DataW.whole enc Tryz.prog (((aJu Tryz.prog os 0 (.iface 327 (.agg #[.pointer (some ⟨7,26,none⟩)]))).layVars Tryz.prog (Rows.stateChecksUptoRow.laid.filter fun x=>x.2.handleName?.isNone)).forCall (fun _ _=>0) ⟨#[],#[.agg #[.slice none 0 0,.slice none 0 0,.slice none 0 0,str [],i64 0,str [],i64 0,str [],.slice none 0 0,.slice none 0 0,i64 0,str [],str [],i64 0,.slice none 0 0,.slice none 0 0,.slice none 0 0,.slice none 0 0,.slice none 0 0,.slice none 0 0,i64 0]],[]⟩).memory Tryz.f10.params.toList Rows.stateChecksSpec.vars false (#[.agg #[.slice none 0 0,.slice none 0 0,.slice none 0 0,str [],i64 0,str [],i64 0,str [],.slice none 0 0,.slice none 0 0,i64 0,str [],str [],i64 0,.slice none 0 0,.slice none 0 0,.slice none 0 0,.slice none 0 0,.slice none 0 0,.slice none 0 0,i64 0]]:Array Value).toList 8=some ([.agg [.agg [.nil,.nil,.nil,.agg [.lit (.string []),.lit (.int .i64 0)],.agg [.lit (.string []),.lit (.int .i64 0),.lit (.string []),.nil,.nil,.lit (.int .i64 0),.lit (.string []),.agg [.lit (.string []),.lit (.int .i64 0)],.nil,.nil],.nil],.nil,.nil,.nil,.lit (.int .i64 0)]],[],[]):=by kernel_rfl
theorem LA (os:Os):Input.okWideB Tryz.prog (((aJu Tryz.prog os 0 (.iface 327 (.agg #[.pointer (some ⟨7,26,none⟩)]))).layVars Tryz.prog (Rows.stateChecksUptoRow.laid.filter fun x=>x.2.handleName?.isNone)).forCall (fun _ _=>0) ⟨#[],#[.agg #[.slice none 0 0,.slice none 0 0,.slice none 0 0,str [],i64 0,str [],i64 0,str [],.slice none 0 0,.slice none 0 0,i64 0,str [],str [],i64 0,.slice none 0 0,.slice none 0 0,.slice none 0 0,.slice none 0 0,.slice none 0 0,.slice none 0 0,i64 0]],[]⟩) 10 ⟨#[],#[.agg #[.slice none 0 0,.slice none 0 0,.slice none 0 0,str [],i64 0,str [],i64 0,str [],.slice none 0 0,.slice none 0 0,i64 0,str [],str [],i64 0,.slice none 0 0,.slice none 0 0,.slice none 0 0,.slice none 0 0,.slice none 0 0,.slice none 0 0,i64 0]],[]⟩=true:=by kernel_rfl
set_option maxRecDepth 100000 in
theorem K9 (os:Os) (started:os.Started) (H:Type) (enc:TypeId×Value→H) (F:Stop.Interp) :
    ReturnsInHanded {} Tryz.checked os 10 .any ((Rows.OpenSpec.upto Rows.stateChecksSpec).preRow enc Tryz.prog Tryz.f10 Rows.stateChecksUptoRow.domain false Rows.stateChecksUptoRow.laid) (((Rows.OpenSpec.upto Rows.stateChecksSpec).at F).post enc Tryz.prog Tryz.f10 false true false false):=by
  refine returnsInHanded_of_row (C:=Tryz.checked) (s:=Rows.OpenSpec.upto Rows.stateChecksSpec) Tryz.own started (by kernel_rfl) Tryz.func10
    ⟨((aJu Tryz.prog os 0 (.iface 327 (.agg #[.pointer (some ⟨7,26,none⟩)]))).layVars Tryz.prog (Rows.stateChecksUptoRow.laid.filter fun x=>x.2.handleName?.isNone)),fun _ _=>0,⟨#[],#[.agg #[.slice none 0 0,.slice none 0 0,.slice none 0 0,str [],i64 0,str [],i64 0,str [],.slice none 0 0,.slice none 0 0,i64 0,str [],str [],i64 0,.slice none 0 0,.slice none 0 0,.slice none 0 0,.slice none 0 0,.slice none 0 0,.slice none 0 0,i64 0]],[]⟩,(World.layVars_os _ _ _),World.shaped_of_ZipB (by kernel_rfl) (by kernel_rfl),(Input.okWide_of_okWideB (base:=0) (LA os)).1,(Input.okWide_of_okWideB (LA os)).2,
      OpenSpec.preRow_of_cond 8 (S2 os enc) (by kernel_rfl) (fun k hk=>by cases hk; kernel_rfl) (by kernel_rfl) (laidMetH_of_parts (aIK _ (by kernel_rfl) (by kernel_rfl)) (by kernel_rfl)),by
      simp only [Assume.holds]
      exact ⟨by simp,by simp,fun _=>Modest.zero,by simp,by simp⟩⟩ ?_
  intro W base args ds gs before hval hW _ hcond _ hL _ _
  exact YJ H enc W base args ds gs before hval hW (hcond _ rfl) hL
end Go.Proofs.YthbccdlpalenlaaGreatDoor
end
