/- Part of the proofs of: What clashes keeps all three trees in their stages: for all trees. -/
import Derived.Test.YtpmhinamcndmeaaGreatDoorRows
import Derived.Test.YtpmhinamcndmeaaGreatDoorSD
set_option linter.unusedVariables false
set_option linter.unusedSimpArgs false
set_option linter.unusedSectionVars false
section
set_option linter.unusedVariables false
namespace Go.Proofs.YtpmhinamcndmeaaGreatDoor
set_option maxHeartbeats 4000000
set_option maxRecDepth 100000
open Go.RowKit Go.V
open Go.S hiding Str
theorem gszb : (Tryz.prog.info? 274).map (·.size) = some 2 := by kernel_rfl
theorem gappb : ((Tryz.prog.info? 5).map fun i => (i.size, i.bytes, i.zero)) = some (1, 1, some (.int .u8 0)) := by kernel_rfl
theorem gfa274_0 : FieldAt Tryz.prog 274 0 0 := fieldAt_sz (n := 0) (f := ⟨_, _, 0, _, _, _, _⟩) Tryz.underlying274 rfl (by kernel_rfl)
theorem gfa274_1 : FieldAt Tryz.prog 274 1 1 := fieldAt_sz (n := 0) (f := ⟨_, _, 1, _, _, _, _⟩) Tryz.underlying274 rfl (by kernel_rfl)
theorem gone272 : OneCell Tryz.prog 272 := oneCell_of Tryz.underlying272 rfl
theorem gone61 : OneCell Tryz.prog 61 := oneCell_of Tryz.underlying61 rfl
theorem gsz272 : (Tryz.prog.info? 272).map (·.size) = some 1 := by kernel_rfl
theorem gsz61 : (Tryz.prog.info? 61).map (·.size) = some 1 := by kernel_rfl
theorem glit50 : ((Tryz.prog.info? 50).map fun i => (i.size, i.zero.isSome)) = some (3, true) := by kernel_rfl
theorem glit23 : ((Tryz.prog.info? 23).map fun i => (i.size, i.zero.isSome)) = some (1, true) := by kernel_rfl
theorem gsz23 : (Tryz.prog.info? 23).map (·.size) = some 1 := by kernel_rfl
theorem gone23 : OneCell Tryz.prog 23 := oneCell_of Tryz.underlying23 rfl
theorem gsz50 : (Tryz.prog.info? 50).map (·.size) = some 3 := by kernel_rfl
theorem gagg50 : AggOf Tryz.prog 50 3 := aggOf_of Tryz.underlying50 rfl (by kernel_rfl)
theorem gfa50_0 : FieldAt Tryz.prog 50 0 0 := fieldAt_sz (n := 0) (f := ⟨_, _, 0, _, _, _, _⟩) Tryz.underlying50 rfl (by kernel_rfl)
theorem gone9 : OneCell Tryz.prog 9 := oneCell_of Tryz.underlying9 rfl
theorem gmk9 : ((Tryz.prog.info? 9).map fun i => (i.size, i.bytes, i.zero.map fun z => z.cells.toList)) = some (1, 16, some [str []]) := by kernel_rfl
theorem gsz9 : (Tryz.prog.info? 9).map (·.size) = some 1 := by kernel_rfl
theorem gsz5 : (Tryz.prog.info? 5).map (·.size) = some 1 := by kernel_rfl
theorem gone5 : OneCell Tryz.prog 5 := oneCell_of Tryz.underlying5 rfl
theorem gfa50_1 : FieldAt Tryz.prog 50 1 1 := fieldAt_sz (n := 0) (f := ⟨_, _, 1, _, _, _, _⟩) Tryz.underlying50 rfl (by kernel_rfl)
theorem gone3 : OneCell Tryz.prog 3 := oneCell_of Tryz.underlying3 rfl
theorem gfa50_2 : FieldAt Tryz.prog 50 2 2 := fieldAt_sz (n := 0) (f := ⟨_, _, 2, _, _, _, _⟩) Tryz.underlying50 rfl (by kernel_rfl)
theorem gsz34 : (Tryz.prog.info? 34).map (·.size) = some 3 := by kernel_rfl
theorem gsz245 : (Tryz.prog.info? 245).map (·.size) = some 4 := by kernel_rfl
theorem gagg245 : AggOf Tryz.prog 245 4 := aggOf_of Tryz.underlying245 rfl (by kernel_rfl)
theorem geqs245 : ∀ (x0 : List UInt8) (x1 : Int) (x2 : List UInt8) (x3 : Bool) (y0 : List UInt8) (y1 : Int) (y2 : List UInt8) (y3 : Bool) (w : World), (Op.equalIn 10000 245 (.agg #[str x0, i64 x1, str x2, .bool x3]) (.agg #[str y0, i64 y1, str y2, .bool y3])).run Tryz.prog w = .ok (decide (x0 = y0 ∧ x1 = y1 ∧ x2 = y2 ∧ x3 = y3)) w := by
 intro x0 x1 x2 x3 y0 y1 y2 y3 w
 have hS : Tryz.prog.underlying 245 = some (.struct (Tryz.prog.fieldsOf 245)) := by kernel_rfl
 rw [show (10000 : Nat) = 9999 + 1 from rfl, run_equalIn_agg w 9999 245 _ _ hS (by kernel_rfl)]
 simp only [Program.fieldsOf, Tryz.underlying245]
 go_simp
 by_cases h0 : x0 = y0 <;> by_cases h1 : x1 = y1 <;> by_cases h2 : x2 = y2 <;> by_cases h3 : x3 = y3 <;> simp [h0, h1, h2, h3]
theorem geqg245 : Tryz.prog.eqGuardType Tryz.prog.depth 245 = false := by kernel_rfl
theorem gfa245_0 : FieldAt Tryz.prog 245 0 0 := fieldAt_sz (n := 2) (f := ⟨_, _, 0, _, _, _, _⟩) Tryz.underlying245 rfl (by kernel_rfl)
theorem gfa245_1 : FieldAt Tryz.prog 245 1 3 := fieldAt_sz (n := 0) (f := ⟨_, _, 3, _, _, _, _⟩) Tryz.underlying245 rfl (by kernel_rfl)
theorem gone4 : OneCell Tryz.prog 4 := oneCell_of Tryz.underlying4 rfl
theorem glit9 : ((Tryz.prog.info? 9).map fun i => (i.size, i.zero.isSome)) = some (1, true) := by kernel_rfl
theorem gapp9 : ((Tryz.prog.info? 9).map fun i => (i.size, i.bytes, (i.zero.map fun z => z.cells.size))) = some (1, 16, some 1) := by kernel_rfl
theorem gmk3 : ((Tryz.prog.info? 3).map fun i => (i.size, i.bytes, i.zero.map fun z => z.cells.toList)) = some (1, 8, some [i64 0]) := by kernel_rfl
theorem gsz451 : (Tryz.prog.info? 451).map (·.size) = some 2 := by kernel_rfl
theorem gagg451 : AggOf Tryz.prog 451 2 := aggOf_of Tryz.underlying451 rfl (by kernel_rfl)
theorem gfa451_0 : FieldAt Tryz.prog 451 0 0 := fieldAt_sz (n := 0) (f := ⟨_, _, 0, _, _, _, _⟩) Tryz.underlying451 rfl (by kernel_rfl)
theorem glit434 : ((Tryz.prog.info? 434).map fun i => (i.size, i.zero.isSome)) = some (3, true) := by kernel_rfl
theorem gapp434 : ((Tryz.prog.info? 434).map fun i => (i.size, i.bytes, (i.zero.map fun z => z.cells.size))) = some (3, 24, some 3) := by kernel_rfl
theorem gsz434 : (Tryz.prog.info? 434).map (·.size) = some 3 := by kernel_rfl
theorem gfa434_2 : FieldAt Tryz.prog 434 2 2 := fieldAt_sz (n := 0) (f := ⟨_, _, 2, _, _, _, _⟩) Tryz.underlying434 rfl (by kernel_rfl)
theorem gsz3 : (Tryz.prog.info? 3).map (·.size) = some 1 := by kernel_rfl
theorem glit3 : ((Tryz.prog.info? 3).map fun i => (i.size, i.zero.isSome)) = some (1, true) := by kernel_rfl
theorem gagg434 : AggOf Tryz.prog 434 3 := aggOf_of Tryz.underlying434 rfl (by kernel_rfl)
theorem gfa434_0 : FieldAt Tryz.prog 434 0 0 := fieldAt_sz (n := 0) (f := ⟨_, _, 0, _, _, _, _⟩) Tryz.underlying434 rfl (by kernel_rfl)
theorem gfa434_1 : FieldAt Tryz.prog 434 1 1 := fieldAt_sz (n := 0) (f := ⟨_, _, 1, _, _, _, _⟩) Tryz.underlying434 rfl (by kernel_rfl)
theorem gsz373 : (Tryz.prog.info? 373).map (·.size) = some 5 := by kernel_rfl
theorem gagg373 : AggOf Tryz.prog 373 5 := aggOf_of Tryz.underlying373 rfl (by kernel_rfl)
theorem gfa373_3 : FieldAt Tryz.prog 373 3 3 := fieldAt_sz (n := 0) (f := ⟨_, _, 3, _, _, _, _⟩) Tryz.underlying373 rfl (by kernel_rfl)
theorem gfa373_1 : FieldAt Tryz.prog 373 1 1 := fieldAt_sz (n := 0) (f := ⟨_, _, 1, _, _, _, _⟩) Tryz.underlying373 rfl (by kernel_rfl)
theorem gone32 : OneCell Tryz.prog 32 := oneCell_of Tryz.underlying32 rfl
theorem gfa373_2 : FieldAt Tryz.prog 373 2 2 := fieldAt_sz (n := 0) (f := ⟨_, _, 2, _, _, _, _⟩) Tryz.underlying373 rfl (by kernel_rfl)
theorem gfa373_4 : FieldAt Tryz.prog 373 4 4 := fieldAt_sz (n := 0) (f := ⟨_, _, 4, _, _, _, _⟩) Tryz.underlying373 rfl (by kernel_rfl)
theorem gfa34_0 : FieldAt Tryz.prog 34 0 0 := fieldAt_sz (n := 0) (f := ⟨_, _, 0, _, _, _, _⟩) Tryz.underlying34 rfl (by kernel_rfl)
theorem gapp50 : ((Tryz.prog.info? 50).map fun i => (i.size, i.bytes, (i.zero.map fun z => z.cells.size))) = some (3, 40, some 3) := by kernel_rfl
theorem gfa34_2 : FieldAt Tryz.prog 34 2 2 := fieldAt_sz (n := 0) (f := ⟨_, _, 2, _, _, _, _⟩) Tryz.underlying34 rfl (by kernel_rfl)
theorem gsz32 : (Tryz.prog.info? 32).map (·.size) = some 1 := by kernel_rfl
theorem gfa34_1 : FieldAt Tryz.prog 34 1 1 := fieldAt_sz (n := 0) (f := ⟨_, _, 1, _, _, _, _⟩) Tryz.underlying34 rfl (by kernel_rfl)
theorem gone29 : OneCell Tryz.prog 29 := oneCell_of Tryz.underlying29 rfl
theorem glit83 : ((Tryz.prog.info? 83).map fun i => (i.size, i.zero.isSome)) = some (6, true) := by kernel_rfl
theorem gapp83 : ((Tryz.prog.info? 83).map fun i => (i.size, i.bytes, (i.zero.map fun z => z.cells.size))) = some (6, 64, some 6) := by kernel_rfl
theorem gsz29 : (Tryz.prog.info? 29).map (·.size) = some 1 := by kernel_rfl
theorem gsz83 : (Tryz.prog.info? 83).map (·.size) = some 6 := by kernel_rfl
theorem gagg34 : AggOf Tryz.prog 34 3 := aggOf_of Tryz.underlying34 rfl (by kernel_rfl)
theorem gagg83 : AggOf Tryz.prog 83 6 := aggOf_of Tryz.underlying83 rfl (by kernel_rfl)
theorem gfa83_0 : FieldAt Tryz.prog 83 0 0 := fieldAt_sz (n := 0) (f := ⟨_, _, 0, _, _, _, _⟩) Tryz.underlying83 rfl (by kernel_rfl)
theorem gfa83_1 : FieldAt Tryz.prog 83 1 1 := fieldAt_sz (n := 0) (f := ⟨_, _, 1, _, _, _, _⟩) Tryz.underlying83 rfl (by kernel_rfl)
theorem gfa83_2 : FieldAt Tryz.prog 83 2 2 := fieldAt_sz (n := 0) (f := ⟨_, _, 2, _, _, _, _⟩) Tryz.underlying83 rfl (by kernel_rfl)
theorem gfa83_3 : FieldAt Tryz.prog 83 3 3 := fieldAt_sz (n := 0) (f := ⟨_, _, 3, _, _, _, _⟩) Tryz.underlying83 rfl (by kernel_rfl)
theorem copyCheck_ct (b : Nat) (p u : Value) (hp : p = .pointer none ∨ p = ptr b 0) (hu : u.oneCell' = true) : Ct Tryz.prog 262 [ptr b 0] Mo.tt (Blk b [p, u] 274) (X := Unit) (fun _ => .tuple #[]) (fun _ => True) (fun _ => Mo.tt) (fun _ => Blk b [ptr b 0, u] 274) := by
 refine Ct.of Tryz.func262 rfl (by kernel_rfl) Tryz.ntmps262 (by simp) fun c => ?_
 rcases hp with rfl | rfl
 ·
  refine Zq (Zr ?_)
  refine Zm ?_
  refine VL.q (q_nilCheck rfl) (by decide) ?_
  refine VL.q (q_field gfa274_0 rfl) (by decide) ?_
  refine VL.q (q_fe gone272 rfl rfl) (by decide) ?_
  refine VL.q (q_peqn Tryz.underlying272 rfl) (by decide) ?_
  refine Zl ?_
  refine VC.cond_t rfl ?_
  refine Zr ?_
  refine Zm ?_
  refine Zm ?_
  refine VL.q (q_tou (n := 1) Tryz.underlying272 Tryz.underlying260 gszb rfl (by simp)) (by decide) ?_
  refine VL.q (q_noEscape Tryz.func312 rfl rfl (by kernel_rfl) (by kernel_rfl) rfl) (by decide) ?_
  refine VL.q (q_fromu (n := 2) (cs := [.pointer none, u]) Tryz.underlying260 Tryz.underlying272 gszb rfl (by kernel_rfl)) (by decide) ?_
  refine VL.q (q_nilCheck rfl) (by decide) ?_
  refine VL.q (q_field gfa274_0 rfl) (by decide) ?_
  refine VL.store (vc := [ptr b 0]) (cs' := [ptr b 0, u]) rfl rfl rfl gsz272 rfl rfl (Nat.le_of_ble_eq_true rfl) rfl ?_
  exact VL.nil (fin0 (.inl rfl) rfl () rfl trivial (fun _ _ => trivial) (by exact EntO.out))
 refine Zq (Zr ?_)
 refine Zm ?_
 refine VL.q (q_nilCheck rfl) (by decide) ?_
 refine VL.q (q_field gfa274_0 rfl) (by decide) ?_
 refine VL.q (q_fe gone272 rfl rfl) (by decide) ?_
 refine VL.q (q_peqn Tryz.underlying272 rfl) (by decide) ?_
 refine Zl ?_
 refine VC.cond_f rfl ?_
 refine Zq (Zr ?_)
 refine Zm ?_
 refine VL.q (q_nilCheck rfl) (by decide) ?_
 refine VL.q (q_field gfa274_0 rfl) (by decide) ?_
 refine VL.q (q_fe gone272 rfl rfl) (by decide) ?_
 refine Zm ?_
 refine VL.q (q_pne Tryz.underlying272 gszb rfl rfl) (by decide) ?_
 refine Zl ?_
 refine VC.cond_f rfl ?_
 exact VC.skip (fin0 (.inl rfl) rfl () rfl trivial (fun _ _ => trivial) (by exact EntO.out))
theorem writeString_ct (b : Nat) (l s : Str) (hb : l.length + s.length ≤ 4294967296) : Ct Tryz.prog 203 [ptr b 0, str s] Mo.tt (Bd 274 5 b l) (X := Unit) (fun _ => .tuple #[i64 s.length, .nilIface]) (fun _ => True) (fun _ => Mo.tt) (fun _ => Bd 274 5 b (l ++ s)) := by
 refine Ct.monoE (E1 := fun z => ∃ q : Value × Sv UInt8, ((q.1 = .pointer none ∨ q.1 = ptr b 0) ∧ q.2.l = l ∧ (q.2.c = 0 → q.2.a = none)) ∧ Ow.star (Blk b [q.1, q.2.val] 274) (q.2.own 5) z) (Ct.exE (entry_of Tryz.func203 rfl (by kernel_rfl)) ?_) (fun z ⟨p, q, h1, h2, h3, h4⟩ => ⟨(p, q), ⟨h1, h2, h3⟩, h4⟩)
 rintro ⟨p, q⟩ ⟨hp, hl, hc⟩
 dsimp only at hp hl hc ⊢
 refine Ct.of Tryz.func203 rfl (by kernel_rfl) Tryz.ntmps203 (by simp) fun c => ?_
 refine Zq (Zr ?_)
 refine Za ?_
 refine Za ?_
 refine Zl ?_
 refine Zq (Zr ?_)
 refine Zm ?_
 refine VL.callO (copyCheck_ct b p q.val hp rfl) rfl (by decide) ?_
 rintro _ _
 refine Zl ?_
 refine Zq (Zr ?_)
 refine Zm ?_
 refine Zm ?_
 refine VL.q (q_nilCheck rfl) (by decide) ?_
 refine VL.q (q_field gfa274_1 rfl) (by decide) ?_
 refine VL.q (q_fe gone61 rfl rfl) (by decide) ?_
 refine Zm ?_
 refine VL.appS (s := q) (r := s) Tryz.underlying61 Tryz.underlying9 gappb rfl Fo.out (by rw [hl]; exact hb) (by decide) fun q2 hq2 hc2 => ?_
 refine VL.q (q_nilCheck rfl) (by decide) ?_
 refine VL.q (q_field gfa274_1 rfl) (by decide) ?_
 refine VL.store (vc := [q2.val]) (cs' := [ptr b 0, q2.val]) rfl rfl rfl gsz61 rfl rfl (Nat.le_of_ble_eq_true rfl) rfl ?_
 refine Zl ?_
 refine Zq (Zr ?_)
 refine Zm ?_
 refine VL.q (q_slen Tryz.underlying9 rfl) (by decide) ?_
 refine Za ?_
 refine Za ?_
 refine Zl ?_
 exact VC.ret (fin2 (.inr rfl) rfl rfl rfl () rfl trivial (fun _ _ => trivial) (fun z hz => Bd.mk (p := ptr b 0) (s := q2) (.inr rfl) (by rw [hq2, hl]) (hc2 hc) ((EntO.out (E' := Ow.star (Blk b [ptr b 0, q2.val] 274) (q2.own 5))) z hz)))
theorem string_ct (b : Nat) (l : Str) : Ct Tryz.prog 204 [ptr b 0] Mo.tt (Bd 274 5 b l) (X := Unit) (fun _ => str l) (fun _ => True) (fun _ => Mo.tt) (fun _ => Ow.emp) := by
 refine Ct.monoE (E1 := fun z => ∃ q : Value × Sv UInt8, ((q.1 = .pointer none ∨ q.1 = ptr b 0) ∧ q.2.l = l ∧ (q.2.c = 0 → q.2.a = none)) ∧ Ow.star (Blk b [q.1, q.2.val] 274) (q.2.own 5) z) (Ct.exE (entry_of Tryz.func204 rfl (by kernel_rfl)) ?_) (fun z ⟨p, q, h1, h2, h3, h4⟩ => ⟨(p, q), ⟨h1, h2, h3⟩, h4⟩)
 rintro ⟨p, q⟩ ⟨hp, rfl, hc⟩
 dsimp only at hp hc ⊢
 refine Ct.of Tryz.func204 rfl (by kernel_rfl) Tryz.ntmps204 (by simp) fun c => ?_
 refine Zq (Zr ?_)
 refine Za ?_
 refine Zl ?_
 refine Zq ?_
 refine VC.draw [(0, true), (1, true), (2, true), (3, true), (4, true), (5, true), (6, true), (7, true), (8, true), (9, true), (10, false), (11, true)] mixed (by kernel_rfl) (by kernel_rfl) (by kernel_rfl) ?_
 refine VD.q rfl (q_move rfl) (by decide) ?_
 refine VD.q rfl (q_nilCheck rfl) (by decide) ?_
 refine VD.q rfl (q_field gfa274_1 rfl) (by decide) ?_
 refine VD.q rfl (q_fe gone61 rfl rfl) (by decide) ?_
 refine VD.q rfl (q_sdata (s := q) rfl hc) (by decide) ?_
 refine VD.q rfl (q_move rfl) (by decide) ?_
 refine VD.q rfl (q_nilCheck rfl) (by decide) ?_
 refine VD.q rfl (q_field gfa274_1 rfl) (by decide) ?_
 refine VD.q rfl (q_fe gone61 rfl rfl) (by decide) ?_
 refine VD.q rfl (q_ln (s := q) Tryz.underlying61 rfl) (by decide) ?_
 refine VD.one rfl ?_
 refine VL.ustr (s := q) (e := 5) rfl Fo.out (by decide) (fun w h z o l k m => St.ustr (e := 5) Tryz.underlying343 (by kernel_rfl) o l k m) ?_
 refine VL.back (D' := []) (by kernel_rfl) Pend.nil ?_
 refine VD.q rfl (q_assign rfl) (by decide) ?_
 refine VD.to (fun _ _ h => h) ?_
 exact Ze
theorem Ct.mapX {P : Program} {f : FuncId} {args : List Value} {X Y : Type} {M : Mo} {E : Ow} {val : X → Value} {φ : X → Prop} {M2 : X → Mo} {E2 : X → Ow} {val' : Y → Value} {φ' : Y → Prop} {M2' : Y → Mo} {E2' : Y → Ow} (h : Ct P f args M E val φ M2 E2) (g : X → Y)
    (hv : ∀ x, val x = val' (g x)) (hφ : ∀ x, φ x → φ' (g x)) (hm : ∀ x h, (M2 x).on h → (M2' (g x)).on h) (hE : ∀ x e, E2 x e → E2' (g x) e) : Ct P f args M E val' φ' M2' E2' :=
  ⟨h.entry, fun w hp e m ee d l k => (h.calls w hp e m ee d l k).mono fun en w' ⟨r, h1, x, h2, h3, h4⟩ => ⟨r, h1, g x, h2.trans (hv x), hφ x h3, h4.mono (hm x) (hE x)⟩⟩
theorem repeat2_ct (r : Sv Int) (n : Int) {q : List Int} (hS : Sh.slices_Repeat0 r.l n = some q) : Ct Tryz.prog 372 [r.val, i64 n] r.ok Ow.emp (X := Sv Int) (fun x => x.val) (fun x => q = x.l) (fun _ => Mo.tt) (fun x => x.own 3) := by
 obtain ⟨⟨h1, h2, h3⟩, hS⟩ := gd_s hS
 cases hS
 exact (repeat_ct r (-1) n h1 h2 h3).weak (fun _ h => h) fun q hq => by rw [hq]
open Go.Extern.Stop Go.Stop Go.Extern Go.RowKit in
section
end
namespace As
open Go.Extern Go.Extern.Stop
end As
theorem unicode_utf8_RuneCountInString_ct (s_0 : Str) {r : Int} (hS : Sh.unicode_utf8_RuneCountInString s_0 = some r) :
 Ct Tryz.prog 358 [str s_0] Mo.tt (Ow.emp) (X := Unit) (fun _ => i64 r) (fun _ => True) (fun _ => Mo.tt) (fun _ => Ow.emp) := by
 refine Ct.of Tryz.func358 rfl (by kernel_rfl) Tryz.ntmps358 (by simp) fun c => ?_
 unfold Sh.unicode_utf8_RuneCountInString at hS
 refine Zq (Zr ?_)
 refine Za ?_
 refine Zl ?_
 refine Zq (Zq (Zr ?_))
 refine Zm ?_
 cases hS
theorem unicode_utf8_decodeRuneInStringSlow_ct (s_0 : Str) {r : Int × Int} (hS : Sh.unicode_utf8_decodeRuneInStringSlow s_0 = some r) :
 Ct Tryz.prog 360 [str s_0] Mo.tt (Ow.emp) (X := Unit) (fun _ => .tuple #[.int .i32 r.1, i64 r.2]) (fun _ => True) (fun _ => Mo.tt) (fun _ => Ow.emp) := by
 refine Ct.of Tryz.func360 rfl (by kernel_rfl) Tryz.ntmps360 (by simp) fun c => ?_
 unfold Sh.unicode_utf8_decodeRuneInStringSlow at hS
 refine Zq (Zr ?_)
 refine Za ?_
 refine Za ?_
 refine Zl ?_
 refine Zq (Zr ?_)
 refine Zm ?_
 refine VL.q (q_slen Tryz.underlying9 rfl) (by decide) ?_
 refine Za ?_
 refine Zl ?_
 refine Zq (Zq (Zr ?_))
 refine Zm ?_
 refine VL.q (q_lss rfl rfl) (by decide) ?_
 refine Zl ?_
 refine VC.cond_dec rfl (fun h16 => ?_) (fun h16 => ?_)
 ·
  replace hS := it_t h16 hS
  refine Zq (Zr ?_)
  refine Za ?_
  refine Za ?_
  refine Zl ?_
  cases hS
  exact VC.ret (fin2 (.inr rfl) rfl rfl rfl () rfl trivial (fun _ _ => trivial) (fun _ _ => trivial))
 replace hS := it_f h16 hS
 refine Zk ?_
 refine Zq (Zr ?_)
 refine Zm ?_
 obtain ⟨z18_1, nz18_1, hz18_1, hS⟩ := at_s hS
 refine VL.q (q_sidx Tryz.underlying9 rfl rfl nz18_1 hz18_1) (by decide) ?_
 refine Za ?_
 refine Zl ?_
 refine VC.keep [0, 4, 5] rfl ?_
 refine Zq (Zr ?_)
 refine Zm ?_
 cases hS
theorem unicode_utf8_DecodeRuneInString_ct (s_0 : Str) {r : Int × Int} (hS : Sh.unicode_utf8_DecodeRuneInString s_0 = some r) :
 Ct Tryz.prog 321 [str s_0] Mo.tt (Ow.emp) (X := Unit) (fun _ => .tuple #[.int .i32 r.1, i64 r.2]) (fun _ => True) (fun _ => Mo.tt) (fun _ => Ow.emp) := by
 refine Ct.of Tryz.func321 rfl (by kernel_rfl) Tryz.ntmps321 (by simp) fun c => ?_
 unfold Sh.unicode_utf8_DecodeRuneInString at hS
 refine Zq (Zr ?_)
 refine Za ?_
 refine Za ?_
 refine Zl ?_
 refine Zq ?_
 refine VC.cutJ (S := Bool) (fun (x10_1 : Bool) => x10_1) (fun (x10_1 : Bool) => [(0, str s_0), (10, .bool x10_1)]) (fun (x10_1 : Bool) => Mo.tt) (fun (x10_1 : Bool) => Ow.emp) hS ?_ ?_
 ·
  clear hS
  intro k2 hS
  refine Zr ?_
  refine Zm ?_
  refine VL.q (q_sne rfl rfl) (by decide) ?_
  refine Zm ?_
  refine VL.split_ndec 6 rfl (fun h6 => ?_) (fun h6 => ?_)
  ·
   replace hS := it_f h6 hS
   refine Zg ?_
   obtain ⟨z8_3, nz8_3, hz8_3, hS⟩ := at_s hS
   refine VL.gy rfl rfl (q_sidx Tryz.underlying9 rfl rfl nz8_3 hz8_3) (by decide) ?_
   refine VL.gy rfl rfl (q_lss rfl rfl) (by decide) ?_
   refine Zt ?_
   refine VL.mt (decide ((z8_3.toNat : Int) < 128)) [0, 10] (fun _ _ h => h) hS rfl
  replace hS := it_t h6 hS
  refine Zn ?_
  refine Zn ?_
  refine Zn ?_
  refine Zf ?_
  refine VL.mt false [0, 10] (fun _ _ h => h) hS rfl
 clear hS
 rintro x10_1 hS
 show VC _ _ _ _ _ [(0, str s_0), (10, .bool x10_1)] (Mo.and Mo.tt _) (Ow.emp)
 refine VC.cond rfl (fun h10 => ?_) (fun h10 => ?_)
 ·
  replace hS := it_t h10 hS
  refine Zq (Zr ?_)
  refine Zm ?_
  obtain ⟨z12_4, nz12_4, hz12_4, hS⟩ := at_s hS
  refine VL.q (q_sidx Tryz.underlying9 rfl rfl nz12_4 hz12_4) (by decide) ?_
  refine VL.q (q_conv Tryz.underlying5 Tryz.underlying21 rfl (wr_i32 z12_4)) (by decide) ?_
  refine Za ?_
  refine Za ?_
  refine Zl ?_
  cases hS
  exact VC.ret (fin2 (.inr rfl) rfl rfl rfl () rfl trivial (fun _ _ => trivial) (fun _ _ => trivial))
 replace hS := it_b h10 hS
 refine Zr ?_
 refine Zm ?_
 obtain ⟨y16_5, ey16_5, hS⟩ := bd_s hS
 refine VL.q (q_call (unicode_utf8_decodeRuneInStringSlow_ct s_0 ey16_5) rfl (fun _ _ => rfl)) (by decide) ?_
 refine Zm ?_
 refine VL.q (q_extract rfl rfl) (by decide) ?_
 refine VL.q (q_extract rfl rfl) (by decide) ?_
 refine Za ?_
 refine Za ?_
 refine Zl ?_
 cases hS
 exact VC.ret (fin2 (.inr rfl) rfl rfl rfl () rfl trivial (fun _ _ => trivial) (fun _ _ => trivial))
theorem strings_explode_ct (s_0 : Str) (n_1 : Int) {r : List Str} (hS : Sh.strings_explode s_0 n_1 = some r) :
 Ct Tryz.prog 318 [str s_0, i64 n_1] Mo.tt (Ow.emp) (X := Sv Str) (fun x => x.val) (fun x => r = x.l) (fun x => Mo.tt) (fun x => Sv.own x 9) := by
 refine Ct.of Tryz.func318 rfl (by kernel_rfl) Tryz.ntmps318 (by simp) fun c => ?_
 unfold Sh.strings_explode at hS
 refine Zq (Zr ?_)
 refine Za ?_
 refine Zl ?_
 refine Zq (Zr ?_)
 refine Zm ?_
 obtain ⟨y11_1, ey11_1, hS⟩ := bd_s hS
 refine VL.q (q_call (unicode_utf8_RuneCountInString_ct s_0 ey11_1) rfl (fun _ _ => rfl)) (by decide) ?_
 refine Za ?_
 refine Zl ?_
 refine VC.cutJ (S := Int) (fun (n1_2 : Int) => n1_2) (fun (n1_2 : Int) => [(0, str s_0), (1, i64 n1_2)]) (fun (n1_2 : Int) => Mo.tt) (fun (n1_2 : Int) => Ow.emp) hS ?_ ?_
 ·
  clear hS
  intro k3 hS
  refine VC.cutJ (S := Bool) (fun (x18_4 : Bool) => x18_4) (fun (x18_4 : Bool) => [(0, str s_0), (1, i64 n_1), (5, i64 y11_1), (18, .bool x18_4)]) (fun (x18_4 : Bool) => Mo.tt) (fun (x18_4 : Bool) => Ow.emp) hS ?_ ?_
  ·
   clear hS
   intro k5 hS
   refine Zr ?_
   refine Zm ?_
   refine VL.q (q_lss rfl rfl) (by decide) ?_
   refine Zm ?_
   refine VL.split_dec 14 rfl (fun h14 => ?_) (fun h14 => ?_)
   ·
    replace hS := it_t h14 hS
    refine Zn ?_
    refine Zn ?_
    refine Zn ?_
    refine Zt ?_
    refine VL.mt true [0, 1, 5, 18] (fun _ _ h => h) hS rfl
   replace hS := it_f h14 hS
   refine Zg ?_
   refine Zg ?_
   refine VL.gy rfl rfl (q_gtr rfl rfl) (by decide) ?_
   refine Zf ?_
   refine VL.mt (decide (y11_1 < n_1)) [0, 1, 5, 18] (fun _ _ h => h) hS rfl
  clear hS
  rintro x18_4 hS
  show VC _ _ _ _ _ [(0, str s_0), (1, i64 n_1), (5, i64 y11_1), (18, .bool x18_4)] (Mo.and Mo.tt _) (Ow.emp)
  refine VC.cond rfl (fun h18 => ?_) (fun h18 => ?_)
  ·
   replace hS := it_t h18 hS
   refine Zr ?_
   refine Zm ?_
   refine Za ?_
   refine VL.mt y11_1 [0, 1] (fun _ _ h => h) hS rfl
  replace hS := it_b h18 hS
  refine VC.skip_mt n_1 [0, 1] (fun _ _ h => h) hS rfl
 clear hS
 rintro n1_2 hS
 show VC _ _ _ _ _ [(0, str s_0), (1, i64 n1_2)] (Mo.and Mo.tt _) (Ow.emp)
 refine Zq (Zr ?_)
 refine Zm ?_
 obtain ⟨b21, hS⟩ := gd_s hS
 refine VL.make (α := Str) (z := []) Tryz.underlying32 gmk9 (by decide) rfl rfl b21.1 (Int.le_refl _) (by omega) (by omega) (by decide) (fun s21_6 hs21_6 => ?_)
 replace hS := lt_to hs21_6 hS
 refine Za ?_
 refine Zl ?_
 refine Zq (Zq (Zr ?_))
 refine Za ?_
 refine Zl ?_
 refine Zb ?_
 refine VC.iter (S := Str × Sv Str × Int) (fun sg => (sg.1, sg.2.1.l, sg.2.2)) (fun sg => [(0, str sg.1), (1, i64 n1_2), (6, sg.2.1.val), (7, i64 sg.2.2)]) (fun sg => Mo.tt) (fun sg => Ow.star (Sv.own sg.2.1 9) (Ow.emp)) (s_0, s21_6, 0) [0, 1, 6, 7] hS rfl ?_
 clear hS
 rintro ⟨s0_8, a6_9, i7_10⟩ m1 y1 hS hK1
 show VC _ _ _ _ _ [(0, str s0_8), (1, i64 n1_2), (6, a6_9.val), (7, i64 i7_10)] (Mo.and Mo.tt _) (Ow.star (Sv.own a6_9 9) (Ow.emp))
 refine Zq (Zq (Zr ?_))
 refine Zm ?_
 refine Zm ?_
 obtain ⟨b24, hS⟩ := gd_s hS
 refine VL.q (q_sub rfl rfl b24) (by decide) ?_
 refine VL.q (q_lss rfl rfl) (by decide) ?_
 refine Zl ?_
 refine VC.cond_dec rfl (fun h25 => ?_) (fun h25 => ?_)
 ·
  replace hS := it_t h25 hS
  refine Zk ?_
  refine Zq (Zb (Zq (Zr ?_)))
  refine Zm ?_
  obtain ⟨y30_11, ey30_11, hS⟩ := bd_s hS
  refine VL.q (q_call (unicode_utf8_DecodeRuneInString_ct s0_8 ey30_11) rfl (fun _ _ => rfl)) (by decide) ?_
  refine Zm ?_
  refine VL.q (q_extract rfl rfl) (by decide) ?_
  refine VL.q (q_extract rfl rfl) (by decide) ?_
  refine Za ?_
  refine Za ?_
  refine Zl ?_
  refine VC.keep [0, 1, 6, 7, 9] rfl ?_
  refine Zq (Zr ?_)
  refine Zm ?_
  refine Zm ?_
  refine Zm ?_
  refine Zm ?_
  obtain ⟨b37, hS⟩ := gd_s hS
  obtain ⟨y37_12, ey37_12, hS⟩ := lt_s hS
  refine VL.q (q_stoE Tryz.underlying9 rfl rfl b37.1 b37.2 ey37_12) (by decide) ?_
  obtain ⟨z38_13, nz38_13, hz38_13, hS⟩ := at_s hS
  refine VL.q (q_ixo (s := a6_9) Tryz.underlying32 gsz9 rfl rfl nz38_13 (lt_of_get nz38_13 hz38_13)) (by decide) ?_
  refine VL.storeE (s := a6_9) (T := 9) (j := 0) (vc := [str y37_12]) (y37_12 : Str) (by decide) rfl rfl hz38_13 rfl gsz9 rfl rfl (Nat.le_of_ble_eq_true rfl) rfl (fun w14 hw14 haw14 hcw14 hvw14 hbw14 how14 => ?_)
  rw [← hvw14]
  replace hS := lt_to hw14 hS
  refine Zl ?_
  refine Zr ?_
  refine Zm ?_
  refine Zm ?_
  obtain ⟨b41, hS⟩ := gd_s hS
  obtain ⟨y41_16, ey41_16, hS⟩ := lt_s hS
  refine VL.q (q_sfromE Tryz.underlying9 rfl rfl b41.1 b41.2 ey41_16) (by decide) ?_
  refine Za ?_
  refine Zl ?_
  refine VC.keep [0, 1, 6, 7] rfl ?_
  refine Zr ?_
  refine Zm ?_
  obtain ⟨b27, hS⟩ := gd_s hS
  refine VL.q (q_add rfl rfl b27) (by decide) ?_
  refine Za ?_
  refine VL.rnd (y41_16, w14, (i7_10 + 1)) [0, 1, 6, 7] (fun _ _ h => h) (go2 hS hK1) rfl
 replace hS := it_f h25 hS
 replace hS := up2 hS hK1
 refine Zx ?_
 refine Zq (Zq (Zr ?_))
 refine Zm ?_
 refine VL.q (q_gtr rfl rfl) (by decide) ?_
 refine Zl ?_
 refine VC.cond_dec rfl (fun h43 => ?_) (fun h43 => ?_)
 ·
  replace hS := it_t h43 hS
  refine Zr ?_
  refine Zm ?_
  refine Zm ?_
  obtain ⟨b46, hS⟩ := gd_s hS
  refine VL.q (q_sub rfl rfl b46) (by decide) ?_
  refine Zm ?_
  obtain ⟨z48_17, nz48_17, hz48_17, hS⟩ := at_s hS
  refine VL.q (q_ixo (s := a6_9) Tryz.underlying32 gsz9 rfl rfl nz48_17 (lt_of_get nz48_17 hz48_17)) (by decide) ?_
  refine VL.storeE (s := a6_9) (T := 9) (j := 0) (vc := [str s0_8]) (s0_8 : Str) (by decide) rfl rfl hz48_17 rfl gsz9 rfl rfl (Nat.le_of_ble_eq_true rfl) rfl (fun w18 hw18 haw18 hcw18 hvw18 hbw18 how18 => ?_)
  rw [← hvw18]
  replace hS := lt_to hw18 hS
  refine Zl ?_
  refine VC.keep [6] rfl ?_
  refine Zq (Zr ?_)
  refine Zm ?_
  refine Za ?_
  refine Zl ?_
  cases hS
  exact VC.ret (fin1 (.inr rfl) rfl rfl w18 rfl rfl (by (try dsimp only); exact InM.out) (by (try dsimp only); exact EntO.out))
 replace hS := it_f h43 hS
 refine Zk ?_
 refine Zq (Zr ?_)
 refine Zm ?_
 refine Za ?_
 refine Zl ?_
 refine VC.keep [4] rfl ?_
 cases hS
 exact VC.ret (fin1 (.inr rfl) rfl rfl a6_9 rfl rfl (by (try dsimp only); exact InM.out) (by (try dsimp only); exact EntO.out))
theorem internal_stringslite_IndexByte_ct (s_0 : Str) (c_1 : Int) {r : Int} (hS : Sh.internal_stringslite_IndexByte s_0 c_1 = some r) :
 Ct Tryz.prog 314 [str s_0, .int .u8 c_1] Mo.tt (Ow.emp) (X := Unit) (fun _ => i64 r) (fun _ => True) (fun _ => Mo.tt) (fun _ => Ow.emp) := by
 refine Ct.of Tryz.func314 rfl (by kernel_rfl) Tryz.ntmps314 (by simp) fun c => ?_
 unfold Sh.internal_stringslite_IndexByte at hS
 refine Zq (Zr ?_)
 refine Za ?_
 refine Zl ?_
 refine Zq (Zr ?_)
 refine Zm ?_
 refine Zm ?_
 refine VL.q (q_extern Tryz.func356 rfl rfl (by kernel_rfl) (by kernel_rfl) rfl (fun w => x_ixS s_0 c_1 w)) (by decide) ?_
 refine Za ?_
 refine Zl ?_
 cases hS
 exact Ze
theorem internal_stringslite_Index_ct (s_0 : Str) (substr_1 : Str) {r : Int} (hS : Sh.internal_stringslite_Index s_0 substr_1 = some r) :
 Ct Tryz.prog 264 [str s_0, str substr_1] Mo.tt (Ow.emp) (X := Unit) (fun _ => i64 r) (fun _ => True) (fun _ => Mo.tt) (fun _ => Ow.emp) := by
 refine Ct.of Tryz.func264 rfl (by kernel_rfl) Tryz.ntmps264 (by simp) fun c => ?_
 unfold Sh.internal_stringslite_Index at hS
 refine Zq (Zr ?_)
 refine Za ?_
 refine Zl ?_
 refine Zq (Zr ?_)
 refine Zm ?_
 refine VL.q (q_slen Tryz.underlying9 rfl) (by decide) ?_
 refine Za ?_
 refine Zl ?_
 refine Zq (Zb ?_)
 refine VC.cutJ (S := Bool) (fun (x16_1 : Bool) => x16_1) (fun (x16_1 : Bool) => [(0, str s_0), (1, str substr_1), (5, i64 (substr_1.length : Int)), (16, .bool x16_1)]) (fun (x16_1 : Bool) => Mo.tt) (fun (x16_1 : Bool) => Ow.emp) hS ?_ ?_
 ·
  clear hS
  intro k2 hS
  refine Zr ?_
  refine Zm ?_
  refine VL.q (q_eql rfl rfl) (by decide) ?_
  refine Zm ?_
  refine VL.split_dec 19 rfl (fun h19 => ?_) (fun h19 => ?_)
  ·
   replace hS := it_t h19 hS
   refine Zn ?_
   refine Zn ?_
   refine Zn ?_
   refine Zt ?_
   refine Za ?_
   refine VL.mt true [0, 1, 5, 16] (fun _ _ h => h) hS rfl
  replace hS := it_f h19 hS
  refine Zg ?_
  refine Zg ?_
  refine VL.gy rfl rfl (q_seq rfl rfl) (by decide) ?_
  refine Zf ?_
  refine Za ?_
  refine VL.mt (decide (substr_1 = s_0)) [0, 1, 5, 16] (fun _ _ h => h) hS rfl
 clear hS
 rintro x16_1 hS
 show VC _ _ _ _ _ [(0, str s_0), (1, str substr_1), (5, i64 (substr_1.length : Int)), (16, .bool x16_1)] (Mo.and Mo.tt _) (Ow.emp)
 refine VC.cond rfl (fun h16 => ?_) (fun h16 => ?_)
 ·
  replace hS := it_t h16 hS
  refine Zq (Zr ?_)
  refine Za ?_
  refine Zl ?_
  cases hS
  exact Ze
 replace hS := it_b h16 hS
 refine Zq (Zr ?_)
 refine Zm ?_
 refine VL.q (q_eql rfl rfl) (by decide) ?_
 refine Za ?_
 refine Zl ?_
 refine VC.cond_dec rfl (fun h24 => ?_) (fun h24 => ?_)
 ·
  replace hS := it_t h24 hS
  refine Zq (Zr ?_)
  refine Zm ?_
  refine Zm ?_
  obtain ⟨z29_3, nz29_3, hz29_3, hS⟩ := at_s hS
  refine VL.q (q_sidx Tryz.underlying9 rfl rfl nz29_3 hz29_3) (by decide) ?_
  obtain ⟨y30_4, ey30_4, hS⟩ := bd_s hS
  refine VL.q (q_call (internal_stringslite_IndexByte_ct s_0 (z29_3.toNat : Int) ey30_4) rfl (fun _ _ => rfl)) (by decide) ?_
  refine Za ?_
  refine Zl ?_
  refine VC.keep [4] rfl ?_
  cases hS
  exact Ze
 replace hS := it_f h24 hS
 refine Zq (Zr ?_)
 refine Zm ?_
 refine Zm ?_
 refine VL.q (q_slen Tryz.underlying9 rfl) (by decide) ?_
 refine VL.q (q_geq rfl rfl) (by decide) ?_
 refine Za ?_
 refine Zl ?_
 refine VC.keep [0, 1, 5, 31] rfl ?_
 refine VC.cond_dec rfl (fun h31 => ?_) (fun h31 => ?_)
 ·
  replace hS := it_t h31 hS
  refine Zq (Zr ?_)
  refine Za ?_
  refine Zl ?_
  cases hS
  exact Ze
 replace hS := it_f h31 hS
 refine Zq (Zr ?_)
 refine Zm ?_
 cases hS
theorem strings_Index_ct (s_0 : Str) (substr_1 : Str) {r : Int} (hS : Sh.strings_Index s_0 substr_1 = some r) :
 Ct Tryz.prog 307 [str s_0, str substr_1] Mo.tt (Ow.emp) (X := Unit) (fun _ => i64 r) (fun _ => True) (fun _ => Mo.tt) (fun _ => Ow.emp) := by
 refine Ct.of Tryz.func307 rfl (by kernel_rfl) Tryz.ntmps307 (by simp) fun c => ?_
 unfold Sh.strings_Index at hS
 refine Zq (Zr ?_)
 refine Za ?_
 refine Zl ?_
 refine Zq (Zr ?_)
 refine Zm ?_
 refine Zm ?_
 obtain ⟨y7_1, ey7_1, hS⟩ := bd_s hS
 refine VL.q (q_call (internal_stringslite_Index_ct s_0 substr_1 ey7_1) rfl (fun _ _ => rfl)) (by decide) ?_
 refine Za ?_
 refine Zl ?_
 cases hS
 exact Ze
theorem strings_Count_ct (s_0 : Str) (substr_1 : Str) {r : Int} (hS : Sh.strings_Count s_0 substr_1 = some r) :
 Ct Tryz.prog 319 [str s_0, str substr_1] Mo.tt (Ow.emp) (X := Unit) (fun _ => i64 r) (fun _ => True) (fun _ => Mo.tt) (fun _ => Ow.emp) := by
 refine Ct.of Tryz.func319 rfl (by kernel_rfl) Tryz.ntmps319 (by simp) fun c => ?_
 unfold Sh.strings_Count at hS
 refine Zq (Zr ?_)
 refine Za ?_
 refine Zl ?_
 refine Zq (Zq (Zr ?_))
 refine Zm ?_
 refine VL.q (q_slen Tryz.underlying9 rfl) (by decide) ?_
 refine VL.q (q_eql rfl rfl) (by decide) ?_
 refine Zl ?_
 refine VC.cond_dec rfl (fun h9 => ?_) (fun h9 => ?_)
 ·
  replace hS := it_t h9 hS
  refine Zq (Zr ?_)
  refine Zm ?_
  obtain ⟨y11_1, ey11_1, hS⟩ := bd_s hS
  refine VL.q (q_call (unicode_utf8_RuneCountInString_ct s_0 ey11_1) rfl (fun _ _ => rfl)) (by decide) ?_
  obtain ⟨b12, hS⟩ := gd_s hS
  refine VL.q (q_add rfl rfl b12) (by decide) ?_
  refine Za ?_
  refine Zl ?_
  cases hS
  exact Ze
 replace hS := it_f h9 hS
 refine Zk ?_
 refine Zq (Zq (Zr ?_))
 refine Zm ?_
 refine VL.q (q_slen Tryz.underlying9 rfl) (by decide) ?_
 refine VL.q (q_eql rfl rfl) (by decide) ?_
 refine Zl ?_
 refine VC.cond_dec rfl (fun h15 => ?_) (fun h15 => ?_)
 ·
  replace hS := it_t h15 hS
  refine Zq (Zr ?_)
  refine Zm ?_
  refine Zm ?_
  obtain ⟨z18_2, nz18_2, hz18_2, hS⟩ := at_s hS
  refine VL.q (q_sidx Tryz.underlying9 rfl rfl nz18_2 hz18_2) (by decide) ?_
  refine VL.q (q_extern Tryz.func359 rfl rfl (by kernel_rfl) (by kernel_rfl) rfl (fun w => x_cntS s_0 (z18_2.toNat : Int) w)) (by decide) ?_
  refine Za ?_
  refine Zl ?_
  refine VC.keep [4] rfl ?_
  cases hS
  exact Ze
 replace hS := it_f h15 hS
 refine Zk ?_
 refine Zq (Zr ?_)
 refine Za ?_
 refine Zl ?_
 refine Zb ?_
 refine VC.iter (S := Str × Int) (fun sg => (sg.1, sg.2)) (fun sg => [(0, str sg.1), (1, str substr_1), (5, i64 sg.2)]) (fun sg => Mo.tt) (fun sg => Ow.emp) (s_0, 0) [0, 1, 5] hS rfl ?_
 clear hS
 rintro ⟨s0_3, n5_4⟩ m1 y1 hS hK1
 show VC _ _ _ _ _ [(0, str s0_3), (1, str substr_1), (5, i64 n5_4)] (Mo.and Mo.tt _) (Ow.emp)
 refine Zb (Zq (Zr ?_))
 refine Zm ?_
 refine Zm ?_
 obtain ⟨y22_5, ey22_5, hS⟩ := bd_s hS
 refine VL.q (q_call (strings_Index_ct s0_3 substr_1 ey22_5) rfl (fun _ _ => rfl)) (by decide) ?_
 refine Za ?_
 refine Zl ?_
 refine Zq (Zq (Zr ?_))
 refine Zm ?_
 refine VL.q (q_eql rfl rfl) (by decide) ?_
 refine Zl ?_
 refine VC.cond_dec rfl (fun h24 => ?_) (fun h24 => ?_)
 ·
  replace hS := it_t h24 hS
  refine Zq (Zr ?_)
  refine Zm ?_
  refine Za ?_
  refine Zl ?_
  refine VC.keep [4] rfl ?_
  replace hS := up2 hS hK1
  cases hS
  exact Ze
 replace hS := it_f h24 hS
 refine Zk ?_
 refine Zq (Zr ?_)
 refine Zm ?_
 obtain ⟨b27, hS⟩ := gd_s hS
 refine VL.q (q_add rfl rfl b27) (by decide) ?_
 refine Za ?_
 refine Zl ?_
 refine VC.keep [0, 1, 5, 6] rfl ?_
 refine Zr ?_
 refine Zm ?_
 refine Zm ?_
 refine Zm ?_
 refine VL.q (q_slen Tryz.underlying9 rfl) (by decide) ?_
 obtain ⟨b32, hS⟩ := gd_s hS
 refine VL.q (q_add rfl rfl b32) (by decide) ?_
 obtain ⟨b33, hS⟩ := gd_s hS
 obtain ⟨y33_6, ey33_6, hS⟩ := lt_s hS
 refine VL.q (q_sfromE Tryz.underlying9 rfl rfl b33.1 b33.2 ey33_6) (by decide) ?_
 refine Za ?_
 refine VL.rnd (y33_6, (n5_4 + 1)) [0, 1, 5] (fun _ _ h => h) (go2 hS hK1) rfl
theorem strings_genSplit_ct (s_0 : Str) (sep_1 : Str) (sepSave_2 : Int) (n_3 : Int) {r : List Str} (hS : Sh.strings_genSplit s_0 sep_1 sepSave_2 n_3 = some r) :
 Ct Tryz.prog 265 [str s_0, str sep_1, i64 sepSave_2, i64 n_3] Mo.tt (Ow.emp) (X := Sv Str) (fun x => x.val) (fun x => r = x.l) (fun x => x.ok) (fun x => Ow.emp) := by
 refine Ct.of Tryz.func265 rfl (by kernel_rfl) Tryz.ntmps265 (by simp) fun c => ?_
 unfold Sh.strings_genSplit at hS
 refine Zq (Zr ?_)
 refine Za ?_
 refine Zl ?_
 refine Zq (Zq (Zr ?_))
 refine Zm ?_
 refine VL.q (q_eql rfl rfl) (by decide) ?_
 refine Zl ?_
 refine VC.cond_dec rfl (fun h13 => ?_) (fun h13 => ?_)
 ·
  replace hS := it_t h13 hS
  refine Zq (Zr ?_)
  refine Za ?_
  refine Zl ?_
  cases hS
  exact VC.ret (fin1 (.inr rfl) rfl rfl ⟨none, 0, []⟩ rfl rfl (by (try dsimp only); exact InM.out) (fun _ _ => trivial))
 replace hS := it_f h13 hS
 refine Zk ?_
 refine Zq (Zq (Zr ?_))
 refine Zm ?_
 refine Zs ?_
 refine Zl ?_
 refine VC.cond_dec rfl (fun h15 => ?_) (fun h15 => ?_)
 ·
  replace hS := it_t h15 hS
  refine Zq (Zr ?_)
  refine Zm ?_
  refine Zm ?_
  obtain ⟨y18_1, ey18_1, hS⟩ := bd_s hS
  refine VL.callO (strings_explode_ct s_0 n_3 ey18_1) rfl (by decide) ?_
  rintro q18_1_0 rfl
  try dsimp only
  refine Za ?_
  refine Zl ?_
  refine VC.keep [8] rfl ?_
  refine VC.shut q18_1_0 9 (fun _ _ _ _ => trivial) ?_
  cases hS
  exact VC.ret (fin1 (.inr rfl) rfl rfl q18_1_0 rfl rfl (by (try dsimp only); exact InM.out) (fun _ _ => trivial))
 replace hS := it_f h15 hS
 refine Zk ?_
 refine VC.cutJ (S := Int) (fun (n3_2 : Int) => n3_2) (fun (n3_2 : Int) => [(0, str s_0), (1, str sep_1), (2, i64 sepSave_2), (3, i64 n3_2)]) (fun (n3_2 : Int) => Mo.tt) (fun (n3_2 : Int) => Ow.emp) hS ?_ ?_
 ·
  clear hS
  intro k3 hS
  refine Zq (Zr ?_)
  refine Zm ?_
  refine VL.q (q_lss rfl rfl) (by decide) ?_
  refine Zl ?_
  refine VC.cond_dec rfl (fun h20 => ?_) (fun h20 => ?_)
  ·
   replace hS := it_t h20 hS
   refine Zr ?_
   refine Zm ?_
   refine Zm ?_
   obtain ⟨y23_4, ey23_4, hS⟩ := bd_s hS
   refine VL.q (q_call (strings_Count_ct s_0 sep_1 ey23_4) rfl (fun _ _ => rfl)) (by decide) ?_
   obtain ⟨b24, hS⟩ := gd_s hS
   refine VL.q (q_add rfl rfl b24) (by decide) ?_
   refine Za ?_
   refine VL.mt (y23_4 + 1) [0, 1, 2, 3] (fun _ _ h => h) hS rfl
  replace hS := it_f h20 hS
  refine VC.skip_mt n_3 [0, 1, 2, 3] (fun _ _ h => h) hS rfl
 clear hS
 rintro n3_2 hS
 show VC _ _ _ _ _ [(0, str s_0), (1, str sep_1), (2, i64 sepSave_2), (3, i64 n3_2)] (Mo.and Mo.tt _) (Ow.emp)
 refine Zq (Zr ?_)
 refine Zm ?_
 refine Zm ?_
 refine VL.q (q_slen Tryz.underlying9 rfl) (by decide) ?_
 obtain ⟨b28, hS⟩ := gd_s hS
 refine VL.q (q_add rfl rfl b28) (by decide) ?_
 refine VL.q (q_min rfl) (by decide) ?_
 refine Za ?_
 refine Zl ?_
 refine Zq (Zr ?_)
 refine Zm ?_
 obtain ⟨b31, hS⟩ := gd_s hS
 refine VL.make (α := Str) (z := []) Tryz.underlying32 gmk9 (by decide) rfl rfl b31.1 (Int.le_refl _) (by omega) (by omega) (by decide) (fun s31_5 hs31_5 => ?_)
 replace hS := lt_to hs31_5 hS
 refine Za ?_
 refine Zl ?_
 refine VC.keep [0, 1, 2, 3, 9] rfl ?_
 refine Zq (Zr ?_)
 refine Zm ?_
 obtain ⟨b33, hS⟩ := gd_s hS
 refine VL.q (q_sub rfl rfl b33) (by decide) ?_
 refine Za ?_
 refine Zl ?_
 refine Zq (Zr ?_)
 refine Za ?_
 refine Zl ?_
 refine VC.cutJ (S := Str × Sv Str × Int) (fun sg => (sg.1, sg.2.1.l, sg.2.2)) (fun sg => [(0, str sg.1), (9, sg.2.1.val), (10, i64 sg.2.2)]) (fun sg => Mo.tt) (fun sg => Ow.star (Sv.own sg.2.1 9) (Ow.emp)) hS ?_ ?_
 ·
  clear hS
  intro k10 hS
  refine Zb ?_
  refine VC.iter (S := Str × Sv Str × Int) (fun sg => (sg.1, sg.2.1.l, sg.2.2)) (fun sg => [(0, str sg.1), (1, str sep_1), (2, i64 sepSave_2), (3, i64 ((min n3_2 ((s_0.length : Int) + 1)) - 1)), (9, sg.2.1.val), (10, i64 sg.2.2)]) (fun sg => Mo.tt) (fun sg => Ow.star (Sv.own sg.2.1 9) (Ow.emp)) (s_0, s31_5, 0) [0, 1, 2, 3, 9, 10] hS rfl ?_
  clear hS
  rintro ⟨s0_11, a9_12, i10_13⟩ m1 y1 hS hK1
  show VC _ _ _ _ _ [(0, str s0_11), (1, str sep_1), (2, i64 sepSave_2), (3, i64 ((min n3_2 ((s_0.length : Int) + 1)) - 1)), (9, a9_12.val), (10, i64 i10_13)] (Mo.and Mo.tt _) (Ow.star (Sv.own a9_12 9) (Ow.emp))
  refine Zq (Zq (Zr ?_))
  refine Zm ?_
  refine Zm ?_
  refine VL.q (q_lss rfl rfl) (by decide) ?_
  refine Zl ?_
  refine VC.cond_dec rfl (fun h36 => ?_) (fun h36 => ?_)
  ·
   replace hS := it_t h36 hS
   refine Zk ?_
   refine Zb (Zq (Zr ?_))
   refine Zm ?_
   refine Zm ?_
   obtain ⟨y39_14, ey39_14, hS⟩ := bd_s hS
   refine VL.q (q_call (strings_Index_ct s0_11 sep_1 ey39_14) rfl (fun _ _ => rfl)) (by decide) ?_
   refine Za ?_
   refine Zl ?_
   refine Zq (Zq (Zr ?_))
   refine Zm ?_
   refine VL.q (q_lss rfl rfl) (by decide) ?_
   refine Zl ?_
   refine VC.keep [0, 1, 2, 3, 9, 10, 11, 41] rfl ?_
   refine VC.cond_dec rfl (fun h41 => ?_) (fun h41 => ?_)
   ·
    replace hS := it_t h41 hS
    replace hS := up2 hS hK1
    refine VC.exit_mt (s0_11, a9_12, i10_13) [0, 9, 10] (fun _ _ h => h) hS rfl
   replace hS := it_f h41 hS
   refine Zk ?_
   refine Zq (Zr ?_)
   refine Zm ?_
   refine Zm ?_
   refine Zm ?_
   refine Zm ?_
   refine Zm ?_
   obtain ⟨b47, hS⟩ := gd_s hS
   refine VL.q (q_add rfl rfl b47) (by decide) ?_
   obtain ⟨b48, hS⟩ := gd_s hS
   obtain ⟨y48_15, ey48_15, hS⟩ := lt_s hS
   refine VL.q (q_stoE Tryz.underlying9 rfl rfl b48.1 b48.2 ey48_15) (by decide) ?_
   obtain ⟨z49_16, nz49_16, hz49_16, hS⟩ := at_s hS
   refine VL.q (q_ixo (s := a9_12) Tryz.underlying32 gsz9 rfl rfl nz49_16 (lt_of_get nz49_16 hz49_16)) (by decide) ?_
   refine VL.storeE (s := a9_12) (T := 9) (j := 0) (vc := [str y48_15]) (y48_15 : Str) (by decide) rfl rfl hz49_16 rfl gsz9 rfl rfl (Nat.le_of_ble_eq_true rfl) rfl (fun w17 hw17 haw17 hcw17 hvw17 hbw17 how17 => ?_)
   rw [← hvw17]
   replace hS := lt_to hw17 hS
   refine Zl ?_
   refine VC.keep [0, 1, 2, 3, 9, 10, 11] rfl ?_
   refine Zq (Zr ?_)
   refine Zm ?_
   refine Zm ?_
   refine Zm ?_
   refine VL.q (q_slen Tryz.underlying9 rfl) (by decide) ?_
   obtain ⟨b54, hS⟩ := gd_s hS
   refine VL.q (q_add rfl rfl b54) (by decide) ?_
   obtain ⟨b55, hS⟩ := gd_s hS
   obtain ⟨y55_19, ey55_19, hS⟩ := lt_s hS
   refine VL.q (q_sfromE Tryz.underlying9 rfl rfl b55.1 b55.2 ey55_19) (by decide) ?_
   refine Za ?_
   refine Zl ?_
   refine VC.keep [0, 1, 2, 3, 9, 10] rfl ?_
   refine Zr ?_
   refine Zm ?_
   obtain ⟨b57, hS⟩ := gd_s hS
   refine VL.q (q_add rfl rfl b57) (by decide) ?_
   refine Za ?_
   refine VL.rnd (y55_19, w17, (i10_13 + 1)) [0, 1, 2, 3, 9, 10] (fun _ _ h => h) (go2 hS hK1) rfl
  replace hS := it_f h36 hS
  replace hS := up2 hS hK1
  refine VC.exit_mt (s0_11, a9_12, i10_13) [0, 9, 10] (fun _ _ h => h) hS rfl
 clear hS
 rintro ⟨s0_7, a9_8, i10_9⟩ hS
 show VC _ _ _ _ _ [(0, str s0_7), (9, a9_8.val), (10, i64 i10_9)] (Mo.and Mo.tt _) (Ow.star (Sv.own a9_8 9) (Ow.emp))
 refine Zq (Zr ?_)
 refine Zm ?_
 refine Zm ?_
 refine Zm ?_
 obtain ⟨z61_20, nz61_20, hz61_20, hS⟩ := at_s hS
 refine VL.q (q_ixo (s := a9_8) Tryz.underlying32 gsz9 rfl rfl nz61_20 (lt_of_get nz61_20 hz61_20)) (by decide) ?_
 refine VL.storeE (s := a9_8) (T := 9) (j := 0) (vc := [str s0_7]) (s0_7 : Str) (by decide) rfl rfl hz61_20 rfl gsz9 rfl rfl (Nat.le_of_ble_eq_true rfl) rfl (fun w21 hw21 haw21 hcw21 hvw21 hbw21 how21 => ?_)
 rw [← hvw21]
 replace hS := lt_to hw21 hS
 refine Zl ?_
 refine Zq (Zr ?_)
 refine Zm ?_
 refine Zm ?_
 obtain ⟨b64, hS⟩ := gd_s hS
 refine VL.q (q_add rfl rfl b64) (by decide) ?_
 refine VL.shut w21 9 (fun _ _ _ _ => trivial) ?_
 obtain ⟨b65, hS⟩ := gd_s hS
 refine VL.sto Tryz.underlying32 gsz9 rfl rfl b65.1 (b65.2) (by decide) fun s65_23 hs65_23 => ?_
 replace hS := lt_to hs65_23 hS
 refine Za ?_
 refine Zl ?_
 refine VC.keep [8] rfl ?_
 cases hS
 exact VC.ret (fin1 (.inr rfl) rfl rfl s65_23 rfl rfl (by (try dsimp only); exact InM.out) (fun _ _ => trivial))
theorem strings_Split_ct (s_0 : Str) (sep_1 : Str) {r : List Str} (hS : Sh.strings_Split s_0 sep_1 = some r) :
 Ct Tryz.prog 206 [str s_0, str sep_1] Mo.tt (Ow.emp) (X := Sv Str) (fun x => x.val) (fun x => r = x.l) (fun x => x.ok) (fun x => Ow.emp) := by
 refine Ct.of Tryz.func206 rfl (by kernel_rfl) Tryz.ntmps206 (by simp) fun c => ?_
 unfold Sh.strings_Split at hS
 refine Zq (Zr ?_)
 refine Za ?_
 refine Zl ?_
 refine Zq (Zr ?_)
 refine Zm ?_
 refine Zm ?_
 obtain ⟨y7_1, ey7_1, hS⟩ := bd_s hS
 refine VL.callF (strings_genSplit_ct s_0 sep_1 0 (-1) ey7_1) rfl (by decide) ?_
 rintro q7_1_0 rfl
 try dsimp only
 refine Za ?_
 refine Zl ?_
 cases hS
 exact VC.ret (fin1 (.inr rfl) rfl rfl q7_1_0 rfl rfl (by (try dsimp only); exact InM.out) (fun _ _ => trivial))
theorem path_good_ct (c_0 : Int) {r : Bool} (hS : Sh.path_good c_0 = some r) :
 Ct Tryz.prog 278 [.int .u8 c_0] Mo.tt (Ow.emp) (X := Unit) (fun _ => .bool r) (fun _ => True) (fun _ => Mo.tt) (fun _ => Ow.emp) := by
 refine Ct.of Tryz.func278 rfl (by kernel_rfl) Tryz.ntmps278 (by simp) fun c => ?_
 unfold Sh.path_good at hS
 refine Zq (Zr ?_)
 refine Za ?_
 refine Zl ?_
 refine VC.cutJ (S := Unit) (fun (_ : Unit) => ()) (fun (_ : Unit) => [(0, .int .u8 c_0)]) (fun (_ : Unit) => Mo.tt) (fun (_ : Unit) => Ow.emp) hS ?_ ?_
 ·
  clear hS
  intro k1 hS
  refine Zq (Zr ?_)
  refine Zm ?_
  refine Zl ?_
  refine Zb ?_
  refine VC.cutJ (S := Unit) (fun (_ : Unit) => ()) (fun (_ : Unit) => []) (fun (_ : Unit) => Mo.tt) (fun (_ : Unit) => Ow.emp) hS ?_ ?_
  ·
   clear hS
   intro k2 hS
   refine Zb (Zb (Zb (Zq (Zq (Zq (Zr ?_))))))
   refine VL.q (q_eql rfl rfl) (by decide) ?_
   refine Za ?_
   refine Zl ?_
   refine VC.cond_dec rfl (fun h4 => ?_) (fun h4 => ?_)
   ·
    replace hS := it_t h4 hS
    refine VC.exit_mt () [] (fun _ _ h => h) hS rfl
   replace hS := it_f h4 hS
   refine Zk ?_
   refine Zq (Zq (Zr ?_))
   refine VL.q (q_eql rfl rfl) (by decide) ?_
   refine Za ?_
   refine Zl ?_
   refine VC.cond_dec rfl (fun h6 => ?_) (fun h6 => ?_)
   ·
    replace hS := it_t h6 hS
    refine VC.exit_mt () [] (fun _ _ h => h) hS rfl
   replace hS := it_f h6 hS
   refine Zk ?_
   refine Zq (Zr ?_)
   refine VL.q (q_eql rfl rfl) (by decide) ?_
   refine Za ?_
   refine Zl ?_
   refine VC.cond_dec rfl (fun h8 => ?_) (fun h8 => ?_)
   ·
    replace hS := it_t h8 hS
    refine VC.exit_mt () [] (fun _ _ h => h) hS rfl
   replace hS := it_f h8 hS
   refine Zk ?_
   refine VC.exit_mt () [0] (fun _ _ h => h) hS rfl
  clear hS
  rintro _ hS
  show VC _ _ _ _ _ [] (Mo.and Mo.tt _) (Ow.emp)
  refine Zq (Zq (Zr ?_))
  refine Za ?_
  refine Zl ?_
  cases hS
  exact Ze
 clear hS
 rintro _ hS
 show VC _ _ _ _ _ [(0, .int .u8 c_0)] (Mo.and Mo.tt _) (Ow.emp)
 refine Zq (Zr ?_)
 refine Zm ?_
 refine VL.q (q_geq rfl rfl) (by decide) ?_
 refine Zm ?_
 refine VL.split_dec 12 rfl (fun h12 => ?_) (fun h12 => ?_)
 ·
  replace hS := it_t h12 hS
  refine Zg ?_
  refine VL.gy rfl rfl (q_leq rfl rfl) (by decide) ?_
  refine Zt ?_
  refine Zm ?_
  refine VL.split_dec 16 rfl (fun h16 => ?_) (fun h16 => ?_)
  ·
   replace hS := it_t h16 hS
   refine Zn ?_
   refine Zn ?_
   refine Zn ?_
   refine VL.gu rfl rfl (by decide) ?_
   refine VL.gu rfl rfl (by decide) ?_
   refine Zn ?_
   refine Zt ?_
   refine Za ?_
   refine Zl ?_
   refine VC.keep [2] rfl ?_
   cases hS
   exact Ze
  replace hS := it_f h16 hS
  refine Zg ?_
  refine VL.gy rfl rfl (q_geq rfl rfl) (by decide) ?_
  refine Zg ?_
  refine VL.split_dec 19 rfl (fun h19 => ?_) (fun h19 => ?_)
  ·
   replace hS := it_t h19 hS
   refine Zg ?_
   refine VL.gy rfl rfl (q_leq rfl rfl) (by decide) ?_
   refine VL.gy rfl rfl (q_pick_t rfl rfl) (by decide) ?_
   refine Zf ?_
   refine Za ?_
   refine Zl ?_
   refine VC.keep [2] rfl ?_
   cases hS
   exact Ze
  replace hS := it_f h19 hS
  refine Zn ?_
  refine Zn ?_
  refine VL.gy rfl rfl (q_pick_f rfl rfl) (by decide) ?_
  refine Zf ?_
  refine Za ?_
  refine Zl ?_
  refine VC.keep [2] rfl ?_
  cases hS
  exact Ze
 replace hS := it_f h12 hS
 refine Zn ?_
 refine Zn ?_
 refine Zf ?_
 refine Zm ?_
 refine Zg ?_
 refine VL.gy rfl rfl (q_geq rfl rfl) (by decide) ?_
 refine Zg ?_
 refine VL.split_dec 19 rfl (fun h19 => ?_) (fun h19 => ?_)
 ·
  replace hS := it_t h19 hS
  refine Zg ?_
  refine VL.gy rfl rfl (q_leq rfl rfl) (by decide) ?_
  refine VL.gy rfl rfl (q_pick_t rfl rfl) (by decide) ?_
  refine Zf ?_
  refine Za ?_
  refine Zl ?_
  refine VC.keep [2] rfl ?_
  cases hS
  exact Ze
 replace hS := it_f h19 hS
 refine Zn ?_
 refine Zn ?_
 refine VL.gy rfl rfl (q_pick_f rfl rfl) (by decide) ?_
 refine Zf ?_
 refine Za ?_
 refine Zl ?_
 refine VC.keep [2] rfl ?_
 cases hS
 exact Ze
theorem path_part_ct (s_0 : Str) {r : Bool} (hS : Sh.path_part s_0 = some r) :
 Ct Tryz.prog 214 [str s_0] Mo.tt (Ow.emp) (X := Unit) (fun _ => .bool r) (fun _ => True) (fun _ => Mo.tt) (fun _ => Ow.emp) := by
 refine Ct.of Tryz.func214 rfl (by kernel_rfl) Tryz.ntmps214 (by simp) fun c => ?_
 unfold Sh.path_part at hS
 refine Zq (Zr ?_)
 refine Za ?_
 refine Zl ?_
 refine Zq ?_
 refine VC.cutJ (S := Bool) (fun (x14_1 : Bool) => x14_1) (fun (x14_1 : Bool) => [(0, str s_0), (14, .bool x14_1)]) (fun (x14_1 : Bool) => Mo.tt) (fun (x14_1 : Bool) => Ow.emp) hS ?_ ?_
 ·
  clear hS
  intro k2 hS
  refine Zr ?_
  refine Zm ?_
  refine Zs ?_
  refine Zm ?_
  refine VL.split_dec 7 rfl (fun h7 => ?_) (fun h7 => ?_)
  ·
   replace hS := it_t h7 hS
   refine Zn ?_
   refine Zn ?_
   refine Zt ?_
   refine Zm ?_
   refine Zn ?_
   refine Zn ?_
   refine Zt ?_
   refine VL.mt true [0, 14] (fun _ _ h => h) hS rfl
  replace hS := it_f h7 hS
  refine Zg ?_
  refine VL.gy rfl rfl (q_seq rfl rfl) (by decide) ?_
  refine Zf ?_
  refine Zm ?_
  refine VL.split_dec 11 rfl (fun h11 => ?_) (fun h11 => ?_)
  ·
   replace hS := it_t h11 hS
   refine Zn ?_
   refine Zn ?_
   refine Zt ?_
   refine VL.mt true [0, 14] (fun _ _ h => h) hS rfl
  replace hS := it_f h11 hS
  refine Zg ?_
  refine VL.gy rfl rfl (q_seq rfl rfl) (by decide) ?_
  refine Zf ?_
  refine VL.mt (decide (s_0 = [46, 46])) [0, 14] (fun _ _ h => h) hS rfl
 clear hS
 rintro x14_1 hS
 show VC _ _ _ _ _ [(0, str s_0), (14, .bool x14_1)] (Mo.and Mo.tt _) (Ow.emp)
 refine VC.cond rfl (fun h14 => ?_) (fun h14 => ?_)
 ·
  replace hS := it_t h14 hS
  refine Zq (Zr ?_)
  refine Za ?_
  refine Zl ?_
  cases hS
  exact Ze
 replace hS := it_b h14 hS
 refine Zk ?_
 refine Zq (Zq (Zr ?_))
 refine Zm ?_
 obtain ⟨b16, hS⟩ := gd_s hS
 refine VL.s2b Tryz.underlying9 Tryz.underlying61 Tryz.underlying5 rfl b16 (by decide) fun s16_3 hs16_3 => ?_
 replace hS := lt_to hs16_3 hS
 refine VL.q (q_ln (s := s16_3) Tryz.underlying61 rfl) (by decide) ?_
 refine Zm ?_
 refine Zl ?_
 refine Zb ?_
 refine VC.iter (S := Int) (fun (x18_5 : Int) => x18_5) (fun (x18_5 : Int) => [(16, s16_3.val), (17, i64 (s16_3.l.length : Int)), (18, i64 x18_5)]) (fun (x18_5 : Int) => Mo.tt) (fun (x18_5 : Int) => Ow.emp) 0 [16, 17, 18] hS rfl ?_
 clear hS
 rintro x18_5 m1 y1 hS hK1
 show VC _ _ _ _ _ [(16, s16_3.val), (17, i64 (s16_3.l.length : Int)), (18, i64 x18_5)] (Mo.and Mo.tt _) (Ow.emp)
 refine Zq (Zr ?_)
 refine VL.q (q_lss rfl rfl) (by decide) ?_
 refine Zl ?_
 refine Zq ?_
 refine VC.cond_dec rfl (fun h19 => ?_) (fun h19 => ?_)
 ·
  replace hS := it_t h19 hS
  refine Zk ?_
  refine Zq (Zb (Zq (Zr ?_)))
  obtain ⟨z20_6, nz20_6, hz20_6, hS⟩ := at_s hS
  refine VL.q (q_ixm (s := s16_3) Tryz.underlying61 gsz5 rfl rfl nz20_6 (lt_of_get nz20_6 hz20_6)) (by decide) ?_
  refine VL.q (q_el (s := s16_3) gone5 rfl hz20_6 rfl) (by decide) ?_
  refine Za ?_
  refine Zl ?_
  refine Zq (Zr ?_)
  refine Zm ?_
  obtain ⟨y23_7, ey23_7, hS⟩ := bd_s hS
  refine VL.q (q_call (path_good_ct (z20_6.toNat : Int) ey23_7) rfl (fun _ _ => rfl)) (by decide) ?_
  refine VL.q (q_not rfl) (by decide) ?_
  refine Zl ?_
  refine VC.cond rfl (fun h24 => ?_) (fun h24 => ?_)
  ·
   replace hS := it_t h24 hS
   refine Zq (Zr ?_)
   refine Za ?_
   refine Zl ?_
   refine VC.keep [2] rfl ?_
   replace hS := up2 hS hK1
   cases hS
   exact Ze
  replace hS := it_b h24 hS
  refine Zk ?_
  refine Zr ?_
  obtain ⟨b25, hS⟩ := gd_s hS
  refine VL.q (q_add rfl rfl b25) (by decide) ?_
  refine Zm ?_
  refine VL.rnd (x18_5 + 1) [16, 17, 18] (fun _ _ h => h) (go2 hS hK1) rfl
 replace hS := it_f h19 hS
 replace hS := up2 hS hK1
 refine Zx ?_
 refine Zq (Zr ?_)
 refine Za ?_
 refine Zl ?_
 cases hS
 exact Ze
theorem path_Check_ct (p_0 : Str) {r : Int} (hS : Sh.path_Check p_0 = some r) :
 Ct Tryz.prog 134 [str p_0] Mo.tt (Ow.emp) (X := Unit) (fun _ => i64 r) (fun _ => True) (fun _ => Mo.tt) (fun _ => Ow.emp) := by
 refine Ct.of Tryz.func134 rfl (by kernel_rfl) Tryz.ntmps134 (by simp) fun c => ?_
 unfold Sh.path_Check at hS
 refine Zq (Zr ?_)
 refine Za ?_
 refine Zl ?_
 refine Zq (Zq (Zr ?_))
 refine Zm ?_
 refine VL.q (q_slen Tryz.underlying9 rfl) (by decide) ?_
 refine VL.q (q_gtr rfl rfl) (by decide) ?_
 refine Zl ?_
 refine VC.cond_dec rfl (fun h7 => ?_) (fun h7 => ?_)
 ·
  replace hS := it_t h7 hS
  refine Zq (Zr ?_)
  refine Za ?_
  refine Zl ?_
  cases hS
  exact Ze
 replace hS := it_f h7 hS
 refine Zk ?_
 refine Zq (Zq (Zr ?_))
 refine Zm ?_
 obtain ⟨y9_1, ey9_1, hS⟩ := bd_s hS
 refine VL.callF (strings_Split_ct p_0 [47] ey9_1) rfl (by decide) ?_
 rintro q9_1_0 rfl
 try dsimp only
 refine VL.q (q_ln (s := q9_1_0) Tryz.underlying32 rfl) (by decide) ?_
 refine Zm ?_
 refine Zl ?_
 refine Zb ?_
 refine VC.iter (S := Int) (fun (x11_2 : Int) => x11_2) (fun (x11_2 : Int) => [(9, q9_1_0.val), (10, i64 (q9_1_0.l.length : Int)), (11, i64 x11_2)]) (fun (x11_2 : Int) => Mo.tt) (fun (x11_2 : Int) => Ow.emp) 0 [9, 10, 11] hS rfl ?_
 clear hS
 rintro x11_2 m1 y1 hS hK1
 show VC _ _ _ _ _ [(9, q9_1_0.val), (10, i64 (q9_1_0.l.length : Int)), (11, i64 x11_2)] (Mo.and Mo.tt _) (Ow.emp)
 refine Zq (Zr ?_)
 refine VL.q (q_lss rfl rfl) (by decide) ?_
 refine Zl ?_
 refine Zq ?_
 refine VC.cond_dec rfl (fun h12 => ?_) (fun h12 => ?_)
 ·
  replace hS := it_t h12 hS
  refine Zk ?_
  refine Zq (Zb (Zq (Zr ?_)))
  obtain ⟨z13_3, nz13_3, hz13_3, hS⟩ := at_s hS
  refine VL.q (q_ixm (s := q9_1_0) Tryz.underlying32 gsz9 rfl rfl nz13_3 (lt_of_get nz13_3 hz13_3)) (by decide) ?_
  refine VL.q (q_el (s := q9_1_0) gone9 rfl hz13_3 rfl) (by decide) ?_
  refine Za ?_
  refine Zl ?_
  refine Zq (Zr ?_)
  refine Zm ?_
  obtain ⟨y16_4, ey16_4, hS⟩ := bd_s hS
  refine VL.q (q_call (path_part_ct z13_3 ey16_4) rfl (fun _ _ => rfl)) (by decide) ?_
  refine VL.q (q_not rfl) (by decide) ?_
  refine Zl ?_
  refine VC.cond rfl (fun h17 => ?_) (fun h17 => ?_)
  ·
   replace hS := it_t h17 hS
   refine Zq (Zr ?_)
   refine Za ?_
   refine Zl ?_
   refine VC.keep [2] rfl ?_
   replace hS := up2 hS hK1
   cases hS
   exact Ze
  replace hS := it_b h17 hS
  refine Zk ?_
  refine Zr ?_
  obtain ⟨b18, hS⟩ := gd_s hS
  refine VL.q (q_add rfl rfl b18) (by decide) ?_
  refine Zm ?_
  refine VL.rnd (x11_2 + 1) [9, 10, 11] (fun _ _ h => h) (go2 hS hK1) rfl
 replace hS := it_f h12 hS
 replace hS := up2 hS hK1
 refine Zx ?_
 refine Zq (Zr ?_)
 refine Za ?_
 refine Zl ?_
 cases hS
 exact Ze
theorem cmp_isNaN_string_ct (x_0 : Str) {r : Bool} (hS : Sh.cmp_isNaN_string x_0 = some r) :
 Ct Tryz.prog 279 [str x_0] Mo.tt (Ow.emp) (X := Unit) (fun _ => .bool r) (fun _ => True) (fun _ => Mo.tt) (fun _ => Ow.emp) := by
 refine Ct.of Tryz.func279 rfl (by kernel_rfl) Tryz.ntmps279 (by simp) fun c => ?_
 unfold Sh.cmp_isNaN_string at hS
 refine Zq (Zr ?_)
 refine Za ?_
 refine Zl ?_
 refine Zq (Zr ?_)
 refine Zm ?_
 refine Zm ?_
 refine VL.q (q_sne rfl rfl) (by decide) ?_
 refine Za ?_
 refine Zl ?_
 cases hS
 exact Ze
theorem cmp_Compare_string_ct (x_0 : Str) (y_1 : Str) {r : Int} (hS : Sh.cmp_Compare_string x_0 y_1 = some r) :
 Ct Tryz.prog 215 [str x_0, str y_1] Mo.tt (Ow.emp) (X := Unit) (fun _ => i64 r) (fun _ => True) (fun _ => Mo.tt) (fun _ => Ow.emp) := by
 refine Ct.of Tryz.func215 rfl (by kernel_rfl) Tryz.ntmps215 (by simp) fun c => ?_
 unfold Sh.cmp_Compare_string at hS
 refine Zq (Zr ?_)
 refine Za ?_
 refine Zl ?_
 refine Zq (Zr ?_)
 refine Zm ?_
 obtain ⟨y8_1, ey8_1, hS⟩ := bd_s hS
 refine VL.q (q_call (cmp_isNaN_string_ct x_0 ey8_1) rfl (fun _ _ => rfl)) (by decide) ?_
 refine Za ?_
 refine Zl ?_
 refine Zq (Zr ?_)
 refine Zm ?_
 obtain ⟨y10_2, ey10_2, hS⟩ := bd_s hS
 refine VL.q (q_call (cmp_isNaN_string_ct y_1 ey10_2) rfl (fun _ _ => rfl)) (by decide) ?_
 refine Za ?_
 refine Zl ?_
 refine Zq (Zq (Zr ?_))
 refine Zm ?_
 refine Zl ?_
 refine VC.cond rfl (fun h11 => ?_) (fun h11 => ?_)
 ·
  replace hS := it_t h11 hS
  refine Zq (Zq (Zr ?_))
  refine Zm ?_
  refine Zl ?_
  refine VC.keep [12] rfl ?_
  refine VC.cond rfl (fun h12 => ?_) (fun h12 => ?_)
  ·
   replace hS := it_t h12 hS
   refine Zq (Zr ?_)
   refine Za ?_
   refine Zl ?_
   cases hS
   exact Ze
  replace hS := it_b h12 hS
  refine Zk ?_
  refine Zq (Zr ?_)
  refine Za ?_
  refine Zl ?_
  cases hS
  exact Ze
 replace hS := it_b h11 hS
 refine Zk ?_
 refine Zq (Zq (Zr ?_))
 refine Zm ?_
 refine Zl ?_
 refine VC.keep [0, 1, 13] rfl ?_
 refine VC.cond rfl (fun h13 => ?_) (fun h13 => ?_)
 ·
  replace hS := it_t h13 hS
  refine Zq (Zr ?_)
  refine Za ?_
  refine Zl ?_
  cases hS
  exact Ze
 replace hS := it_b h13 hS
 refine Zk ?_
 refine Zq (Zq (Zr ?_))
 refine Zm ?_
 refine Zm ?_
 refine VL.q (q_slss rfl rfl) (by decide) ?_
 refine Zl ?_
 refine VC.cond rfl (fun h16 => ?_) (fun h16 => ?_)
 ·
  replace hS := it_t h16 hS
  refine Zq (Zr ?_)
  refine Za ?_
  refine Zl ?_
  cases hS
  exact Ze
 replace hS := it_b h16 hS
 refine Zk ?_
 refine Zq (Zq (Zr ?_))
 refine Zm ?_
 refine Zm ?_
 refine VL.q (q_sgtr rfl rfl) (by decide) ?_
 refine Zl ?_
 refine VC.cond rfl (fun h19 => ?_) (fun h19 => ?_)
 ·
  replace hS := it_t h19 hS
  refine Zq (Zr ?_)
  refine Za ?_
  refine Zl ?_
  cases hS
  exact Ze
 replace hS := it_b h19 hS
 refine Zk ?_
 refine Zq (Zr ?_)
 refine Za ?_
 refine Zl ?_
 cases hS
 exact Ze
theorem path_Compare_ct (a_0 : Str) (b_1 : Str) {r : Int} (hS : Sh.path_Compare a_0 b_1 = some r) :
 Ct Tryz.prog 135 [str a_0, str b_1] Mo.tt (Ow.emp) (X := Unit) (fun _ => i64 r) (fun _ => True) (fun _ => Mo.tt) (fun _ => Ow.emp) := by
 refine Ct.of Tryz.func135 rfl (by kernel_rfl) Tryz.ntmps135 (by simp) fun c => ?_
 unfold Sh.path_Compare at hS
 refine Zq (Zr ?_)
 refine Za ?_
 refine Zl ?_
 refine Zq (Zr ?_)
 refine Zm ?_
 refine Zm ?_
 obtain ⟨y7_1, ey7_1, hS⟩ := bd_s hS
 refine VL.q (q_call (cmp_Compare_string_ct a_0 b_1 ey7_1) rfl (fun _ _ => rfl)) (by decide) ?_
 refine Za ?_
 refine Zl ?_
 cases hS
 exact Ze
theorem internal_stringslite_HasPrefix_ct (s_0 : Str) (prefix_1 : Str) {r : Bool} (hS : Sh.internal_stringslite_HasPrefix s_0 prefix_1 = some r) :
 Ct Tryz.prog 285 [str s_0, str prefix_1] Mo.tt (Ow.emp) (X := Unit) (fun _ => .bool r) (fun _ => True) (fun _ => Mo.tt) (fun _ => Ow.emp) := by
 refine Ct.of Tryz.func285 rfl (by kernel_rfl) Tryz.ntmps285 (by simp) fun c => ?_
 unfold Sh.internal_stringslite_HasPrefix at hS
 refine Zq (Zr ?_)
 refine Za ?_
 refine Zl ?_
 refine Zq (Zr ?_)
 refine Zm ?_
 refine VL.q (q_slen Tryz.underlying9 rfl) (by decide) ?_
 refine Zm ?_
 refine VL.q (q_slen Tryz.underlying9 rfl) (by decide) ?_
 refine VL.q (q_geq rfl rfl) (by decide) ?_
 refine Zm ?_
 refine VL.split_dec 10 rfl (fun h10 => ?_) (fun h10 => ?_)
 ·
  replace hS := it_t h10 hS
  refine Zg ?_
  refine Zg ?_
  refine VL.gy rfl rfl (q_slen Tryz.underlying9 rfl) (by decide) ?_
  obtain ⟨b14, hS⟩ := gd_s hS
  obtain ⟨y14_1, ey14_1, hS⟩ := lt_s hS
  refine VL.gy rfl rfl (q_stoE Tryz.underlying9 rfl rfl b14.1 b14.2 ey14_1) (by decide) ?_
  refine Zg ?_
  refine VL.gy rfl rfl (q_seq rfl rfl) (by decide) ?_
  refine Zt ?_
  refine Za ?_
  refine Zl ?_
  refine VC.keep [4] rfl ?_
  cases hS
  exact Ze
 replace hS := it_f h10 hS
 refine Zn ?_
 refine Zn ?_
 refine Zn ?_
 refine Zn ?_
 refine Zn ?_
 refine Zn ?_
 refine Zf ?_
 refine Za ?_
 refine Zl ?_
 refine VC.keep [4] rfl ?_
 cases hS
 exact Ze
theorem strings_HasPrefix_ct (s_0 : Str) (prefix_1 : Str) {r : Bool} (hS : Sh.strings_HasPrefix s_0 prefix_1 = some r) :
 Ct Tryz.prog 224 [str s_0, str prefix_1] Mo.tt (Ow.emp) (X := Unit) (fun _ => .bool r) (fun _ => True) (fun _ => Mo.tt) (fun _ => Ow.emp) := by
 refine Ct.of Tryz.func224 rfl (by kernel_rfl) Tryz.ntmps224 (by simp) fun c => ?_
 unfold Sh.strings_HasPrefix at hS
 refine Zq (Zr ?_)
 refine Za ?_
 refine Zl ?_
 refine Zq (Zr ?_)
 refine Zm ?_
 refine Zm ?_
 obtain ⟨y7_1, ey7_1, hS⟩ := bd_s hS
 refine VL.q (q_call (internal_stringslite_HasPrefix_ct s_0 prefix_1 ey7_1) rfl (fun _ _ => rfl)) (by decide) ?_
 refine Za ?_
 refine Zl ?_
 cases hS
 exact Ze
theorem path_Under_ct (p_0 : Str) (dir_1 : Str) {r : Bool} (hS : Sh.path_Under p_0 dir_1 = some r) :
 Ct Tryz.prog 150 [str p_0, str dir_1] Mo.tt (Ow.emp) (X := Unit) (fun _ => .bool r) (fun _ => True) (fun _ => Mo.tt) (fun _ => Ow.emp) := by
 refine Ct.of Tryz.func150 rfl (by kernel_rfl) Tryz.ntmps150 (by simp) fun c => ?_
 unfold Sh.path_Under at hS
 refine Zq (Zr ?_)
 refine Za ?_
 refine Zl ?_
 refine Zq (Zq (Zr ?_))
 refine Zm ?_
 refine Zs ?_
 refine Zl ?_
 refine VC.cond_dec rfl (fun h6 => ?_) (fun h6 => ?_)
 ·
  replace hS := it_t h6 hS
  refine Zq (Zr ?_)
  refine Zm ?_
  refine VL.q (q_sne rfl rfl) (by decide) ?_
  refine Za ?_
  refine Zl ?_
  cases hS
  exact Ze
 replace hS := it_f h6 hS
 refine Zk ?_
 refine Zq (Zr ?_)
 refine Zm ?_
 refine VL.q (q_slen Tryz.underlying9 rfl) (by decide) ?_
 refine Zm ?_
 refine VL.q (q_slen Tryz.underlying9 rfl) (by decide) ?_
 obtain ⟨b13, hS⟩ := gd_s hS
 refine VL.q (q_add rfl rfl b13) (by decide) ?_
 refine VL.q (q_gtr rfl rfl) (by decide) ?_
 refine Zm ?_
 refine VL.split_dec 15 rfl (fun h15 => ?_) (fun h15 => ?_)
 ·
  replace hS := it_t h15 hS
  refine Zg ?_
  refine Zg ?_
  obtain ⟨b18, hS⟩ := gd_s hS
  obtain ⟨y18_1, ey18_1, hS⟩ := lt_s hS
  refine VL.gy rfl rfl (q_catE rfl rfl b18 ey18_1) (by decide) ?_
  obtain ⟨y19_2, ey19_2, hS⟩ := bd_s hS
  refine VL.gy rfl rfl (q_call (strings_HasPrefix_ct p_0 y18_1 ey19_2) rfl (fun _ _ => rfl)) (by decide) ?_
  refine Zt ?_
  refine Za ?_
  refine Zl ?_
  refine VC.keep [4] rfl ?_
  cases hS
  exact Ze
 replace hS := it_f h15 hS
 refine Zn ?_
 refine Zn ?_
 refine Zn ?_
 refine Zn ?_
 refine Zf ?_
 refine Za ?_
 refine Zl ?_
 refine VC.keep [4] rfl ?_
 cases hS
 exact Ze
theorem path_Clash_ct (a_0 : Str) (b_1 : Str) {r : Bool} (hS : Sh.path_Clash a_0 b_1 = some r) :
 Ct Tryz.prog 72 [str a_0, str b_1] Mo.tt (Ow.emp) (X := Unit) (fun _ => .bool r) (fun _ => True) (fun _ => Mo.tt) (fun _ => Ow.emp) := by
 refine Ct.of Tryz.func72 rfl (by kernel_rfl) Tryz.ntmps72 (by simp) fun c => ?_
 unfold Sh.path_Clash at hS
 refine Zq (Zr ?_)
 refine Za ?_
 refine Zl ?_
 refine Zq (Zr ?_)
 refine Zm ?_
 refine VL.q (q_sne rfl rfl) (by decide) ?_
 refine Zm ?_
 refine VL.split_ndec 7 rfl (fun h7 => ?_) (fun h7 => ?_)
 ·
  replace hS := it_f h7 hS
  refine Zg ?_
  refine VL.gy rfl rfl (q_sne rfl rfl) (by decide) ?_
  refine Zt ?_
  refine Zm ?_
  refine VL.split_ndec 11 rfl (fun h11 => ?_) (fun h11 => ?_)
  ·
   replace hS := it_f h11 hS
   refine Zg ?_
   refine Zg ?_
   obtain ⟨y14_1, ey14_1, hS⟩ := bd_s hS
   refine VL.gy rfl rfl (q_call (path_Under_ct a_0 b_1 ey14_1) rfl (fun _ _ => rfl)) (by decide) ?_
   refine Zg ?_
   refine VL.split 15 rfl (fun h15 => ?_) (fun h15 => ?_)
   ·
    replace hS := it_t h15 hS
    refine Zn ?_
    refine Zn ?_
    refine Zn ?_
    refine VL.gy rfl rfl (q_pick_t rfl rfl) (by decide) ?_
    refine Zt ?_
    refine Za ?_
    refine Zl ?_
    refine VC.keep [4] rfl ?_
    cases hS
    exact Ze
   replace hS := it_b h15 hS
   refine Zg ?_
   refine Zg ?_
   obtain ⟨y18_2, ey18_2, hS⟩ := bd_s hS
   refine VL.gy rfl rfl (q_call (path_Under_ct b_1 a_0 ey18_2) rfl (fun _ _ => rfl)) (by decide) ?_
   refine VL.gy rfl rfl (q_pick_f rfl rfl) (by decide) ?_
   refine Zt ?_
   refine Za ?_
   refine Zl ?_
   refine VC.keep [4] rfl ?_
   cases hS
   exact Ze
  replace hS := it_t h11 hS
  refine Zn ?_
  refine Zn ?_
  refine Zn ?_
  refine Zn ?_
  refine VL.gu rfl rfl (by decide) ?_
  refine VL.gu rfl rfl (by decide) ?_
  refine VL.gu rfl rfl (by decide) ?_
  refine Zn ?_
  refine Zf ?_
  refine Za ?_
  refine Zl ?_
  refine VC.keep [4] rfl ?_
  cases hS
  exact Ze
 replace hS := it_t h7 hS
 refine Zn ?_
 refine Zn ?_
 refine Zf ?_
 refine Zm ?_
 refine Zn ?_
 refine Zn ?_
 refine Zn ?_
 refine Zn ?_
 refine VL.gu rfl rfl (by decide) ?_
 refine VL.gu rfl rfl (by decide) ?_
 refine VL.gu rfl rfl (by decide) ?_
 refine Zn ?_
 refine Zf ?_
 refine Za ?_
 refine Zl ?_
 refine VC.keep [4] rfl ?_
 cases hS
 exact Ze
theorem files_Row_wrong_1_ct (g_0 : FilesFile) (a_1_b : Nat) (a_1 : FilesFile) {r : Bool} (hS : Sh.files_Row_wrong_1 g_0 a_1 = some r) :
 Ct Tryz.prog 137 [.agg #[str g_0.path, i64 g_0.mode, str g_0.data], ptr a_1_b 0] (Cells a_1_b 0 [str a_1.path, i64 a_1.mode, str a_1.data]) (Ow.emp) (X := Unit) (fun _ => .bool r) (fun _ => True) (fun _ => Mo.tt) (fun _ => Ow.emp) := by
 refine Ct.of Tryz.func137 rfl (by kernel_rfl) Tryz.ntmps137 (by simp) fun c => ?_
 unfold Sh.files_Row_wrong_1 at hS
 refine Zq (Zr ?_)
 refine VL.box (cs := [str g_0.path, i64 g_0.mode, str g_0.data]) rfl rfl (by decide) fun b2_1 => ?_
 refine Za ?_
 refine Zl ?_
 refine Zq (Zr ?_)
 refine VL.q (q_field gfa50_0 rfl) (by decide) ?_
 refine VL.q (q_fe gone9 rfl rfl) (by decide) ?_
 refine VL.q (q_field gfa50_0 rfl) (by decide) ?_
 refine VL.q (q_fm gone9 rfl rfl) (by decide) ?_
 obtain ⟨y8_2, ey8_2, hS⟩ := bd_s hS
 refine VL.q (q_call (path_Clash_ct g_0.path a_1.path ey8_2) rfl (fun _ _ => rfl)) (by decide) ?_
 refine Za ?_
 refine Zl ?_
 cases hS
 exact Ze
theorem slices_IndexFunc_files_Row_files_File_ct (s_0 : Sv FilesFile) (f_1_0_b : Nat) (f_1_0 : FilesFile) {r : Int} (hS : Sh.slices_IndexFunc_files_Row_files_File s_0.l f_1_0 = some r) :
 Ct Tryz.prog 216 [s_0.val, .func (.func 137) #[] #[ptr f_1_0_b 0]] (s_0.ok.and (Cells f_1_0_b 0 [str f_1_0.path, i64 f_1_0.mode, str f_1_0.data])) (Ow.emp) (X := Unit) (fun _ => i64 r) (fun _ => True) (fun _ => Mo.tt) (fun _ => Ow.emp) := by
 refine Ct.of Tryz.func216 rfl (by kernel_rfl) Tryz.ntmps216 (by simp) fun c => ?_
 unfold Sh.slices_IndexFunc_files_Row_files_File at hS
 refine Zq (Zr ?_)
 refine Za ?_
 refine Zl ?_
 refine Zq (Zq (Zr ?_))
 refine Zm ?_
 refine VL.q (q_ln (s := s_0) Tryz.underlying23 rfl) (by decide) ?_
 refine Zm ?_
 refine Zl ?_
 refine Zb ?_
 refine VC.iter (S := Int) (fun (x8_1 : Int) => x8_1) (fun (x8_1 : Int) => [(0, s_0.val), (1, .func (.func 137) #[] #[ptr f_1_0_b 0]), (7, i64 (s_0.l.length : Int)), (8, i64 x8_1)]) (fun (x8_1 : Int) => Mo.tt) (fun (x8_1 : Int) => Ow.emp) 0 [0, 1, 7, 8] hS rfl ?_
 clear hS
 rintro x8_1 m1 y1 hS hK1
 show VC _ _ _ _ _ [(0, s_0.val), (1, .func (.func 137) #[] #[ptr f_1_0_b 0]), (7, i64 (s_0.l.length : Int)), (8, i64 x8_1)] (Mo.and Mo.tt _) (Ow.emp)
 refine Zq (Zr ?_)
 refine VL.q (q_lss rfl rfl) (by decide) ?_
 refine Zl ?_
 refine Zq ?_
 refine VC.cond_dec rfl (fun h9 => ?_) (fun h9 => ?_)
 ·
  replace hS := it_t h9 hS
  refine Zk ?_
  refine Zq (Zb (Zq (Zr ?_)))
  refine Zm ?_
  refine Za ?_
  refine Zl ?_
  refine Zq (Zr ?_)
  refine Zm ?_
  refine Zm ?_
  refine Zm ?_
  obtain ⟨z14_2, nz14_2, hz14_2, hS⟩ := at_s hS
  refine VL.q (q_ixm (s := s_0) Tryz.underlying23 gsz50 rfl rfl nz14_2 (lt_of_get nz14_2 hz14_2)) (by decide) ?_
  refine VL.q (q_els (s := s_0) gagg50 rfl rfl hz14_2) (by decide) ?_
  obtain ⟨y16_3, ey16_3, hS⟩ := bd_s hS
  refine VL.q (q_callVC (vs := [.agg #[str z14_2.path, i64 z14_2.mode, str z14_2.data]]) (caps := [ptr f_1_0_b 0]) (files_Row_wrong_1_ct z14_2 f_1_0_b f_1_0 ey16_3) rfl rfl (fun _ _ => rfl)) (by decide) ?_
  refine Zl ?_
  refine VC.keep [0, 1, 7, 8, 5, 16] rfl ?_
  refine VC.cond rfl (fun h16 => ?_) (fun h16 => ?_)
  ·
   replace hS := it_t h16 hS
   refine Zq (Zr ?_)
   refine Zm ?_
   refine Za ?_
   refine Zl ?_
   replace hS := up2 hS hK1
   cases hS
   exact Ze
  replace hS := it_b h16 hS
  refine Zk ?_
  refine Zr ?_
  obtain ⟨b18, hS⟩ := gd_s hS
  refine VL.q (q_add rfl rfl b18) (by decide) ?_
  refine Zm ?_
  refine VL.rnd (x8_1 + 1) [0, 1, 7, 8] (fun _ _ h => h) (go2 hS hK1) rfl
 replace hS := it_f h9 hS
 replace hS := up2 hS hK1
 refine Zx ?_
 refine Zq (Zr ?_)
 refine Za ?_
 refine Zl ?_
 cases hS
 exact Ze
theorem slices_ContainsFunc_files_Row_files_File_ct (s_0 : Sv FilesFile) (f_1_0_b : Nat) (f_1_0 : FilesFile) {r : Bool} (hS : Sh.slices_ContainsFunc_files_Row_files_File s_0.l f_1_0 = some r) :
 Ct Tryz.prog 136 [s_0.val, .func (.func 137) #[] #[ptr f_1_0_b 0]] (s_0.ok.and (Cells f_1_0_b 0 [str f_1_0.path, i64 f_1_0.mode, str f_1_0.data])) (Ow.emp) (X := Unit) (fun _ => .bool r) (fun _ => True) (fun _ => Mo.tt) (fun _ => Ow.emp) := by
 refine Ct.of Tryz.func136 rfl (by kernel_rfl) Tryz.ntmps136 (by simp) fun c => ?_
 unfold Sh.slices_ContainsFunc_files_Row_files_File at hS
 refine Zq (Zr ?_)
 refine Za ?_
 refine Zl ?_
 refine Zq (Zr ?_)
 refine Zm ?_
 refine Zm ?_
 obtain ⟨y7_1, ey7_1, hS⟩ := bd_s hS
 refine VL.q (q_callR (slices_IndexFunc_files_Row_files_File_ct s_0 f_1_0_b f_1_0 ey7_1) rfl (fun _ _ => rfl)) (by decide) ?_
 refine VL.q (q_geq rfl rfl) (by decide) ?_
 refine Za ?_
 refine Zl ?_
 cases hS
 exact Ze
theorem files_Row_wrong_ct (r_0 : Sv FilesFile) (i_1 : Int) {r : Int} (hS : Sh.files_Row_wrong r_0.l i_1 = some r) :
 Ct Tryz.prog 52 [r_0.val, i64 i_1] r_0.ok (Ow.emp) (X := Unit) (fun _ => i64 r) (fun _ => True) (fun _ => Mo.tt) (fun _ => Ow.emp) := by
 refine Ct.of Tryz.func52 rfl (by kernel_rfl) Tryz.ntmps52 (by simp) fun c => ?_
 unfold Sh.files_Row_wrong at hS
 refine Zq (Zr ?_)
 refine Za ?_
 refine Zl ?_
 refine Zq (Zr ?_)
 refine Zm ?_
 refine Zm ?_
 obtain ⟨z9_1, nz9_1, hz9_1, hS⟩ := at_s hS
 refine VL.q (q_ixm (s := r_0) Tryz.underlying23 gsz50 rfl rfl nz9_1 (lt_of_get nz9_1 hz9_1)) (by decide) ?_
 refine VL.q (q_els (s := r_0) gagg50 rfl rfl hz9_1) (by decide) ?_
 refine VL.alloc (cs := [str [], i64 0, str []]) (by kernel_rfl) (by decide) fun b5_2 => ?_
 refine VL.store (vc := [str z9_1.path, i64 z9_1.mode, str z9_1.data]) (cs' := [str z9_1.path, i64 z9_1.mode, str z9_1.data]) rfl rfl rfl gsz50 rfl rfl (Nat.le_of_ble_eq_true rfl) rfl ?_
 refine Zl ?_
 refine Zq (Zq (Zr ?_))
 refine VL.q (q_field gfa50_0 rfl) (by decide) ?_
 refine VL.q (q_fe gone9 rfl rfl) (by decide) ?_
 obtain ⟨y13_3, ey13_3, hS⟩ := bd_s hS
 refine VL.q (q_call (path_Check_ct z9_1.path ey13_3) rfl (fun _ _ => rfl)) (by decide) ?_
 refine Za ?_
 refine Zl ?_
 refine VC.keep [0, 1, 5, 6] rfl ?_
 refine Zq (Zr ?_)
 refine Zm ?_
 refine VL.q (q_neq rfl rfl) (by decide) ?_
 refine Zl ?_
 refine VC.cond_ndec rfl (fun h15 => ?_) (fun h15 => ?_)
 ·
  replace hS := it_f h15 hS
  refine Zq (Zr ?_)
  refine Zm ?_
  refine Za ?_
  refine Zl ?_
  cases hS
  exact Ze
 replace hS := it_t h15 hS
 refine Zk ?_
 refine Zq (Zb ?_)
 refine VC.cutJ (S := Bool) (fun (x17_4 : Bool) => x17_4) (fun (x17_4 : Bool) => [(0, r_0.val), (1, i64 i_1), (5, ptr b5_2 0), (17, .bool x17_4)]) (fun (x17_4 : Bool) => Mo.tt) (fun (x17_4 : Bool) => Ow.star (Blk b5_2 [str z9_1.path, i64 z9_1.mode, str z9_1.data] 50) (Ow.emp)) hS ?_ ?_
 ·
  clear hS
  intro k5 hS
  refine Zr ?_
  refine VL.q (q_field gfa50_1 rfl) (by decide) ?_
  refine VL.q (q_fe gone3 rfl rfl) (by decide) ?_
  refine VL.q (q_neq rfl rfl) (by decide) ?_
  refine Zm ?_
  refine VL.split_ndec 21 rfl (fun h21 => ?_) (fun h21 => ?_)
  ·
   replace hS := it_f h21 hS
   refine VL.gy rfl rfl (q_field gfa50_1 rfl) (by decide) ?_
   refine VL.gy rfl rfl (q_fe gone3 rfl rfl) (by decide) ?_
   refine VL.gy rfl rfl (q_neq rfl rfl) (by decide) ?_
   refine Zt ?_
   refine Za ?_
   refine VL.mt (!decide (z9_1.mode = 2)) [0, 1, 5, 17] (fun _ _ h => h) hS rfl
  replace hS := it_t h21 hS
  refine Zn ?_
  refine Zn ?_
  refine Zn ?_
  refine Zf ?_
  refine Za ?_
  refine VL.mt false [0, 1, 5, 17] (fun _ _ h => h) hS rfl
 clear hS
 rintro x17_4 hS
 show VC _ _ _ _ _ [(0, r_0.val), (1, i64 i_1), (5, ptr b5_2 0), (17, .bool x17_4)] (Mo.and Mo.tt _) (Ow.star (Blk b5_2 [str z9_1.path, i64 z9_1.mode, str z9_1.data] 50) (Ow.emp))
 refine VC.cond rfl (fun h17 => ?_) (fun h17 => ?_)
 ·
  replace hS := it_t h17 hS
  refine Zq (Zr ?_)
  refine Za ?_
  refine Zl ?_
  cases hS
  exact Ze
 replace hS := it_b h17 hS
 refine Zq (Zr ?_)
 refine VL.q (q_field gfa50_2 rfl) (by decide) ?_
 refine VL.q (q_fe gone9 rfl rfl) (by decide) ?_
 refine VL.q (q_slen Tryz.underlying9 rfl) (by decide) ?_
 refine VL.q (q_gtr rfl rfl) (by decide) ?_
 refine Za ?_
 refine Zl ?_
 refine VC.cond_dec rfl (fun h26 => ?_) (fun h26 => ?_)
 ·
  replace hS := it_t h26 hS
  refine Zq (Zr ?_)
  refine Za ?_
  refine Zl ?_
  cases hS
  exact Ze
 replace hS := it_f h26 hS
 refine VC.cutJ (S := Bool) (fun (x31_6 : Bool) => x31_6) (fun (x31_6 : Bool) => [(0, r_0.val), (1, i64 i_1), (5, ptr b5_2 0), (31, .bool x31_6)]) (fun (x31_6 : Bool) => Mo.tt) (fun (x31_6 : Bool) => Ow.star (Blk b5_2 [str z9_1.path, i64 z9_1.mode, str z9_1.data] 50) (Ow.emp)) hS ?_ ?_
 ·
  clear hS
  intro k7 hS
  refine VC.draw ((List.range 15).map fun k => (k, true)) mixed (by kernel_rfl) (by kernel_rfl) (by kernel_rfl) ?_
  refine VD.q rfl (q_move rfl) (by decide) ?_
  refine VD.q rfl (q_gtr rfl rfl) (by decide) ?_
  refine VD.q rfl (q_move rfl) (by decide) ?_
  refine VD.split_dec 34 rfl (fun h34 => ?_) (fun h34 => ?_)
  ·
   replace hS := it_t h34 hS
   refine VD.gy rfl rfl rfl (q_move rfl) (by decide) ?_
   refine VD.gy rfl rfl rfl (q_move rfl) (by decide) ?_
   obtain ⟨b37, hS⟩ := gd_s hS
   refine VD.gy rfl rfl rfl (q_sub rfl rfl b37) (by decide) ?_
   obtain ⟨z38_8, nz38_8, hz38_8, hS⟩ := at_s hS
   refine VD.gy rfl rfl rfl (q_ixm (s := r_0) Tryz.underlying23 gsz50 rfl rfl nz38_8 (lt_of_get nz38_8 hz38_8)) (by decide) ?_
   refine VD.gy rfl rfl rfl (q_field gfa50_0 rfl) (by decide) ?_
   refine VD.gy rfl rfl rfl (q_elf (s := r_0) gone9 rfl hz38_8 rfl) (by decide) ?_
   refine VD.gy rfl rfl rfl (q_field gfa50_0 rfl) (by decide) ?_
   refine VD.gy rfl rfl rfl (q_fe gone9 rfl rfl) (by decide) ?_
   obtain ⟨y43_9, ey43_9, hS⟩ := bd_s hS
   refine VD.gy rfl rfl rfl (q_call (path_Compare_ct z38_8.path z9_1.path ey43_9) rfl (fun _ _ => rfl)) (by decide) ?_
   refine VD.gy rfl rfl rfl (q_geq rfl rfl) (by decide) ?_
   refine VD.q rfl (q_pick_t rfl rfl) (by decide) ?_
   refine VD.q rfl (q_assign rfl) (by decide) ?_
   refine VD.mt (decide (0 ≤ y43_9)) [0, 1, 5, 31] (fun _ _ h => h) hS rfl
  replace hS := it_f h34 hS
  refine Zd ?_
  refine Zd ?_
  refine Zd ?_
  refine Zd ?_
  refine Zd ?_
  refine Zd ?_
  refine Zd ?_
  refine Zd ?_
  refine Zd ?_
  refine Zd ?_
  refine VD.q rfl (q_pick_f rfl rfl) (by decide) ?_
  refine VD.q rfl (q_assign rfl) (by decide) ?_
  refine VD.mt false [0, 1, 5, 31] (fun _ _ h => h) hS rfl
 clear hS
 rintro x31_6 hS
 show VC _ _ _ _ _ [(0, r_0.val), (1, i64 i_1), (5, ptr b5_2 0), (31, .bool x31_6)] (Mo.and Mo.tt _) (Ow.star (Blk b5_2 [str z9_1.path, i64 z9_1.mode, str z9_1.data] 50) (Ow.emp))
 refine VC.cond rfl (fun h31 => ?_) (fun h31 => ?_)
 ·
  replace hS := it_t h31 hS
  refine Zq (Zr ?_)
  refine Za ?_
  refine Zl ?_
  cases hS
  exact Ze
 replace hS := it_b h31 hS
 refine Zq (Zr ?_)
 refine Zm ?_
 refine Zm ?_
 obtain ⟨b49, hS⟩ := gd_s hS
 refine VL.sto Tryz.underlying23 gsz50 rfl rfl b49.1 (b49.2) (by decide) fun s49_10 hs49_10 => ?_
 replace hS := lt_to hs49_10 hS
 refine VL.q (q_mkfn rfl) (by decide) ?_
 obtain ⟨y51_12, ey51_12, hS⟩ := bd_s hS
 refine VL.q (q_callR (slices_ContainsFunc_files_Row_files_File_ct s49_10 b5_2 z9_1 ey51_12) rfl (fun _ _ => rfl)) (by decide) ?_
 refine Za ?_
 refine Zl ?_
 refine VC.cond rfl (fun h46 => ?_) (fun h46 => ?_)
 ·
  replace hS := it_t h46 hS
  refine Zq (Zr ?_)
  refine Za ?_
  refine Zl ?_
  refine VC.keep [4] rfl ?_
  cases hS
  exact Ze
 replace hS := it_b h46 hS
 refine Zk ?_
 refine Zq (Zr ?_)
 refine Za ?_
 refine Zl ?_
 refine VC.keep [4] rfl ?_
 cases hS
 exact Ze
theorem files_Row_Check_ct (r_0 : Sv FilesFile) {r : Err} (hS : Sh.files_Row_Check r_0.l = some r) :
 Ct Tryz.prog 13 [r_0.val] r_0.ok (Ow.emp) (X := Er) (fun x => x.val) (fun x => r = x.pl) (fun x => x.ok) (fun x => Ow.emp) := by
 refine Ct.of Tryz.func13 rfl (by kernel_rfl) Tryz.ntmps13 (by simp) fun c => ?_
 unfold Sh.files_Row_Check at hS
 refine Zq (Zr ?_)
 refine Za ?_
 refine Zl ?_
 refine Zq (Zq (Zr ?_))
 refine Zm ?_
 refine VL.q (q_ln (s := r_0) Tryz.underlying23 rfl) (by decide) ?_
 refine VL.q (q_gtr rfl rfl) (by decide) ?_
 refine Zl ?_
 refine VC.cond_dec rfl (fun h7 => ?_) (fun h7 => ?_)
 ·
  replace hS := it_t h7 hS
  refine Zq (Zr ?_)
  refine VL.q (q_mkif Tryz.underlying105 (fun _ h => by cases h) rfl) (by decide) ?_
  refine VL.q (q_build (vs := [(0, str [102, 105, 108, 101]), (1, i64 64), (2, (Er.no 4).val)]) (cs := #[str [102, 105, 108, 101], i64 64, (Er.no 4).val]) rfl (by kernel_rfl)) (by decide) ?_
  refine VL.box (cs := [str [102, 105, 108, 101], i64 64, (Er.no 4).val]) rfl rfl (by decide) fun b10_1 => ?_
  refine VL.shutB b10_1 ?_
  refine VL.q (q_mkif Tryz.underlying104 (fun _ h => by cases h) rfl) (by decide) ?_
  refine Za ?_
  refine Zl ?_
  cases hS
  exact VC.ret (fin1 (.inr rfl) rfl rfl (Er.fault b10_1 [102, 105, 108, 101] 64 (Er.no 4)) rfl rfl (by (try dsimp only); exact InM.out) (fun _ _ => trivial))
 replace hS := it_f h7 hS
 refine Zk ?_
 refine Zq (Zq (Zr ?_))
 refine Zm ?_
 refine VL.q (q_ln (s := r_0) Tryz.underlying23 rfl) (by decide) ?_
 refine Zm ?_
 refine Zl ?_
 refine Zb ?_
 refine VC.iter (S := Int) (fun (x14_2 : Int) => x14_2) (fun (x14_2 : Int) => [(0, r_0.val), (13, i64 (r_0.l.length : Int)), (14, i64 x14_2)]) (fun (x14_2 : Int) => Mo.tt) (fun (x14_2 : Int) => Ow.emp) 0 [0, 13, 14] hS rfl ?_
 clear hS
 rintro x14_2 m1 y1 hS hK1
 show VC _ _ _ _ _ [(0, r_0.val), (13, i64 (r_0.l.length : Int)), (14, i64 x14_2)] (Mo.and Mo.tt _) (Ow.emp)
 refine Zq (Zr ?_)
 refine VL.q (q_lss rfl rfl) (by decide) ?_
 refine Zl ?_
 refine Zq ?_
 refine VC.cond_dec rfl (fun h15 => ?_) (fun h15 => ?_)
 ·
  replace hS := it_t h15 hS
  refine Zk ?_
  refine Zq (Zb (Zq (Zr ?_)))
  refine Zm ?_
  refine Za ?_
  refine Zl ?_
  refine Zq (Zr ?_)
  refine Zm ?_
  refine Zm ?_
  obtain ⟨y19_3, ey19_3, hS⟩ := bd_s hS
  refine VL.q (q_call (files_Row_wrong_ct r_0 x14_2 ey19_3) rfl (fun _ _ => rfl)) (by decide) ?_
  refine Za ?_
  refine Zl ?_
  refine Zq (Zr ?_)
  refine Zm ?_
  refine VL.q (q_neq rfl rfl) (by decide) ?_
  refine Zl ?_
  refine VC.cond_ndec rfl (fun h21 => ?_) (fun h21 => ?_)
  ·
   replace hS := it_f h21 hS
   refine Zq (Zr ?_)
   refine Zm ?_
   refine Zm ?_
   refine VL.q (q_mkif Tryz.underlying105 (fun _ h => by cases h) rfl) (by decide) ?_
   refine VL.q (q_build (vs := [(0, str [102, 105, 108, 101]), (1, i64 x14_2), (2, (Er.no y19_3).val)]) (cs := #[str [102, 105, 108, 101], i64 x14_2, (Er.no y19_3).val]) rfl (by kernel_rfl)) (by decide) ?_
   refine VL.box (cs := [str [102, 105, 108, 101], i64 x14_2, (Er.no y19_3).val]) rfl rfl (by decide) fun b26_4 => ?_
   refine VL.shutB b26_4 ?_
   refine VL.q (q_mkif Tryz.underlying104 (fun _ h => by cases h) rfl) (by decide) ?_
   refine Za ?_
   refine Zl ?_
   refine VC.keep [2] rfl ?_
   replace hS := up2 hS hK1
   cases hS
   exact VC.ret (fin1 (.inr rfl) rfl rfl (Er.fault b26_4 [102, 105, 108, 101] x14_2 (Er.no y19_3)) rfl rfl (by (try dsimp only); exact InM.out) (fun _ _ => trivial))
  replace hS := it_t h21 hS
  refine Zk ?_
  refine VC.keep [0, 13, 14] rfl ?_
  refine Zr ?_
  obtain ⟨b28, hS⟩ := gd_s hS
  refine VL.q (q_add rfl rfl b28) (by decide) ?_
  refine Zm ?_
  refine VL.rnd (x14_2 + 1) [0, 13, 14] (fun _ _ h => h) (go2 hS hK1) rfl
 replace hS := it_f h15 hS
 replace hS := up2 hS hK1
 refine Zx ?_
 refine Zq (Zr ?_)
 refine Za ?_
 refine Zl ?_
 cases hS
 exact VC.ret (fin1 (.inr rfl) rfl rfl .nil rfl rfl (by (try dsimp only); exact InM.out) (fun _ _ => trivial))
theorem slices_Clip_string_string_ct (s_0 : Sv Str) {r : List Str} (hS : Sh.slices_Clip_string_string s_0.l = some r) :
 Ct Tryz.prog 74 [s_0.val] s_0.ok (Ow.emp) (X := Sv Str) (fun x => x.val) (fun x => r = x.l) (fun x => x.ok) (fun x => Ow.emp) := by
 refine Ct.of Tryz.func74 rfl (by kernel_rfl) Tryz.ntmps74 (by simp) fun c => ?_
 unfold Sh.slices_Clip_string_string at hS
 refine Zq (Zr ?_)
 refine Za ?_
 refine Zl ?_
 refine Zq (Zr ?_)
 refine Zm ?_
 refine Zm ?_
 refine VL.q (q_ln (s := s_0) Tryz.underlying32 rfl) (by decide) ?_
 refine Zm ?_
 refine VL.q (q_ln (s := s_0) Tryz.underlying32 rfl) (by decide) ?_
 obtain ⟨b8, hS⟩ := gd_s hS
 refine VL.stom Tryz.underlying32 gsz9 rfl rfl rfl b8.1 (b8.2) (by decide) fun s8_1 hs8_1 => ?_
 replace hS := lt_to hs8_1 hS
 refine Za ?_
 refine Zl ?_
 cases hS
 exact VC.ret (fin1 (.inr rfl) rfl rfl s8_1 rfl rfl (by (try dsimp only); exact InM.out) (fun _ _ => trivial))
theorem files_Paths_ct (l_0 : Sv (Sv FilesFile)) {r : List Str} (hS : Sh.files_Paths (l_0.l.map Sv.l) = some r) :
 Ct Tryz.prog 97 [l_0.val] l_0.ok (Ow.emp) (X := Sv Str) (fun x => x.val) (fun x => r = x.l) (fun x => x.ok) (fun x => Ow.emp) := by
 refine Ct.of Tryz.func97 rfl (by kernel_rfl) Tryz.ntmps97 (by simp) fun c => ?_
 unfold Sh.files_Paths at hS
 refine Zq (Zr ?_)
 refine Za ?_
 refine Zl ?_
 refine Zq (Zr ?_)
 refine VL.mkmap (k := 9) (e := 4) (by decide) fun b8_1 => ?_
 refine Za ?_
 refine Zl ?_
 refine Zq (Zq (Zr ?_))
 refine Zm ?_
 refine VL.q (q_lnm Sv.l (s := l_0) Tryz.underlying81 rfl) (by decide) ?_
 refine Zm ?_
 refine Zl ?_
 refine Zb ?_
 refine VC.iter (S := Int × List Str) (fun sg => (sg.1, sg.2)) (fun sg => [(3, .map (some b8_1)), (9, l_0.val), (10, i64 ((l_0.l.map Sv.l).length : Int)), (11, i64 sg.1)]) (fun sg => Mo.tt) (fun sg => Ow.star (MpK Tryz.prog 9 4 b8_1 sg.2) (Ow.emp)) (0, ([] : List Str)) [3, 9, 10, 11] hS rfl ?_
 clear hS
 rintro ⟨x11_2, acc_3⟩ m1 y1 hS hK1
 show VC _ _ _ _ _ [(3, .map (some b8_1)), (9, l_0.val), (10, i64 ((l_0.l.map Sv.l).length : Int)), (11, i64 x11_2)] (Mo.and Mo.tt _) (Ow.star (MpK Tryz.prog 9 4 b8_1 acc_3) (Ow.emp))
 refine Zq (Zr ?_)
 refine VL.q (q_lss rfl rfl) (by decide) ?_
 refine Zl ?_
 refine Zq ?_
 refine VC.cond_dec rfl (fun h12 => ?_) (fun h12 => ?_)
 ·
  replace hS := it_t h12 hS
  refine Zk ?_
  refine Zq (Zb (Zq (Zr ?_)))
  obtain ⟨z13_4, nz13_4, hz13_4, hS⟩ := atm_s hS
  refine VL.deep z13_4.ok hz13_4 (fun _ q => q) ?_
  refine VL.q (q_ixm (s := l_0) Tryz.underlying81 gsz23 rfl rfl nz13_4 (lt_of_get nz13_4 hz13_4)) (by decide) ?_
  refine VL.q (q_el (s := l_0) gone23 rfl hz13_4 rfl) (by decide) ?_
  refine Za ?_
  refine Zl ?_
  refine Zq (Zr ?_)
  refine Zm ?_
  refine VL.q (q_ln (s := z13_4) Tryz.underlying23 rfl) (by decide) ?_
  refine Zm ?_
  refine Zl ?_
  refine Zb ?_
  refine VC.iter (S := Int × List Str) (fun sg => (sg.1, sg.2)) (fun sg => [(3, .map (some b8_1)), (9, l_0.val), (10, i64 ((l_0.l.map Sv.l).length : Int)), (11, i64 x11_2), (15, z13_4.val), (16, i64 (z13_4.l.length : Int)), (17, i64 sg.1)]) (fun sg => Mo.tt) (fun sg => Ow.star (MpK Tryz.prog 9 4 b8_1 sg.2) (Ow.emp)) (0, acc_3) [3, 9, 10, 11, 15, 16, 17] hS rfl ?_
  clear hS
  rintro ⟨x17_5, acc_6⟩ m2 y2 hS hK2
  show VC _ _ _ _ _ [(3, .map (some b8_1)), (9, l_0.val), (10, i64 ((l_0.l.map Sv.l).length : Int)), (11, i64 x11_2), (15, z13_4.val), (16, i64 (z13_4.l.length : Int)), (17, i64 x17_5)] (Mo.and Mo.tt _) (Ow.star (MpK Tryz.prog 9 4 b8_1 acc_6) (Ow.emp))
  refine Zq (Zr ?_)
  refine VL.q (q_lss rfl rfl) (by decide) ?_
  refine Zl ?_
  refine Zq ?_
  refine VC.cond_dec rfl (fun h18 => ?_) (fun h18 => ?_)
  ·
   replace hS := it_t h18 hS
   refine Zk ?_
   refine Zq (Zb (Zq (Zr ?_)))
   obtain ⟨z19_7, nz19_7, hz19_7, hS⟩ := at_s hS
   refine VL.q (q_ixm (s := z13_4) Tryz.underlying23 gsz50 rfl rfl nz19_7 (lt_of_get nz19_7 hz19_7)) (by decide) ?_
   refine VL.q (q_els (s := z13_4) gagg50 rfl rfl hz19_7) (by decide) ?_
   refine VL.alloc (cs := [str [], i64 0, str []]) (by kernel_rfl) (by decide) fun b7_8 => ?_
   refine VL.store (vc := [str z19_7.path, i64 z19_7.mode, str z19_7.data]) (cs' := [str z19_7.path, i64 z19_7.mode, str z19_7.data]) rfl rfl rfl gsz50 rfl rfl (Nat.le_of_ble_eq_true rfl) rfl ?_
   refine Zl ?_
   refine Zr ?_
   refine Zm ?_
   refine VL.q (q_field gfa50_0 rfl) (by decide) ?_
   refine VL.q (q_fe gone9 rfl rfl) (by decide) ?_
   obtain ⟨bs3, hS⟩ := gd_s hS
   refine VL.mapset (b := b8_1) (l := acc_6) (s := z19_7.path) Tryz.underlying9 Tryz.underlying4 Tryz.underlying248 Fo.out rfl rfl rfl bs3 ?_
   obtain ⟨accs3_9, eaccs3_9, hS⟩ := lt_s hS
   rw [eaccs3_9]
   refine Zl ?_
   refine VC.keep [3, 9, 10, 11, 15, 16, 17] rfl ?_
   refine Zr ?_
   obtain ⟨b24, hS⟩ := gd_s hS
   refine VL.q (q_add rfl rfl b24) (by decide) ?_
   refine Zm ?_
   refine VL.rnd ((x17_5 + 1), accs3_9) [3, 9, 10, 11, 15, 16, 17] (fun _ _ h => h) (go2 hS hK2) rfl
  replace hS := it_f h18 hS
  replace hS := up2 hS hK2
  refine Zx ?_
  refine Zr ?_
  obtain ⟨b25, hS⟩ := gd_s hS
  refine VL.q (q_add rfl rfl b25) (by decide) ?_
  refine Zm ?_
  refine VL.rnd ((x11_2 + 1), acc_6) [3, 9, 10, 11] (fun _ _ h => h) (go2 hS hK1) rfl
 replace hS := it_f h12 hS
 replace hS := up2 hS hK1
 refine Zx ?_
 refine Zq (Zr ?_)
 refine Zm ?_
 refine VL.callO (Ct.mapKeys (b := b8_1) (entry_of Tryz.func181 rfl (by kernel_rfl)) Tryz.mapsKeys_181) rfl (by decide) ?_
 intro B27_10 _
 try dsimp only
 obtain ⟨b28, hS⟩ := gd_s hS
 refine VL.callO (Ct.sortedKeys (it := 253) (T := 248) (b := b8_1) (B := B27_10) (e := 4) (l := acc_3) (entry_of Tryz.func180 rfl (by kernel_rfl)) Tryz.underlying9 (fun D0 nn W h1 h2 h3 h4 h5 => Tryz.sortedKeys_180_181 B27_10 b8_1 nn D0 _ W h1 h2 h3 h4 h5) b28) rfl (by decide) ?_
 intro s28_11 hs28_11
 try dsimp only
 replace hS := lt_to hs28_11 hS
 refine VL.shut s28_11 9 (fun _ _ _ _ => trivial) ?_
 obtain ⟨y29_13, ey29_13, hS⟩ := bd_s hS
 refine VL.callF (slices_Clip_string_string_ct s28_11 ey29_13) rfl (by decide) ?_
 rintro q29_13_0 rfl
 try dsimp only
 refine Za ?_
 refine Zl ?_
 cases hS
 exact VC.ret (fin1 (.inr rfl) rfl rfl q29_13_0 rfl rfl (by (try dsimp only); exact InM.out) (fun _ _ => trivial))
theorem files_Row_find_1_ct (f_0 : FilesFile) (p_1 : Str) {r : Int} (hS : Sh.files_Row_find_1 f_0 p_1 = some r) :
 Ct Tryz.prog 155 [.agg #[str f_0.path, i64 f_0.mode, str f_0.data], str p_1] Mo.tt (Ow.emp) (X := Unit) (fun _ => i64 r) (fun _ => True) (fun _ => Mo.tt) (fun _ => Ow.emp) := by
 refine Ct.of Tryz.func155 rfl (by kernel_rfl) Tryz.ntmps155 (by simp) fun c => ?_
 unfold Sh.files_Row_find_1 at hS
 refine Zq (Zr ?_)
 refine VL.box (cs := [str f_0.path, i64 f_0.mode, str f_0.data]) rfl rfl (by decide) fun b2_1 => ?_
 refine Za ?_
 refine Zl ?_
 refine Zq (Zr ?_)
 refine VL.q (q_field gfa50_0 rfl) (by decide) ?_
 refine VL.q (q_fe gone9 rfl rfl) (by decide) ?_
 refine Zm ?_
 obtain ⟨y8_2, ey8_2, hS⟩ := bd_s hS
 refine VL.q (q_call (path_Compare_ct f_0.path p_1 ey8_2) rfl (fun _ _ => rfl)) (by decide) ?_
 refine Za ?_
 refine Zl ?_
 cases hS
 exact Ze
theorem slices_BinarySearchFunc_files_Row_files_File_string_ct (x_0 : Sv FilesFile) (target_1 : Str) {r : Int × Bool} (hS : Sh.slices_BinarySearchFunc_files_Row_files_File_string x_0.l target_1 = some r) :
 Ct Tryz.prog 154 [x_0.val, str target_1, .func (.func 155) #[] #[]] x_0.ok (Ow.emp) (X := Unit) (fun _ => .tuple #[i64 r.1, .bool r.2]) (fun _ => True) (fun _ => Mo.tt) (fun _ => Ow.emp) := by
 refine Ct.of Tryz.func154 rfl (by kernel_rfl) Tryz.ntmps154 (by simp) fun c => ?_
 unfold Sh.slices_BinarySearchFunc_files_Row_files_File_string at hS
 refine Zq (Zr ?_)
 refine Za ?_
 refine Za ?_
 refine Zl ?_
 refine Zq (Zr ?_)
 refine Zm ?_
 refine VL.q (q_ln (s := x_0) Tryz.underlying23 rfl) (by decide) ?_
 refine Za ?_
 refine Zl ?_
 refine Zq (Zr ?_)
 refine Zm ?_
 refine Za ?_
 refine Za ?_
 refine Zl ?_
 refine Zq (Zb ?_)
 refine VC.iter (S := Int × Int) (fun sg => (sg.1, sg.2)) (fun sg => [(0, x_0.val), (1, str target_1), (2, .func (.func 155) #[] #[]), (8, i64 (x_0.l.length : Int)), (9, i64 sg.1), (10, i64 sg.2)]) (fun sg => Mo.tt) (fun sg => Ow.emp) (0, (x_0.l.length : Int)) [0, 1, 2, 8, 9, 10] hS rfl ?_
 clear hS
 rintro ⟨i9_1, j10_2⟩ m1 y1 hS hK1
 show VC _ _ _ _ _ [(0, x_0.val), (1, str target_1), (2, .func (.func 155) #[] #[]), (8, i64 (x_0.l.length : Int)), (9, i64 i9_1), (10, i64 j10_2)] (Mo.and Mo.tt _) (Ow.emp)
 refine Zq (Zq (Zr ?_))
 refine Zm ?_
 refine Zm ?_
 refine VL.q (q_lss rfl rfl) (by decide) ?_
 refine Zl ?_
 refine VC.cond_dec rfl (fun h17 => ?_) (fun h17 => ?_)
 ·
  replace hS := it_t h17 hS
  refine Zk ?_
  refine Zb (Zq (Zr ?_))
  refine Zm ?_
  refine Zm ?_
  obtain ⟨b20, hS⟩ := gd_s hS
  refine VL.q (q_add rfl rfl b20) (by decide) ?_
  refine VL.q (q_convW Tryz.underlying3 Tryz.underlying220 rfl) (by decide) ?_
  refine VL.q (q_shr rfl rfl (by decide)) (by decide) ?_
  refine VL.q (q_convW Tryz.underlying220 Tryz.underlying3 rfl) (by decide) ?_
  refine Za ?_
  refine Zl ?_
  refine VC.keep [0, 1, 2, 8, 9, 10, 11] rfl ?_
  refine Zq (Zr ?_)
  refine Zm ?_
  refine Zm ?_
  refine Zm ?_
  obtain ⟨z27_3, nz27_3, hz27_3, hS⟩ := at_s hS
  refine VL.q (q_ixm (s := x_0) Tryz.underlying23 gsz50 rfl rfl nz27_3 (lt_of_get nz27_3 hz27_3)) (by decide) ?_
  refine VL.q (q_els (s := x_0) gagg50 rfl rfl hz27_3) (by decide) ?_
  refine Zm ?_
  obtain ⟨y30_4, ey30_4, hS⟩ := bd_s hS
  refine VL.q (q_callV (files_Row_find_1_ct z27_3 target_1 ey30_4) rfl rfl (fun _ _ => rfl)) (by decide) ?_
  refine VL.q (q_lss rfl rfl) (by decide) ?_
  refine Zl ?_
  refine VC.keep [0, 1, 2, 8, 9, 10, 11, 31] rfl ?_
  refine VC.cond_dec rfl (fun h31 => ?_) (fun h31 => ?_)
  ·
   replace hS := it_t h31 hS
   refine Zr ?_
   refine Zm ?_
   obtain ⟨b33, hS⟩ := gd_s hS
   refine VL.q (q_add rfl rfl b33) (by decide) ?_
   refine Za ?_
   refine VL.rnd (((IntKind.wrap .i64 (sHr .u64 (IntKind.wrap .u64 (i9_1 + j10_2)) 1)) + 1), j10_2) [0, 1, 2, 8, 9, 10] (fun _ _ h => h) (go2 hS hK1) rfl
  replace hS := it_f h31 hS
  refine Zr ?_
  refine Zm ?_
  refine Za ?_
  refine VL.rnd (i9_1, (IntKind.wrap .i64 (sHr .u64 (IntKind.wrap .u64 (i9_1 + j10_2)) 1))) [0, 1, 2, 8, 9, 10] (fun _ _ h => h) (go2 hS hK1) rfl
 replace hS := it_f h17 hS
 replace hS := up2 hS hK1
 refine Zx ?_
 refine Zq (Zr ?_)
 refine Zm ?_
 refine Zm ?_
 refine Zm ?_
 refine VL.q (q_lss rfl rfl) (by decide) ?_
 refine Zm ?_
 refine VL.split_dec 39 rfl (fun h39 => ?_) (fun h39 => ?_)
 ·
  replace hS := it_t h39 hS
  refine Zg ?_
  refine Zg ?_
  refine Zg ?_
  obtain ⟨z43_5, nz43_5, hz43_5, hS⟩ := at_s hS
  refine VL.gy rfl rfl (q_ixm (s := x_0) Tryz.underlying23 gsz50 rfl rfl nz43_5 (lt_of_get nz43_5 hz43_5)) (by decide) ?_
  refine VL.gy rfl rfl (q_els (s := x_0) gagg50 rfl rfl hz43_5) (by decide) ?_
  refine Zg ?_
  obtain ⟨y46_6, ey46_6, hS⟩ := bd_s hS
  refine VL.gy rfl rfl (q_callV (files_Row_find_1_ct z43_5 target_1 ey46_6) rfl rfl (fun _ _ => rfl)) (by decide) ?_
  refine VL.gy rfl rfl (q_eql rfl rfl) (by decide) ?_
  refine Zt ?_
  refine Za ?_
  refine Za ?_
  refine Zl ?_
  refine VC.keep [6, 7] rfl ?_
  cases hS
  exact VC.ret (fin2 (.inr rfl) rfl rfl rfl () rfl trivial (fun _ _ => trivial) (fun _ _ => trivial))
 replace hS := it_f h39 hS
 refine Zn ?_
 refine Zn ?_
 refine Zn ?_
 refine Zn ?_
 refine Zn ?_
 refine Zn ?_
 refine Zn ?_
 refine Zn ?_
 refine Zf ?_
 refine Za ?_
 refine Za ?_
 refine Zl ?_
 refine VC.keep [6, 7] rfl ?_
 cases hS
 exact VC.ret (fin2 (.inr rfl) rfl rfl rfl () rfl trivial (fun _ _ => trivial) (fun _ _ => trivial))
theorem files_Row_find_ct (r_0 : Sv FilesFile) (p_1 : Str) {r : Int × Bool} (hS : Sh.files_Row_find r_0.l p_1 = some r) :
 Ct Tryz.prog 80 [r_0.val, str p_1] r_0.ok (Ow.emp) (X := Unit) (fun _ => .tuple #[i64 r.1, .bool r.2]) (fun _ => True) (fun _ => Mo.tt) (fun _ => Ow.emp) := by
 refine Ct.of Tryz.func80 rfl (by kernel_rfl) Tryz.ntmps80 (by simp) fun c => ?_
 unfold Sh.files_Row_find at hS
 refine Zq (Zr ?_)
 refine Za ?_
 refine Za ?_
 refine Zl ?_
 refine Zq (Zr ?_)
 refine Zm ?_
 refine Zm ?_
 obtain ⟨y8_1, ey8_1, hS⟩ := bd_s hS
 refine VL.q (q_call (slices_BinarySearchFunc_files_Row_files_File_string_ct r_0 p_1 ey8_1) rfl (fun _ _ => rfl)) (by decide) ?_
 refine VL.q (q_extract rfl rfl) (by decide) ?_
 refine VL.q (q_extract rfl rfl) (by decide) ?_
 refine Za ?_
 refine Za ?_
 refine Zl ?_
 cases hS
 exact VC.ret (fin2 (.inr rfl) rfl rfl rfl () rfl trivial (fun _ _ => trivial) (fun _ _ => trivial))
theorem files_Row_Get_ct (r_0 : Sv FilesFile) (p_1 : Str) {r : FilesFile × Bool} (hS : Sh.files_Row_Get r_0.l p_1 = some r) :
 Ct Tryz.prog 26 [r_0.val, str p_1] r_0.ok (Ow.emp) (X := Unit) (fun _ => .tuple #[.agg #[str r.1.path, i64 r.1.mode, str r.1.data], .bool r.2]) (fun _ => True) (fun _ => Mo.tt) (fun _ => Ow.emp) := by
 refine Ct.of Tryz.func26 rfl (by kernel_rfl) Tryz.ntmps26 (by simp) fun c => ?_
 unfold Sh.files_Row_Get at hS
 refine Zq (Zr ?_)
 refine VL.alloc (cs := [str [], i64 0, str []]) (by kernel_rfl) (by decide) fun b4_1 => ?_
 refine Za ?_
 refine Zl ?_
 refine Zq (Zr ?_)
 refine Zm ?_
 refine Zm ?_
 obtain ⟨y11_2, ey11_2, hS⟩ := bd_s hS
 refine VL.q (q_call (files_Row_find_ct r_0 p_1 ey11_2) rfl (fun _ _ => rfl)) (by decide) ?_
 refine Zm ?_
 refine VL.q (q_extract rfl rfl) (by decide) ?_
 refine VL.q (q_extract rfl rfl) (by decide) ?_
 refine Za ?_
 refine Za ?_
 refine Zl ?_
 refine VC.keep [0, 4, 6, 7] rfl ?_
 refine Zq (Zq (Zr ?_))
 refine Zm ?_
 refine VL.q (q_not rfl) (by decide) ?_
 refine Zl ?_
 refine VC.cond rfl (fun h15 => ?_) (fun h15 => ?_)
 ·
  replace hS := it_t h15 hS
  refine Zq (Zr ?_)
  refine VL.q (q_build (vs := []) (cs := #[str [], i64 0, str []]) rfl (by kernel_rfl)) (by decide) ?_
  refine VL.store (vc := [str [], i64 0, str []]) (cs' := [str [], i64 0, str []]) rfl rfl rfl gsz50 rfl rfl (Nat.le_of_ble_eq_true rfl) rfl ?_
  refine Za ?_
  refine Zl ?_
  cases hS
  exact VC.ret (finG (vs := [.agg #[str [], i64 0, str []], .bool false]) (.inr rfl) rfl (RVs.cell gagg50 rfl rfl Rd.blk (RVs.tmp rfl (RVs.nil))) () rfl trivial (by (try dsimp only); exact InM.out) (fun _ _ => trivial))
 replace hS := it_b h15 hS
 refine Zk ?_
 refine Zq (Zr ?_)
 refine Zm ?_
 refine Zm ?_
 obtain ⟨z19_3, nz19_3, hz19_3, hS⟩ := at_s hS
 refine VL.q (q_ixm (s := r_0) Tryz.underlying23 gsz50 rfl rfl nz19_3 (lt_of_get nz19_3 hz19_3)) (by decide) ?_
 refine VL.q (q_els (s := r_0) gagg50 rfl rfl hz19_3) (by decide) ?_
 refine VL.store (vc := [str z19_3.path, i64 z19_3.mode, str z19_3.data]) (cs' := [str z19_3.path, i64 z19_3.mode, str z19_3.data]) rfl rfl rfl gsz50 rfl rfl (Nat.le_of_ble_eq_true rfl) rfl ?_
 refine Za ?_
 refine Zl ?_
 refine VC.keep [4, 5] rfl ?_
 cases hS
 exact VC.ret (finG (vs := [.agg #[str z19_3.path, i64 z19_3.mode, str z19_3.data], .bool true]) (.inr rfl) rfl (RVs.cell gagg50 rfl rfl Rd.blk (RVs.tmp rfl (RVs.nil))) () rfl trivial (by (try dsimp only); exact InM.out) (fun _ _ => trivial))
theorem tmerge_of_ct (r_0 : Sv FilesFile) (p_1 : Str) {r : TmergeOne} (hS : Sh.tmerge_of r_0.l p_1 = some r) :
 Ct Tryz.prog 178 [r_0.val, str p_1] r_0.ok (Ow.emp) (X := Unit) (fun _ => .agg #[str r.file_path, i64 r.file_mode, str r.file_data, .bool r.is]) (fun _ => True) (fun _ => Mo.tt) (fun _ => Ow.emp) := by
 refine Ct.of Tryz.func178 rfl (by kernel_rfl) Tryz.ntmps178 (by simp) fun c => ?_
 unfold Sh.tmerge_of at hS
 refine Zq (Zr ?_)
 refine VL.alloc (cs := [str [], i64 0, str [], .bool false]) (by kernel_rfl) (by decide) fun b4_1 => ?_
 refine Zl ?_
 refine Zq (Zr ?_)
 refine Zm ?_
 refine Zm ?_
 obtain ⟨y10_2, ey10_2, hS⟩ := bd_s hS
 refine VL.q (q_call (files_Row_Get_ct r_0 p_1 ey10_2) rfl (fun _ _ => rfl)) (by decide) ?_
 refine Zm ?_
 refine VL.q (q_extract rfl rfl) (by decide) ?_
 refine VL.q (q_extract rfl rfl) (by decide) ?_
 refine VL.alloc (cs := [str [], i64 0, str []]) (by kernel_rfl) (by decide) fun b5_3 => ?_
 refine VL.store (vc := [str y10_2.1.path, i64 y10_2.1.mode, str y10_2.1.data]) (cs' := [str y10_2.1.path, i64 y10_2.1.mode, str y10_2.1.data]) rfl rfl rfl gsz50 rfl rfl (Nat.le_of_ble_eq_true rfl) rfl ?_
 refine Za ?_
 refine Zl ?_
 refine VC.keep [4, 5, 6] rfl ?_
 refine Zq (Zr ?_)
 refine VL.q (q_fes gagg50 rfl rfl) (by decide) ?_
 refine Zm ?_
 refine VL.q (q_build (vs := [(0, .agg #[str y10_2.1.path, i64 y10_2.1.mode, str y10_2.1.data]), (1, .bool y10_2.2)]) (cs := #[str y10_2.1.path, i64 y10_2.1.mode, str y10_2.1.data, .bool y10_2.2]) rfl (by kernel_rfl)) (by decide) ?_
 refine VL.store (vc := [str y10_2.1.path, i64 y10_2.1.mode, str y10_2.1.data, .bool y10_2.2]) (cs' := [str y10_2.1.path, i64 y10_2.1.mode, str y10_2.1.data, .bool y10_2.2]) rfl rfl rfl gsz245 rfl rfl (Nat.le_of_ble_eq_true rfl) rfl ?_
 refine Zl ?_
 cases hS
 exact VC.ret (finG (vs := [.agg #[str y10_2.1.path, i64 y10_2.1.mode, str y10_2.1.data, .bool y10_2.2]]) (.inr rfl) rfl (RVs.cell gagg245 rfl rfl Rd.blk (RVs.nil)) () rfl trivial (by (try dsimp only); exact InM.out) (fun _ _ => trivial))
theorem tmerge_mode_ct (base_0 : TmergeOne) (ours_1 : TmergeOne) (theirs_2 : TmergeOne) {r : Int} (hS : Sh.tmerge_mode base_0 ours_1 theirs_2 = some r) :
 Ct Tryz.prog 250 [.agg #[str base_0.file_path, i64 base_0.file_mode, str base_0.file_data, .bool base_0.is], .agg #[str ours_1.file_path, i64 ours_1.file_mode, str ours_1.file_data, .bool ours_1.is], .agg #[str theirs_2.file_path, i64 theirs_2.file_mode, str theirs_2.file_data, .bool theirs_2.is]] Mo.tt (Ow.emp) (X := Unit) (fun _ => i64 r) (fun _ => True) (fun _ => Mo.tt) (fun _ => Ow.emp) := by
 refine Ct.of Tryz.func250 rfl (by kernel_rfl) Tryz.ntmps250 (by simp) fun c => ?_
 unfold Sh.tmerge_mode at hS
 refine Zq (Zr ?_)
 refine VL.box (cs := [str base_0.file_path, i64 base_0.file_mode, str base_0.file_data, .bool base_0.is]) rfl rfl (by decide) fun b3_1 => ?_
 refine VL.box (cs := [str ours_1.file_path, i64 ours_1.file_mode, str ours_1.file_data, .bool ours_1.is]) rfl rfl (by decide) fun b4_2 => ?_
 refine VL.box (cs := [str theirs_2.file_path, i64 theirs_2.file_mode, str theirs_2.file_data, .bool theirs_2.is]) rfl rfl (by decide) fun b5_3 => ?_
 refine Za ?_
 refine Zl ?_
 refine Zq ?_
 refine VC.cutJ (S := Bool) (fun (x17_4 : Bool) => x17_4) (fun (x17_4 : Bool) => [(4, ptr b4_2 0), (5, ptr b5_3 0), (17, .bool x17_4)]) (fun (x17_4 : Bool) => Mo.tt) (fun (x17_4 : Bool) => Ow.star (Blk b5_3 [str theirs_2.file_path, i64 theirs_2.file_mode, str theirs_2.file_data, .bool theirs_2.is] 245) (Ow.star (Blk b4_2 [str ours_1.file_path, i64 ours_1.file_mode, str ours_1.file_data, .bool ours_1.is] 245) (Ow.star (Blk b3_1 [str base_0.file_path, i64 base_0.file_mode, str base_0.file_data, .bool base_0.is] 245) (Ow.emp)))) hS ?_ ?_
 ·
  clear hS
  intro k5 hS
  refine Zr ?_
  refine VL.q (q_field gfa245_1 rfl) (by decide) ?_
  refine VL.q (q_fe gone4 rfl rfl) (by decide) ?_
  refine Zm ?_
  refine VL.split 9 rfl (fun h9 => ?_) (fun h9 => ?_)
  ·
   replace hS := it_t h9 hS
   refine VL.gy rfl rfl (q_field gfa245_0 rfl) (by decide) ?_
   refine VL.gy rfl rfl (q_field gfa50_1 rfl) (by decide) ?_
   refine VL.gy rfl rfl (q_fe gone3 rfl rfl) (by decide) ?_
   refine VL.gy rfl rfl (q_field gfa245_0 rfl) (by decide) ?_
   refine VL.gy rfl rfl (q_field gfa50_1 rfl) (by decide) ?_
   refine VL.gy rfl rfl (q_fe gone3 rfl rfl) (by decide) ?_
   refine VL.gy rfl rfl (q_eql rfl rfl) (by decide) ?_
   refine Zt ?_
   refine VL.mt (decide (base_0.file_mode = ours_1.file_mode)) [4, 5, 17] (fun _ _ h => h) hS rfl
  replace hS := it_b h9 hS
  refine Zn ?_
  refine Zn ?_
  refine Zn ?_
  refine Zn ?_
  refine Zn ?_
  refine Zn ?_
  refine Zn ?_
  refine Zf ?_
  refine VL.mt false [4, 5, 17] (fun _ _ h => h) hS rfl
 clear hS
 rintro x17_4 hS
 show VC _ _ _ _ _ [(4, ptr b4_2 0), (5, ptr b5_3 0), (17, .bool x17_4)] (Mo.and Mo.tt _) (Ow.star (Blk b5_3 [str theirs_2.file_path, i64 theirs_2.file_mode, str theirs_2.file_data, .bool theirs_2.is] 245) (Ow.star (Blk b4_2 [str ours_1.file_path, i64 ours_1.file_mode, str ours_1.file_data, .bool ours_1.is] 245) (Ow.star (Blk b3_1 [str base_0.file_path, i64 base_0.file_mode, str base_0.file_data, .bool base_0.is] 245) (Ow.emp))))
 refine VC.cond rfl (fun h17 => ?_) (fun h17 => ?_)
 ·
  replace hS := it_t h17 hS
  refine Zq (Zr ?_)
  refine VL.q (q_field gfa245_0 rfl) (by decide) ?_
  refine VL.q (q_field gfa50_1 rfl) (by decide) ?_
  refine VL.q (q_fe gone3 rfl rfl) (by decide) ?_
  refine Za ?_
  refine Zl ?_
  cases hS
  exact Ze
 replace hS := it_b h17 hS
 refine Zk ?_
 refine Zq (Zr ?_)
 refine VL.q (q_field gfa245_0 rfl) (by decide) ?_
 refine VL.q (q_field gfa50_1 rfl) (by decide) ?_
 refine VL.q (q_fe gone3 rfl rfl) (by decide) ?_
 refine Za ?_
 refine Zl ?_
 cases hS
 exact Ze
theorem lines_Split_ct (s_0 : Str) {r : List Str} (hS : Sh.lines_Split s_0 = some r) :
 Ct Tryz.prog 299 [str s_0] Mo.tt (Ow.emp) (X := Sv Str) (fun x => x.val) (fun x => r = x.l) (fun x => x.ok) (fun x => Ow.emp) := by
 refine Ct.of Tryz.func299 rfl (by kernel_rfl) Tryz.ntmps299 (by simp) fun c => ?_
 unfold Sh.lines_Split at hS
 refine Zq (Zr ?_)
 refine Za ?_
 refine Zl ?_
 refine Zq (Zr ?_)
 refine Za ?_
 refine Zl ?_
 refine Zq (Zb ?_)
 refine VC.nilO (⟨none, 0, []⟩ : Sv Str) 9 ⟨rfl, rfl⟩ ?_
 refine VC.iter (S := Str × Sv Str) (fun sg => (sg.1, sg.2.l)) (fun sg => [(0, str sg.1), (3, sg.2.val)]) (fun sg => Mo.tt) (fun sg => Ow.star (Sv.own sg.2 9) (Ow.emp)) (s_0, ⟨none, 0, []⟩) [0, 3] hS rfl ?_
 clear hS
 rintro ⟨s0_1, out3_2⟩ m1 y1 hS hK1
 show VC _ _ _ _ _ [(0, str s0_1), (3, out3_2.val)] (Mo.and Mo.tt _) (Ow.star (Sv.own out3_2 9) (Ow.emp))
 refine Zq (Zq (Zr ?_))
 refine Zm ?_
 refine VL.q (q_sne rfl rfl) (by decide) ?_
 refine Zl ?_
 refine VC.cond_ndec rfl (fun h6 => ?_) (fun h6 => ?_)
 ·
  replace hS := it_f h6 hS
  refine Zk ?_
  refine Zb (Zq (Zr ?_))
  refine Zm ?_
  obtain ⟨y8_3, ey8_3, hS⟩ := bd_s hS
  refine VL.q (q_call (strings_Index_ct s0_1 [10] ey8_3) rfl (fun _ _ => rfl)) (by decide) ?_
  refine Za ?_
  refine Zl ?_
  refine VC.cutJ (S := Int) (fun (i4_4 : Int) => i4_4) (fun (i4_4 : Int) => [(0, str s0_1), (3, out3_2.val), (4, i64 i4_4)]) (fun (i4_4 : Int) => Mo.tt) (fun (i4_4 : Int) => Ow.star (Sv.own out3_2 9) (Ow.emp)) hS ?_ ?_
  ·
   clear hS
   intro k5 hS
   refine Zq (Zr ?_)
   refine Zm ?_
   refine VL.q (q_lss rfl rfl) (by decide) ?_
   refine Zl ?_
   refine VC.cond_dec rfl (fun h10 => ?_) (fun h10 => ?_)
   ·
    replace hS := it_t h10 hS
    refine Zr ?_
    refine Zm ?_
    refine VL.q (q_slen Tryz.underlying9 rfl) (by decide) ?_
    obtain ⟨b13, hS⟩ := gd_s hS
    refine VL.q (q_sub rfl rfl b13) (by decide) ?_
    refine Za ?_
    refine VL.mt ((s0_1.length : Int) - 1) [0, 3, 4] (fun _ _ h => h) hS rfl
   replace hS := it_f h10 hS
   refine VC.skip_mt y8_3 [0, 3, 4] (fun _ _ h => h) hS rfl
  clear hS
  rintro i4_4 hS
  show VC _ _ _ _ _ [(0, str s0_1), (3, out3_2.val), (4, i64 i4_4)] (Mo.and Mo.tt _) (Ow.star (Sv.own out3_2 9) (Ow.emp))
  refine Zq (Zr ?_)
  refine Zm ?_
  refine Zm ?_
  refine Zm ?_
  obtain ⟨b17, hS⟩ := gd_s hS
  refine VL.q (q_add rfl rfl b17) (by decide) ?_
  obtain ⟨b18, hS⟩ := gd_s hS
  obtain ⟨y18_6, ey18_6, hS⟩ := lt_s hS
  refine VL.q (q_stoE Tryz.underlying9 rfl rfl b18.1 b18.2 ey18_6) (by decide) ?_
  refine VL.lit (α := Str) (xs := [.tmp 18]) (vs := [str y18_6]) [y18_6] Tryz.underlying32 glit9 (by decide) rfl rfl rfl rfl (by decide) (fun _ _ _ _ => trivial) (by decide) (fun s19_7 hs19_7 => ?_) (by decide)
  replace hS := lt_to hs19_7 hS
  obtain ⟨b20, hS⟩ := gd_s hS
  refine VL.app (s := out3_2) (r := s19_7) Tryz.underlying32 gapp9 (by decide) rfl Fo.out (ap1 b20) (ap2 b20 (by decide)) (by decide) (fun s20_9 hs20_9 => ?_)
  replace hS := lt_to hs20_9 hS
  refine Za ?_
  refine Zl ?_
  refine Zr ?_
  refine Zm ?_
  refine Zm ?_
  obtain ⟨b23, hS⟩ := gd_s hS
  refine VL.q (q_add rfl rfl b23) (by decide) ?_
  obtain ⟨b24, hS⟩ := gd_s hS
  obtain ⟨y24_11, ey24_11, hS⟩ := lt_s hS
  refine VL.q (q_sfromE Tryz.underlying9 rfl rfl b24.1 b24.2 ey24_11) (by decide) ?_
  refine Za ?_
  refine VL.rnd (y24_11, s20_9) [0, 3] (fun _ _ h => h) (go2 hS hK1) rfl
 replace hS := it_t h6 hS
 replace hS := up2 hS hK1
 refine Zx ?_
 refine Zq (Zr ?_)
 refine Zm ?_
 refine VL.shut out3_2 9 (fun _ _ _ _ => trivial) ?_
 obtain ⟨y26_12, ey26_12, hS⟩ := bd_s hS
 refine VL.callF (slices_Clip_string_string_ct out3_2 ey26_12) rfl (by decide) ?_
 rintro q26_12_0 rfl
 try dsimp only
 refine Za ?_
 refine Zl ?_
 cases hS
 exact VC.ret (fin1 (.inr rfl) rfl rfl q26_12_0 rfl rfl (by (try dsimp only); exact InM.out) (fun _ _ => trivial))
theorem diff_made_ct (a_0 : Sv Str) (b_1 : Sv Str) {r : (Unit × Err) ⊕ (DiffTableP × Unit)} (hS : Sh.diff_made a_0.l b_1.l = some r) :
 Ct Tryz.prog 391 [a_0.val, b_1.val] (a_0.ok.and b_1.ok) (Ow.emp) (X := (Er) ⊕ (Nat × DiffTable)) (fun x => match x with | .inl x => .tuple #[.pointer none, x.val] | .inr x => .tuple #[ptr x.1 0, .nilIface]) (fun x => match x with | .inl x => r = .inl ((), x.pl) | .inr x => r = .inr (x.2.pl, ())) (fun x => match x with | .inl x => x.ok | .inr x => (x.2.a.ok.and (x.2.b.ok.and x.2.n.ok))) (fun x => match x with | .inl x => Ow.emp | .inr x => Blk x.1 [x.2.a.val, x.2.b.val, x.2.n.val] 465) := by
 refine Ct.of Tryz.func391 rfl (by kernel_rfl) Tryz.ntmps391 (by simp) fun c => ?_
 unfold Sh.diff_made at hS
 refine Zq (Zr ?_)
 refine Za ?_
 refine Za ?_
 refine Zl ?_
 refine Zq (Zq (Zr ?_))
 refine Zm ?_
 refine VL.q (q_ln (s := a_0) Tryz.underlying32 rfl) (by decide) ?_
 refine VL.q (q_gtr rfl rfl) (by decide) ?_
 refine Zl ?_
 refine VC.cond_dec rfl (fun h12 => ?_) (fun h12 => ?_)
 ·
  replace hS := it_t h12 hS
  refine Zq (Zr ?_)
  refine VL.q (q_mkif Tryz.underlying105 (fun _ h => by cases h) rfl) (by decide) ?_
  refine VL.q (q_build (vs := [(0, str [108, 105, 110, 101, 115]), (1, i64 0), (2, (Er.no 4).val)]) (cs := #[str [108, 105, 110, 101, 115], i64 0, (Er.no 4).val]) rfl (by kernel_rfl)) (by decide) ?_
  refine VL.box (cs := [str [108, 105, 110, 101, 115], i64 0, (Er.no 4).val]) rfl rfl (by decide) fun b15_1 => ?_
  refine VL.shutB b15_1 ?_
  refine VL.q (q_mkif Tryz.underlying104 (fun _ h => by cases h) rfl) (by decide) ?_
  refine Za ?_
  refine Za ?_
  refine Zl ?_
  refine VC.keep [4, 5] rfl ?_
  cases hS
  exact VC.ret (fin2 (.inr rfl) rfl rfl rfl (.inl (Er.fault b15_1 [108, 105, 110, 101, 115] 0 (Er.no 4))) rfl rfl (by (try dsimp only); exact InM.out) (by (try dsimp only); exact EntO.out))
 replace hS := it_f h12 hS
 refine Zk ?_
 refine Zq (Zq (Zr ?_))
 refine Zm ?_
 refine VL.q (q_ln (s := b_1) Tryz.underlying32 rfl) (by decide) ?_
 refine VL.q (q_gtr rfl rfl) (by decide) ?_
 refine Zl ?_
 refine VC.cond_dec rfl (fun h19 => ?_) (fun h19 => ?_)
 ·
  replace hS := it_t h19 hS
  refine Zq (Zr ?_)
  refine VL.q (q_mkif Tryz.underlying105 (fun _ h => by cases h) rfl) (by decide) ?_
  refine VL.q (q_build (vs := [(0, str [108, 105, 110, 101, 115]), (1, i64 1), (2, (Er.no 4).val)]) (cs := #[str [108, 105, 110, 101, 115], i64 1, (Er.no 4).val]) rfl (by kernel_rfl)) (by decide) ?_
  refine VL.box (cs := [str [108, 105, 110, 101, 115], i64 1, (Er.no 4).val]) rfl rfl (by decide) fun b22_2 => ?_
  refine VL.shutB b22_2 ?_
  refine VL.q (q_mkif Tryz.underlying104 (fun _ h => by cases h) rfl) (by decide) ?_
  refine Za ?_
  refine Za ?_
  refine Zl ?_
  refine VC.keep [4, 5] rfl ?_
  cases hS
  exact VC.ret (fin2 (.inr rfl) rfl rfl rfl (.inl (Er.fault b22_2 [108, 105, 110, 101, 115] 1 (Er.no 4))) rfl rfl (by (try dsimp only); exact InM.out) (by (try dsimp only); exact EntO.out))
 replace hS := it_f h19 hS
 refine Zk ?_
 refine Zq (Zr ?_)
 refine Zm ?_
 refine Zm ?_
 refine Zm ?_
 refine VL.q (q_ln (s := a_0) Tryz.underlying32 rfl) (by decide) ?_
 obtain ⟨b28, hS⟩ := gd_s hS
 refine VL.q (q_add rfl rfl b28) (by decide) ?_
 refine Zm ?_
 refine VL.q (q_ln (s := b_1) Tryz.underlying32 rfl) (by decide) ?_
 obtain ⟨b31, hS⟩ := gd_s hS
 refine VL.q (q_add rfl rfl b31) (by decide) ?_
 obtain ⟨b32, hS⟩ := gd_s hS
 refine VL.q (q_mul rfl rfl b32) (by decide) ?_
 obtain ⟨b33, hS⟩ := gd_s hS
 refine VL.make (α := Int) (z := 0) Tryz.underlying60 gmk3 (by decide) rfl rfl b33.1 (Int.le_refl _) (by omega) (by omega) (by decide) (fun s33_3 hs33_3 => ?_)
 replace hS := lt_to hs33_3 hS
 refine VL.q (q_build (vs := [(0, a_0.val), (1, b_1.val), (2, s33_3.val)]) (cs := #[a_0.val, b_1.val, s33_3.val]) rfl (by kernel_rfl)) (by decide) ?_
 refine VL.box (cs := [a_0.val, b_1.val, s33_3.val]) rfl rfl (by decide) fun b35_5 => ?_
 refine Za ?_
 refine Zl ?_
 refine VC.keep [0, 1, 6] rfl ?_
 refine Zq (Zq (Zr ?_))
 refine Zm ?_
 refine VL.q (q_ln (s := a_0) Tryz.underlying32 rfl) (by decide) ?_
 obtain ⟨b38, hS⟩ := gd_s hS
 refine VL.q (q_sub rfl rfl b38) (by decide) ?_
 refine Za ?_
 refine Zl ?_
 refine Zb ?_
 refine VC.iter (S := Int) (fun (i7_6 : Int) => i7_6) (fun (i7_6 : Int) => [(0, a_0.val), (1, b_1.val), (6, ptr b35_5 0), (7, i64 i7_6)]) (fun (i7_6 : Int) => Mo.tt) (fun (i7_6 : Int) => Ow.star (Blk b35_5 [a_0.val, b_1.val, s33_3.val] 465) (Ow.star (Sv.own s33_3 3) (Ow.emp))) ((a_0.l.length : Int) - 1) [0, 1, 6, 7] hS rfl ?_
 clear hS
 rintro i7_6 m1 y1 hS hK1
 show VC _ _ _ _ _ [(0, a_0.val), (1, b_1.val), (6, ptr b35_5 0), (7, i64 i7_6)] (Mo.and Mo.tt _) (Ow.star (Blk b35_5 [a_0.val, b_1.val, s33_3.val] 465) (Ow.star (Sv.own s33_3 3) (Ow.emp)))
 refine Zq (Zq (Zr ?_))
 refine Zm ?_
 refine VL.q (q_geq rfl rfl) (by decide) ?_
 refine Zl ?_
 refine VC.cond_dec rfl (fun h40 => ?_) (fun h40 => ?_)
 ·
  replace hS := it_t h40 hS
  refine Zk ?_
  refine Zq (Zb (Zq (Zr ?_)))
  refine Zm ?_
  refine VL.q (q_ln (s := b_1) Tryz.underlying32 rfl) (by decide) ?_
  obtain ⟨b45, hS⟩ := gd_s hS
  refine VL.q (q_sub rfl rfl b45) (by decide) ?_
  refine Za ?_
  refine Zl ?_
  refine Zb ?_
  refine VC.iter (S := Unit) (fun (_ : Unit) => ()) (fun (_ : Unit) => [(0, a_0.val), (1, b_1.val), (6, ptr b35_5 0), (7, i64 i7_6), (8, i64 ((b_1.l.length : Int) - 1))]) (fun (_ : Unit) => Mo.tt) (fun (_ : Unit) => Ow.star (Blk b35_5 [a_0.val, b_1.val, s33_3.val] 465) (Ow.star (Sv.own s33_3 3) (Ow.emp))) () [0, 1, 6, 7, 8] hS rfl ?_
  clear hS
  rintro _ m2 y2 hS hK2
  show VC _ _ _ _ _ [(0, a_0.val), (1, b_1.val), (6, ptr b35_5 0), (7, i64 i7_6), (8, i64 ((b_1.l.length : Int) - 1))] (Mo.and Mo.tt _) (Ow.star (Blk b35_5 [a_0.val, b_1.val, s33_3.val] 465) (Ow.star (Sv.own s33_3 3) (Ow.emp)))
  refine Zq (Zq (Zr ?_))
  refine Zm ?_
  refine VL.q (q_geq rfl rfl) (by decide) ?_
  refine Zl ?_
  refine VC.cond_dec rfl (fun h47 => ?_) (fun h47 => ?_)
  ·
   replace hS := it_t h47 hS
   refine Zk ?_
   refine Zq (Zb (Zq (Zr ?_)))
   refine Zm ?_
   refine Zm ?_
   obtain ⟨b52, hS⟩ := gd_s hS
   refine VL.q (q_add rfl rfl b52) (by decide) ?_
   refine Zm ?_
   cases hS
  replace hS := it_f h47 hS
  replace hS := up2 hS hK2
  refine Zx ?_
  refine Zr ?_
  refine Zm ?_
  obtain ⟨b42, hS⟩ := gd_s hS
  refine VL.q (q_sub rfl rfl b42) (by decide) ?_
  refine Za ?_
  refine VL.rnd (i7_6 - 1) [0, 1, 6, 7] (fun _ _ h => h) (go2 hS hK1) rfl
 replace hS := it_f h40 hS
 replace hS := up2 hS hK1
 refine Zx ?_
 refine Zq (Zr ?_)
 refine Zm ?_
 refine Za ?_
 refine Za ?_
 refine Zl ?_
 refine VC.shut s33_3 3 (fun _ _ _ _ => trivial) ?_
 cases hS
 exact VC.ret (fin2 (.inr rfl) rfl rfl rfl (.inr (b35_5, ⟨a_0, b_1, s33_3⟩)) rfl rfl (by (try dsimp only); exact InM.out) (by (try dsimp only); exact EntO.out))
theorem slices_Clip_diff_Edit_diff_Edit_ct (s_0 : Sv DiffEdit) {r : List DiffEdit} (hS : Sh.slices_Clip_diff_Edit_diff_Edit s_0.l = some r) :
 Ct Tryz.prog 393 [s_0.val] s_0.ok (Ow.emp) (X := Sv DiffEdit) (fun x => x.val) (fun x => r = x.l) (fun x => x.ok) (fun x => Ow.emp) := by
 refine Ct.of Tryz.func393 rfl (by kernel_rfl) Tryz.ntmps393 (by simp) fun c => ?_
 unfold Sh.slices_Clip_diff_Edit_diff_Edit at hS
 refine Zq (Zr ?_)
 refine Za ?_
 refine Zl ?_
 refine Zq (Zr ?_)
 refine Zm ?_
 refine Zm ?_
 refine VL.q (q_ln (s := s_0) Tryz.underlying448 rfl) (by decide) ?_
 refine Zm ?_
 refine VL.q (q_ln (s := s_0) Tryz.underlying448 rfl) (by decide) ?_
 obtain ⟨b8, hS⟩ := gd_s hS
 refine VL.stom Tryz.underlying448 gsz451 rfl rfl rfl b8.1 (b8.2) (by decide) fun s8_1 hs8_1 => ?_
 replace hS := lt_to hs8_1 hS
 refine Za ?_
 refine Zl ?_
 cases hS
 exact VC.ret (fin1 (.inr rfl) rfl rfl s8_1 rfl rfl (by (try dsimp only); exact InM.out) (fun _ _ => trivial))
theorem diff_Lines_ct (a_0 : Sv Str) (b_1 : Sv Str) {r : List DiffEdit × Err} (hS : Sh.diff_Lines a_0.l b_1.l = some r) :
 Ct Tryz.prog 385 [a_0.val, b_1.val] (a_0.ok.and b_1.ok) (Ow.emp) (X := Sv DiffEdit × Er) (fun x => .tuple #[x.1.val, x.2.val]) (fun x => r = (x.1.l, x.2.pl)) (fun x => (x.1.ok.and x.2.ok)) (fun x => Ow.emp) := by
 refine Ct.of Tryz.func385 rfl (by kernel_rfl) Tryz.ntmps385 (by simp) fun c => ?_
 unfold Sh.diff_Lines at hS
 refine Zq (Zr ?_)
 refine Za ?_
 refine Za ?_
 refine Zl ?_
 refine Zq (Zr ?_)
 refine Zm ?_
 refine Zm ?_
 obtain ⟨y16_1, ey16_1, hS⟩ := bd_s hS
 refine VL.callO (diff_made_ct a_0 b_1 ey16_1) rfl (by decide) ?_
 rintro (q16_1_0 | ⟨q16_1_0, q16_1_1⟩) rfl
 ·
  try dsimp only at hS
  try dsimp only
  refine Zm ?_
  refine VL.q (q_extract rfl rfl) (by decide) ?_
  refine VL.q (q_extract rfl rfl) (by decide) ?_
  refine Za ?_
  refine Za ?_
  refine Zl ?_
  refine VC.keep [0, 1, 6, 7] rfl ?_
  refine Zq (Zq (Zr ?_))
  refine Zm ?_
  refine VL.q (q_erne Tryz.underlying27 rfl) (by decide) ?_
  refine Zl ?_
  refine VC.cond_ndec rfl (fun h20 => ?_) (fun h20 => ?_)
  ·
   replace hS := it_f h20 hS
   refine Zq (Zr ?_)
   refine Zm ?_
   refine Za ?_
   refine Za ?_
   refine Zl ?_
   cases hS
   exact VC.ret (fin2 (.inr rfl) rfl rfl rfl (⟨none, 0, []⟩, q16_1_0) rfl rfl (by (try dsimp only); exact InM.out) (fun _ _ => trivial))
  replace hS := it_t h20 hS
  refine Zk ?_
  refine Zq (Zr ?_)
  refine Za ?_
  refine Zl ?_
  refine VC.cutJ (S := Unit) (fun (_ : Unit) => ()) (fun (_ : Unit) => [(8, .slice none 0 0)]) (fun (_ : Unit) => Mo.tt) (fun (_ : Unit) => Ow.emp) hS ?_ ?_
  ·
   clear hS
   intro k2 hS
   refine Zq (Zr ?_)
   refine Za ?_
   refine Za ?_
   refine Zl ?_
   refine Zb ?_
   refine VC.iter (S := Unit) (fun (_ : Unit) => ()) (fun (_ : Unit) => [(0, a_0.val), (1, b_1.val), (6, .pointer none), (8, .slice none 0 0), (9, i64 0), (10, i64 0)]) (fun (_ : Unit) => Mo.tt) (fun (_ : Unit) => Ow.emp) () [0, 1, 6, 8, 9, 10] hS rfl ?_
   clear hS
   rintro _ m1 y1 hS hK1
   show VC _ _ _ _ _ [(0, a_0.val), (1, b_1.val), (6, .pointer none), (8, .slice none 0 0), (9, i64 0), (10, i64 0)] (Mo.and Mo.tt _) (Ow.emp)
   refine VC.cutJ (S := Unit) (fun (_ : Unit) => ()) (fun (_ : Unit) => [(0, a_0.val), (1, b_1.val), (6, .pointer none), (8, .slice none 0 0), (9, i64 0), (10, i64 0)]) (fun (_ : Unit) => Mo.tt) (fun (_ : Unit) => Ow.emp) hS ?_ ?_
   ·
    clear hS
    intro k3 hS
    refine Zq (Zr ?_)
    refine Zm ?_
    refine Zm ?_
    refine VL.q (q_ln (s := a_0) Tryz.underlying32 rfl) (by decide) ?_
    refine VL.q (q_lss rfl rfl) (by decide) ?_
    refine Zm ?_
    refine VL.split_dec 26 rfl (fun h26 => ?_) (fun h26 => ?_)
    ·
     replace hS := it_t h26 hS
     refine Zn ?_
     refine Zn ?_
     refine Zn ?_
     refine Zn ?_
     refine Zt ?_
     refine Zl ?_
     refine VC.keep [0, 1, 6, 8, 9, 10, 31] rfl ?_
     refine VC.cond_t rfl ?_
     refine VC.skip_mt () [0, 1, 6, 8, 9, 10] (fun _ _ h => h) hS rfl
    replace hS := it_f h26 hS
    refine Zg ?_
    refine Zg ?_
    refine VL.gy rfl rfl (q_ln (s := b_1) Tryz.underlying32 rfl) (by decide) ?_
    refine VL.gy rfl rfl (q_lss rfl rfl) (by decide) ?_
    refine Zf ?_
    refine Zl ?_
    refine VC.keep [0, 1, 6, 8, 9, 10, 31] rfl ?_
    refine VC.cond_dec rfl (fun h31 => ?_) (fun h31 => ?_)
    ·
     replace hS := it_t h31 hS
     refine VC.skip_mt () [0, 1, 6, 8, 9, 10] (fun _ _ h => h) hS rfl
    replace hS := it_f h31 hS
    replace hS := up2 hS hK1
    refine VC.exit_mt () [8] (fun _ _ h => h) hS rfl
   clear hS
   rintro _ hS
   show VC _ _ _ _ _ [(0, a_0.val), (1, b_1.val), (6, .pointer none), (8, .slice none 0 0), (9, i64 0), (10, i64 0)] (Mo.and Mo.tt _) (Ow.emp)
   refine Zb (Zq (Zr ?_))
   refine Zm ?_
   refine Zm ?_
   refine Zm ?_
   cases hS
  clear hS
  rintro _ hS
  show VC _ _ _ _ _ [(8, .slice none 0 0)] (Mo.and Mo.tt _) (Ow.emp)
  refine Zq (Zr ?_)
  refine Zm ?_
  obtain ⟨y64_4, ey64_4, hS⟩ := bd_s hS
  refine VL.callF (slices_Clip_diff_Edit_diff_Edit_ct ⟨none, 0, []⟩ ey64_4) rfl (by decide) ?_
  rintro q64_4_0 rfl
  try dsimp only
  refine Za ?_
  refine Za ?_
  refine Zl ?_
  cases hS
  exact VC.ret (fin2 (.inr rfl) rfl rfl rfl (q64_4_0, .nil) rfl rfl (by (try dsimp only); exact InM.out) (fun _ _ => trivial))
 try dsimp only at hS
 try dsimp only
 refine Zm ?_
 refine VL.q (q_extract rfl rfl) (by decide) ?_
 refine VL.q (q_extract rfl rfl) (by decide) ?_
 refine Za ?_
 refine Za ?_
 refine Zl ?_
 refine VC.keep [0, 1, 6, 7] rfl ?_
 refine Zq (Zq (Zr ?_))
 refine Zm ?_
 refine VL.q (q_nilne Tryz.underlying27 rfl) (by decide) ?_
 refine Zl ?_
 refine VC.cond_f rfl ?_
 refine Zk ?_
 refine Zq (Zr ?_)
 refine Za ?_
 refine Zl ?_
 refine VC.cutJ (S := Unit) (fun (_ : Unit) => ()) (fun (_ : Unit) => [(8, .slice none 0 0)]) (fun (_ : Unit) => Mo.tt) (fun (_ : Unit) => Ow.star (Blk q16_1_0 [q16_1_1.a.val, q16_1_1.b.val, q16_1_1.n.val] 465) (Ow.emp)) hS ?_ ?_
 ·
  clear hS
  intro k5 hS
  refine Zq (Zr ?_)
  refine Za ?_
  refine Za ?_
  refine Zl ?_
  refine Zb ?_
  refine VC.iter (S := Unit) (fun (_ : Unit) => ()) (fun (_ : Unit) => [(0, a_0.val), (1, b_1.val), (6, ptr q16_1_0 0), (8, .slice none 0 0), (9, i64 0), (10, i64 0)]) (fun (_ : Unit) => Mo.tt) (fun (_ : Unit) => Ow.star (Blk q16_1_0 [q16_1_1.a.val, q16_1_1.b.val, q16_1_1.n.val] 465) (Ow.emp)) () [0, 1, 6, 8, 9, 10] hS rfl ?_
  clear hS
  rintro _ m1 y1 hS hK1
  show VC _ _ _ _ _ [(0, a_0.val), (1, b_1.val), (6, ptr q16_1_0 0), (8, .slice none 0 0), (9, i64 0), (10, i64 0)] (Mo.and Mo.tt _) (Ow.star (Blk q16_1_0 [q16_1_1.a.val, q16_1_1.b.val, q16_1_1.n.val] 465) (Ow.emp))
  refine VC.cutJ (S := Unit) (fun (_ : Unit) => ()) (fun (_ : Unit) => [(0, a_0.val), (1, b_1.val), (6, ptr q16_1_0 0), (8, .slice none 0 0), (9, i64 0), (10, i64 0)]) (fun (_ : Unit) => Mo.tt) (fun (_ : Unit) => Ow.star (Blk q16_1_0 [q16_1_1.a.val, q16_1_1.b.val, q16_1_1.n.val] 465) (Ow.emp)) hS ?_ ?_
  ·
   clear hS
   intro k6 hS
   refine Zq (Zr ?_)
   refine Zm ?_
   refine Zm ?_
   refine VL.q (q_ln (s := a_0) Tryz.underlying32 rfl) (by decide) ?_
   refine VL.q (q_lss rfl rfl) (by decide) ?_
   refine Zm ?_
   refine VL.split_dec 26 rfl (fun h26 => ?_) (fun h26 => ?_)
   ·
    replace hS := it_t h26 hS
    refine Zn ?_
    refine Zn ?_
    refine Zn ?_
    refine Zn ?_
    refine Zt ?_
    refine Zl ?_
    refine VC.keep [0, 1, 6, 8, 9, 10, 31] rfl ?_
    refine VC.cond_t rfl ?_
    refine VC.skip_mt () [0, 1, 6, 8, 9, 10] (fun _ _ h => h) hS rfl
   replace hS := it_f h26 hS
   refine Zg ?_
   refine Zg ?_
   refine VL.gy rfl rfl (q_ln (s := b_1) Tryz.underlying32 rfl) (by decide) ?_
   refine VL.gy rfl rfl (q_lss rfl rfl) (by decide) ?_
   refine Zf ?_
   refine Zl ?_
   refine VC.keep [0, 1, 6, 8, 9, 10, 31] rfl ?_
   refine VC.cond_dec rfl (fun h31 => ?_) (fun h31 => ?_)
   ·
    replace hS := it_t h31 hS
    refine VC.skip_mt () [0, 1, 6, 8, 9, 10] (fun _ _ h => h) hS rfl
   replace hS := it_f h31 hS
   replace hS := up2 hS hK1
   refine VC.exit_mt () [8] (fun _ _ h => h) hS rfl
  clear hS
  rintro _ hS
  show VC _ _ _ _ _ [(0, a_0.val), (1, b_1.val), (6, ptr q16_1_0 0), (8, .slice none 0 0), (9, i64 0), (10, i64 0)] (Mo.and Mo.tt _) (Ow.star (Blk q16_1_0 [q16_1_1.a.val, q16_1_1.b.val, q16_1_1.n.val] 465) (Ow.emp))
  refine Zb (Zq (Zr ?_))
  refine Zm ?_
  refine Zm ?_
  refine Zm ?_
  cases hS
 clear hS
 rintro _ hS
 show VC _ _ _ _ _ [(8, .slice none 0 0)] (Mo.and Mo.tt _) (Ow.star (Blk q16_1_0 [q16_1_1.a.val, q16_1_1.b.val, q16_1_1.n.val] 465) (Ow.emp))
 refine Zq (Zr ?_)
 refine Zm ?_
 obtain ⟨y64_7, ey64_7, hS⟩ := bd_s hS
 refine VL.callF (slices_Clip_diff_Edit_diff_Edit_ct ⟨none, 0, []⟩ ey64_7) rfl (by decide) ?_
 rintro q64_7_0 rfl
 try dsimp only
 refine Za ?_
 refine Za ?_
 refine Zl ?_
 cases hS
 exact VC.ret (fin2 (.inr rfl) rfl rfl rfl (q64_7_0, .nil) rfl rfl (by (try dsimp only); exact InM.out) (fun _ _ => trivial))
theorem slices_Clip_diff_Match_diff_Match_ct (s_0 : Sv DiffMatch) {r : List DiffMatch} (hS : Sh.slices_Clip_diff_Match_diff_Match s_0.l = some r) :
 Ct Tryz.prog 386 [s_0.val] s_0.ok (Ow.emp) (X := Sv DiffMatch) (fun x => x.val) (fun x => r = x.l) (fun x => x.ok) (fun x => Ow.emp) := by
 refine Ct.of Tryz.func386 rfl (by kernel_rfl) Tryz.ntmps386 (by simp) fun c => ?_
 unfold Sh.slices_Clip_diff_Match_diff_Match at hS
 refine Zq (Zr ?_)
 refine Za ?_
 refine Zl ?_
 refine Zq (Zr ?_)
 refine Zm ?_
 refine Zm ?_
 refine VL.q (q_ln (s := s_0) Tryz.underlying429 rfl) (by decide) ?_
 refine Zm ?_
 refine VL.q (q_ln (s := s_0) Tryz.underlying429 rfl) (by decide) ?_
 obtain ⟨b8, hS⟩ := gd_s hS
 refine VL.stom Tryz.underlying429 gsz434 rfl rfl rfl b8.1 (b8.2) (by decide) fun s8_1 hs8_1 => ?_
 replace hS := lt_to hs8_1 hS
 refine Za ?_
 refine Zl ?_
 cases hS
 exact VC.ret (fin1 (.inr rfl) rfl rfl s8_1 rfl rfl (by (try dsimp only); exact InM.out) (fun _ _ => trivial))
theorem diff_Matches_ct (a_0 : Sv Str) (b_1 : Sv Str) {r : List DiffMatch × Err} (hS : Sh.diff_Matches a_0.l b_1.l = some r) :
 Ct Tryz.prog 371 [a_0.val, b_1.val] (a_0.ok.and b_1.ok) (Ow.emp) (X := Sv DiffMatch × Er) (fun x => .tuple #[x.1.val, x.2.val]) (fun x => r = (x.1.l, x.2.pl)) (fun x => (x.1.ok.and x.2.ok)) (fun x => Ow.emp) := by
 refine Ct.of Tryz.func371 rfl (by kernel_rfl) Tryz.ntmps371 (by simp) fun c => ?_
 unfold Sh.diff_Matches at hS
 refine Zq (Zr ?_)
 refine Za ?_
 refine Za ?_
 refine Zl ?_
 refine Zq (Zr ?_)
 refine Zm ?_
 refine Zm ?_
 obtain ⟨y17_1, ey17_1, hS⟩ := bd_s hS
 refine VL.callF (diff_Lines_ct a_0 b_1 ey17_1) rfl (by decide) ?_
 rintro ⟨q17_1_0, q17_1_1⟩ rfl
 try dsimp only
 refine Zm ?_
 refine VL.q (q_extract rfl rfl) (by decide) ?_
 refine VL.q (q_extract rfl rfl) (by decide) ?_
 refine Za ?_
 refine Za ?_
 refine Zl ?_
 refine VC.keep [6, 7] rfl ?_
 refine Zq (Zq (Zr ?_))
 refine Zm ?_
 refine VL.q (q_erne Tryz.underlying27 rfl) (by decide) ?_
 refine Zl ?_
 refine VC.cond_ndec rfl (fun h21 => ?_) (fun h21 => ?_)
 ·
  replace hS := it_f h21 hS
  refine Zq (Zr ?_)
  refine Zm ?_
  refine Za ?_
  refine Za ?_
  refine Zl ?_
  cases hS
  exact VC.ret (fin2 (.inr rfl) rfl rfl rfl (⟨none, 0, []⟩, q17_1_1) rfl rfl (by (try dsimp only); exact InM.out) (fun _ _ => trivial))
 replace hS := it_t h21 hS
 refine Zk ?_
 refine Zq (Zr ?_)
 refine Za ?_
 refine Zl ?_
 refine Zq (Zr ?_)
 refine Za ?_
 refine Za ?_
 refine Za ?_
 refine Zl ?_
 refine Zq (Zq (Zr ?_))
 refine Zm ?_
 refine VL.q (q_ln (s := q17_1_0) Tryz.underlying448 rfl) (by decide) ?_
 refine Zm ?_
 refine Zl ?_
 refine Zb ?_
 refine VC.nilO (⟨none, 0, []⟩ : Sv DiffMatch) 434 ⟨rfl, rfl⟩ ?_
 refine VC.iter (S := Sv DiffMatch × Int × Int × Bool × Int) (fun sg => (sg.1.l, sg.2.1, sg.2.2.1, sg.2.2.2.1, sg.2.2.2.2)) (fun sg => [(8, sg.1.val), (9, i64 sg.2.1), (10, i64 sg.2.2.1), (11, .bool sg.2.2.2.1), (23, q17_1_0.val), (24, i64 (q17_1_0.l.length : Int)), (25, i64 sg.2.2.2.2)]) (fun sg => Mo.tt) (fun sg => Ow.star (Sv.own sg.1 434) (Ow.emp)) (⟨none, 0, []⟩, 0, 0, false, 0) [8, 9, 10, 11, 23, 24, 25] hS rfl ?_
 clear hS
 rintro ⟨out8_2, i9_3, j10_4, row11_5, x25_6⟩ m1 y1 hS hK1
 show VC _ _ _ _ _ [(8, out8_2.val), (9, i64 i9_3), (10, i64 j10_4), (11, .bool row11_5), (23, q17_1_0.val), (24, i64 (q17_1_0.l.length : Int)), (25, i64 x25_6)] (Mo.and Mo.tt _) (Ow.star (Sv.own out8_2 434) (Ow.emp))
 refine Zq (Zr ?_)
 refine VL.q (q_lss rfl rfl) (by decide) ?_
 refine Zl ?_
 refine Zq ?_
 refine VC.cond_dec rfl (fun h26 => ?_) (fun h26 => ?_)
 ·
  replace hS := it_t h26 hS
  refine Zk ?_
  refine Zq (Zb (Zq (Zr ?_)))
  obtain ⟨z27_7, nz27_7, hz27_7, hS⟩ := at_s hS
  refine VL.q (q_ixm (s := q17_1_0) Tryz.underlying448 gsz451 rfl rfl nz27_7 (lt_of_get nz27_7 hz27_7)) (by decide) ?_
  refine VL.q (q_els (s := q17_1_0) gagg451 rfl rfl hz27_7) (by decide) ?_
  refine VL.alloc (cs := [i64 0, str []]) (by kernel_rfl) (by decide) fun b13_8 => ?_
  refine VL.store (vc := [i64 z27_7.op, str z27_7.line]) (cs' := [i64 z27_7.op, str z27_7.line]) rfl rfl rfl gsz451 rfl rfl (Nat.le_of_ble_eq_true rfl) rfl ?_
  refine Zl ?_
  refine VC.cutJ (S := Sv DiffMatch) (fun (out8_9 : Sv DiffMatch) => out8_9.l) (fun (out8_9 : Sv DiffMatch) => [(8, out8_9.val), (9, i64 i9_3), (10, i64 j10_4), (13, ptr b13_8 0), (23, q17_1_0.val), (24, i64 (q17_1_0.l.length : Int)), (25, i64 x25_6)]) (fun (out8_9 : Sv DiffMatch) => Mo.tt) (fun (out8_9 : Sv DiffMatch) => Ow.star (Blk b13_8 [i64 z27_7.op, str z27_7.line] 451) (Ow.star (Sv.own out8_9 434) (Ow.emp))) hS ?_ ?_
  ·
   clear hS
   intro k10 hS
   refine Zq (Zr ?_)
   refine VL.q (q_field gfa451_0 rfl) (by decide) ?_
   refine VL.q (q_fe gone3 rfl rfl) (by decide) ?_
   refine VL.q (q_eql rfl rfl) (by decide) ?_
   refine Zl ?_
   refine VC.cond_dec rfl (fun h31 => ?_) (fun h31 => ?_)
   ·
    replace hS := it_t h31 hS
    refine VC.cutJ (S := Sv DiffMatch) (fun (out8_11 : Sv DiffMatch) => out8_11.l) (fun (out8_11 : Sv DiffMatch) => [(8, out8_11.val), (9, i64 i9_3), (10, i64 j10_4), (13, ptr b13_8 0), (23, q17_1_0.val), (24, i64 (q17_1_0.l.length : Int)), (25, i64 x25_6)]) (fun (out8_11 : Sv DiffMatch) => Mo.tt) (fun (out8_11 : Sv DiffMatch) => Ow.star (Blk b13_8 [i64 z27_7.op, str z27_7.line] 451) (Ow.star (Sv.own out8_11 434) (Ow.emp))) hS ?_ ?_
    ·
     clear hS
     intro k12 hS
     refine Zq (Zr ?_)
     refine Zm ?_
     refine VL.q (q_not rfl) (by decide) ?_
     refine Zl ?_
     refine VC.keep [8, 9, 10, 23, 24, 25, 13, 33] rfl ?_
     refine VC.cond rfl (fun h33 => ?_) (fun h33 => ?_)
     ·
      replace hS := it_t h33 hS
      refine Zr ?_
      refine Zm ?_
      refine Zm ?_
      refine Zm ?_
      refine VL.q (q_build (vs := [(0, i64 i9_3), (1, i64 j10_4)]) (cs := #[i64 i9_3, i64 j10_4, i64 0]) rfl (by kernel_rfl)) (by decide) ?_
      refine VL.lit (α := DiffMatch) (xs := [.tmp 37]) (vs := [.agg #[i64 i9_3, i64 j10_4, i64 0]]) [⟨i9_3, j10_4, 0⟩] Tryz.underlying429 glit434 (by decide) rfl rfl rfl rfl (by decide) (fun _ _ _ _ => trivial) (by decide) (fun s38_13 hs38_13 => ?_) (by decide)
      replace hS := lt_to hs38_13 hS
      obtain ⟨b39, hS⟩ := gd_s hS
      refine VL.app (s := out8_2) (r := s38_13) Tryz.underlying429 gapp434 (by decide) rfl Fo.out (ap1 b39) (ap2 b39 (by decide)) (by decide) (fun s39_15 hs39_15 => ?_)
      replace hS := lt_to hs39_15 hS
      refine Za ?_
      refine VL.mt s39_15 [8, 9, 10, 13, 23, 24, 25] (fun _ _ h => h) hS rfl
     replace hS := it_b h33 hS
     refine VC.skip_mt out8_2 [8, 9, 10, 13, 23, 24, 25] (fun _ _ h => h) hS rfl
    clear hS
    rintro out8_11 hS
    show VC _ _ _ _ _ [(8, out8_11.val), (9, i64 i9_3), (10, i64 j10_4), (13, ptr b13_8 0), (23, q17_1_0.val), (24, i64 (q17_1_0.l.length : Int)), (25, i64 x25_6)] (Mo.and Mo.tt _) (Ow.star (Blk b13_8 [i64 z27_7.op, str z27_7.line] 451) (Ow.star (Sv.own out8_11 434) (Ow.emp)))
    refine Zr ?_
    refine Zm ?_
    refine Zm ?_
    refine VL.q (q_ln (s := out8_11) Tryz.underlying429 rfl) (by decide) ?_
    obtain ⟨b43, hS⟩ := gd_s hS
    refine VL.q (q_sub rfl rfl b43) (by decide) ?_
    obtain ⟨z44_17, nz44_17, hz44_17, hS⟩ := at_s hS
    refine VL.q (q_ixo (s := out8_11) Tryz.underlying429 gsz434 rfl rfl nz44_17 (lt_of_get nz44_17 hz44_17)) (by decide) ?_
    refine VL.q (q_field gfa434_2 rfl) (by decide) ?_
    refine VL.q (q_elfo (s := out8_11) gone3 rfl hz44_17 rfl) (by decide) ?_
    obtain ⟨b47, hS⟩ := gd_s hS
    refine VL.q (q_add rfl rfl b47) (by decide) ?_
    obtain ⟨z48_18, nz48_18, hz48_18, hS⟩ := at_s hS
    refine VL.q (q_ixo (s := out8_11) Tryz.underlying429 gsz434 rfl rfl nz48_18 (lt_of_get nz48_18 hz48_18)) (by decide) ?_
    refine VL.q (q_field gfa434_2 rfl) (by decide) ?_
    refine VL.storeE (s := out8_11) (T := 434) (j := 2) (vc := [i64 (z44_17.n + 1)]) (⟨z48_18.a, z48_18.b, (z44_17.n + 1)⟩ : DiffMatch) (by decide) rfl rfl hz48_18 rfl gsz3 rfl rfl (Nat.le_of_ble_eq_true rfl) rfl (fun w19 hw19 haw19 hcw19 hvw19 hbw19 how19 => ?_)
    rw [← hvw19]
    replace hS := lt_to hw19 hS
    refine VL.mt w19 [8, 9, 10, 13, 23, 24, 25] (fun _ _ h => h) hS rfl
   replace hS := it_f h31 hS
   refine VC.skip_mt out8_2 [8, 9, 10, 13, 23, 24, 25] (fun _ _ h => h) hS rfl
  clear hS
  rintro out8_9 hS
  show VC _ _ _ _ _ [(8, out8_9.val), (9, i64 i9_3), (10, i64 j10_4), (13, ptr b13_8 0), (23, q17_1_0.val), (24, i64 (q17_1_0.l.length : Int)), (25, i64 x25_6)] (Mo.and Mo.tt _) (Ow.star (Blk b13_8 [i64 z27_7.op, str z27_7.line] 451) (Ow.star (Sv.own out8_9 434) (Ow.emp)))
  refine Zq (Zr ?_)
  refine VL.q (q_field gfa451_0 rfl) (by decide) ?_
  refine VL.q (q_fe gone3 rfl rfl) (by decide) ?_
  refine VL.q (q_eql rfl rfl) (by decide) ?_
  refine Za ?_
  refine Zl ?_
  refine VC.cutJ (S := Int) (fun (i9_21 : Int) => i9_21) (fun (i9_21 : Int) => [(8, out8_9.val), (9, i64 i9_21), (10, i64 j10_4), (11, .bool (decide (z27_7.op = 1))), (13, ptr b13_8 0), (23, q17_1_0.val), (24, i64 (q17_1_0.l.length : Int)), (25, i64 x25_6)]) (fun (i9_21 : Int) => Mo.tt) (fun (i9_21 : Int) => Ow.star (Blk b13_8 [i64 z27_7.op, str z27_7.line] 451) (Ow.star (Sv.own out8_9 434) (Ow.emp))) hS ?_ ?_
  ·
   clear hS
   intro k22 hS
   refine Zq (Zr ?_)
   refine VL.q (q_field gfa451_0 rfl) (by decide) ?_
   refine VL.q (q_fe gone3 rfl rfl) (by decide) ?_
   refine VL.q (q_neq rfl rfl) (by decide) ?_
   refine Zl ?_
   refine VC.cond_ndec rfl (fun h55 => ?_) (fun h55 => ?_)
   ·
    replace hS := it_f h55 hS
    refine Zr ?_
    refine Zm ?_
    obtain ⟨b57, hS⟩ := gd_s hS
    refine VL.q (q_add rfl rfl b57) (by decide) ?_
    refine Za ?_
    refine VL.mt (i9_3 + 1) [8, 9, 10, 11, 13, 23, 24, 25] (fun _ _ h => h) hS rfl
   replace hS := it_t h55 hS
   refine VC.skip_mt i9_3 [8, 9, 10, 11, 13, 23, 24, 25] (fun _ _ h => h) hS rfl
  clear hS
  rintro i9_21 hS
  show VC _ _ _ _ _ [(8, out8_9.val), (9, i64 i9_21), (10, i64 j10_4), (11, .bool (decide (z27_7.op = 1))), (13, ptr b13_8 0), (23, q17_1_0.val), (24, i64 (q17_1_0.l.length : Int)), (25, i64 x25_6)] (Mo.and Mo.tt _) (Ow.star (Blk b13_8 [i64 z27_7.op, str z27_7.line] 451) (Ow.star (Sv.own out8_9 434) (Ow.emp)))
  refine Zq (Zr ?_)
  refine VL.q (q_field gfa451_0 rfl) (by decide) ?_
  refine VL.q (q_fe gone3 rfl rfl) (by decide) ?_
  refine VL.q (q_neq rfl rfl) (by decide) ?_
  refine Zl ?_
  refine VC.cond_ndec rfl (fun h60 => ?_) (fun h60 => ?_)
  ·
   replace hS := it_f h60 hS
   refine Zr ?_
   refine Zm ?_
   obtain ⟨b62, hS⟩ := gd_s hS
   refine VL.q (q_add rfl rfl b62) (by decide) ?_
   refine Za ?_
   refine Zl ?_
   refine Zr ?_
   obtain ⟨b63, hS⟩ := gd_s hS
   refine VL.q (q_add rfl rfl b63) (by decide) ?_
   refine Zm ?_
   refine VL.rnd (out8_9, i9_21, (j10_4 + 1), (decide (z27_7.op = 1)), (x25_6 + 1)) [8, 9, 10, 11, 23, 24, 25] (fun _ _ h => h) (go2 hS hK1) rfl
  replace hS := it_t h60 hS
  refine Zk ?_
  refine Zr ?_
  obtain ⟨b63, hS⟩ := gd_s hS
  refine VL.q (q_add rfl rfl b63) (by decide) ?_
  refine Zm ?_
  refine VL.rnd (out8_9, i9_21, j10_4, (decide (z27_7.op = 1)), (x25_6 + 1)) [8, 9, 10, 11, 23, 24, 25] (fun _ _ h => h) (go2 hS hK1) rfl
 replace hS := it_f h26 hS
 replace hS := up2 hS hK1
 refine Zx ?_
 refine Zq (Zr ?_)
 refine Zm ?_
 refine VL.shut out8_2 434 (fun _ _ _ _ => trivial) ?_
 obtain ⟨y65_23, ey65_23, hS⟩ := bd_s hS
 refine VL.callF (slices_Clip_diff_Match_diff_Match_ct out8_2 ey65_23) rfl (by decide) ?_
 rintro q65_23_0 rfl
 try dsimp only
 refine Za ?_
 refine Za ?_
 refine Zl ?_
 refine VC.keep [4, 5] rfl ?_
 cases hS
 exact VC.ret (fin2 (.inr rfl) rfl rfl rfl (q65_23_0, .nil) rfl rfl (by (try dsimp only); exact InM.out) (fun _ _ => trivial))
theorem merge_places0_ct (base_0 : Sv Str) (other_1 : Sv Str) {r : List Int × Err} (hS : Sh.merge_places0 base_0.l other_1.l = some r) :
 Ct Tryz.prog 343 [base_0.val, other_1.val] (base_0.ok.and other_1.ok) (Ow.emp) (X := Sv Int × Er) (fun x => .tuple #[x.1.val, x.2.val]) (fun x => r = (x.1.l, x.2.pl)) (fun x => (x.1.ok.and x.2.ok)) (fun x => Ow.emp) := by
 refine Ct.of Tryz.func343 rfl (by kernel_rfl) Tryz.ntmps343 (by simp) fun c => ?_
 unfold Sh.merge_places0 at hS
 refine Zq (Zr ?_)
 refine Za ?_
 refine Za ?_
 refine Zl ?_
 refine Zq (Zr ?_)
 refine Zm ?_
 refine Zm ?_
 obtain ⟨y15_1, ey15_1, hS⟩ := bd_s hS
 refine VL.callF (diff_Matches_ct base_0 other_1 ey15_1) rfl (by decide) ?_
 rintro ⟨q15_1_0, q15_1_1⟩ rfl
 try dsimp only
 refine Zm ?_
 refine VL.q (q_extract rfl rfl) (by decide) ?_
 refine VL.q (q_extract rfl rfl) (by decide) ?_
 refine Za ?_
 refine Za ?_
 refine Zl ?_
 refine VC.keep [0, 6, 7] rfl ?_
 refine Zq (Zq (Zr ?_))
 refine Zm ?_
 refine VL.q (q_erne Tryz.underlying27 rfl) (by decide) ?_
 refine Zl ?_
 refine VC.cond_ndec rfl (fun h19 => ?_) (fun h19 => ?_)
 ·
  replace hS := it_f h19 hS
  refine Zq (Zr ?_)
  refine Zm ?_
  refine Za ?_
  refine Za ?_
  refine Zl ?_
  cases hS
  exact VC.ret (fin2 (.inr rfl) rfl rfl rfl (⟨none, 0, []⟩, q15_1_1) rfl rfl (by (try dsimp only); exact InM.out) (fun _ _ => trivial))
 replace hS := it_t h19 hS
 refine Zk ?_
 refine Zq (Zr ?_)
 refine VL.lit (α := Int) (xs := [.const (i64 (-1))]) (vs := [i64 (-1)]) [(-1)] Tryz.underlying60 glit3 (by decide) rfl rfl rfl rfl (by decide) (fun _ _ _ _ => trivial) (by decide) (fun s21_2 hs21_2 => ?_) (by decide)
 replace hS := lt_to hs21_2 hS
 refine Zm ?_
 refine VL.q (q_ln (s := base_0) Tryz.underlying32 rfl) (by decide) ?_
 obtain ⟨y24_4, ey24_4, hS⟩ := bd_s hS
 refine VL.callO (repeat2_ct s21_2 (base_0.l.length : Int) ey24_4) rfl (by decide) ?_
 rintro q24_4_0 rfl
 try dsimp only
 refine Za ?_
 refine Zl ?_
 refine Zq (Zq (Zr ?_))
 refine Zm ?_
 refine VL.q (q_ln (s := q15_1_0) Tryz.underlying429 rfl) (by decide) ?_
 refine Zm ?_
 refine Zl ?_
 refine VC.keep [8, 25, 26, 27] rfl ?_
 refine Zb ?_
 refine VC.iter (S := Sv Int × Int) (fun sg => (sg.1.l, sg.2)) (fun sg => [(8, sg.1.val), (25, q15_1_0.val), (26, i64 (q15_1_0.l.length : Int)), (27, i64 sg.2)]) (fun sg => Mo.tt) (fun sg => Ow.star (Sv.own sg.1 3) (Ow.emp)) (q24_4_0, 0) [8, 25, 26, 27] hS rfl ?_
 clear hS
 rintro ⟨out8_5, x27_6⟩ m1 y1 hS hK1
 show VC _ _ _ _ _ [(8, out8_5.val), (25, q15_1_0.val), (26, i64 (q15_1_0.l.length : Int)), (27, i64 x27_6)] (Mo.and Mo.tt _) (Ow.star (Sv.own out8_5 3) (Ow.emp))
 refine Zq (Zr ?_)
 refine VL.q (q_lss rfl rfl) (by decide) ?_
 refine Zl ?_
 refine Zq ?_
 refine VC.cond_dec rfl (fun h28 => ?_) (fun h28 => ?_)
 ·
  replace hS := it_t h28 hS
  refine Zk ?_
  refine Zq (Zb (Zq (Zr ?_)))
  obtain ⟨z29_7, nz29_7, hz29_7, hS⟩ := at_s hS
  refine VL.q (q_ixm (s := q15_1_0) Tryz.underlying429 gsz434 rfl rfl nz29_7 (lt_of_get nz29_7 hz29_7)) (by decide) ?_
  refine VL.q (q_els (s := q15_1_0) gagg434 rfl rfl hz29_7) (by decide) ?_
  refine VL.alloc (cs := [i64 0, i64 0, i64 0]) (by kernel_rfl) (by decide) fun b10_8 => ?_
  refine VL.store (vc := [i64 z29_7.a, i64 z29_7.b, i64 z29_7.n]) (cs' := [i64 z29_7.a, i64 z29_7.b, i64 z29_7.n]) rfl rfl rfl gsz434 rfl rfl (Nat.le_of_ble_eq_true rfl) rfl ?_
  refine Zl ?_
  refine Zq (Zr ?_)
  refine VL.q (q_field gfa434_2 rfl) (by decide) ?_
  refine VL.q (q_fe gone3 rfl rfl) (by decide) ?_
  refine Zm ?_
  refine Zl ?_
  refine Zb ?_
  refine VC.iter (S := Sv Int × Int) (fun sg => (sg.1.l, sg.2)) (fun sg => [(8, sg.1.val), (10, ptr b10_8 0), (25, q15_1_0.val), (26, i64 (q15_1_0.l.length : Int)), (27, i64 x27_6), (32, i64 z29_7.n), (33, i64 sg.2)]) (fun sg => Mo.tt) (fun sg => Ow.star (Blk b10_8 [i64 z29_7.a, i64 z29_7.b, i64 z29_7.n] 434) (Ow.star (Sv.own sg.1 3) (Ow.emp))) (out8_5, 0) [8, 10, 25, 26, 27, 32, 33] hS rfl ?_
  clear hS
  rintro ⟨out8_9, x33_10⟩ m2 y2 hS hK2
  show VC _ _ _ _ _ [(8, out8_9.val), (10, ptr b10_8 0), (25, q15_1_0.val), (26, i64 (q15_1_0.l.length : Int)), (27, i64 x27_6), (32, i64 z29_7.n), (33, i64 x33_10)] (Mo.and Mo.tt _) (Ow.star (Blk b10_8 [i64 z29_7.a, i64 z29_7.b, i64 z29_7.n] 434) (Ow.star (Sv.own out8_9 3) (Ow.emp)))
  refine Zq (Zr ?_)
  refine VL.q (q_lss rfl rfl) (by decide) ?_
  refine Zl ?_
  refine Zq ?_
  refine VC.cond_dec rfl (fun h34 => ?_) (fun h34 => ?_)
  ·
   replace hS := it_t h34 hS
   refine Zk ?_
   refine Zq (Zb (Zq (Zr ?_)))
   refine Zm ?_
   refine Za ?_
   refine Zl ?_
   refine Zr ?_
   refine Zm ?_
   refine VL.q (q_field gfa434_0 rfl) (by decide) ?_
   refine VL.q (q_fe gone3 rfl rfl) (by decide) ?_
   refine Zm ?_
   obtain ⟨b40, hS⟩ := gd_s hS
   refine VL.q (q_add rfl rfl b40) (by decide) ?_
   refine VL.q (q_field gfa434_1 rfl) (by decide) ?_
   refine VL.q (q_fe gone3 rfl rfl) (by decide) ?_
   refine Zm ?_
   obtain ⟨b44, hS⟩ := gd_s hS
   refine VL.q (q_add rfl rfl b44) (by decide) ?_
   obtain ⟨z45_11, nz45_11, hz45_11, hS⟩ := at_s hS
   refine VL.q (q_ixo (s := out8_9) Tryz.underlying60 gsz3 rfl rfl nz45_11 (lt_of_get nz45_11 hz45_11)) (by decide) ?_
   refine VL.storeE (s := out8_9) (T := 3) (j := 0) (vc := [i64 (z29_7.b + x33_10)]) ((z29_7.b + x33_10) : Int) (by decide) rfl rfl hz45_11 rfl gsz3 rfl rfl (Nat.le_of_ble_eq_true rfl) rfl (fun w12 hw12 haw12 hcw12 hvw12 hbw12 how12 => ?_)
   rw [← hvw12]
   replace hS := lt_to hw12 hS
   refine Zl ?_
   refine VC.keep [8, 10, 25, 26, 27, 32, 33] rfl ?_
   refine Zr ?_
   obtain ⟨b46, hS⟩ := gd_s hS
   refine VL.q (q_add rfl rfl b46) (by decide) ?_
   refine Zm ?_
   refine VL.rnd (w12, (x33_10 + 1)) [8, 10, 25, 26, 27, 32, 33] (fun _ _ h => h) (go2 hS hK2) rfl
  replace hS := it_f h34 hS
  replace hS := up2 hS hK2
  refine Zx ?_
  refine Zr ?_
  obtain ⟨b47, hS⟩ := gd_s hS
  refine VL.q (q_add rfl rfl b47) (by decide) ?_
  refine Zm ?_
  refine VL.rnd (out8_9, (x27_6 + 1)) [8, 25, 26, 27] (fun _ _ h => h) (go2 hS hK1) rfl
 replace hS := it_f h28 hS
 replace hS := up2 hS hK1
 refine Zx ?_
 refine Zq (Zr ?_)
 refine Zm ?_
 refine Za ?_
 refine Za ?_
 refine Zl ?_
 refine VC.shut out8_5 3 (fun _ _ _ _ => trivial) ?_
 cases hS
 exact VC.ret (fin2 (.inr rfl) rfl rfl rfl (out8_5, .nil) rfl rfl (by (try dsimp only); exact InM.out) (fun _ _ => trivial))
theorem merge_places_ct (base_0 : Sv Str) (other_1 : Sv Str) {r : List Int × Err} (hS : Sh.merge_places base_0.l other_1.l = some r) :
 Ct Tryz.prog 343 [base_0.val, other_1.val] (base_0.ok.and other_1.ok) (Ow.emp) (X := Sv Int × Er) (fun x => .tuple #[x.1.val, x.2.val]) (fun x => r = (x.1.l, x.2.pl)) (fun x => (x.1.ok.and x.2.ok)) (fun x => Ow.emp) := by
 unfold Sh.merge_places at hS
 split at hS
 ·
  next h =>
  cases hS
  exact Ct.mapX (places_ct base_0 other_1 h.1 h.2) (fun q => (q, Er.nil)) (fun _ => rfl) (fun q hq => by rw [← hq]; rfl) (fun q hp m => ⟨m, trivial⟩) (fun _ _ e => e)
 exact merge_places0_ct base_0 other_1 hS
theorem merge_Chunks0_ct (base_0 : Sv Str) (ours_1 : Sv Str) (theirs_2 : Sv Str) {r : List P.Chunk × Err} (hS : Sh.merge_Chunks0 base_0.l ours_1.l theirs_2.l = some r) :
 Ct Tryz.prog 298 [base_0.val, ours_1.val, theirs_2.val] (base_0.ok.and (ours_1.ok.and theirs_2.ok)) (Ow.emp) (X := Sv Ck × Er) (fun x => .tuple #[x.1.val, x.2.val]) (fun x => r = ((x.1.l.map Ck.pl), x.2.pl)) (fun x => (x.1.ok.and x.2.ok)) (fun x => Ow.emp) := by
 refine Ct.of Tryz.func298 rfl (by kernel_rfl) Tryz.ntmps298 (by simp) fun c => ?_
 unfold Sh.merge_Chunks0 at hS
 refine Zq (Zr ?_)
 refine Za ?_
 refine Za ?_
 refine Zl ?_
 refine Zq (Zr ?_)
 refine Zm ?_
 refine Zm ?_
 obtain ⟨y18_1, ey18_1, hS⟩ := bd_s hS
 refine VL.callF (merge_places_ct base_0 ours_1 ey18_1) rfl (by decide) ?_
 rintro ⟨q18_1_0, q18_1_1⟩ rfl
 try dsimp only
 refine Zm ?_
 refine VL.q (q_extract rfl rfl) (by decide) ?_
 refine VL.q (q_extract rfl rfl) (by decide) ?_
 refine Za ?_
 refine Za ?_
 refine Zl ?_
 refine VC.keep [0, 1, 2, 8, 9] rfl ?_
 refine Zq (Zq (Zr ?_))
 refine Zm ?_
 refine VL.q (q_erne Tryz.underlying27 rfl) (by decide) ?_
 refine Zl ?_
 refine VC.cond_ndec rfl (fun h22 => ?_) (fun h22 => ?_)
 ·
  replace hS := it_f h22 hS
  refine Zq (Zr ?_)
  refine Zm ?_
  refine Za ?_
  refine Za ?_
  refine Zl ?_
  cases hS
  exact VC.ret (fin2 (.inr rfl) rfl rfl rfl (⟨none, 0, []⟩, q18_1_1) rfl rfl (by (try dsimp only); exact InM.out) (fun _ _ => trivial))
 replace hS := it_t h22 hS
 refine Zk ?_
 refine Zq (Zr ?_)
 refine Zm ?_
 refine Zm ?_
 obtain ⟨y27_2, ey27_2, hS⟩ := bd_s hS
 refine VL.callF (merge_places_ct base_0 theirs_2 ey27_2) rfl (by decide) ?_
 rintro ⟨q27_2_0, q27_2_1⟩ rfl
 try dsimp only
 refine Zm ?_
 refine VL.q (q_extract rfl rfl) (by decide) ?_
 refine VL.q (q_extract rfl rfl) (by decide) ?_
 refine Za ?_
 refine Za ?_
 refine Zl ?_
 refine VC.keep [0, 1, 2, 8, 9, 10] rfl ?_
 refine Zq (Zq (Zr ?_))
 refine Zm ?_
 refine VL.q (q_erne Tryz.underlying27 rfl) (by decide) ?_
 refine Zl ?_
 refine VC.cond_ndec rfl (fun h31 => ?_) (fun h31 => ?_)
 ·
  replace hS := it_f h31 hS
  refine Zq (Zr ?_)
  refine Zm ?_
  refine Za ?_
  refine Za ?_
  refine Zl ?_
  refine VC.keep [6, 7] rfl ?_
  cases hS
  exact VC.ret (fin2 (.inr rfl) rfl rfl rfl (⟨none, 0, []⟩, q27_2_1) rfl rfl (by (try dsimp only); exact InM.out) (fun _ _ => trivial))
 replace hS := it_t h31 hS
 refine Zk ?_
 refine Zq (Zr ?_)
 refine Zm ?_
 refine Zm ?_
 refine Zm ?_
 refine VL.q (q_build (vs := [(0, base_0.val), (1, ours_1.val), (2, theirs_2.val)]) (cs := #[base_0.val, ours_1.val, theirs_2.val, i64 0, i64 0, i64 0, .slice none 0 0, .bool false]) rfl (by kernel_rfl)) (by decide) ?_
 refine VL.box (cs := [base_0.val, ours_1.val, theirs_2.val, i64 0, i64 0, i64 0, .slice none 0 0, .bool false]) rfl rfl (by decide) fun b37_3 => ?_
 refine Za ?_
 refine Zl ?_
 refine VC.keep [0, 1, 2, 8, 10, 11] rfl ?_
 refine Zq (Zq (Zr ?_))
 refine Zm ?_
 refine VL.q (q_ln (s := base_0) Tryz.underlying32 rfl) (by decide) ?_
 refine Zm ?_
 refine Zl ?_
 refine Zb ?_
 refine VC.iter (S := Int) (fun (x40_4 : Int) => x40_4) (fun (x40_4 : Int) => [(0, base_0.val), (1, ours_1.val), (2, theirs_2.val), (8, q18_1_0.val), (10, q27_2_0.val), (11, ptr b37_3 0), (39, i64 (base_0.l.length : Int)), (40, i64 x40_4)]) (fun (x40_4 : Int) => Mo.tt) (fun (x40_4 : Int) => Ow.star (Blk b37_3 [base_0.val, ours_1.val, theirs_2.val, i64 0, i64 0, i64 0, .slice none 0 0, .bool false] 407) (Ow.emp)) 0 [0, 1, 2, 8, 10, 11, 39, 40] hS rfl ?_
 clear hS
 rintro x40_4 m1 y1 hS hK1
 show VC _ _ _ _ _ [(0, base_0.val), (1, ours_1.val), (2, theirs_2.val), (8, q18_1_0.val), (10, q27_2_0.val), (11, ptr b37_3 0), (39, i64 (base_0.l.length : Int)), (40, i64 x40_4)] (Mo.and Mo.tt _) (Ow.star (Blk b37_3 [base_0.val, ours_1.val, theirs_2.val, i64 0, i64 0, i64 0, .slice none 0 0, .bool false] 407) (Ow.emp))
 refine Zq (Zr ?_)
 refine VL.q (q_lss rfl rfl) (by decide) ?_
 refine Zl ?_
 refine Zq ?_
 refine VC.cond_dec rfl (fun h41 => ?_) (fun h41 => ?_)
 ·
  replace hS := it_t h41 hS
  refine Zk ?_
  refine Zq (Zb (Zq (Zr ?_)))
  refine Zm ?_
  refine Za ?_
  refine Zl ?_
  refine VC.cutJ (S := Bool) (fun (x54_5 : Bool) => x54_5) (fun (x54_5 : Bool) => [(0, base_0.val), (1, ours_1.val), (2, theirs_2.val), (8, q18_1_0.val), (10, q27_2_0.val), (11, ptr b37_3 0), (12, i64 x40_4), (39, i64 (base_0.l.length : Int)), (40, i64 x40_4), (54, .bool x54_5)]) (fun (x54_5 : Bool) => Mo.tt) (fun (x54_5 : Bool) => Ow.star (Blk b37_3 [base_0.val, ours_1.val, theirs_2.val, i64 0, i64 0, i64 0, .slice none 0 0, .bool false] 407) (Ow.emp)) hS ?_ ?_
  ·
   clear hS
   intro k6 hS
   refine Zr ?_
   refine Zm ?_
   refine Zm ?_
   obtain ⟨z45_7, nz45_7, hz45_7, hS⟩ := at_s hS
   refine VL.q (q_ixm (s := q18_1_0) Tryz.underlying60 gsz3 rfl rfl nz45_7 (lt_of_get nz45_7 hz45_7)) (by decide) ?_
   refine VL.q (q_el (s := q18_1_0) gone3 rfl hz45_7 rfl) (by decide) ?_
   refine VL.q (q_geq rfl rfl) (by decide) ?_
   refine Zm ?_
   refine VL.split_dec 48 rfl (fun h48 => ?_) (fun h48 => ?_)
   ·
    replace hS := it_t h48 hS
    refine Zg ?_
    refine Zg ?_
    obtain ⟨z51_8, nz51_8, hz51_8, hS⟩ := at_s hS
    refine VL.gy rfl rfl (q_ixm (s := q27_2_0) Tryz.underlying60 gsz3 rfl rfl nz51_8 (lt_of_get nz51_8 hz51_8)) (by decide) ?_
    refine VL.gy rfl rfl (q_el (s := q27_2_0) gone3 rfl hz51_8 rfl) (by decide) ?_
    refine VL.gy rfl rfl (q_geq rfl rfl) (by decide) ?_
    refine Zt ?_
    refine VL.mt (decide (0 ≤ z51_8)) [0, 1, 2, 8, 10, 11, 12, 39, 40, 54] (fun _ _ h => h) hS rfl
   replace hS := it_f h48 hS
   refine Zn ?_
   refine Zn ?_
   refine Zn ?_
   refine Zn ?_
   refine Zn ?_
   refine Zf ?_
   refine VL.mt false [0, 1, 2, 8, 10, 11, 12, 39, 40, 54] (fun _ _ h => h) hS rfl
  clear hS
  rintro x54_5 hS
  show VC _ _ _ _ _ [(0, base_0.val), (1, ours_1.val), (2, theirs_2.val), (8, q18_1_0.val), (10, q27_2_0.val), (11, ptr b37_3 0), (12, i64 x40_4), (39, i64 (base_0.l.length : Int)), (40, i64 x40_4), (54, .bool x54_5)] (Mo.and Mo.tt _) (Ow.star (Blk b37_3 [base_0.val, ours_1.val, theirs_2.val, i64 0, i64 0, i64 0, .slice none 0 0, .bool false] 407) (Ow.emp))
  refine VC.cond rfl (fun h54 => ?_) (fun h54 => ?_)
  ·
   replace hS := it_t h54 hS
   refine Zq ?_
   refine VC.draw ((List.range 11).map fun k => (k, true)) mixed (by kernel_rfl) (by kernel_rfl) (by kernel_rfl) ?_
   refine VD.q rfl (q_move rfl) (by decide) ?_
   refine VD.q rfl (q_move rfl) (by decide) ?_
   refine VD.q rfl (q_move rfl) (by decide) ?_
   refine VD.q rfl (q_move rfl) (by decide) ?_
   obtain ⟨z59_9, nz59_9, hz59_9, hS⟩ := at_s hS
   refine VD.q rfl (q_ixm (s := q18_1_0) Tryz.underlying60 gsz3 rfl rfl nz59_9 (lt_of_get nz59_9 hz59_9)) (by decide) ?_
   refine VD.q rfl (q_el (s := q18_1_0) gone3 rfl hz59_9 rfl) (by decide) ?_
   refine VD.q rfl (q_move rfl) (by decide) ?_
   refine VD.q rfl (q_move rfl) (by decide) ?_
   obtain ⟨z63_10, nz63_10, hz63_10, hS⟩ := at_s hS
   refine VD.q rfl (q_ixm (s := q27_2_0) Tryz.underlying60 gsz3 rfl rfl nz63_10 (lt_of_get nz63_10 hz63_10)) (by decide) ?_
   refine VD.q rfl (q_el (s := q27_2_0) gone3 rfl hz63_10 rfl) (by decide) ?_
   cases hS
  replace hS := it_b h54 hS
  refine Zk ?_
  refine Zr ?_
  obtain ⟨b68, hS⟩ := gd_s hS
  refine VL.q (q_add rfl rfl b68) (by decide) ?_
  refine Zm ?_
  refine VL.rnd (x40_4 + 1) [0, 1, 2, 8, 10, 11, 39, 40] (fun _ _ h => h) (go2 hS hK1) rfl
 replace hS := it_f h41 hS
 replace hS := up2 hS hK1
 refine Zx ?_
 refine Zq (Zr ?_)
 refine Zm ?_
 refine Zm ?_
 refine VL.q (q_ln (s := base_0) Tryz.underlying32 rfl) (by decide) ?_
 refine Zm ?_
 refine VL.q (q_ln (s := ours_1) Tryz.underlying32 rfl) (by decide) ?_
 refine Zm ?_
 refine VL.q (q_ln (s := theirs_2) Tryz.underlying32 rfl) (by decide) ?_
 cases hS
theorem merge_Chunks_ct (base_0 : Sv Str) (ours_1 : Sv Str) (theirs_2 : Sv Str) {r : List P.Chunk × Err} (hS : Sh.merge_Chunks base_0.l ours_1.l theirs_2.l = some r) :
 Ct Tryz.prog 298 [base_0.val, ours_1.val, theirs_2.val] (base_0.ok.and (ours_1.ok.and theirs_2.ok)) (Ow.emp) (X := Sv Ck × Er) (fun x => .tuple #[x.1.val, x.2.val]) (fun x => r = ((x.1.l.map Ck.pl), x.2.pl)) (fun x => (x.1.ok.and x.2.ok)) (fun x => Ow.emp) := by
 unfold Sh.merge_Chunks at hS
 split at hS
 ·
  next h =>
  cases hS
  exact Ct.mapX (chunks_ct base_0 ours_1 theirs_2 h.1 h.2.1 h.2.2) (fun q => (q, Er.nil)) (fun _ => rfl) (fun q hq => by rw [← hq]; rfl) (fun q hp m => ⟨m, trivial⟩) (fun _ _ e => e)
 exact merge_Chunks0_ct base_0 ours_1 theirs_2 hS
theorem join_ct (s : Sv Str) (sep : Str) (hb : s.l.length ≤ 4294967296 ∧ (Go.S.joinS s.l sep).length ≤ 4294967296) : Ct Tryz.prog 122 [s.val, str sep] s.ok Ow.emp (X := Unit) (fun _ => str (Go.S.joinS s.l sep)) (fun _ => True) (fun _ => Mo.tt) (fun _ => Ow.emp) :=
  Ct.of_gr (entry_of Tryz.func122 rfl (by kernel_rfl)) fun w h m l => by
    by_cases hl : s.l = []
    · have := Tryz.strings_Join_none s.a s.c ⟨⟨sep⟩⟩ w
      have e1 : s.val = .slice s.a 0 s.c := by unfold Sv.val; rw [hl]; rfl
      rw [e1]
      exact this.mono fun e w' ⟨h1, h2⟩ => ⟨by rw [h1, hl]; rfl, h2 ▸ Gr.refl w⟩
    · obtain ⟨h1, _, h3, h4, _⟩ := m
      have ha := h3 hl
      have hx : (s.l.map fun z => (⟨⟨z⟩⟩ : ByteArray)).map (·.data.toList) = s.l := by rw [List.map_map]; exact (List.map_congr_left fun z _ => rfl).trans (List.map_id _)
      have hc : ∀ (j : Nat) x, (s.l.map fun z => (⟨⟨z⟩⟩ : ByteArray))[j]? = some x → w.cell? ⟨s.b, s.o + j, none⟩ = some (.string x) := fun j x hj => by
        rw [List.getElem?_map] at hj
        cases hz : s.l[j]? with
        | none => rw [hz] at hj; cases hj
        | some z =>
          rw [hz] at hj; cases hj
          have := h4 j z hz 0 (str z) rfl
          have hs : Dat.sz Str = 1 := rfl
          rw [hs, Nat.mul_one] at this
          exact cell_of_le l (by simpa using this)
      have hlt : s.b < w.heap.size := by
        have h0 : 0 < s.l.length := List.length_pos_iff.2 hl
        have := hc 0 ⟨⟨s.l[0]⟩⟩ (by simp [h0])
        rcases Nat.lt_or_ge s.b w.heap.size with q | q
        · exact q
        · simp [World.cell?, Array.getElem?_eq_none q] at this
      have := Tryz.strings_Join s.b s.o s.c (s.l.map fun z => ⟨⟨z⟩⟩) ⟨⟨sep⟩⟩ w hc hlt (by rw [List.length_map]; omega) (by rw [List.length_map]; exact h1) (by rw [hx]; have := hb.2; unfold Go.S.joinS at this; show (Lib.join s.l sep).length ≤ _; omega)
      rw [hx, List.length_map] at this
      have e1 : s.val = .slice (some ⟨s.b, s.o, none⟩) s.l.length s.c := by unfold Sv.val; rw [ha]
      rw [e1]
      exact this.mono fun e w' ⟨h1, h2⟩ => ⟨h1, Gr.of_below h2⟩
theorem lines_Join_ct (l_0 : Sv Str) {r : Str} (hS : Sh.lines_Join l_0.l = some r) :
 Ct Tryz.prog 301 [l_0.val] l_0.ok (Ow.emp) (X := Unit) (fun _ => str r) (fun _ => True) (fun _ => Mo.tt) (fun _ => Ow.emp) := by
 refine Ct.of Tryz.func301 rfl (by kernel_rfl) Tryz.ntmps301 (by simp) fun c => ?_
 unfold Sh.lines_Join at hS
 refine Zq (Zr ?_)
 refine Za ?_
 refine Zl ?_
 refine Zq (Zr ?_)
 refine Zm ?_
 obtain ⟨b4, hS⟩ := gd_s hS
 obtain ⟨y4_1, ey4_1, hS⟩ := lt_s hS
 refine VL.q (q_call (join_ct l_0 [] b4) rfl (fun _ _ => congrArg str ey4_1)) (by decide) ?_
 refine Za ?_
 refine Zl ?_
 cases hS
 exact Ze
theorem internal_stringslite_HasSuffix_ct (s_0 : Str) (suffix_1 : Str) {r : Bool} (hS : Sh.internal_stringslite_HasSuffix s_0 suffix_1 = some r) :
 Ct Tryz.prog 397 [str s_0, str suffix_1] Mo.tt (Ow.emp) (X := Unit) (fun _ => .bool r) (fun _ => True) (fun _ => Mo.tt) (fun _ => Ow.emp) := by
 refine Ct.of Tryz.func397 rfl (by kernel_rfl) Tryz.ntmps397 (by simp) fun c => ?_
 unfold Sh.internal_stringslite_HasSuffix at hS
 refine Zq (Zr ?_)
 refine Za ?_
 refine Zl ?_
 refine Zq (Zr ?_)
 refine Zm ?_
 refine VL.q (q_slen Tryz.underlying9 rfl) (by decide) ?_
 refine Zm ?_
 refine VL.q (q_slen Tryz.underlying9 rfl) (by decide) ?_
 refine VL.q (q_geq rfl rfl) (by decide) ?_
 refine Zm ?_
 refine VL.split_dec 10 rfl (fun h10 => ?_) (fun h10 => ?_)
 ·
  replace hS := it_t h10 hS
  refine Zg ?_
  refine Zg ?_
  refine VL.gy rfl rfl (q_slen Tryz.underlying9 rfl) (by decide) ?_
  refine Zg ?_
  refine VL.gy rfl rfl (q_slen Tryz.underlying9 rfl) (by decide) ?_
  obtain ⟨b16, hS⟩ := gd_s hS
  refine VL.gy rfl rfl (q_sub rfl rfl b16) (by decide) ?_
  obtain ⟨b17, hS⟩ := gd_s hS
  obtain ⟨y17_1, ey17_1, hS⟩ := lt_s hS
  refine VL.gy rfl rfl (q_sfromE Tryz.underlying9 rfl rfl b17.1 b17.2 ey17_1) (by decide) ?_
  refine Zg ?_
  refine VL.gy rfl rfl (q_seq rfl rfl) (by decide) ?_
  refine Zt ?_
  refine Za ?_
  refine Zl ?_
  refine VC.keep [4] rfl ?_
  cases hS
  exact Ze
 replace hS := it_f h10 hS
 refine Zn ?_
 refine Zn ?_
 refine Zn ?_
 refine Zn ?_
 refine Zn ?_
 refine Zn ?_
 refine Zn ?_
 refine Zn ?_
 refine Zn ?_
 refine Zf ?_
 refine Za ?_
 refine Zl ?_
 refine VC.keep [4] rfl ?_
 cases hS
 exact Ze
theorem strings_HasSuffix_ct (s_0 : Str) (suffix_1 : Str) {r : Bool} (hS : Sh.strings_HasSuffix s_0 suffix_1 = some r) :
 Ct Tryz.prog 390 [str s_0, str suffix_1] Mo.tt (Ow.emp) (X := Unit) (fun _ => .bool r) (fun _ => True) (fun _ => Mo.tt) (fun _ => Ow.emp) := by
 refine Ct.of Tryz.func390 rfl (by kernel_rfl) Tryz.ntmps390 (by simp) fun c => ?_
 unfold Sh.strings_HasSuffix at hS
 refine Zq (Zr ?_)
 refine Za ?_
 refine Zl ?_
 refine Zq (Zr ?_)
 refine Zm ?_
 refine Zm ?_
 obtain ⟨y7_1, ey7_1, hS⟩ := bd_s hS
 refine VL.q (q_call (internal_stringslite_HasSuffix_ct s_0 suffix_1 ey7_1) rfl (fun _ _ => rfl)) (by decide) ?_
 refine Za ?_
 refine Zl ?_
 cases hS
 exact Ze
theorem lines_Whole_ct (s_0 : Str) {r : Bool} (hS : Sh.lines_Whole s_0 = some r) :
 Ct Tryz.prog 374 [str s_0] Mo.tt (Ow.emp) (X := Unit) (fun _ => .bool r) (fun _ => True) (fun _ => Mo.tt) (fun _ => Ow.emp) := by
 refine Ct.of Tryz.func374 rfl (by kernel_rfl) Tryz.ntmps374 (by simp) fun c => ?_
 unfold Sh.lines_Whole at hS
 refine Zq (Zr ?_)
 refine Za ?_
 refine Zl ?_
 refine Zq (Zr ?_)
 refine Zm ?_
 refine Zs ?_
 refine Zm ?_
 refine VL.split_dec 5 rfl (fun h5 => ?_) (fun h5 => ?_)
 ·
  replace hS := it_t h5 hS
  refine Zn ?_
  refine Zn ?_
  refine Zt ?_
  refine Za ?_
  refine Zl ?_
  cases hS
  exact Ze
 replace hS := it_f h5 hS
 refine Zg ?_
 obtain ⟨y7_1, ey7_1, hS⟩ := bd_s hS
 refine VL.gy rfl rfl (q_call (strings_HasSuffix_ct s_0 [10] ey7_1) rfl (fun _ _ => rfl)) (by decide) ?_
 refine Zf ?_
 refine Za ?_
 refine Zl ?_
 cases hS
 exact Ze
theorem merge_closed_ct (l_0 : Sv Str) {r : Str} (hS : Sh.merge_closed l_0.l = some r) :
 Ct Tryz.prog 347 [l_0.val] l_0.ok (Ow.emp) (X := Unit) (fun _ => str r) (fun _ => True) (fun _ => Mo.tt) (fun _ => Ow.emp) := by
 refine Ct.of Tryz.func347 rfl (by kernel_rfl) Tryz.ntmps347 (by simp) fun c => ?_
 unfold Sh.merge_closed at hS
 refine Zq (Zr ?_)
 refine Za ?_
 refine Zl ?_
 refine Zq (Zr ?_)
 refine Zm ?_
 obtain ⟨y5_1, ey5_1, hS⟩ := bd_s hS
 refine VL.q (q_call (lines_Join_ct l_0 ey5_1) rfl (fun _ _ => rfl)) (by decide) ?_
 refine Za ?_
 refine Zl ?_
 refine Zq (Zq (Zr ?_))
 refine Zm ?_
 obtain ⟨y7_2, ey7_2, hS⟩ := bd_s hS
 refine VL.q (q_call (lines_Whole_ct y5_1 ey7_2) rfl (fun _ _ => rfl)) (by decide) ?_
 refine VL.q (q_not rfl) (by decide) ?_
 refine Zl ?_
 refine VC.cond rfl (fun h8 => ?_) (fun h8 => ?_)
 ·
  replace hS := it_t h8 hS
  refine Zr ?_
  refine Zm ?_
  obtain ⟨b10, hS⟩ := gd_s hS
  obtain ⟨y10_3, ey10_3, hS⟩ := lt_s hS
  refine VL.q (q_catE rfl rfl b10 ey10_3) (by decide) ?_
  refine Za ?_
  refine Zl ?_
  refine Zq (Zr ?_)
  refine Zm ?_
  refine Za ?_
  refine Zl ?_
  refine VC.keep [2] rfl ?_
  cases hS
  exact Ze
 replace hS := it_b h8 hS
 refine Zk ?_
 refine Zq (Zr ?_)
 refine Zm ?_
 refine Za ?_
 refine Zl ?_
 cases hS
 exact Ze
theorem merge_clash_ct (c_0 : Ck) (a_1 : Str) (b_2 : Str) {r : Str} (hS : Sh.merge_clash c_0.pl a_1 b_2 = some r) :
 Ct Tryz.prog 300 [.agg #[c_0.base.val, c_0.ours.val, c_0.theirs.val, .bool c_0.clash, c_0.out.val], str a_1, str b_2] (c_0.base.ok.and (c_0.ours.ok.and (c_0.theirs.ok.and c_0.out.ok))) (Ow.emp) (X := Unit) (fun _ => str r) (fun _ => True) (fun _ => Mo.tt) (fun _ => Ow.emp) := by
 refine Ct.of Tryz.func300 rfl (by kernel_rfl) Tryz.ntmps300 (by simp) fun c => ?_
 unfold Sh.merge_clash at hS
 refine Zq (Zr ?_)
 refine VL.box (cs := [c_0.base.val, c_0.ours.val, c_0.theirs.val, .bool c_0.clash, c_0.out.val]) rfl rfl (by decide) fun b3_1 => ?_
 refine Za ?_
 refine Zl ?_
 refine Zq ?_
 refine VC.draw ((List.range 17).map fun k => (k, true)) mixed (by kernel_rfl) (by kernel_rfl) (by kernel_rfl) ?_
 refine VD.q rfl (q_move rfl) (by decide) ?_
 obtain ⟨b8, hS⟩ := gd_s hS
 obtain ⟨y8_2, ey8_2, hS⟩ := lt_s hS
 refine VD.q rfl (q_catE rfl rfl b8 ey8_2) (by decide) ?_
 obtain ⟨b9, hS⟩ := gd_s hS
 obtain ⟨y9_3, ey9_3, hS⟩ := lt_s hS
 refine VD.q rfl (q_catE rfl rfl b9 ey9_3) (by decide) ?_
 refine VD.q rfl (q_field gfa373_1 rfl) (by decide) ?_
 refine VD.q rfl (q_fe gone32 rfl rfl) (by decide) ?_
 obtain ⟨y12_4, ey12_4, hS⟩ := bd_s hS
 refine VD.q rfl (q_call (merge_closed_ct c_0.ours ey12_4) rfl (fun _ _ => rfl)) (by decide) ?_
 obtain ⟨b13, hS⟩ := gd_s hS
 obtain ⟨y13_5, ey13_5, hS⟩ := lt_s hS
 refine VD.q rfl (q_catE rfl rfl b13 ey13_5) (by decide) ?_
 obtain ⟨b14, hS⟩ := gd_s hS
 obtain ⟨y14_6, ey14_6, hS⟩ := lt_s hS
 refine VD.q rfl (q_catE rfl rfl b14 ey14_6) (by decide) ?_
 refine VD.q rfl (q_field gfa373_2 rfl) (by decide) ?_
 refine VD.q rfl (q_fe gone32 rfl rfl) (by decide) ?_
 obtain ⟨y17_7, ey17_7, hS⟩ := bd_s hS
 refine VD.q rfl (q_call (merge_closed_ct c_0.theirs ey17_7) rfl (fun _ _ => rfl)) (by decide) ?_
 obtain ⟨b18, hS⟩ := gd_s hS
 obtain ⟨y18_8, ey18_8, hS⟩ := lt_s hS
 refine VD.q rfl (q_catE rfl rfl b18 ey18_8) (by decide) ?_
 obtain ⟨b19, hS⟩ := gd_s hS
 obtain ⟨y19_9, ey19_9, hS⟩ := lt_s hS
 refine VD.q rfl (q_catE rfl rfl b19 ey19_9) (by decide) ?_
 refine VD.q rfl (q_move rfl) (by decide) ?_
 obtain ⟨b21, hS⟩ := gd_s hS
 obtain ⟨y21_10, ey21_10, hS⟩ := lt_s hS
 refine VD.q rfl (q_catE rfl rfl b21 ey21_10) (by decide) ?_
 obtain ⟨b22, hS⟩ := gd_s hS
 obtain ⟨y22_11, ey22_11, hS⟩ := lt_s hS
 refine VD.q rfl (q_catE rfl rfl b22 ey22_11) (by decide) ?_
 refine VD.q rfl (q_assign rfl) (by decide) ?_
 refine VD.to (fun _ _ h => h) ?_
 refine VC.keep [6] rfl ?_
 cases hS
 exact Ze
end Go.Proofs.YtpmhinamcndmeaaGreatDoor
end

section
set_option linter.unusedVariables false
namespace Go.Proofs.YtpmhinamcndmeaaGreatDoor
set_option maxHeartbeats 4000000
set_option maxRecDepth 100000
open Go.RowKit Go.V
open Go.S hiding Str
theorem merge_Text_ct (base_0 : Str) (ours_1 : Str) (theirs_2 : Str) (a_3 : Str) (b_4 : Str) {r : Str × Int × Err} (hS : Sh.merge_Text base_0 ours_1 theirs_2 a_3 b_4 = some r) :
 Ct Tryz.prog 251 [str base_0, str ours_1, str theirs_2, str a_3, str b_4] Mo.tt (Ow.emp) (X := Str × Int × Er) (fun x => .tuple #[str x.1, i64 x.2.1, x.2.2.val]) (fun x => r = (x.1, x.2.1, x.2.2.pl)) (fun x => x.2.2.ok) (fun x => Ow.emp) := by
 refine Ct.of Tryz.func251 rfl (by kernel_rfl) Tryz.ntmps251 (by simp) fun c => ?_
 unfold Sh.merge_Text at hS
 refine Zq (Zr ?_)
 refine Za ?_
 refine Za ?_
 refine Za ?_
 refine Zl ?_
 refine Zq (Zr ?_)
 refine Zm ?_
 obtain ⟨y21_1, ey21_1, hS⟩ := bd_s hS
 refine VL.callF (lines_Split_ct base_0 ey21_1) rfl (by decide) ?_
 rintro q21_1_0 rfl
 try dsimp only
 refine Zm ?_
 obtain ⟨y23_2, ey23_2, hS⟩ := bd_s hS
 refine VL.callF (lines_Split_ct ours_1 ey23_2) rfl (by decide) ?_
 rintro q23_2_0 rfl
 try dsimp only
 refine Zm ?_
 obtain ⟨y25_3, ey25_3, hS⟩ := bd_s hS
 refine VL.callF (lines_Split_ct theirs_2 ey25_3) rfl (by decide) ?_
 rintro q25_3_0 rfl
 try dsimp only
 obtain ⟨y26_4, ey26_4, hS⟩ := bd_s hS
 refine VL.callF (merge_Chunks_ct q21_1_0 q23_2_0 q25_3_0 ey26_4) rfl (by decide) ?_
 rintro ⟨q26_4_0, q26_4_1⟩ rfl
 try dsimp only
 refine Zm ?_
 refine VL.q (q_extract rfl rfl) (by decide) ?_
 refine VL.q (q_extract rfl rfl) (by decide) ?_
 refine Za ?_
 refine Za ?_
 refine Zl ?_
 refine VC.keep [3, 4, 13, 14] rfl ?_
 refine Zq (Zq (Zr ?_))
 refine Zm ?_
 refine VL.q (q_erne Tryz.underlying27 rfl) (by decide) ?_
 refine Zl ?_
 refine VC.cond_ndec rfl (fun h30 => ?_) (fun h30 => ?_)
 ·
  replace hS := it_f h30 hS
  refine Zq (Zr ?_)
  refine Zm ?_
  refine Za ?_
  refine Za ?_
  refine Za ?_
  refine Zl ?_
  cases hS
  exact VC.ret (fin3 (.inr rfl) rfl rfl rfl rfl ([], 0, q26_4_1) rfl rfl (by (try dsimp only); exact InM.out) (fun _ _ => trivial))
 replace hS := it_t h30 hS
 refine Zk ?_
 refine Zq (Zr ?_)
 refine VL.alloc (cs := [.pointer none, .slice none 0 0]) (by kernel_rfl) (by decide) fun b15_5 => ?_
 refine VL.toBd 5 b15_5 ?_
 refine Zl ?_
 refine Zq (Zr ?_)
 refine Za ?_
 refine Zl ?_
 refine Zq (Zq (Zr ?_))
 refine Zm ?_
 refine VL.q (q_lnm Ck.pl (s := q26_4_0) Tryz.underlying369 rfl) (by decide) ?_
 refine Zm ?_
 refine Zl ?_
 refine Zb ?_
 refine VC.iter (S := Int × Int × Str) (fun sg => (sg.1, sg.2.1, sg.2.2)) (fun sg => [(3, str a_3), (4, str b_4), (15, ptr b15_5 0), (16, i64 sg.1), (32, q26_4_0.val), (33, i64 ((q26_4_0.l.map Ck.pl).length : Int)), (34, i64 sg.2.1)]) (fun sg => Mo.tt) (fun sg => Ow.star (Bd 274 5 b15_5 sg.2.2) (Ow.emp)) (0, 0, []) [3, 4, 15, 16, 32, 33, 34] hS rfl ?_
 clear hS
 rintro ⟨n16_6, x34_7, acc_8⟩ m1 y1 hS hK1
 show VC _ _ _ _ _ [(3, str a_3), (4, str b_4), (15, ptr b15_5 0), (16, i64 n16_6), (32, q26_4_0.val), (33, i64 ((q26_4_0.l.map Ck.pl).length : Int)), (34, i64 x34_7)] (Mo.and Mo.tt _) (Ow.star (Bd 274 5 b15_5 acc_8) (Ow.emp))
 refine Zq (Zr ?_)
 refine VL.q (q_lss rfl rfl) (by decide) ?_
 refine Zl ?_
 refine Zq ?_
 refine VC.cond_dec rfl (fun h35 => ?_) (fun h35 => ?_)
 ·
  replace hS := it_t h35 hS
  refine Zk ?_
  refine Zq (Zb (Zq (Zr ?_)))
  obtain ⟨z36_9, nz36_9, hz36_9, hS⟩ := atm_s hS
  refine VL.deep z36_9.m hz36_9 (fun _ q => q) ?_
  refine VL.q (q_ixm (s := q26_4_0) Tryz.underlying369 gsz373 rfl rfl nz36_9 (lt_of_get nz36_9 hz36_9)) (by decide) ?_
  refine VL.q (q_els (s := q26_4_0) gagg373 rfl rfl hz36_9) (by decide) ?_
  refine VL.alloc (cs := [.slice none 0 0, .slice none 0 0, .slice none 0 0, .bool false, .slice none 0 0]) (by kernel_rfl) (by decide) fun b18_10 => ?_
  refine VL.store (vc := [z36_9.base.val, z36_9.ours.val, z36_9.theirs.val, .bool z36_9.clash, z36_9.out.val]) (cs' := [z36_9.base.val, z36_9.ours.val, z36_9.theirs.val, .bool z36_9.clash, z36_9.out.val]) rfl rfl rfl gsz373 rfl rfl (Nat.le_of_ble_eq_true rfl) rfl ?_
  refine Zl ?_
  refine Zq (Zq (Zr ?_))
  refine VL.q (q_field gfa373_3 rfl) (by decide) ?_
  refine VL.q (q_fe gone4 rfl rfl) (by decide) ?_
  refine Zl ?_
  refine VC.cond rfl (fun h39 => ?_) (fun h39 => ?_)
  ·
   replace hS := it_t h39 hS
   refine Zq (Zr ?_)
   refine Zm ?_
   obtain ⟨b41, hS⟩ := gd_s hS
   refine VL.q (q_add rfl rfl b41) (by decide) ?_
   refine Za ?_
   refine Zl ?_
   refine VC.keep [3, 4, 15, 16, 32, 33, 34, 18] rfl ?_
   refine Zq (Zr ?_)
   refine VL.q (q_fes gagg373 rfl rfl) (by decide) ?_
   refine Zm ?_
   refine Zm ?_
   obtain ⟨y45_11, ey45_11, hS⟩ := bd_s hS
   refine VL.q (q_call (merge_clash_ct z36_9 a_3 b_4 ey45_11) rfl (fun _ _ => rfl)) (by decide) ?_
   obtain ⟨b46, hS⟩ := gd_s hS
   refine VL.callO (writeString_ct b15_5 acc_8 y45_11 b46) rfl (by decide) ?_
   rintro _ _
   obtain ⟨acc46_12, eacc46_12, hS⟩ := lt_s hS
   rw [eacc46_12]
   refine Zl ?_
   refine Zx ?_
   refine Zr ?_
   obtain ⟨b51, hS⟩ := gd_s hS
   refine VL.q (q_add rfl rfl b51) (by decide) ?_
   refine Zm ?_
   refine VL.rnd ((n16_6 + 1), (x34_7 + 1), acc46_12) [3, 4, 15, 16, 32, 33, 34] (fun _ _ h => h) (go2 hS hK1) rfl
  replace hS := it_b h39 hS
  refine Zk ?_
  refine Zr ?_
  refine VL.q (q_field gfa373_4 rfl) (by decide) ?_
  refine VL.q (q_fe gone32 rfl rfl) (by decide) ?_
  obtain ⟨y49_13, ey49_13, hS⟩ := bd_s hS
  refine VL.q (q_call (lines_Join_ct z36_9.out ey49_13) rfl (fun _ _ => rfl)) (by decide) ?_
  obtain ⟨b50, hS⟩ := gd_s hS
  refine VL.callO (writeString_ct b15_5 acc_8 y49_13 b50) rfl (by decide) ?_
  rintro _ _
  obtain ⟨acc50_14, eacc50_14, hS⟩ := lt_s hS
  rw [eacc50_14]
  refine Zl ?_
  refine VC.keep [3, 4, 15, 16, 32, 33, 34] rfl ?_
  refine Zr ?_
  obtain ⟨b51, hS⟩ := gd_s hS
  refine VL.q (q_add rfl rfl b51) (by decide) ?_
  refine Zm ?_
  refine VL.rnd (n16_6, (x34_7 + 1), acc50_14) [3, 4, 15, 16, 32, 33, 34] (fun _ _ h => h) (go2 hS hK1) rfl
 replace hS := it_f h35 hS
 replace hS := up2 hS hK1
 refine Zx ?_
 refine Zq (Zr ?_)
 refine VL.callO (string_ct b15_5 acc_8) rfl (by decide) ?_
 rintro _ _
 refine Zm ?_
 refine Za ?_
 refine Za ?_
 refine Za ?_
 refine Zl ?_
 refine VC.keep [10, 11, 12] rfl ?_
 cases hS
 exact VC.ret (fin3 (.inr rfl) rfl rfl rfl rfl (acc_8, n16_6, .nil) rfl rfl (by (try dsimp only); exact InM.out) (fun _ _ => trivial))
theorem tmerge_both_ct (base_0 : TmergeOne) (ours_1 : TmergeOne) (theirs_2 : TmergeOne) (a_3 : Str) (b_4 : Str) {r : FilesFile × Bool} (hS : Sh.tmerge_both base_0 ours_1 theirs_2 a_3 b_4 = some r) :
 Ct Tryz.prog 179 [.agg #[str base_0.file_path, i64 base_0.file_mode, str base_0.file_data, .bool base_0.is], .agg #[str ours_1.file_path, i64 ours_1.file_mode, str ours_1.file_data, .bool ours_1.is], .agg #[str theirs_2.file_path, i64 theirs_2.file_mode, str theirs_2.file_data, .bool theirs_2.is], str a_3, str b_4] Mo.tt (Ow.emp) (X := Unit) (fun _ => .tuple #[.agg #[str r.1.path, i64 r.1.mode, str r.1.data], .bool r.2]) (fun _ => True) (fun _ => Mo.tt) (fun _ => Ow.emp) := by
 refine Ct.of Tryz.func179 rfl (by kernel_rfl) Tryz.ntmps179 (by simp) fun c => ?_
 unfold Sh.tmerge_both at hS
 refine Zq (Zr ?_)
 refine VL.box (cs := [str base_0.file_path, i64 base_0.file_mode, str base_0.file_data, .bool base_0.is]) rfl rfl (by decide) fun b5_1 => ?_
 refine VL.box (cs := [str ours_1.file_path, i64 ours_1.file_mode, str ours_1.file_data, .bool ours_1.is]) rfl rfl (by decide) fun b6_2 => ?_
 refine VL.box (cs := [str theirs_2.file_path, i64 theirs_2.file_mode, str theirs_2.file_data, .bool theirs_2.is]) rfl rfl (by decide) fun b7_3 => ?_
 refine VL.alloc (cs := [str [], i64 0, str []]) (by kernel_rfl) (by decide) fun b10_4 => ?_
 refine Za ?_
 refine Zl ?_
 refine Zq ?_
 refine VC.draw [(0, true), (1, true), (2, true), (3, true), (4, true), (5, true), (6, true), (7, true), (8, true), (9, true), (10, true), (11, false), (12, false)] mixed (by kernel_rfl) (by kernel_rfl) (by kernel_rfl) ?_
 refine VD.q rfl (q_field gfa245_0 rfl) (by decide) ?_
 refine VD.q rfl (q_field gfa50_0 rfl) (by decide) ?_
 refine VD.q rfl (q_fe gone9 rfl rfl) (by decide) ?_
 refine VD.q rfl (q_fes gagg245 rfl rfl) (by decide) ?_
 refine VD.q rfl (q_fes gagg245 rfl rfl) (by decide) ?_
 refine VD.q rfl (q_fes gagg245 rfl rfl) (by decide) ?_
 obtain ⟨y22_5, ey22_5, hS⟩ := bd_s hS
 refine VD.q rfl (q_call (tmerge_mode_ct base_0 ours_1 theirs_2 ey22_5) rfl (fun _ _ => rfl)) (by decide) ?_
 refine VD.q rfl (q_field gfa245_0 rfl) (by decide) ?_
 refine VD.q rfl (q_field gfa50_2 rfl) (by decide) ?_
 refine VD.q rfl (q_fe gone9 rfl rfl) (by decide) ?_
 refine VD.q rfl (q_build (vs := [(0, str ours_1.file_path), (1, i64 y22_5), (2, str ours_1.file_data)]) (cs := #[str ours_1.file_path, i64 y22_5, str ours_1.file_data]) rfl (by kernel_rfl)) (by decide) ?_
 refine VD.one rfl ?_
 refine VL.alloc (cs := [str [], i64 0, str []]) (by kernel_rfl) (by decide) fun b12_6 => ?_
 refine VL.back (D' := [(10, .agg #[str ours_1.file_path, i64 y22_5, str ours_1.file_data]), (9, str ours_1.file_data), (8, ptr b6_2 2), (7, ptr b6_2 0), (6, i64 y22_5), (5, .agg #[str theirs_2.file_path, i64 theirs_2.file_mode, str theirs_2.file_data, .bool theirs_2.is]), (4, .agg #[str ours_1.file_path, i64 ours_1.file_mode, str ours_1.file_data, .bool ours_1.is]), (3, .agg #[str base_0.file_path, i64 base_0.file_mode, str base_0.file_data, .bool base_0.is]), (2, str ours_1.file_path), (1, ptr b6_2 0), (0, ptr b6_2 0)]) (by kernel_rfl) (Pend.cons rfl (q_build (vs := [(0, str ours_1.file_path), (1, i64 y22_5), (2, str ours_1.file_data)]) (cs := #[str ours_1.file_path, i64 y22_5, str ours_1.file_data]) rfl (by kernel_rfl)) (Pend.cons rfl (q_fe gone9 rfl rfl) (Pend.cons rfl (q_field gfa50_2 rfl) (Pend.cons rfl (q_field gfa245_0 rfl) (Pend.cons rfl (q_call (tmerge_mode_ct base_0 ours_1 theirs_2 ey22_5) rfl (fun _ _ => rfl)) (Pend.cons rfl (q_fes gagg245 rfl rfl) (Pend.cons rfl (q_fes gagg245 rfl rfl) (Pend.cons rfl (q_fes gagg245 rfl rfl) (Pend.cons rfl (q_fe gone9 rfl rfl) (Pend.cons rfl (q_field gfa50_0 rfl) (Pend.cons rfl (q_field gfa245_0 rfl) (Pend.nil)))))))))))) ?_
 refine VD.one rfl ?_
 refine VL.store (vc := [str ours_1.file_path, i64 y22_5, str ours_1.file_data]) (cs' := [str ours_1.file_path, i64 y22_5, str ours_1.file_data]) rfl rfl rfl gsz50 rfl rfl (Nat.le_of_ble_eq_true rfl) rfl ?_
 refine VL.back (D' := []) (by kernel_rfl) (Pend.nil) ?_
 refine VD.to (fun _ _ h => h) ?_
 refine VC.keep [3, 4, 5, 6, 7, 10, 12] rfl ?_
 refine Zq (Zb ?_)
 refine VC.cutJ (S := Bool) (fun (x27_7 : Bool) => x27_7) (fun (x27_7 : Bool) => [(3, str a_3), (4, str b_4), (5, ptr b5_1 0), (6, ptr b6_2 0), (7, ptr b7_3 0), (10, ptr b10_4 0), (12, ptr b12_6 0), (27, .bool x27_7)]) (fun (x27_7 : Bool) => Mo.tt) (fun (x27_7 : Bool) => Ow.star (Blk b12_6 [str ours_1.file_path, i64 y22_5, str ours_1.file_data] 50) (Ow.star (Blk b10_4 [str [], i64 0, str []] 50) (Ow.star (Blk b7_3 [str theirs_2.file_path, i64 theirs_2.file_mode, str theirs_2.file_data, .bool theirs_2.is] 245) (Ow.star (Blk b6_2 [str ours_1.file_path, i64 ours_1.file_mode, str ours_1.file_data, .bool ours_1.is] 245) (Ow.star (Blk b5_1 [str base_0.file_path, i64 base_0.file_mode, str base_0.file_data, .bool base_0.is] 245) (Ow.emp)))))) hS ?_ ?_
 ·
  clear hS
  intro k8 hS
  refine Zr ?_
  refine VL.q (q_field gfa245_0 rfl) (by decide) ?_
  refine VL.q (q_field gfa50_2 rfl) (by decide) ?_
  refine VL.q (q_fe gone9 rfl rfl) (by decide) ?_
  refine VL.q (q_field gfa245_0 rfl) (by decide) ?_
  refine VL.q (q_field gfa50_2 rfl) (by decide) ?_
  refine VL.q (q_fe gone9 rfl rfl) (by decide) ?_
  refine Zs ?_
  refine Zm ?_
  refine VL.split_dec 35 rfl (fun h35 => ?_) (fun h35 => ?_)
  ·
   replace hS := it_t h35 hS
   refine Zn ?_
   refine Zn ?_
   refine Zn ?_
   refine VL.gu rfl rfl (by decide) ?_
   refine VL.gu rfl rfl (by decide) ?_
   refine VL.gu rfl rfl (by decide) ?_
   refine VL.gu rfl rfl (by decide) ?_
   refine VL.gu rfl rfl (by decide) ?_
   refine VL.gu rfl rfl (by decide) ?_
   refine VL.gu rfl rfl (by decide) ?_
   refine Zn ?_
   refine Zt ?_
   refine Za ?_
   refine VL.mt true [3, 4, 5, 6, 7, 10, 12, 27] (fun _ _ h => h) hS rfl
  replace hS := it_f h35 hS
  refine VL.gy rfl rfl (q_field gfa245_1 rfl) (by decide) ?_
  refine VL.gy rfl rfl (q_fe gone4 rfl rfl) (by decide) ?_
  refine Zg ?_
  refine VL.split 38 rfl (fun h38 => ?_) (fun h38 => ?_)
  ·
   replace hS := it_t h38 hS
   refine VL.gy rfl rfl (q_field gfa245_0 rfl) (by decide) ?_
   refine VL.gy rfl rfl (q_field gfa50_2 rfl) (by decide) ?_
   refine VL.gy rfl rfl (q_fe gone9 rfl rfl) (by decide) ?_
   refine VL.gy rfl rfl (q_field gfa245_0 rfl) (by decide) ?_
   refine VL.gy rfl rfl (q_field gfa50_2 rfl) (by decide) ?_
   refine VL.gy rfl rfl (q_fe gone9 rfl rfl) (by decide) ?_
   refine VL.gy rfl rfl (q_seq rfl rfl) (by decide) ?_
   refine VL.gy rfl rfl (q_pick_t rfl rfl) (by decide) ?_
   refine Zf ?_
   refine Za ?_
   refine VL.mt (decide (theirs_2.file_data = base_0.file_data)) [3, 4, 5, 6, 7, 10, 12, 27] (fun _ _ h => h) hS rfl
  replace hS := it_b h38 hS
  refine Zn ?_
  refine Zn ?_
  refine Zn ?_
  refine Zn ?_
  refine Zn ?_
  refine Zn ?_
  refine Zn ?_
  refine VL.gy rfl rfl (q_pick_f rfl rfl) (by decide) ?_
  refine Zf ?_
  refine Za ?_
  refine VL.mt false [3, 4, 5, 6, 7, 10, 12, 27] (fun _ _ h => h) hS rfl
 clear hS
 rintro x27_7 hS
 show VC _ _ _ _ _ [(3, str a_3), (4, str b_4), (5, ptr b5_1 0), (6, ptr b6_2 0), (7, ptr b7_3 0), (10, ptr b10_4 0), (12, ptr b12_6 0), (27, .bool x27_7)] (Mo.and Mo.tt _) (Ow.star (Blk b12_6 [str ours_1.file_path, i64 y22_5, str ours_1.file_data] 50) (Ow.star (Blk b10_4 [str [], i64 0, str []] 50) (Ow.star (Blk b7_3 [str theirs_2.file_path, i64 theirs_2.file_mode, str theirs_2.file_data, .bool theirs_2.is] 245) (Ow.star (Blk b6_2 [str ours_1.file_path, i64 ours_1.file_mode, str ours_1.file_data, .bool ours_1.is] 245) (Ow.star (Blk b5_1 [str base_0.file_path, i64 base_0.file_mode, str base_0.file_data, .bool base_0.is] 245) (Ow.emp))))))
 refine VC.cond rfl (fun h27 => ?_) (fun h27 => ?_)
 ·
  replace hS := it_t h27 hS
  refine Zq (Zr ?_)
  refine VL.q (q_fes gagg50 rfl rfl) (by decide) ?_
  refine VL.store (vc := [str ours_1.file_path, i64 y22_5, str ours_1.file_data]) (cs' := [str ours_1.file_path, i64 y22_5, str ours_1.file_data]) rfl rfl rfl gsz50 rfl rfl (Nat.le_of_ble_eq_true rfl) rfl ?_
  refine Za ?_
  refine Zl ?_
  cases hS
  exact VC.ret (finG (vs := [.agg #[str ours_1.file_path, i64 y22_5, str ours_1.file_data], .bool false]) (.inr rfl) rfl (RVs.cell gagg50 rfl rfl Rd.blk (RVs.tmp rfl (RVs.nil))) () rfl trivial (by (try dsimp only); exact InM.out) (fun _ _ => trivial))
 replace hS := it_b h27 hS
 refine VC.cutJ (S := Bool) (fun (x49_9 : Bool) => x49_9) (fun (x49_9 : Bool) => [(3, str a_3), (4, str b_4), (5, ptr b5_1 0), (6, ptr b6_2 0), (7, ptr b7_3 0), (10, ptr b10_4 0), (12, ptr b12_6 0), (49, .bool x49_9)]) (fun (x49_9 : Bool) => Mo.tt) (fun (x49_9 : Bool) => Ow.star (Blk b12_6 [str ours_1.file_path, i64 y22_5, str ours_1.file_data] 50) (Ow.star (Blk b10_4 [str [], i64 0, str []] 50) (Ow.star (Blk b7_3 [str theirs_2.file_path, i64 theirs_2.file_mode, str theirs_2.file_data, .bool theirs_2.is] 245) (Ow.star (Blk b6_2 [str ours_1.file_path, i64 ours_1.file_mode, str ours_1.file_data, .bool ours_1.is] 245) (Ow.star (Blk b5_1 [str base_0.file_path, i64 base_0.file_mode, str base_0.file_data, .bool base_0.is] 245) (Ow.emp)))))) hS ?_ ?_
 ·
  clear hS
  intro k10 hS
  refine Zr ?_
  refine VL.q (q_field gfa245_1 rfl) (by decide) ?_
  refine VL.q (q_fe gone4 rfl rfl) (by decide) ?_
  refine Zm ?_
  refine VL.split 52 rfl (fun h52 => ?_) (fun h52 => ?_)
  ·
   replace hS := it_t h52 hS
   refine VL.gy rfl rfl (q_field gfa245_0 rfl) (by decide) ?_
   refine VL.gy rfl rfl (q_field gfa50_2 rfl) (by decide) ?_
   refine VL.gy rfl rfl (q_fe gone9 rfl rfl) (by decide) ?_
   refine VL.gy rfl rfl (q_field gfa245_0 rfl) (by decide) ?_
   refine VL.gy rfl rfl (q_field gfa50_2 rfl) (by decide) ?_
   refine VL.gy rfl rfl (q_fe gone9 rfl rfl) (by decide) ?_
   refine VL.gy rfl rfl (q_seq rfl rfl) (by decide) ?_
   refine Zt ?_
   refine Za ?_
   refine VL.mt (decide (ours_1.file_data = base_0.file_data)) [3, 4, 5, 6, 7, 10, 12, 49] (fun _ _ h => h) hS rfl
  replace hS := it_b h52 hS
  refine Zn ?_
  refine Zn ?_
  refine Zn ?_
  refine Zn ?_
  refine Zn ?_
  refine Zn ?_
  refine Zn ?_
  refine Zf ?_
  refine Za ?_
  refine VL.mt false [3, 4, 5, 6, 7, 10, 12, 49] (fun _ _ h => h) hS rfl
 clear hS
 rintro x49_9 hS
 show VC _ _ _ _ _ [(3, str a_3), (4, str b_4), (5, ptr b5_1 0), (6, ptr b6_2 0), (7, ptr b7_3 0), (10, ptr b10_4 0), (12, ptr b12_6 0), (49, .bool x49_9)] (Mo.and Mo.tt _) (Ow.star (Blk b12_6 [str ours_1.file_path, i64 y22_5, str ours_1.file_data] 50) (Ow.star (Blk b10_4 [str [], i64 0, str []] 50) (Ow.star (Blk b7_3 [str theirs_2.file_path, i64 theirs_2.file_mode, str theirs_2.file_data, .bool theirs_2.is] 245) (Ow.star (Blk b6_2 [str ours_1.file_path, i64 ours_1.file_mode, str ours_1.file_data, .bool ours_1.is] 245) (Ow.star (Blk b5_1 [str base_0.file_path, i64 base_0.file_mode, str base_0.file_data, .bool base_0.is] 245) (Ow.emp))))))
 refine VC.cond rfl (fun h49 => ?_) (fun h49 => ?_)
 ·
  replace hS := it_t h49 hS
  refine Zq (Zr ?_)
  refine VL.q (q_field gfa245_0 rfl) (by decide) ?_
  refine VL.q (q_field gfa50_2 rfl) (by decide) ?_
  refine VL.q (q_fe gone9 rfl rfl) (by decide) ?_
  refine VL.q (q_field gfa50_2 rfl) (by decide) ?_
  refine VL.store (vc := [str theirs_2.file_data]) (cs' := [str ours_1.file_path, i64 y22_5, str theirs_2.file_data]) rfl rfl rfl gsz9 rfl rfl (Nat.le_of_ble_eq_true rfl) rfl ?_
  refine Zl ?_
  refine VC.keep [10, 12] rfl ?_
  refine Zq (Zr ?_)
  refine VL.q (q_fes gagg50 rfl rfl) (by decide) ?_
  refine VL.store (vc := [str ours_1.file_path, i64 y22_5, str theirs_2.file_data]) (cs' := [str ours_1.file_path, i64 y22_5, str theirs_2.file_data]) rfl rfl rfl gsz50 rfl rfl (Nat.le_of_ble_eq_true rfl) rfl ?_
  refine Za ?_
  refine Zl ?_
  cases hS
  exact VC.ret (finG (vs := [.agg #[str ours_1.file_path, i64 y22_5, str theirs_2.file_data], .bool false]) (.inr rfl) rfl (RVs.cell gagg50 rfl rfl Rd.blk (RVs.tmp rfl (RVs.nil))) () rfl trivial (by (try dsimp only); exact InM.out) (fun _ _ => trivial))
 replace hS := it_b h49 hS
 refine Zk ?_
 refine Zq (Zr ?_)
 refine VL.q (q_field gfa245_0 rfl) (by decide) ?_
 refine VL.q (q_field gfa50_2 rfl) (by decide) ?_
 refine VL.q (q_fe gone9 rfl rfl) (by decide) ?_
 refine VL.q (q_field gfa245_0 rfl) (by decide) ?_
 refine VL.q (q_field gfa50_2 rfl) (by decide) ?_
 refine VL.q (q_fe gone9 rfl rfl) (by decide) ?_
 refine VL.q (q_field gfa245_0 rfl) (by decide) ?_
 refine VL.q (q_field gfa50_2 rfl) (by decide) ?_
 refine VL.q (q_fe gone9 rfl rfl) (by decide) ?_
 refine Zm ?_
 refine Zm ?_
 obtain ⟨y78_11, ey78_11, hS⟩ := bd_s hS
 refine VL.callF (merge_Text_ct base_0.file_data ours_1.file_data theirs_2.file_data a_3 b_4 ey78_11) rfl (by decide) ?_
 rintro ⟨q78_11_0, q78_11_1, q78_11_2⟩ rfl
 try dsimp only
 refine Zm ?_
 refine VL.q (q_extract rfl rfl) (by decide) ?_
 refine VL.q (q_extract rfl rfl) (by decide) ?_
 refine VL.q (q_extract rfl rfl) (by decide) ?_
 refine Za ?_
 refine Za ?_
 refine Za ?_
 refine Zl ?_
 refine VC.keep [6, 10, 12, 13, 14, 15] rfl ?_
 refine Zq ?_
 refine VC.cutJ (S := Bool) (fun (x88_12 : Bool) => x88_12) (fun (x88_12 : Bool) => [(6, ptr b6_2 0), (10, ptr b10_4 0), (12, ptr b12_6 0), (13, str q78_11_0), (14, i64 q78_11_1), (88, .bool x88_12)]) (fun (x88_12 : Bool) => Mo.tt) (fun (x88_12 : Bool) => Ow.star (Blk b12_6 [str ours_1.file_path, i64 y22_5, str ours_1.file_data] 50) (Ow.star (Blk b10_4 [str [], i64 0, str []] 50) (Ow.star (Blk b7_3 [str theirs_2.file_path, i64 theirs_2.file_mode, str theirs_2.file_data, .bool theirs_2.is] 245) (Ow.star (Blk b6_2 [str ours_1.file_path, i64 ours_1.file_mode, str ours_1.file_data, .bool ours_1.is] 245) (Ow.star (Blk b5_1 [str base_0.file_path, i64 base_0.file_mode, str base_0.file_data, .bool base_0.is] 245) (Ow.emp)))))) hS ?_ ?_
 ·
  clear hS
  intro k13 hS
  refine Zr ?_
  refine Zm ?_
  refine VL.q (q_erne Tryz.underlying27 rfl) (by decide) ?_
  refine Zm ?_
  refine VL.split_ndec 84 rfl (fun h84 => ?_) (fun h84 => ?_)
  ·
   replace hS := it_f h84 hS
   refine Zn ?_
   refine Zn ?_
   refine Zn ?_
   refine Zt ?_
   refine VL.mt true [6, 10, 12, 13, 14, 88] (fun _ _ h => h) hS rfl
  replace hS := it_t h84 hS
  refine Zg ?_
  refine VL.gy rfl rfl (q_slen Tryz.underlying9 rfl) (by decide) ?_
  refine VL.gy rfl rfl (q_gtr rfl rfl) (by decide) ?_
  refine Zf ?_
  refine VL.mt (decide (4096 < (q78_11_0.length : Int))) [6, 10, 12, 13, 14, 88] (fun _ _ h => h) hS rfl
 clear hS
 rintro x88_12 hS
 show VC _ _ _ _ _ [(6, ptr b6_2 0), (10, ptr b10_4 0), (12, ptr b12_6 0), (13, str q78_11_0), (14, i64 q78_11_1), (88, .bool x88_12)] (Mo.and Mo.tt _) (Ow.star (Blk b12_6 [str ours_1.file_path, i64 y22_5, str ours_1.file_data] 50) (Ow.star (Blk b10_4 [str [], i64 0, str []] 50) (Ow.star (Blk b7_3 [str theirs_2.file_path, i64 theirs_2.file_mode, str theirs_2.file_data, .bool theirs_2.is] 245) (Ow.star (Blk b6_2 [str ours_1.file_path, i64 ours_1.file_mode, str ours_1.file_data, .bool ours_1.is] 245) (Ow.star (Blk b5_1 [str base_0.file_path, i64 base_0.file_mode, str base_0.file_data, .bool base_0.is] 245) (Ow.emp))))))
 refine VC.cond rfl (fun h88 => ?_) (fun h88 => ?_)
 ·
  replace hS := it_t h88 hS
  refine Zq (Zr ?_)
  refine VL.q (q_field gfa245_0 rfl) (by decide) ?_
  refine VL.q (q_field gfa50_0 rfl) (by decide) ?_
  refine VL.q (q_fe gone9 rfl rfl) (by decide) ?_
  refine VL.q (q_field gfa50_1 rfl) (by decide) ?_
  refine VL.q (q_fe gone3 rfl rfl) (by decide) ?_
  refine VL.q (q_field gfa245_0 rfl) (by decide) ?_
  refine VL.q (q_field gfa50_2 rfl) (by decide) ?_
  refine VL.q (q_fe gone9 rfl rfl) (by decide) ?_
  refine VL.q (q_build (vs := [(0, str ours_1.file_path), (1, i64 y22_5), (2, str ours_1.file_data)]) (cs := #[str ours_1.file_path, i64 y22_5, str ours_1.file_data]) rfl (by kernel_rfl)) (by decide) ?_
  refine VL.store (vc := [str ours_1.file_path, i64 y22_5, str ours_1.file_data]) (cs' := [str ours_1.file_path, i64 y22_5, str ours_1.file_data]) rfl rfl rfl gsz50 rfl rfl (Nat.le_of_ble_eq_true rfl) rfl ?_
  refine Za ?_
  refine Zl ?_
  refine VC.keep [10, 11] rfl ?_
  cases hS
  exact VC.ret (finG (vs := [.agg #[str ours_1.file_path, i64 y22_5, str ours_1.file_data], .bool true]) (.inr rfl) rfl (RVs.cell gagg50 rfl rfl Rd.blk (RVs.tmp rfl (RVs.nil))) () rfl trivial (by (try dsimp only); exact InM.out) (fun _ _ => trivial))
 replace hS := it_b h88 hS
 refine Zk ?_
 refine Zq (Zr ?_)
 refine Zm ?_
 refine VL.q (q_field gfa50_2 rfl) (by decide) ?_
 refine VL.store (vc := [str q78_11_0]) (cs' := [str ours_1.file_path, i64 y22_5, str q78_11_0]) rfl rfl rfl gsz9 rfl rfl (Nat.le_of_ble_eq_true rfl) rfl ?_
 refine Zl ?_
 refine Zq (Zr ?_)
 refine VL.q (q_fes gagg50 rfl rfl) (by decide) ?_
 refine Zm ?_
 refine VL.q (q_gtr rfl rfl) (by decide) ?_
 refine VL.store (vc := [str ours_1.file_path, i64 y22_5, str q78_11_0]) (cs' := [str ours_1.file_path, i64 y22_5, str q78_11_0]) rfl rfl rfl gsz50 rfl rfl (Nat.le_of_ble_eq_true rfl) rfl ?_
 refine Za ?_
 refine Zl ?_
 refine VC.keep [10, 11] rfl ?_
 cases hS
 exact VC.ret (finG (vs := [.agg #[str ours_1.file_path, i64 y22_5, str q78_11_0], .bool (decide (0 < q78_11_1))]) (.inr rfl) rfl (RVs.cell gagg50 rfl rfl Rd.blk (RVs.tmp rfl (RVs.nil))) () rfl trivial (by (try dsimp only); exact InM.out) (fun _ _ => trivial))
theorem tmerge_One_ct (p_0 : Str) (base_1 : Sv FilesFile) (ours_2 : Sv FilesFile) (theirs_3 : Sv FilesFile) (a_4 : Str) (b_5 : Str) {r : FilesFile × Bool × Bool} (hS : Sh.tmerge_One p_0 base_1.l ours_2.l theirs_3.l a_4 b_5 = some r) :
 Ct Tryz.prog 96 [str p_0, base_1.val, ours_2.val, theirs_3.val, str a_4, str b_5] (base_1.ok.and (ours_2.ok.and theirs_3.ok)) (Ow.emp) (X := Unit) (fun _ => .tuple #[.agg #[str r.1.path, i64 r.1.mode, str r.1.data], .bool r.2.1, .bool r.2.2]) (fun _ => True) (fun _ => Mo.tt) (fun _ => Ow.emp) := by
 refine Ct.of Tryz.func96 rfl (by kernel_rfl) Tryz.ntmps96 (by simp) fun c => ?_
 unfold Sh.tmerge_One at hS
 refine Zq (Zr ?_)
 refine VL.alloc (cs := [str [], i64 0, str []]) (by kernel_rfl) (by decide) fun b12_1 => ?_
 refine Za ?_
 refine Za ?_
 refine Zl ?_
 refine Zq (Zr ?_)
 refine Zm ?_
 refine Zm ?_
 obtain ⟨y20_2, ey20_2, hS⟩ := bd_s hS
 refine VL.q (q_call (tmerge_of_ct base_1 p_0 ey20_2) rfl (fun _ _ => rfl)) (by decide) ?_
 refine Zm ?_
 refine Zm ?_
 obtain ⟨y23_3, ey23_3, hS⟩ := bd_s hS
 refine VL.q (q_call (tmerge_of_ct ours_2 p_0 ey23_3) rfl (fun _ _ => rfl)) (by decide) ?_
 refine Zm ?_
 refine Zm ?_
 obtain ⟨y26_4, ey26_4, hS⟩ := bd_s hS
 refine VL.q (q_call (tmerge_of_ct theirs_3 p_0 ey26_4) rfl (fun _ _ => rfl)) (by decide) ?_
 refine VL.alloc (cs := [str [], i64 0, str [], .bool false]) (by kernel_rfl) (by decide) fun b15_5 => ?_
 refine VL.alloc (cs := [str [], i64 0, str [], .bool false]) (by kernel_rfl) (by decide) fun b16_6 => ?_
 refine VL.alloc (cs := [str [], i64 0, str [], .bool false]) (by kernel_rfl) (by decide) fun b17_7 => ?_
 refine VL.store (vc := [str y20_2.file_path, i64 y20_2.file_mode, str y20_2.file_data, .bool y20_2.is]) (cs' := [str y20_2.file_path, i64 y20_2.file_mode, str y20_2.file_data, .bool y20_2.is]) rfl rfl rfl gsz245 rfl rfl (Nat.le_of_ble_eq_true rfl) rfl ?_
 refine VL.store (vc := [str y23_3.file_path, i64 y23_3.file_mode, str y23_3.file_data, .bool y23_3.is]) (cs' := [str y23_3.file_path, i64 y23_3.file_mode, str y23_3.file_data, .bool y23_3.is]) rfl rfl rfl gsz245 rfl rfl (Nat.le_of_ble_eq_true rfl) rfl ?_
 refine VL.store (vc := [str y26_4.file_path, i64 y26_4.file_mode, str y26_4.file_data, .bool y26_4.is]) (cs' := [str y26_4.file_path, i64 y26_4.file_mode, str y26_4.file_data, .bool y26_4.is]) rfl rfl rfl gsz245 rfl rfl (Nat.le_of_ble_eq_true rfl) rfl ?_
 refine Zl ?_
 refine VC.keep [4, 5, 12, 15, 16, 17] rfl ?_
 refine Zq (Zb ?_)
 refine VC.cutJ (S := Bool) (fun (x27_8 : Bool) => x27_8) (fun (x27_8 : Bool) => [(4, str a_4), (5, str b_5), (12, ptr b12_1 0), (15, ptr b15_5 0), (16, ptr b16_6 0), (17, ptr b17_7 0), (27, .bool x27_8)]) (fun (x27_8 : Bool) => Mo.tt) (fun (x27_8 : Bool) => Ow.star (Blk b17_7 [str y26_4.file_path, i64 y26_4.file_mode, str y26_4.file_data, .bool y26_4.is] 245) (Ow.star (Blk b16_6 [str y23_3.file_path, i64 y23_3.file_mode, str y23_3.file_data, .bool y23_3.is] 245) (Ow.star (Blk b15_5 [str y20_2.file_path, i64 y20_2.file_mode, str y20_2.file_data, .bool y20_2.is] 245) (Ow.star (Blk b12_1 [str [], i64 0, str []] 50) (Ow.emp))))) hS ?_ ?_
 ·
  clear hS
  intro k9 hS
  refine Zr ?_
  refine VL.q (q_fes gagg245 rfl rfl) (by decide) ?_
  refine VL.q (q_fes gagg245 rfl rfl) (by decide) ?_
  refine VL.q (q_steql geqg245 (geqs245 y23_3.file_path y23_3.file_mode y23_3.file_data y23_3.is y26_4.file_path y26_4.file_mode y26_4.file_data y26_4.is) rfl rfl) (by decide) ?_
  refine Zm ?_
  refine VL.split_dec 31 rfl (fun h31 => ?_) (fun h31 => ?_)
  ·
   replace hS := it_t h31 hS
   refine Zn ?_
   refine Zn ?_
   refine Zn ?_
   refine Zt ?_
   refine Za ?_
   refine VL.mt true [4, 5, 12, 15, 16, 17, 27] (fun _ _ h => h) hS rfl
  replace hS := it_f h31 hS
  refine VL.gy rfl rfl (q_fes gagg245 rfl rfl) (by decide) ?_
  refine VL.gy rfl rfl (q_fes gagg245 rfl rfl) (by decide) ?_
  refine VL.gy rfl rfl (q_steql geqg245 (geqs245 y20_2.file_path y20_2.file_mode y20_2.file_data y20_2.is y26_4.file_path y26_4.file_mode y26_4.file_data y26_4.is) rfl rfl) (by decide) ?_
  refine Zf ?_
  refine Za ?_
  refine VL.mt (decide (y20_2.file_path = y26_4.file_path ∧ y20_2.file_mode = y26_4.file_mode ∧ y20_2.file_data = y26_4.file_data ∧ y20_2.is = y26_4.is)) [4, 5, 12, 15, 16, 17, 27] (fun _ _ h => h) hS rfl
 clear hS
 rintro x27_8 hS
 show VC _ _ _ _ _ [(4, str a_4), (5, str b_5), (12, ptr b12_1 0), (15, ptr b15_5 0), (16, ptr b16_6 0), (17, ptr b17_7 0), (27, .bool x27_8)] (Mo.and Mo.tt _) (Ow.star (Blk b17_7 [str y26_4.file_path, i64 y26_4.file_mode, str y26_4.file_data, .bool y26_4.is] 245) (Ow.star (Blk b16_6 [str y23_3.file_path, i64 y23_3.file_mode, str y23_3.file_data, .bool y23_3.is] 245) (Ow.star (Blk b15_5 [str y20_2.file_path, i64 y20_2.file_mode, str y20_2.file_data, .bool y20_2.is] 245) (Ow.star (Blk b12_1 [str [], i64 0, str []] 50) (Ow.emp)))))
 refine VC.cond rfl (fun h27 => ?_) (fun h27 => ?_)
 ·
  replace hS := it_t h27 hS
  refine Zq ?_
  refine VC.draw [(0, true), (1, true), (2, true), (3, true), (4, false), (5, true), (6, true)] mixed (by kernel_rfl) (by kernel_rfl) (by kernel_rfl) ?_
  refine VD.q rfl (q_field gfa245_0 rfl) (by decide) ?_
  refine VD.q rfl (q_fep (j := 0) (n := 3) gagg50 rfl rfl rfl) (by decide) ?_
  refine VD.q rfl (q_field gfa245_1 rfl) (by decide) ?_
  refine VD.q rfl (q_fe gone4 rfl rfl) (by decide) ?_
  refine VD.one rfl ?_
  refine VL.store (vc := [str y23_3.file_path, i64 y23_3.file_mode, str y23_3.file_data]) (cs' := [str y23_3.file_path, i64 y23_3.file_mode, str y23_3.file_data]) rfl rfl rfl gsz50 rfl rfl (Nat.le_of_ble_eq_true rfl) rfl ?_
  refine VL.back (D' := [(3, .bool y23_3.is), (2, ptr b16_6 3)]) (by kernel_rfl) (Pend.cons rfl (q_fe gone4 rfl rfl) (Pend.cons rfl (q_field gfa245_1 rfl) (Pend.nil))) ?_
  refine VD.q rfl (q_assign rfl) (by decide) ?_
  refine VD.q rfl (q_assign rfl) (by decide) ?_
  refine VD.to (fun _ _ h => h) ?_
  refine VC.keep [12, 13, 14] rfl ?_
  cases hS
  exact VC.ret (finG (vs := [.agg #[str y23_3.file_path, i64 y23_3.file_mode, str y23_3.file_data], .bool y23_3.is, .bool false]) (.inr rfl) rfl (RVs.cell gagg50 rfl rfl Rd.blk (RVs.tmp rfl (RVs.tmp rfl (RVs.nil)))) () rfl trivial (by (try dsimp only); exact InM.out) (fun _ _ => trivial))
 replace hS := it_b h27 hS
 refine Zq (Zr ?_)
 refine VL.q (q_fes gagg245 rfl rfl) (by decide) ?_
 refine VL.q (q_fes gagg245 rfl rfl) (by decide) ?_
 refine VL.q (q_steql geqg245 (geqs245 y20_2.file_path y20_2.file_mode y20_2.file_data y20_2.is y23_3.file_path y23_3.file_mode y23_3.file_data y23_3.is) rfl rfl) (by decide) ?_
 refine Za ?_
 refine Zl ?_
 refine VC.cond_dec rfl (fun h40 => ?_) (fun h40 => ?_)
 ·
  replace hS := it_t h40 hS
  refine Zq ?_
  refine VC.draw [(0, true), (1, true), (2, true), (3, true), (4, false), (5, true), (6, true)] mixed (by kernel_rfl) (by kernel_rfl) (by kernel_rfl) ?_
  refine VD.q rfl (q_field gfa245_0 rfl) (by decide) ?_
  refine VD.q rfl (q_fep (j := 0) (n := 3) gagg50 rfl rfl rfl) (by decide) ?_
  refine VD.q rfl (q_field gfa245_1 rfl) (by decide) ?_
  refine VD.q rfl (q_fe gone4 rfl rfl) (by decide) ?_
  refine VD.one rfl ?_
  refine VL.store (vc := [str y26_4.file_path, i64 y26_4.file_mode, str y26_4.file_data]) (cs' := [str y26_4.file_path, i64 y26_4.file_mode, str y26_4.file_data]) rfl rfl rfl gsz50 rfl rfl (Nat.le_of_ble_eq_true rfl) rfl ?_
  refine VL.back (D' := [(3, .bool y26_4.is), (2, ptr b17_7 3)]) (by kernel_rfl) (Pend.cons rfl (q_fe gone4 rfl rfl) (Pend.cons rfl (q_field gfa245_1 rfl) (Pend.nil))) ?_
  refine VD.q rfl (q_assign rfl) (by decide) ?_
  refine VD.q rfl (q_assign rfl) (by decide) ?_
  refine VD.to (fun _ _ h => h) ?_
  refine VC.keep [12, 13, 14] rfl ?_
  cases hS
  exact VC.ret (finG (vs := [.agg #[str y26_4.file_path, i64 y26_4.file_mode, str y26_4.file_data], .bool y26_4.is, .bool false]) (.inr rfl) rfl (RVs.cell gagg50 rfl rfl Rd.blk (RVs.tmp rfl (RVs.tmp rfl (RVs.nil)))) () rfl trivial (by (try dsimp only); exact InM.out) (fun _ _ => trivial))
 replace hS := it_f h40 hS
 refine VC.cutJ (S := Bool) (fun (x48_10 : Bool) => x48_10) (fun (x48_10 : Bool) => [(4, str a_4), (5, str b_5), (12, ptr b12_1 0), (15, ptr b15_5 0), (16, ptr b16_6 0), (17, ptr b17_7 0), (48, .bool x48_10)]) (fun (x48_10 : Bool) => Mo.tt) (fun (x48_10 : Bool) => Ow.star (Blk b17_7 [str y26_4.file_path, i64 y26_4.file_mode, str y26_4.file_data, .bool y26_4.is] 245) (Ow.star (Blk b16_6 [str y23_3.file_path, i64 y23_3.file_mode, str y23_3.file_data, .bool y23_3.is] 245) (Ow.star (Blk b15_5 [str y20_2.file_path, i64 y20_2.file_mode, str y20_2.file_data, .bool y20_2.is] 245) (Ow.star (Blk b12_1 [str [], i64 0, str []] 50) (Ow.emp))))) hS ?_ ?_
 ·
  clear hS
  intro k11 hS
  refine Zr ?_
  refine VL.q (q_field gfa245_1 rfl) (by decide) ?_
  refine VL.q (q_fe gone4 rfl rfl) (by decide) ?_
  refine Zm ?_
  refine VL.split 51 rfl (fun h51 => ?_) (fun h51 => ?_)
  ·
   replace hS := it_t h51 hS
   refine VL.gy rfl rfl (q_field gfa245_1 rfl) (by decide) ?_
   refine VL.gy rfl rfl (q_fe gone4 rfl rfl) (by decide) ?_
   refine Zt ?_
   refine Za ?_
   refine VL.mt y26_4.is [4, 5, 12, 15, 16, 17, 48] (fun _ _ h => h) hS rfl
  replace hS := it_b h51 hS
  refine Zn ?_
  refine Zn ?_
  refine Zf ?_
  refine Za ?_
  refine VL.mt false [4, 5, 12, 15, 16, 17, 48] (fun _ _ h => h) hS rfl
 clear hS
 rintro x48_10 hS
 show VC _ _ _ _ _ [(4, str a_4), (5, str b_5), (12, ptr b12_1 0), (15, ptr b15_5 0), (16, ptr b16_6 0), (17, ptr b17_7 0), (48, .bool x48_10)] (Mo.and Mo.tt _) (Ow.star (Blk b17_7 [str y26_4.file_path, i64 y26_4.file_mode, str y26_4.file_data, .bool y26_4.is] 245) (Ow.star (Blk b16_6 [str y23_3.file_path, i64 y23_3.file_mode, str y23_3.file_data, .bool y23_3.is] 245) (Ow.star (Blk b15_5 [str y20_2.file_path, i64 y20_2.file_mode, str y20_2.file_data, .bool y20_2.is] 245) (Ow.star (Blk b12_1 [str [], i64 0, str []] 50) (Ow.emp)))))
 refine VC.cond rfl (fun h48 => ?_) (fun h48 => ?_)
 ·
  replace hS := it_t h48 hS
  refine Zq (Zr ?_)
  refine VL.q (q_fes gagg245 rfl rfl) (by decide) ?_
  refine VL.q (q_fes gagg245 rfl rfl) (by decide) ?_
  refine VL.q (q_fes gagg245 rfl rfl) (by decide) ?_
  refine Zm ?_
  refine Zm ?_
  obtain ⟨y61_12, ey61_12, hS⟩ := bd_s hS
  refine VL.q (q_call (tmerge_both_ct y20_2 y23_3 y26_4 a_4 b_5 ey61_12) rfl (fun _ _ => rfl)) (by decide) ?_
  refine Zm ?_
  refine VL.q (q_extract rfl rfl) (by decide) ?_
  refine VL.q (q_extract rfl rfl) (by decide) ?_
  refine VL.store (vc := [str y61_12.1.path, i64 y61_12.1.mode, str y61_12.1.data]) (cs' := [str y61_12.1.path, i64 y61_12.1.mode, str y61_12.1.data]) rfl rfl rfl gsz50 rfl rfl (Nat.le_of_ble_eq_true rfl) rfl ?_
  refine Za ?_
  refine Zl ?_
  refine VC.keep [12, 14] rfl ?_
  refine Zq (Zr ?_)
  refine VL.q (q_fes gagg50 rfl rfl) (by decide) ?_
  refine Zm ?_
  refine VL.store (vc := [str y61_12.1.path, i64 y61_12.1.mode, str y61_12.1.data]) (cs' := [str y61_12.1.path, i64 y61_12.1.mode, str y61_12.1.data]) rfl rfl rfl gsz50 rfl rfl (Nat.le_of_ble_eq_true rfl) rfl ?_
  refine Za ?_
  refine Za ?_
  refine Zl ?_
  cases hS
  exact VC.ret (finG (vs := [.agg #[str y61_12.1.path, i64 y61_12.1.mode, str y61_12.1.data], .bool true, .bool y61_12.2]) (.inr rfl) rfl (RVs.cell gagg50 rfl rfl Rd.blk (RVs.tmp rfl (RVs.tmp rfl (RVs.nil)))) () rfl trivial (by (try dsimp only); exact InM.out) (fun _ _ => trivial))
 replace hS := it_b h48 hS
 refine Zq (Zr ?_)
 refine VL.q (q_field gfa245_1 rfl) (by decide) ?_
 refine VL.q (q_fe gone4 rfl rfl) (by decide) ?_
 refine Za ?_
 refine Zl ?_
 refine VC.cond rfl (fun h66 => ?_) (fun h66 => ?_)
 ·
  replace hS := it_t h66 hS
  refine Zq (Zr ?_)
  refine VL.q (q_field gfa245_0 rfl) (by decide) ?_
  refine VL.q (q_fep (j := 0) (n := 3) gagg50 rfl rfl rfl) (by decide) ?_
  refine VL.store (vc := [str y23_3.file_path, i64 y23_3.file_mode, str y23_3.file_data]) (cs' := [str y23_3.file_path, i64 y23_3.file_mode, str y23_3.file_data]) rfl rfl rfl gsz50 rfl rfl (Nat.le_of_ble_eq_true rfl) rfl ?_
  refine Za ?_
  refine Za ?_
  refine Zl ?_
  refine VC.keep [12, 13, 14] rfl ?_
  cases hS
  exact VC.ret (finG (vs := [.agg #[str y23_3.file_path, i64 y23_3.file_mode, str y23_3.file_data], .bool true, .bool true]) (.inr rfl) rfl (RVs.cell gagg50 rfl rfl Rd.blk (RVs.tmp rfl (RVs.tmp rfl (RVs.nil)))) () rfl trivial (by (try dsimp only); exact InM.out) (fun _ _ => trivial))
 replace hS := it_b h66 hS
 refine Zk ?_
 refine Zq (Zr ?_)
 refine VL.q (q_field gfa245_0 rfl) (by decide) ?_
 refine VL.q (q_fep (j := 0) (n := 3) gagg50 rfl rfl rfl) (by decide) ?_
 refine VL.store (vc := [str y26_4.file_path, i64 y26_4.file_mode, str y26_4.file_data]) (cs' := [str y26_4.file_path, i64 y26_4.file_mode, str y26_4.file_data]) rfl rfl rfl gsz50 rfl rfl (Nat.le_of_ble_eq_true rfl) rfl ?_
 refine Za ?_
 refine Za ?_
 refine Zl ?_
 refine VC.keep [12, 13, 14] rfl ?_
 cases hS
 exact VC.ret (finG (vs := [.agg #[str y26_4.file_path, i64 y26_4.file_mode, str y26_4.file_data], .bool true, .bool true]) (.inr rfl) rfl (RVs.cell gagg50 rfl rfl Rd.blk (RVs.tmp rfl (RVs.tmp rfl (RVs.nil)))) () rfl trivial (by (try dsimp only); exact InM.out) (fun _ _ => trivial))
theorem tmerge_stages_ct (p_0 : Str) (rows_1 : Sv (Sv FilesFile)) {r : List IndexEntry} (hS : Sh.tmerge_stages p_0 (rows_1.l.map Sv.l) = some r) :
 Ct Tryz.prog 98 [str p_0, rows_1.val] rows_1.ok (Ow.emp) (X := Sv IndexEntry) (fun x => x.val) (fun x => r = x.l) (fun x => Mo.tt) (fun x => Sv.own x 83) := by
 refine Ct.of Tryz.func98 rfl (by kernel_rfl) Tryz.ntmps98 (by simp) fun c => ?_
 unfold Sh.tmerge_stages at hS
 refine Zq (Zr ?_)
 refine Za ?_
 refine Zl ?_
 refine Zq (Zr ?_)
 refine Za ?_
 refine Zl ?_
 refine Zq (Zq (Zr ?_))
 refine Zm ?_
 refine VL.q (q_lnm Sv.l (s := rows_1) Tryz.underlying81 rfl) (by decide) ?_
 refine Zm ?_
 refine Zl ?_
 refine Zb ?_
 refine VC.nilO (⟨none, 0, []⟩ : Sv IndexEntry) 83 ⟨rfl, rfl⟩ ?_
 refine VC.iter (S := Sv IndexEntry × Int) (fun sg => (sg.1.l, sg.2)) (fun sg => [(0, str p_0), (5, sg.1.val), (10, rows_1.val), (11, i64 ((rows_1.l.map Sv.l).length : Int)), (12, i64 sg.2)]) (fun sg => Mo.tt) (fun sg => Ow.star (Sv.own sg.1 83) (Ow.emp)) (⟨none, 0, []⟩, 0) [0, 5, 10, 11, 12] hS rfl ?_
 clear hS
 rintro ⟨out5_1, x12_2⟩ m1 y1 hS hK1
 show VC _ _ _ _ _ [(0, str p_0), (5, out5_1.val), (10, rows_1.val), (11, i64 ((rows_1.l.map Sv.l).length : Int)), (12, i64 x12_2)] (Mo.and Mo.tt _) (Ow.star (Sv.own out5_1 83) (Ow.emp))
 refine Zq (Zr ?_)
 refine VL.q (q_lss rfl rfl) (by decide) ?_
 refine Zl ?_
 refine Zq ?_
 refine VC.cond_dec rfl (fun h13 => ?_) (fun h13 => ?_)
 ·
  replace hS := it_t h13 hS
  refine Zk ?_
  refine Zq (Zb (Zq (Zr ?_)))
  refine Zm ?_
  obtain ⟨z15_3, nz15_3, hz15_3, hS⟩ := atm_s hS
  refine VL.deep z15_3.ok hz15_3 (fun _ q => q) ?_
  refine VL.q (q_ixm (s := rows_1) Tryz.underlying81 gsz23 rfl rfl nz15_3 (lt_of_get nz15_3 hz15_3)) (by decide) ?_
  refine VL.q (q_el (s := rows_1) gone23 rfl hz15_3 rfl) (by decide) ?_
  refine Za ?_
  refine Za ?_
  refine Zl ?_
  refine Zq (Zr ?_)
  refine Zm ?_
  refine Zm ?_
  obtain ⟨y20_4, ey20_4, hS⟩ := bd_s hS
  refine VL.q (q_call (files_Row_Get_ct z15_3 p_0 ey20_4) rfl (fun _ _ => rfl)) (by decide) ?_
  refine Zm ?_
  refine VL.q (q_extract rfl rfl) (by decide) ?_
  refine VL.q (q_extract rfl rfl) (by decide) ?_
  refine VL.alloc (cs := [str [], i64 0, str []]) (by kernel_rfl) (by decide) fun b8_5 => ?_
  refine VL.store (vc := [str y20_4.1.path, i64 y20_4.1.mode, str y20_4.1.data]) (cs' := [str y20_4.1.path, i64 y20_4.1.mode, str y20_4.1.data]) rfl rfl rfl gsz50 rfl rfl (Nat.le_of_ble_eq_true rfl) rfl ?_
  refine Za ?_
  refine Zl ?_
  refine VC.keep [0, 5, 10, 11, 12, 6, 8, 9] rfl ?_
  refine Zq (Zr ?_)
  refine Zm ?_
  refine Zl ?_
  refine VC.cond rfl (fun h23 => ?_) (fun h23 => ?_)
  ·
   replace hS := it_t h23 hS
   refine Zr ?_
   refine Zm ?_
   refine Zm ?_
   refine Zm ?_
   obtain ⟨b27, hS⟩ := gd_s hS
   refine VL.q (q_add rfl rfl b27) (by decide) ?_
   refine VL.q (q_field gfa50_1 rfl) (by decide) ?_
   refine VL.q (q_fe gone3 rfl rfl) (by decide) ?_
   refine VL.q (q_field gfa50_2 rfl) (by decide) ?_
   refine VL.q (q_fe gone9 rfl rfl) (by decide) ?_
   refine VL.q (q_build (vs := [(0, str p_0), (1, i64 (x12_2 + 1)), (2, i64 y20_4.1.mode), (3, str y20_4.1.data)]) (cs := #[str p_0, i64 (x12_2 + 1), i64 y20_4.1.mode, str y20_4.1.data, i64 0, i64 0]) rfl (by kernel_rfl)) (by decide) ?_
   refine VL.lit (α := IndexEntry) (xs := [.tmp 32]) (vs := [.agg #[str p_0, i64 (x12_2 + 1), i64 y20_4.1.mode, str y20_4.1.data, i64 0, i64 0]]) [⟨p_0, (x12_2 + 1), y20_4.1.mode, y20_4.1.data, 0, 0⟩] Tryz.underlying29 glit83 (by decide) rfl rfl rfl rfl (by decide) (fun _ _ _ _ => trivial) (by decide) (fun s33_6 hs33_6 => ?_) (by decide)
   replace hS := lt_to hs33_6 hS
   obtain ⟨b34, hS⟩ := gd_s hS
   refine VL.app (s := out5_1) (r := s33_6) Tryz.underlying29 gapp83 (by decide) rfl Fo.out (ap1 b34) (ap2 b34 (by decide)) (by decide) (fun s34_8 hs34_8 => ?_)
   replace hS := lt_to hs34_8 hS
   refine Za ?_
   refine Zl ?_
   refine VC.keep [0, 5, 10, 11, 12] rfl ?_
   refine Zr ?_
   obtain ⟨b35, hS⟩ := gd_s hS
   refine VL.q (q_add rfl rfl b35) (by decide) ?_
   refine Zm ?_
   refine VL.rnd (s34_8, (x12_2 + 1)) [0, 5, 10, 11, 12] (fun _ _ h => h) (go2 hS hK1) rfl
  replace hS := it_b h23 hS
  refine Zk ?_
  refine Zr ?_
  obtain ⟨b35, hS⟩ := gd_s hS
  refine VL.q (q_add rfl rfl b35) (by decide) ?_
  refine Zm ?_
  refine VL.rnd (out5_1, (x12_2 + 1)) [0, 5, 10, 11, 12] (fun _ _ h => h) (go2 hS hK1) rfl
 replace hS := it_f h13 hS
 replace hS := up2 hS hK1
 refine Zx ?_
 refine Zq (Zr ?_)
 refine Zm ?_
 refine Za ?_
 refine Zl ?_
 cases hS
 exact VC.ret (fin1 (.inr rfl) rfl rfl out5_1 rfl rfl (by (try dsimp only); exact InM.out) (by (try dsimp only); exact EntO.out))
theorem tmerge_fault_1_ct (g_0 : FilesFile) (a_1_b : Nat) (a_1 : FilesFile) {r : Bool} (hS : Sh.tmerge_fault_1 g_0 a_1 = some r) :
 Ct Tryz.prog 182 [.agg #[str g_0.path, i64 g_0.mode, str g_0.data], ptr a_1_b 0] (Cells a_1_b 0 [str a_1.path, i64 a_1.mode, str a_1.data]) (Ow.emp) (X := Unit) (fun _ => .bool r) (fun _ => True) (fun _ => Mo.tt) (fun _ => Ow.emp) := by
 refine Ct.of Tryz.func182 rfl (by kernel_rfl) Tryz.ntmps182 (by simp) fun c => ?_
 unfold Sh.tmerge_fault_1 at hS
 refine Zq (Zr ?_)
 refine VL.box (cs := [str g_0.path, i64 g_0.mode, str g_0.data]) rfl rfl (by decide) fun b2_1 => ?_
 refine Za ?_
 refine Zl ?_
 refine Zq (Zr ?_)
 refine VL.q (q_field gfa50_0 rfl) (by decide) ?_
 refine VL.q (q_fe gone9 rfl rfl) (by decide) ?_
 refine VL.q (q_field gfa50_0 rfl) (by decide) ?_
 refine VL.q (q_fm gone9 rfl rfl) (by decide) ?_
 obtain ⟨y8_2, ey8_2, hS⟩ := bd_s hS
 refine VL.q (q_call (path_Clash_ct g_0.path a_1.path ey8_2) rfl (fun _ _ => rfl)) (by decide) ?_
 refine Za ?_
 refine Zl ?_
 cases hS
 exact Ze
theorem slices_IndexFunc_files_Row_files_File_v2_ct (s_0 : Sv FilesFile) (f_1_0_b : Nat) (f_1_0 : FilesFile) {r : Int} (hS : Sh.slices_IndexFunc_files_Row_files_File_v2 s_0.l f_1_0 = some r) :
 Ct Tryz.prog 216 [s_0.val, .func (.func 182) #[] #[ptr f_1_0_b 0]] (s_0.ok.and (Cells f_1_0_b 0 [str f_1_0.path, i64 f_1_0.mode, str f_1_0.data])) (Ow.emp) (X := Unit) (fun _ => i64 r) (fun _ => True) (fun _ => Mo.tt) (fun _ => Ow.emp) := by
 refine Ct.of Tryz.func216 rfl (by kernel_rfl) Tryz.ntmps216 (by simp) fun c => ?_
 unfold Sh.slices_IndexFunc_files_Row_files_File_v2 at hS
 refine Zq (Zr ?_)
 refine Za ?_
 refine Zl ?_
 refine Zq (Zq (Zr ?_))
 refine Zm ?_
 refine VL.q (q_ln (s := s_0) Tryz.underlying23 rfl) (by decide) ?_
 refine Zm ?_
 refine Zl ?_
 refine Zb ?_
 refine VC.iter (S := Int) (fun (x8_1 : Int) => x8_1) (fun (x8_1 : Int) => [(0, s_0.val), (1, .func (.func 182) #[] #[ptr f_1_0_b 0]), (7, i64 (s_0.l.length : Int)), (8, i64 x8_1)]) (fun (x8_1 : Int) => Mo.tt) (fun (x8_1 : Int) => Ow.emp) 0 [0, 1, 7, 8] hS rfl ?_
 clear hS
 rintro x8_1 m1 y1 hS hK1
 show VC _ _ _ _ _ [(0, s_0.val), (1, .func (.func 182) #[] #[ptr f_1_0_b 0]), (7, i64 (s_0.l.length : Int)), (8, i64 x8_1)] (Mo.and Mo.tt _) (Ow.emp)
 refine Zq (Zr ?_)
 refine VL.q (q_lss rfl rfl) (by decide) ?_
 refine Zl ?_
 refine Zq ?_
 refine VC.cond_dec rfl (fun h9 => ?_) (fun h9 => ?_)
 ·
  replace hS := it_t h9 hS
  refine Zk ?_
  refine Zq (Zb (Zq (Zr ?_)))
  refine Zm ?_
  refine Za ?_
  refine Zl ?_
  refine Zq (Zr ?_)
  refine Zm ?_
  refine Zm ?_
  refine Zm ?_
  obtain ⟨z14_2, nz14_2, hz14_2, hS⟩ := at_s hS
  refine VL.q (q_ixm (s := s_0) Tryz.underlying23 gsz50 rfl rfl nz14_2 (lt_of_get nz14_2 hz14_2)) (by decide) ?_
  refine VL.q (q_els (s := s_0) gagg50 rfl rfl hz14_2) (by decide) ?_
  obtain ⟨y16_3, ey16_3, hS⟩ := bd_s hS
  refine VL.q (q_callVC (vs := [.agg #[str z14_2.path, i64 z14_2.mode, str z14_2.data]]) (caps := [ptr f_1_0_b 0]) (tmerge_fault_1_ct z14_2 f_1_0_b f_1_0 ey16_3) rfl rfl (fun _ _ => rfl)) (by decide) ?_
  refine Zl ?_
  refine VC.keep [0, 1, 7, 8, 5, 16] rfl ?_
  refine VC.cond rfl (fun h16 => ?_) (fun h16 => ?_)
  ·
   replace hS := it_t h16 hS
   refine Zq (Zr ?_)
   refine Zm ?_
   refine Za ?_
   refine Zl ?_
   replace hS := up2 hS hK1
   cases hS
   exact Ze
  replace hS := it_b h16 hS
  refine Zk ?_
  refine Zr ?_
  obtain ⟨b18, hS⟩ := gd_s hS
  refine VL.q (q_add rfl rfl b18) (by decide) ?_
  refine Zm ?_
  refine VL.rnd (x8_1 + 1) [0, 1, 7, 8] (fun _ _ h => h) (go2 hS hK1) rfl
 replace hS := it_f h9 hS
 replace hS := up2 hS hK1
 refine Zx ?_
 refine Zq (Zr ?_)
 refine Za ?_
 refine Zl ?_
 cases hS
 exact Ze
theorem slices_ContainsFunc_files_Row_files_File_v2_ct (s_0 : Sv FilesFile) (f_1_0_b : Nat) (f_1_0 : FilesFile) {r : Bool} (hS : Sh.slices_ContainsFunc_files_Row_files_File_v2 s_0.l f_1_0 = some r) :
 Ct Tryz.prog 136 [s_0.val, .func (.func 182) #[] #[ptr f_1_0_b 0]] (s_0.ok.and (Cells f_1_0_b 0 [str f_1_0.path, i64 f_1_0.mode, str f_1_0.data])) (Ow.emp) (X := Unit) (fun _ => .bool r) (fun _ => True) (fun _ => Mo.tt) (fun _ => Ow.emp) := by
 refine Ct.of Tryz.func136 rfl (by kernel_rfl) Tryz.ntmps136 (by simp) fun c => ?_
 unfold Sh.slices_ContainsFunc_files_Row_files_File_v2 at hS
 refine Zq (Zr ?_)
 refine Za ?_
 refine Zl ?_
 refine Zq (Zr ?_)
 refine Zm ?_
 refine Zm ?_
 obtain ⟨y7_1, ey7_1, hS⟩ := bd_s hS
 refine VL.q (q_callR (slices_IndexFunc_files_Row_files_File_v2_ct s_0 f_1_0_b f_1_0 ey7_1) rfl (fun _ _ => rfl)) (by decide) ?_
 refine VL.q (q_geq rfl rfl) (by decide) ?_
 refine Za ?_
 refine Zl ?_
 cases hS
 exact Ze
theorem tmerge_fault_ct (r_0 : Sv FilesFile) {r : Err} (hS : Sh.tmerge_fault r_0.l = some r) :
 Ct Tryz.prog 99 [r_0.val] r_0.ok (Ow.emp) (X := Er) (fun x => x.val) (fun x => r = x.pl) (fun x => x.ok) (fun x => Ow.emp) := by
 refine Ct.of Tryz.func99 rfl (by kernel_rfl) Tryz.ntmps99 (by simp) fun c => ?_
 unfold Sh.tmerge_fault at hS
 refine Zq (Zr ?_)
 refine Za ?_
 refine Zl ?_
 refine Zq (Zq (Zr ?_))
 refine Zm ?_
 refine VL.q (q_ln (s := r_0) Tryz.underlying23 rfl) (by decide) ?_
 refine VL.q (q_gtr rfl rfl) (by decide) ?_
 refine Zl ?_
 refine VC.cond_dec rfl (fun h7 => ?_) (fun h7 => ?_)
 ·
  replace hS := it_t h7 hS
  refine Zq (Zr ?_)
  refine VL.q (q_mkif Tryz.underlying105 (fun _ h => by cases h) rfl) (by decide) ?_
  refine VL.q (q_build (vs := [(0, str [102, 105, 108, 101]), (1, i64 64), (2, (Er.no 4).val)]) (cs := #[str [102, 105, 108, 101], i64 64, (Er.no 4).val]) rfl (by kernel_rfl)) (by decide) ?_
  refine VL.box (cs := [str [102, 105, 108, 101], i64 64, (Er.no 4).val]) rfl rfl (by decide) fun b10_1 => ?_
  refine VL.shutB b10_1 ?_
  refine VL.q (q_mkif Tryz.underlying104 (fun _ h => by cases h) rfl) (by decide) ?_
  refine Za ?_
  refine Zl ?_
  cases hS
  exact VC.ret (fin1 (.inr rfl) rfl rfl (Er.fault b10_1 [102, 105, 108, 101] 64 (Er.no 4)) rfl rfl (by (try dsimp only); exact InM.out) (fun _ _ => trivial))
 replace hS := it_f h7 hS
 refine Zk ?_
 refine Zq (Zq (Zr ?_))
 refine Zm ?_
 refine VL.q (q_ln (s := r_0) Tryz.underlying23 rfl) (by decide) ?_
 refine Zm ?_
 refine Zl ?_
 refine Zb ?_
 refine VC.iter (S := Int) (fun (x14_2 : Int) => x14_2) (fun (x14_2 : Int) => [(0, r_0.val), (12, r_0.val), (13, i64 (r_0.l.length : Int)), (14, i64 x14_2)]) (fun (x14_2 : Int) => Mo.tt) (fun (x14_2 : Int) => Ow.emp) 0 [0, 12, 13, 14] hS rfl ?_
 clear hS
 rintro x14_2 m1 y1 hS hK1
 show VC _ _ _ _ _ [(0, r_0.val), (12, r_0.val), (13, i64 (r_0.l.length : Int)), (14, i64 x14_2)] (Mo.and Mo.tt _) (Ow.emp)
 refine Zq (Zr ?_)
 refine VL.q (q_lss rfl rfl) (by decide) ?_
 refine Zl ?_
 refine Zq ?_
 refine VC.cond_dec rfl (fun h15 => ?_) (fun h15 => ?_)
 ·
  replace hS := it_t h15 hS
  refine Zk ?_
  refine Zq (Zb (Zq (Zr ?_)))
  refine Zm ?_
  obtain ⟨z17_3, nz17_3, hz17_3, hS⟩ := at_s hS
  refine VL.q (q_ixm (s := r_0) Tryz.underlying23 gsz50 rfl rfl nz17_3 (lt_of_get nz17_3 hz17_3)) (by decide) ?_
  refine VL.q (q_els (s := r_0) gagg50 rfl rfl hz17_3) (by decide) ?_
  refine VL.alloc (cs := [str [], i64 0, str []]) (by kernel_rfl) (by decide) fun b4_4 => ?_
  refine Za ?_
  refine VL.store (vc := [str z17_3.path, i64 z17_3.mode, str z17_3.data]) (cs' := [str z17_3.path, i64 z17_3.mode, str z17_3.data]) rfl rfl rfl gsz50 rfl rfl (Nat.le_of_ble_eq_true rfl) rfl ?_
  refine Zl ?_
  refine Zq (Zr ?_)
  refine Zm ?_
  refine Zm ?_
  obtain ⟨b21, hS⟩ := gd_s hS
  refine VL.sto Tryz.underlying23 gsz50 rfl rfl b21.1 (b21.2) (by decide) fun s21_5 hs21_5 => ?_
  replace hS := lt_to hs21_5 hS
  refine VL.q (q_mkfn rfl) (by decide) ?_
  obtain ⟨y23_7, ey23_7, hS⟩ := bd_s hS
  refine VL.q (q_callR (slices_ContainsFunc_files_Row_files_File_v2_ct s21_5 b4_4 z17_3 ey23_7) rfl (fun _ _ => rfl)) (by decide) ?_
  refine Zl ?_
  refine VC.keep [0, 12, 13, 14, 3, 23] rfl ?_
  refine VC.cond rfl (fun h23 => ?_) (fun h23 => ?_)
  ·
   replace hS := it_t h23 hS
   refine Zq (Zr ?_)
   refine Zm ?_
   refine VL.q (q_mkif Tryz.underlying105 (fun _ h => by cases h) rfl) (by decide) ?_
   refine VL.q (q_build (vs := [(0, str [102, 105, 108, 101]), (1, i64 x14_2), (2, (Er.no 11).val)]) (cs := #[str [102, 105, 108, 101], i64 x14_2, (Er.no 11).val]) rfl (by kernel_rfl)) (by decide) ?_
   refine VL.box (cs := [str [102, 105, 108, 101], i64 x14_2, (Er.no 11).val]) rfl rfl (by decide) fun b27_8 => ?_
   refine VL.shutB b27_8 ?_
   refine VL.q (q_mkif Tryz.underlying104 (fun _ h => by cases h) rfl) (by decide) ?_
   refine Za ?_
   refine Zl ?_
   refine VC.keep [2] rfl ?_
   replace hS := up2 hS hK1
   cases hS
   exact VC.ret (fin1 (.inr rfl) rfl rfl (Er.fault b27_8 [102, 105, 108, 101] x14_2 (Er.no 11)) rfl rfl (by (try dsimp only); exact InM.out) (fun _ _ => trivial))
  replace hS := it_b h23 hS
  refine Zk ?_
  refine Zr ?_
  obtain ⟨b29, hS⟩ := gd_s hS
  refine VL.q (q_add rfl rfl b29) (by decide) ?_
  refine Zm ?_
  refine VL.rnd (x14_2 + 1) [0, 12, 13, 14] (fun _ _ h => h) (go2 hS hK1) rfl
 replace hS := it_f h15 hS
 replace hS := up2 hS hK1
 refine Zx ?_
 refine Zq (Zr ?_)
 refine Za ?_
 refine Zl ?_
 cases hS
 exact VC.ret (fin1 (.inr rfl) rfl rfl .nil rfl rfl (by (try dsimp only); exact InM.out) (fun _ _ => trivial))
theorem slices_Clip_files_Row_files_File_ct (s_0 : Sv FilesFile) {r : List FilesFile} (hS : Sh.slices_Clip_files_Row_files_File s_0.l = some r) :
 Ct Tryz.prog 55 [s_0.val] s_0.ok (Ow.emp) (X := Sv FilesFile) (fun x => x.val) (fun x => r = x.l) (fun x => x.ok) (fun x => Ow.emp) := by
 refine Ct.of Tryz.func55 rfl (by kernel_rfl) Tryz.ntmps55 (by simp) fun c => ?_
 unfold Sh.slices_Clip_files_Row_files_File at hS
 refine Zq (Zr ?_)
 refine Za ?_
 refine Zl ?_
 refine Zq (Zr ?_)
 refine Zm ?_
 refine Zm ?_
 refine VL.q (q_ln (s := s_0) Tryz.underlying23 rfl) (by decide) ?_
 refine Zm ?_
 refine VL.q (q_ln (s := s_0) Tryz.underlying23 rfl) (by decide) ?_
 obtain ⟨b8, hS⟩ := gd_s hS
 refine VL.stom Tryz.underlying23 gsz50 rfl rfl rfl b8.1 (b8.2) (by decide) fun s8_1 hs8_1 => ?_
 replace hS := lt_to hs8_1 hS
 refine Za ?_
 refine Zl ?_
 cases hS
 exact VC.ret (fin1 (.inr rfl) rfl rfl s8_1 rfl rfl (by (try dsimp only); exact InM.out) (fun _ _ => trivial))
theorem slices_Clip_index_Entry_index_Entry_ct (s_0 : Sv IndexEntry) {r : List IndexEntry} (hS : Sh.slices_Clip_index_Entry_index_Entry s_0.l = some r) :
 Ct Tryz.prog 53 [s_0.val] s_0.ok (Ow.emp) (X := Sv IndexEntry) (fun x => x.val) (fun x => r = x.l) (fun x => x.ok) (fun x => Ow.emp) := by
 refine Ct.of Tryz.func53 rfl (by kernel_rfl) Tryz.ntmps53 (by simp) fun c => ?_
 unfold Sh.slices_Clip_index_Entry_index_Entry at hS
 refine Zq (Zr ?_)
 refine Za ?_
 refine Zl ?_
 refine Zq (Zr ?_)
 refine Zm ?_
 refine Zm ?_
 refine VL.q (q_ln (s := s_0) Tryz.underlying29 rfl) (by decide) ?_
 refine Zm ?_
 refine VL.q (q_ln (s := s_0) Tryz.underlying29 rfl) (by decide) ?_
 obtain ⟨b8, hS⟩ := gd_s hS
 refine VL.stom Tryz.underlying29 gsz83 rfl rfl rfl b8.1 (b8.2) (by decide) fun s8_1 hs8_1 => ?_
 replace hS := lt_to hs8_1 hS
 refine Za ?_
 refine Zl ?_
 cases hS
 exact VC.ret (fin1 (.inr rfl) rfl rfl s8_1 rfl rfl (by (try dsimp only); exact InM.out) (fun _ _ => trivial))
theorem tmerge_Merge_ct (base_0 : Sv FilesFile) (ours_1 : Sv FilesFile) (theirs_2 : Sv FilesFile) (a_3 : Str) (b_4 : Str) {r : TmergeResultP × Err} (hS : Sh.tmerge_Merge base_0.l ours_1.l theirs_2.l a_3 b_4 = some r) :
 Ct Tryz.prog 35 [base_0.val, ours_1.val, theirs_2.val, str a_3, str b_4] (base_0.ok.and (ours_1.ok.and theirs_2.ok)) (Ow.emp) (X := TmergeResult × Er) (fun x => .tuple #[.agg (Dat.enc x.1).toArray, x.2.val]) (fun x => r = (x.1.pl, x.2.pl)) (fun x => (x.1.m.and x.2.ok)) (fun x => Ow.emp) := by
 refine Ct.of Tryz.func35 rfl (by kernel_rfl) Tryz.ntmps35 (by simp) fun c => ?_
 unfold Sh.tmerge_Merge at hS
 refine Zq (Zr ?_)
 refine VL.alloc (cs := [.slice none 0 0, .slice none 0 0, .slice none 0 0]) (by kernel_rfl) (by decide) fun b10_1 => ?_
 refine Za ?_
 refine Zl ?_
 refine Zq (Zq (Zr ?_))
 refine Zm ?_
 refine Zm ?_
 refine Zm ?_
 refine VL.lit (α := Sv FilesFile) (xs := [.tmp 22, .tmp 23, .tmp 24]) (vs := [base_0.val, ours_1.val, theirs_2.val]) [base_0, ours_1, theirs_2] Tryz.underlying81 glit23 (by decide) rfl rfl rfl rfl (by decide) (fun h m => List.forall_mem_cons.2 ⟨InM.out (X := base_0.ok) h m, List.forall_mem_cons.2 ⟨InM.out (X := ours_1.ok) h m, List.forall_mem_cons.2 ⟨InM.out (X := theirs_2.ok) h m, fun _ h => by cases h⟩⟩⟩) (by decide) (fun s25_2 hs25_2 => ?_) (by decide)
 replace hS := lt_to (congrArg (List.map Sv.l) hs25_2) hS
 refine VL.q (q_lnm Sv.l (s := s25_2) Tryz.underlying81 rfl) (by decide) ?_
 refine Zm ?_
 refine Zl ?_
 refine Zb ?_
 refine VC.iter (S := Int) (fun (x27_4 : Int) => x27_4) (fun (x27_4 : Int) => [(0, base_0.val), (1, ours_1.val), (2, theirs_2.val), (3, str a_3), (4, str b_4), (10, ptr b10_1 0), (25, s25_2.val), (26, i64 ((s25_2.l.map Sv.l).length : Int)), (27, i64 x27_4)]) (fun (x27_4 : Int) => Mo.tt) (fun (x27_4 : Int) => Ow.star (Blk b10_1 [.slice none 0 0, .slice none 0 0, .slice none 0 0] 34) (Ow.emp)) 0 [0, 1, 2, 3, 4, 10, 25, 26, 27] hS rfl ?_
 clear hS
 rintro x27_4 m1 y1 hS hK1
 show VC _ _ _ _ _ [(0, base_0.val), (1, ours_1.val), (2, theirs_2.val), (3, str a_3), (4, str b_4), (10, ptr b10_1 0), (25, s25_2.val), (26, i64 ((s25_2.l.map Sv.l).length : Int)), (27, i64 x27_4)] (Mo.and Mo.tt _) (Ow.star (Blk b10_1 [.slice none 0 0, .slice none 0 0, .slice none 0 0] 34) (Ow.emp))
 refine Zq (Zr ?_)
 refine VL.q (q_lss rfl rfl) (by decide) ?_
 refine Zl ?_
 refine Zq ?_
 refine VC.cond_dec rfl (fun h28 => ?_) (fun h28 => ?_)
 ·
  replace hS := it_t h28 hS
  refine Zk ?_
  refine Zq (Zb (Zq (Zr ?_)))
  obtain ⟨z29_5, nz29_5, hz29_5, hS⟩ := atm_s hS
  refine VL.deep z29_5.ok hz29_5 (fun _ q => q) ?_
  refine VL.q (q_ixm (s := s25_2) Tryz.underlying81 gsz23 rfl rfl nz29_5 (lt_of_get nz29_5 hz29_5)) (by decide) ?_
  refine VL.q (q_el (s := s25_2) gone23 rfl hz29_5 rfl) (by decide) ?_
  refine Za ?_
  refine Zl ?_
  refine Zq (Zr ?_)
  refine Zm ?_
  obtain ⟨y32_6, ey32_6, hS⟩ := bd_s hS
  refine VL.callF (files_Row_Check_ct z29_5 ey32_6) rfl (by decide) ?_
  rintro q32_6_0 rfl
  try dsimp only
  refine Za ?_
  refine Zl ?_
  refine Zq (Zr ?_)
  refine Zm ?_
  refine VL.q (q_erne Tryz.underlying27 rfl) (by decide) ?_
  refine Zl ?_
  refine VC.keep [0, 1, 2, 3, 4, 10, 25, 26, 27, 14, 34] rfl ?_
  refine VC.cond_ndec rfl (fun h34 => ?_) (fun h34 => ?_)
  ·
   replace hS := it_f h34 hS
   refine Zq (Zr ?_)
   refine VL.q (q_build (vs := []) (cs := #[.slice none 0 0, .slice none 0 0, .slice none 0 0]) rfl (by kernel_rfl)) (by decide) ?_
   refine Zm ?_
   refine VL.store (vc := [.slice none 0 0, .slice none 0 0, .slice none 0 0]) (cs' := [.slice none 0 0, .slice none 0 0, .slice none 0 0]) rfl rfl rfl gsz34 rfl rfl (Nat.le_of_ble_eq_true rfl) rfl ?_
   refine Za ?_
   refine Zl ?_
   refine VC.keep [10, 11] rfl ?_
   replace hS := up2 hS hK1
   cases hS
   exact VC.ret (finG (vs := [.agg #[.slice none 0 0, .slice none 0 0, .slice none 0 0], q32_6_0.val]) (.inr rfl) rfl (RVs.cell gagg34 rfl rfl Rd.blk (RVs.tmp rfl (RVs.nil))) (⟨⟨none, 0, []⟩, ⟨none, 0, []⟩, ⟨none, 0, []⟩⟩, q32_6_0) rfl rfl (by (try dsimp only); exact InM.out) (fun _ _ => trivial))
  replace hS := it_t h34 hS
  refine Zk ?_
  refine Zr ?_
  obtain ⟨b37, hS⟩ := gd_s hS
  refine VL.q (q_add rfl rfl b37) (by decide) ?_
  refine Zm ?_
  refine VL.rnd (x27_4 + 1) [0, 1, 2, 3, 4, 10, 25, 26, 27] (fun _ _ h => h) (go2 hS hK1) rfl
 replace hS := it_f h28 hS
 replace hS := up2 hS hK1
 refine Zx ?_
 refine Zq (Zr ?_)
 refine VL.alloc (cs := [.slice none 0 0, .slice none 0 0, .slice none 0 0]) (by kernel_rfl) (by decide) fun b15_7 => ?_
 refine Zl ?_
 refine Zq (Zq (Zr ?_))
 refine Zm ?_
 refine Zm ?_
 refine Zm ?_
 refine VL.lit (α := Sv FilesFile) (xs := [.tmp 38, .tmp 39, .tmp 40]) (vs := [base_0.val, ours_1.val, theirs_2.val]) [base_0, ours_1, theirs_2] Tryz.underlying81 glit23 (by decide) rfl rfl rfl rfl (by decide) (fun h m => List.forall_mem_cons.2 ⟨InM.out (X := base_0.ok) h m, List.forall_mem_cons.2 ⟨InM.out (X := ours_1.ok) h m, List.forall_mem_cons.2 ⟨InM.out (X := theirs_2.ok) h m, fun _ h => by cases h⟩⟩⟩) (by decide) (fun s41_8 hs41_8 => ?_) (by decide)
 replace hS := lt_to (congrArg (List.map Sv.l) hs41_8) hS
 obtain ⟨y42_10, ey42_10, hS⟩ := bd_s hS
 refine VL.callF (files_Paths_ct s41_8 ey42_10) rfl (by decide) ?_
 rintro q42_10_0 rfl
 try dsimp only
 refine VL.q (q_ln (s := q42_10_0) Tryz.underlying32 rfl) (by decide) ?_
 refine Zm ?_
 refine Zl ?_
 refine VC.keep [0, 1, 2, 3, 4, 10, 15, 42, 43, 44] rfl ?_
 refine Zb ?_
 refine VC.nilO (⟨none, 0, []⟩ : Sv FilesFile) 50 ⟨rfl, rfl⟩ ?_
 refine VC.nilO (⟨none, 0, []⟩ : Sv IndexEntry) 83 ⟨rfl, rfl⟩ ?_
 refine VC.nilO (⟨none, 0, []⟩ : Sv Str) 9 ⟨rfl, rfl⟩ ?_
 refine VC.reB b15_7 (cs' := [(⟨none, 0, []⟩ : Sv FilesFile).val, (⟨none, 0, []⟩ : Sv IndexEntry).val, (⟨none, 0, []⟩ : Sv Str).val]) rfl ?_
 refine VC.iter (S := Int × Sv FilesFile × Sv IndexEntry × Sv Str) (fun sg => (sg.1, sg.2.1.l, sg.2.2.1.l, sg.2.2.2.l)) (fun sg => [(0, base_0.val), (1, ours_1.val), (2, theirs_2.val), (3, str a_3), (4, str b_4), (10, ptr b10_1 0), (15, ptr b15_7 0), (42, q42_10_0.val), (43, i64 (q42_10_0.l.length : Int)), (44, i64 sg.1)]) (fun sg => Mo.tt) (fun sg => Ow.star (Blk b15_7 [sg.2.1.val, sg.2.2.1.val, sg.2.2.2.val] 34) (Ow.star (Blk b10_1 [.slice none 0 0, .slice none 0 0, .slice none 0 0] 34) (Ow.star (Sv.own sg.2.1 50) (Ow.star (Sv.own sg.2.2.1 83) (Ow.star (Sv.own sg.2.2.2 9) (Ow.emp)))))) (0, (⟨none, 0, []⟩ : Sv FilesFile), (⟨none, 0, []⟩ : Sv IndexEntry), (⟨none, 0, []⟩ : Sv Str)) [0, 1, 2, 3, 4, 10, 15, 42, 43, 44] hS rfl ?_
 clear hS
 rintro ⟨x44_11, c0_12, c1_13, c2_14⟩ m1 y1 hS hK1
 show VC _ _ _ _ _ [(0, base_0.val), (1, ours_1.val), (2, theirs_2.val), (3, str a_3), (4, str b_4), (10, ptr b10_1 0), (15, ptr b15_7 0), (42, q42_10_0.val), (43, i64 (q42_10_0.l.length : Int)), (44, i64 x44_11)] (Mo.and Mo.tt _) (Ow.star (Blk b15_7 [c0_12.val, c1_13.val, c2_14.val] 34) (Ow.star (Blk b10_1 [.slice none 0 0, .slice none 0 0, .slice none 0 0] 34) (Ow.star (Sv.own c0_12 50) (Ow.star (Sv.own c1_13 83) (Ow.star (Sv.own c2_14 9) (Ow.emp))))))
 refine Zq (Zr ?_)
 refine VL.q (q_lss rfl rfl) (by decide) ?_
 refine Zl ?_
 refine Zq ?_
 refine VC.cond_dec rfl (fun h45 => ?_) (fun h45 => ?_)
 ·
  replace hS := it_t h45 hS
  refine Zk ?_
  refine Zq (Zb (Zq (Zr ?_)))
  obtain ⟨z46_15, nz46_15, hz46_15, hS⟩ := at_s hS
  refine VL.q (q_ixm (s := q42_10_0) Tryz.underlying32 gsz9 rfl rfl nz46_15 (lt_of_get nz46_15 hz46_15)) (by decide) ?_
  refine VL.q (q_el (s := q42_10_0) gone9 rfl hz46_15 rfl) (by decide) ?_
  refine Za ?_
  refine Zl ?_
  refine Zq (Zr ?_)
  refine Zm ?_
  refine Zm ?_
  refine Zm ?_
  refine Zm ?_
  refine Zm ?_
  refine Zm ?_
  obtain ⟨y55_16, ey55_16, hS⟩ := bd_s hS
  refine VL.q (q_call (tmerge_One_ct z46_15 base_0 ours_1 theirs_2 a_3 b_4 ey55_16) rfl (fun _ _ => rfl)) (by decide) ?_
  refine Zm ?_
  refine VL.q (q_extract rfl rfl) (by decide) ?_
  refine VL.q (q_extract rfl rfl) (by decide) ?_
  refine VL.q (q_extract rfl rfl) (by decide) ?_
  refine VL.alloc (cs := [str [], i64 0, str []]) (by kernel_rfl) (by decide) fun b18_17 => ?_
  refine VL.store (vc := [str y55_16.1.path, i64 y55_16.1.mode, str y55_16.1.data]) (cs' := [str y55_16.1.path, i64 y55_16.1.mode, str y55_16.1.data]) rfl rfl rfl gsz50 rfl rfl (Nat.le_of_ble_eq_true rfl) rfl ?_
  refine Za ?_
  refine Za ?_
  refine Zl ?_
  refine VC.keep [0, 1, 2, 3, 4, 10, 15, 42, 43, 44, 17, 18, 19, 20] rfl ?_
  refine VC.cutJ (S := Sv FilesFile) (fun (c0_18 : Sv FilesFile) => c0_18.l) (fun (c0_18 : Sv FilesFile) => [(0, base_0.val), (1, ours_1.val), (2, theirs_2.val), (3, str a_3), (4, str b_4), (10, ptr b10_1 0), (15, ptr b15_7 0), (17, str z46_15), (20, .bool y55_16.2.2), (42, q42_10_0.val), (43, i64 (q42_10_0.l.length : Int)), (44, i64 x44_11)]) (fun (c0_18 : Sv FilesFile) => Mo.tt) (fun (c0_18 : Sv FilesFile) => Ow.star (Blk b18_17 [str y55_16.1.path, i64 y55_16.1.mode, str y55_16.1.data] 50) (Ow.star (Blk b15_7 [c0_18.val, c1_13.val, c2_14.val] 34) (Ow.star (Blk b10_1 [.slice none 0 0, .slice none 0 0, .slice none 0 0] 34) (Ow.star (Sv.own c1_13 83) (Ow.star (Sv.own c2_14 9) (Ow.star (Sv.own c0_18 50) (Ow.emp))))))) hS ?_ ?_
  ·
   clear hS
   intro k19 hS
   refine Zq (Zr ?_)
   refine Zm ?_
   refine Zl ?_
   refine VC.cond rfl (fun h59 => ?_) (fun h59 => ?_)
   ·
    replace hS := it_t h59 hS
    refine Zr ?_
    refine VL.q (q_field gfa34_0 rfl) (by decide) ?_
    refine VL.q (q_fe gone23 rfl rfl) (by decide) ?_
    refine VL.q (q_fes gagg50 rfl rfl) (by decide) ?_
    refine VL.lit (α := FilesFile) (xs := [.tmp 62]) (vs := [.agg #[str y55_16.1.path, i64 y55_16.1.mode, str y55_16.1.data]]) [⟨y55_16.1.path, y55_16.1.mode, y55_16.1.data⟩] Tryz.underlying23 glit50 (by decide) rfl rfl rfl rfl (by decide) (fun _ _ _ _ => trivial) (by decide) (fun s63_20 hs63_20 => ?_) (by decide)
    replace hS := lt_to hs63_20 hS
    obtain ⟨b64, hS⟩ := gd_s hS
    refine VL.app (s := c0_12) (r := s63_20) Tryz.underlying23 gapp50 (by decide) rfl Fo.out (ap1 b64) (ap2 b64 (by decide)) (by decide) (fun s64_22 hs64_22 => ?_)
    replace hS := lt_to hs64_22 hS
    refine VL.q (q_field gfa34_0 rfl) (by decide) ?_
    refine VL.store (vc := [s64_22.val]) (cs' := [s64_22.val, c1_13.val, c2_14.val]) rfl rfl rfl gsz23 rfl rfl (Nat.le_of_ble_eq_true rfl) rfl ?_
    refine VL.mt s64_22 [0, 1, 2, 3, 4, 10, 15, 17, 20, 42, 43, 44] (fun _ _ h => h) hS rfl
   replace hS := it_b h59 hS
   refine VC.skip_mt c0_12 [0, 1, 2, 3, 4, 10, 15, 17, 20, 42, 43, 44] (fun _ _ h => h) hS rfl
  clear hS
  rintro c0_18 hS
  show VC _ _ _ _ _ [(0, base_0.val), (1, ours_1.val), (2, theirs_2.val), (3, str a_3), (4, str b_4), (10, ptr b10_1 0), (15, ptr b15_7 0), (17, str z46_15), (20, .bool y55_16.2.2), (42, q42_10_0.val), (43, i64 (q42_10_0.l.length : Int)), (44, i64 x44_11)] (Mo.and Mo.tt _) (Ow.star (Blk b18_17 [str y55_16.1.path, i64 y55_16.1.mode, str y55_16.1.data] 50) (Ow.star (Blk b15_7 [c0_18.val, c1_13.val, c2_14.val] 34) (Ow.star (Blk b10_1 [.slice none 0 0, .slice none 0 0, .slice none 0 0] 34) (Ow.star (Sv.own c1_13 83) (Ow.star (Sv.own c2_14 9) (Ow.star (Sv.own c0_18 50) (Ow.emp)))))))
  refine Zq (Zr ?_)
  refine Zm ?_
  refine Zl ?_
  refine VC.cond rfl (fun h66 => ?_) (fun h66 => ?_)
  ·
   replace hS := it_t h66 hS
   refine Zq (Zr ?_)
   refine VL.q (q_field gfa34_2 rfl) (by decide) ?_
   refine VL.q (q_fe gone32 rfl rfl) (by decide) ?_
   refine Zm ?_
   refine VL.lit (α := Str) (xs := [.tmp 69]) (vs := [str z46_15]) [z46_15] Tryz.underlying32 glit9 (by decide) rfl rfl rfl rfl (by decide) (fun _ _ _ _ => trivial) (by decide) (fun s70_24 hs70_24 => ?_) (by decide)
   replace hS := lt_to hs70_24 hS
   obtain ⟨b71, hS⟩ := gd_s hS
   refine VL.app (s := c2_14) (r := s70_24) Tryz.underlying32 gapp9 (by decide) rfl Fo.out (ap1 b71) (ap2 b71 (by decide)) (by decide) (fun s71_26 hs71_26 => ?_)
   replace hS := lt_to hs71_26 hS
   refine VL.q (q_field gfa34_2 rfl) (by decide) ?_
   refine VL.store (vc := [s71_26.val]) (cs' := [c0_18.val, c1_13.val, s71_26.val]) rfl rfl rfl gsz32 rfl rfl (Nat.le_of_ble_eq_true rfl) rfl ?_
   refine Zl ?_
   refine VC.keep [0, 1, 2, 3, 4, 10, 15, 17, 42, 43, 44] rfl ?_
   refine VC.draw [(0, true), (1, true), (2, true), (3, true), (4, true), (5, true), (6, false), (7, false), (8, false), (9, true), (10, false)] mixed (by kernel_rfl) (by kernel_rfl) (by kernel_rfl) ?_
   refine VD.q rfl (q_field gfa34_1 rfl) (by decide) ?_
   refine VD.q rfl (q_fe gone29 rfl rfl) (by decide) ?_
   refine VD.q rfl (q_move rfl) (by decide) ?_
   refine VD.q rfl (q_move rfl) (by decide) ?_
   refine VD.q rfl (q_move rfl) (by decide) ?_
   refine VD.q rfl (q_move rfl) (by decide) ?_
   refine VD.one rfl ?_
   refine VL.lit (α := Sv FilesFile) (xs := [.tmp 76, .tmp 77, .tmp 78]) (vs := [base_0.val, ours_1.val, theirs_2.val]) [base_0, ours_1, theirs_2] Tryz.underlying81 glit23 (by decide) rfl rfl rfl rfl (by decide) (fun h m => List.forall_mem_cons.2 ⟨InM.out (X := base_0.ok) h m, List.forall_mem_cons.2 ⟨InM.out (X := ours_1.ok) h m, List.forall_mem_cons.2 ⟨InM.out (X := theirs_2.ok) h m, fun _ h => by cases h⟩⟩⟩) (by decide) (fun s79_28 hs79_28 => ?_) (by decide)
   replace hS := lt_to (congrArg (List.map Sv.l) hs79_28) hS
   refine VL.back (D' := [(1, c1_13.val), (0, ptr b15_7 1)]) (by kernel_rfl) (Pend.cons rfl (q_fe gone29 rfl rfl) (Pend.cons rfl (q_field gfa34_1 rfl) (Pend.nil))) ?_
   refine VD.one rfl ?_
   obtain ⟨y80_30, ey80_30, hS⟩ := bd_s hS
   refine VL.callO (tmerge_stages_ct z46_15 s79_28 ey80_30) rfl (by decide) ?_
   rintro q80_30_0 rfl
   try dsimp only
   refine VL.back (D' := [(1, c1_13.val), (0, ptr b15_7 1)]) (by kernel_rfl) (Pend.cons rfl (q_fe gone29 rfl rfl) (Pend.cons rfl (q_field gfa34_1 rfl) (Pend.nil))) ?_
   refine VD.one rfl ?_
   refine VL.shut q80_30_0 83 (fun _ _ _ _ => trivial) ?_
   obtain ⟨b81, hS⟩ := gd_s hS
   refine VL.app (s := c1_13) (r := q80_30_0) Tryz.underlying29 gapp83 (by decide) rfl Fo.out (ap1 b81) (ap2 b81 (by decide)) (by decide) (fun s81_31 hs81_31 => ?_)
   replace hS := lt_to hs81_31 hS
   refine VL.back (D' := []) (by kernel_rfl) (Pend.nil) ?_
   refine VD.q rfl (q_field gfa34_1 rfl) (by decide) ?_
   refine VD.one rfl ?_
   refine VL.store (vc := [s81_31.val]) (cs' := [c0_18.val, s81_31.val, s71_26.val]) rfl rfl rfl gsz29 rfl rfl (Nat.le_of_ble_eq_true rfl) rfl ?_
   refine VL.back (D' := []) (by kernel_rfl) (Pend.nil) ?_
   refine VD.to (fun _ _ h => h) ?_
   refine VC.keep [0, 1, 2, 3, 4, 10, 15, 42, 43, 44] rfl ?_
   refine Zr ?_
   obtain ⟨b83, hS⟩ := gd_s hS
   refine VL.q (q_add rfl rfl b83) (by decide) ?_
   refine Zm ?_
   refine VL.rnd ((x44_11 + 1), c0_18, s81_31, s71_26) [0, 1, 2, 3, 4, 10, 15, 42, 43, 44] (fun _ _ h => h) (go2 hS hK1) rfl
  replace hS := it_b h66 hS
  refine Zk ?_
  refine Zr ?_
  obtain ⟨b83, hS⟩ := gd_s hS
  refine VL.q (q_add rfl rfl b83) (by decide) ?_
  refine Zm ?_
  refine VL.rnd ((x44_11 + 1), c0_18, c1_13, c2_14) [0, 1, 2, 3, 4, 10, 15, 42, 43, 44] (fun _ _ h => h) (go2 hS hK1) rfl
 replace hS := it_f h45 hS
 replace hS := up2 hS hK1
 refine Zx ?_
 refine VC.keep [10, 15] rfl ?_
 refine Zq (Zq (Zr ?_))
 refine VL.q (q_field gfa34_0 rfl) (by decide) ?_
 refine VL.q (q_fe gone23 rfl rfl) (by decide) ?_
 refine VL.shut c0_12 50 (fun _ _ _ _ => trivial) ?_
 obtain ⟨y86_33, ey86_33, hS⟩ := bd_s hS
 refine VL.callF (tmerge_fault_ct c0_12 ey86_33) rfl (by decide) ?_
 rintro q86_33_0 rfl
 try dsimp only
 refine Za ?_
 refine Zl ?_
 refine Zq (Zr ?_)
 refine Zm ?_
 refine VL.q (q_erne Tryz.underlying27 rfl) (by decide) ?_
 refine Zl ?_
 refine VC.cond_ndec rfl (fun h88 => ?_) (fun h88 => ?_)
 ·
  replace hS := it_f h88 hS
  refine Zq (Zr ?_)
  refine VL.q (q_build (vs := []) (cs := #[.slice none 0 0, .slice none 0 0, .slice none 0 0]) rfl (by kernel_rfl)) (by decide) ?_
  refine Zm ?_
  refine VL.store (vc := [.slice none 0 0, .slice none 0 0, .slice none 0 0]) (cs' := [.slice none 0 0, .slice none 0 0, .slice none 0 0]) rfl rfl rfl gsz34 rfl rfl (Nat.le_of_ble_eq_true rfl) rfl ?_
  refine Za ?_
  refine Zl ?_
  refine VC.keep [10, 11] rfl ?_
  cases hS
  exact VC.ret (finG (vs := [.agg #[.slice none 0 0, .slice none 0 0, .slice none 0 0], q86_33_0.val]) (.inr rfl) rfl (RVs.cell gagg34 rfl rfl Rd.blk (RVs.tmp rfl (RVs.nil))) (⟨⟨none, 0, []⟩, ⟨none, 0, []⟩, ⟨none, 0, []⟩⟩, q86_33_0) rfl rfl (by (try dsimp only); exact InM.out) (fun _ _ => trivial))
 replace hS := it_t h88 hS
 refine Zk ?_
 refine Zq ?_
 refine VC.draw [(0, true), (1, true), (3, true), (4, true), (6, true), (7, true), (2, false), (5, false), (8, false), (9, true), (10, false), (11, true)] mixed (by kernel_rfl) (by kernel_rfl) (by kernel_rfl) ?_
 refine VD.q rfl (q_field gfa34_0 rfl) (by decide) ?_
 refine VD.q rfl (q_fe gone23 rfl rfl) (by decide) ?_
 refine VD.q rfl (q_field gfa34_1 rfl) (by decide) ?_
 refine VD.q rfl (q_fe gone29 rfl rfl) (by decide) ?_
 refine VD.q rfl (q_field gfa34_2 rfl) (by decide) ?_
 refine VD.q rfl (q_fe gone32 rfl rfl) (by decide) ?_
 refine VD.one rfl ?_
 obtain ⟨y93_34, ey93_34, hS⟩ := bd_s hS
 refine VL.callF (slices_Clip_files_Row_files_File_ct c0_12 ey93_34) rfl (by decide) ?_
 rintro q93_34_0 rfl
 try dsimp only
 refine VL.back (D' := [(7, c2_14.val), (6, ptr b15_7 2), (4, c1_13.val), (3, ptr b15_7 1)]) (by kernel_rfl) (Pend.cons rfl (q_fe gone32 rfl rfl) (Pend.cons rfl (q_field gfa34_2 rfl) (Pend.cons rfl (q_fe gone29 rfl rfl) (Pend.cons rfl (q_field gfa34_1 rfl) (Pend.nil))))) ?_
 refine VD.one rfl ?_
 refine VL.shut c1_13 83 (fun _ _ _ _ => trivial) ?_
 obtain ⟨y96_35, ey96_35, hS⟩ := bd_s hS
 refine VL.callF (slices_Clip_index_Entry_index_Entry_ct c1_13 ey96_35) rfl (by decide) ?_
 rintro q96_35_0 rfl
 try dsimp only
 refine VL.back (D' := [(7, c2_14.val), (6, ptr b15_7 2)]) (by kernel_rfl) (Pend.cons rfl (q_fe gone32 rfl rfl) (Pend.cons rfl (q_field gfa34_2 rfl) (Pend.nil))) ?_
 refine VD.one rfl ?_
 refine VL.shut c2_14 9 (fun _ _ _ _ => trivial) ?_
 obtain ⟨y99_36, ey99_36, hS⟩ := bd_s hS
 refine VL.callF (slices_Clip_string_string_ct c2_14 ey99_36) rfl (by decide) ?_
 rintro q99_36_0 rfl
 try dsimp only
 refine VL.back (D' := []) (by kernel_rfl) (Pend.nil) ?_
 refine VD.q rfl (q_build (vs := [(0, q93_34_0.val), (1, q96_35_0.val), (2, q99_36_0.val)]) (cs := #[q93_34_0.val, q96_35_0.val, q99_36_0.val]) rfl (by kernel_rfl)) (by decide) ?_
 refine VD.one rfl ?_
 refine VL.store (vc := [q93_34_0.val, q96_35_0.val, q99_36_0.val]) (cs' := [q93_34_0.val, q96_35_0.val, q99_36_0.val]) rfl rfl rfl gsz34 rfl rfl (Nat.le_of_ble_eq_true rfl) rfl ?_
 refine VL.back (D' := []) (by kernel_rfl) (Pend.nil) ?_
 refine VD.q rfl (q_assign rfl) (by decide) ?_
 refine VD.to (fun _ _ h => h) ?_
 refine VC.keep [10, 11] rfl ?_
 cases hS
 exact VC.ret (finG (vs := [.agg #[q93_34_0.val, q96_35_0.val, q99_36_0.val], .nilIface]) (.inr rfl) rfl (RVs.cell gagg34 rfl rfl Rd.blk (RVs.tmp rfl (RVs.nil))) (⟨q93_34_0, q96_35_0, q99_36_0⟩, .nil) rfl rfl (by (try dsimp only); exact InM.out) (fun _ _ => trivial))
theorem rectolaw16_known_ct  {r : Bool} (hS : Sh.rectolaw16_known = some r) :
 Ct Tryz.prog 33 [] Mo.tt (Ow.emp) (X := Unit) (fun _ => .bool r) (fun _ => True) (fun _ => Mo.tt) (fun _ => Ow.emp) := by
 refine Ct.of Tryz.func33 rfl (by kernel_rfl) Tryz.ntmps33 (by simp) fun c => ?_
 unfold Sh.rectolaw16_known at hS
 refine Zq (Zr ?_)
 refine Za ?_
 refine Zl ?_
 refine Zq (Zr ?_)
 refine VL.q (q_build (vs := [(0, str [97]), (1, i64 1), (2, str [120, 10])]) (cs := #[str [97], i64 1, str [120, 10]]) rfl (by kernel_rfl)) (by decide) ?_
 refine VL.q (q_build (vs := [(0, str [98]), (1, i64 1), (2, str [121, 10])]) (cs := #[str [98], i64 1, str [121, 10]]) rfl (by kernel_rfl)) (by decide) ?_
 refine VL.lit (α := FilesFile) (xs := [.tmp 9, .tmp 10]) (vs := [.agg #[str [97], i64 1, str [120, 10]], .agg #[str [98], i64 1, str [121, 10]]]) [⟨[97], 1, [120, 10]⟩, ⟨[98], 1, [121, 10]⟩] Tryz.underlying23 glit50 (by decide) rfl rfl rfl rfl (by decide) (fun _ _ _ _ => trivial) (by decide) (fun s11_1 hs11_1 => ?_) (by decide)
 replace hS := lt_to hs11_1 hS
 refine Za ?_
 refine Zl ?_
 refine Zq (Zr ?_)
 refine VL.q (q_build (vs := [(0, str [97]), (1, i64 1), (2, str [88, 10])]) (cs := #[str [97], i64 1, str [88, 10]]) rfl (by kernel_rfl)) (by decide) ?_
 refine VL.q (q_build (vs := [(0, str [98]), (1, i64 1), (2, str [49, 10])]) (cs := #[str [98], i64 1, str [49, 10]]) rfl (by kernel_rfl)) (by decide) ?_
 refine VL.lit (α := FilesFile) (xs := [.tmp 12, .tmp 13]) (vs := [.agg #[str [97], i64 1, str [88, 10]], .agg #[str [98], i64 1, str [49, 10]]]) [⟨[97], 1, [88, 10]⟩, ⟨[98], 1, [49, 10]⟩] Tryz.underlying23 glit50 (by decide) rfl rfl rfl rfl (by decide) (fun _ _ _ _ => trivial) (by decide) (fun s14_3 hs14_3 => ?_) (by decide)
 replace hS := lt_to hs14_3 hS
 refine Za ?_
 refine Zl ?_
 refine Zq (Zr ?_)
 refine VL.q (q_build (vs := [(0, str [97]), (1, i64 1), (2, str [120, 10])]) (cs := #[str [97], i64 1, str [120, 10]]) rfl (by kernel_rfl)) (by decide) ?_
 refine VL.q (q_build (vs := [(0, str [98]), (1, i64 1), (2, str [50, 10])]) (cs := #[str [98], i64 1, str [50, 10]]) rfl (by kernel_rfl)) (by decide) ?_
 refine VL.lit (α := FilesFile) (xs := [.tmp 15, .tmp 16]) (vs := [.agg #[str [97], i64 1, str [120, 10]], .agg #[str [98], i64 1, str [50, 10]]]) [⟨[97], 1, [120, 10]⟩, ⟨[98], 1, [50, 10]⟩] Tryz.underlying23 glit50 (by decide) rfl rfl rfl rfl (by decide) (fun _ _ _ _ => trivial) (by decide) (fun s17_5 hs17_5 => ?_) (by decide)
 replace hS := lt_to hs17_5 hS
 refine Za ?_
 refine Zl ?_
 refine VC.keep [1, 2, 3] rfl ?_
 refine Zq (Zr ?_)
 refine Zm ?_
 refine Zm ?_
 refine Zm ?_
 obtain ⟨y22_7, ey22_7, hS⟩ := bd_s hS
 refine VL.callF (tmerge_Merge_ct s11_1 s14_3 s17_5 [112] [113] ey22_7) rfl (by decide) ?_
 rintro ⟨q22_7_0, q22_7_1⟩ rfl
 try dsimp only
 refine Zm ?_
 refine VL.q (q_extract rfl rfl) (by decide) ?_
 refine VL.q (q_extract rfl rfl) (by decide) ?_
 refine VL.alloc (cs := [.slice none 0 0, .slice none 0 0, .slice none 0 0]) (by kernel_rfl) (by decide) fun b4_8 => ?_
 refine VL.store (vc := [q22_7_0.files.val, q22_7_0.entries.val, q22_7_0.conflicts.val]) (cs' := [q22_7_0.files.val, q22_7_0.entries.val, q22_7_0.conflicts.val]) rfl rfl rfl gsz34 rfl rfl (Nat.le_of_ble_eq_true rfl) rfl ?_
 refine Za ?_
 refine Zl ?_
 refine VC.keep [1, 2, 3, 4, 5] rfl ?_
 refine Zq (Zr ?_)
 refine Zm ?_
 refine Zm ?_
 refine Zm ?_
 obtain ⟨y29_9, ey29_9, hS⟩ := bd_s hS
 refine VL.q (q_call (tmerge_One_ct [97] s11_1 s14_3 s17_5 [112] [113] ey29_9) rfl (fun _ _ => rfl)) (by decide) ?_
 refine Zm ?_
 refine VL.q (q_extract rfl rfl) (by decide) ?_
 refine VL.q (q_extract rfl rfl) (by decide) ?_
 refine VL.q (q_extract rfl rfl) (by decide) ?_
 refine VL.alloc (cs := [str [], i64 0, str []]) (by kernel_rfl) (by decide) fun b6_10 => ?_
 refine VL.store (vc := [str y29_9.1.path, i64 y29_9.1.mode, str y29_9.1.data]) (cs' := [str y29_9.1.path, i64 y29_9.1.mode, str y29_9.1.data]) rfl rfl rfl gsz50 rfl rfl (Nat.le_of_ble_eq_true rfl) rfl ?_
 refine Za ?_
 refine Za ?_
 refine Zl ?_
 refine VC.keep [4, 5, 6, 7, 8] rfl ?_
 refine Zq (Zr ?_)
 refine Zm ?_
 refine VL.q (q_ereq Tryz.underlying27 rfl) (by decide) ?_
 refine Zm ?_
 refine VL.split_dec 35 rfl (fun h35 => ?_) (fun h35 => ?_)
 ·
  replace hS := it_t h35 hS
  refine VL.gy rfl rfl (q_field gfa34_0 rfl) (by decide) ?_
  refine VL.gy rfl rfl (q_fe gone23 rfl rfl) (by decide) ?_
  refine VL.gy rfl rfl (q_ln (s := q22_7_0.files) Tryz.underlying23 rfl) (by decide) ?_
  refine VL.gy rfl rfl (q_eql rfl rfl) (by decide) ?_
  refine Zt ?_
  refine Zm ?_
  refine VL.split_dec 41 rfl (fun h41 => ?_) (fun h41 => ?_)
  ·
   replace hS := it_t h41 hS
   refine VL.gy rfl rfl (q_field gfa34_0 rfl) (by decide) ?_
   refine VL.gy rfl rfl (q_fe gone23 rfl rfl) (by decide) ?_
   obtain ⟨z44_11, nz44_11, hz44_11, hS⟩ := at_s hS
   refine VL.gy rfl rfl (q_ixm (s := q22_7_0.files) Tryz.underlying23 gsz50 rfl rfl nz44_11 (lt_of_get nz44_11 hz44_11)) (by decide) ?_
   refine VL.gy rfl rfl (q_field gfa50_2 rfl) (by decide) ?_
   refine VL.gy rfl rfl (q_elf (s := q22_7_0.files) gone9 rfl hz44_11 rfl) (by decide) ?_
   refine VL.gy rfl rfl (q_seq rfl rfl) (by decide) ?_
   refine Zt ?_
   refine Zm ?_
   refine VL.split_dec 49 rfl (fun h49 => ?_) (fun h49 => ?_)
   ·
    replace hS := it_t h49 hS
    refine VL.gy rfl rfl (q_field gfa34_2 rfl) (by decide) ?_
    refine VL.gy rfl rfl (q_fe gone32 rfl rfl) (by decide) ?_
    refine VL.gy rfl rfl (q_ln (s := q22_7_0.conflicts) Tryz.underlying32 rfl) (by decide) ?_
    refine VL.gy rfl rfl (q_eql rfl rfl) (by decide) ?_
    refine Zt ?_
    refine Zm ?_
    refine VL.split_dec 55 rfl (fun h55 => ?_) (fun h55 => ?_)
    ·
     replace hS := it_t h55 hS
     refine VL.gy rfl rfl (q_field gfa34_2 rfl) (by decide) ?_
     refine VL.gy rfl rfl (q_fe gone32 rfl rfl) (by decide) ?_
     obtain ⟨z58_12, nz58_12, hz58_12, hS⟩ := at_s hS
     refine VL.gy rfl rfl (q_ixm (s := q22_7_0.conflicts) Tryz.underlying32 gsz9 rfl rfl nz58_12 (lt_of_get nz58_12 hz58_12)) (by decide) ?_
     refine VL.gy rfl rfl (q_el (s := q22_7_0.conflicts) gone9 rfl hz58_12 rfl) (by decide) ?_
     refine VL.gy rfl rfl (q_seq rfl rfl) (by decide) ?_
     refine Zt ?_
     refine Zm ?_
     refine VL.split_dec 62 rfl (fun h62 => ?_) (fun h62 => ?_)
     ·
      replace hS := it_t h62 hS
      refine VL.gy rfl rfl (q_field gfa34_1 rfl) (by decide) ?_
      refine VL.gy rfl rfl (q_fe gone29 rfl rfl) (by decide) ?_
      refine VL.gy rfl rfl (q_ln (s := q22_7_0.entries) Tryz.underlying29 rfl) (by decide) ?_
      refine VL.gy rfl rfl (q_eql rfl rfl) (by decide) ?_
      refine Zt ?_
      refine Zm ?_
      refine VL.split_dec 68 rfl (fun h68 => ?_) (fun h68 => ?_)
      ·
       replace hS := it_t h68 hS
       refine VL.gy rfl rfl (q_field gfa50_2 rfl) (by decide) ?_
       refine VL.gy rfl rfl (q_fe gone9 rfl rfl) (by decide) ?_
       refine VL.gy rfl rfl (q_seq rfl rfl) (by decide) ?_
       refine Zt ?_
       refine Zm ?_
       refine VL.split_dec 73 rfl (fun h73 => ?_) (fun h73 => ?_)
       ·
        replace hS := it_t h73 hS
        refine Zg ?_
        refine Zt ?_
        refine Zm ?_
        refine VL.split 76 rfl (fun h76 => ?_) (fun h76 => ?_)
        ·
         replace hS := it_t h76 hS
         refine Zg ?_
         refine VL.gy rfl rfl (q_not rfl) (by decide) ?_
         refine Zt ?_
         refine Za ?_
         refine Zl ?_
         refine VC.keep [0] rfl ?_
         cases hS
         exact Ze
        replace hS := it_b h76 hS
        refine Zn ?_
        refine Zn ?_
        refine Zf ?_
        refine Za ?_
        refine Zl ?_
        refine VC.keep [0] rfl ?_
        cases hS
        exact Ze
       replace hS := it_f h73 hS
       refine Zn ?_
       refine Zf ?_
       refine Zm ?_
       refine Zn ?_
       refine Zn ?_
       refine Zf ?_
       refine Za ?_
       refine Zl ?_
       refine VC.keep [0] rfl ?_
       cases hS
       exact Ze
      replace hS := it_f h68 hS
      refine Zn ?_
      refine Zn ?_
      refine Zn ?_
      refine Zf ?_
      refine Zm ?_
      refine Zn ?_
      refine Zf ?_
      refine Zm ?_
      refine Zn ?_
      refine Zn ?_
      refine Zf ?_
      refine Za ?_
      refine Zl ?_
      refine VC.keep [0] rfl ?_
      cases hS
      exact Ze
     replace hS := it_f h62 hS
     refine Zn ?_
     refine Zn ?_
     refine Zn ?_
     refine Zn ?_
     refine Zf ?_
     refine Zm ?_
     refine Zn ?_
     refine Zn ?_
     refine Zn ?_
     refine Zf ?_
     refine Zm ?_
     refine Zn ?_
     refine Zf ?_
     refine Zm ?_
     refine Zn ?_
     refine Zn ?_
     refine Zf ?_
     refine Za ?_
     refine Zl ?_
     refine VC.keep [0] rfl ?_
     cases hS
     exact Ze
    replace hS := it_f h55 hS
    refine Zn ?_
    refine Zn ?_
    refine Zn ?_
    refine Zn ?_
    refine Zn ?_
    refine Zf ?_
    refine Zm ?_
    refine Zn ?_
    refine Zn ?_
    refine Zn ?_
    refine Zn ?_
    refine Zf ?_
    refine Zm ?_
    refine Zn ?_
    refine Zn ?_
    refine Zn ?_
    refine Zf ?_
    refine Zm ?_
    refine Zn ?_
    refine Zf ?_
    refine Zm ?_
    refine Zn ?_
    refine Zn ?_
    refine Zf ?_
    refine Za ?_
    refine Zl ?_
    refine VC.keep [0] rfl ?_
    cases hS
    exact Ze
   replace hS := it_f h49 hS
   refine Zn ?_
   refine Zn ?_
   refine Zn ?_
   refine Zn ?_
   refine Zf ?_
   refine Zm ?_
   refine Zn ?_
   refine Zn ?_
   refine Zn ?_
   refine Zn ?_
   refine Zn ?_
   refine Zf ?_
   refine Zm ?_
   refine Zn ?_
   refine Zn ?_
   refine Zn ?_
   refine Zn ?_
   refine Zf ?_
   refine Zm ?_
   refine Zn ?_
   refine Zn ?_
   refine Zn ?_
   refine Zf ?_
   refine Zm ?_
   refine Zn ?_
   refine Zf ?_
   refine Zm ?_
   refine Zn ?_
   refine Zn ?_
   refine Zf ?_
   refine Za ?_
   refine Zl ?_
   refine VC.keep [0] rfl ?_
   cases hS
   exact Ze
  replace hS := it_f h41 hS
  refine Zn ?_
  refine Zn ?_
  refine Zn ?_
  refine Zn ?_
  refine Zn ?_
  refine Zn ?_
  refine Zf ?_
  refine Zm ?_
  refine Zn ?_
  refine Zn ?_
  refine Zn ?_
  refine Zn ?_
  refine Zf ?_
  refine Zm ?_
  refine Zn ?_
  refine Zn ?_
  refine Zn ?_
  refine Zn ?_
  refine Zn ?_
  refine Zf ?_
  refine Zm ?_
  refine Zn ?_
  refine Zn ?_
  refine Zn ?_
  refine Zn ?_
  refine Zf ?_
  refine Zm ?_
  refine Zn ?_
  refine Zn ?_
  refine Zn ?_
  refine Zf ?_
  refine Zm ?_
  refine Zn ?_
  refine Zf ?_
  refine Zm ?_
  refine Zn ?_
  refine Zn ?_
  refine Zf ?_
  refine Za ?_
  refine Zl ?_
  refine VC.keep [0] rfl ?_
  cases hS
  exact Ze
 replace hS := it_f h35 hS
 refine Zn ?_
 refine Zn ?_
 refine Zn ?_
 refine Zn ?_
 refine Zf ?_
 refine Zm ?_
 refine Zn ?_
 refine Zn ?_
 refine Zn ?_
 refine Zn ?_
 refine Zn ?_
 refine Zn ?_
 refine Zf ?_
 refine Zm ?_
 refine Zn ?_
 refine Zn ?_
 refine Zn ?_
 refine Zn ?_
 refine Zf ?_
 refine Zm ?_
 refine Zn ?_
 refine Zn ?_
 refine Zn ?_
 refine Zn ?_
 refine Zn ?_
 refine Zf ?_
 refine Zm ?_
 refine Zn ?_
 refine Zn ?_
 refine Zn ?_
 refine Zn ?_
 refine Zf ?_
 refine Zm ?_
 refine Zn ?_
 refine Zn ?_
 refine Zn ?_
 refine Zf ?_
 refine Zm ?_
 refine Zn ?_
 refine Zf ?_
 refine Zm ?_
 refine Zn ?_
 refine Zn ?_
 refine Zf ?_
 refine Za ?_
 refine Zl ?_
 refine VC.keep [0] rfl ?_
 cases hS
 exact Ze
theorem rectolaw14_Few_ct (r_0 : Sv FilesFile) {r : Bool} (hS : Sh.rectolaw14_Few r_0.l = some r) :
 Ct Tryz.prog 12 [r_0.val] r_0.ok (Ow.emp) (X := Unit) (fun _ => .bool r) (fun _ => True) (fun _ => Mo.tt) (fun _ => Ow.emp) := by
 refine Ct.of Tryz.func12 rfl (by kernel_rfl) Tryz.ntmps12 (by simp) fun c => ?_
 unfold Sh.rectolaw14_Few at hS
 refine Zq (Zr ?_)
 refine Za ?_
 refine Zl ?_
 refine Zq (Zq (Zr ?_))
 refine Zm ?_
 refine VL.q (q_ln (s := r_0) Tryz.underlying23 rfl) (by decide) ?_
 refine VL.q (q_gtr rfl rfl) (by decide) ?_
 refine Zl ?_
 refine VC.cond_dec rfl (fun h6 => ?_) (fun h6 => ?_)
 ·
  replace hS := it_t h6 hS
  refine Zq (Zr ?_)
  refine Za ?_
  refine Zl ?_
  cases hS
  exact Ze
 replace hS := it_f h6 hS
 refine Zk ?_
 refine Zq (Zq (Zr ?_))
 refine Za ?_
 refine Zl ?_
 refine Zb ?_
 refine VC.iter (S := Int) (fun (i3_1 : Int) => i3_1) (fun (i3_1 : Int) => [(0, r_0.val), (3, i64 i3_1)]) (fun (i3_1 : Int) => Mo.tt) (fun (i3_1 : Int) => Ow.emp) 0 [0, 3] hS rfl ?_
 clear hS
 rintro i3_1 m1 y1 hS hK1
 show VC _ _ _ _ _ [(0, r_0.val), (3, i64 i3_1)] (Mo.and Mo.tt _) (Ow.emp)
 refine Zq (Zq (Zr ?_))
 refine Zm ?_
 refine Zm ?_
 refine VL.q (q_ln (s := r_0) Tryz.underlying23 rfl) (by decide) ?_
 refine VL.q (q_lss rfl rfl) (by decide) ?_
 refine Zl ?_
 refine VC.cond_dec rfl (fun h10 => ?_) (fun h10 => ?_)
 ·
  replace hS := it_t h10 hS
  refine Zk ?_
  refine Zq (Zb ?_)
  refine VC.cutJ (S := Bool) (fun (x28_2 : Bool) => x28_2) (fun (x28_2 : Bool) => [(0, r_0.val), (3, i64 i3_1), (28, .bool x28_2)]) (fun (x28_2 : Bool) => Mo.tt) (fun (x28_2 : Bool) => Ow.emp) hS ?_ ?_
  ·
   clear hS
   intro k3 hS
   refine Zr ?_
   refine Zm ?_
   refine Zm ?_
   obtain ⟨z15_4, nz15_4, hz15_4, hS⟩ := at_s hS
   refine VL.q (q_ixm (s := r_0) Tryz.underlying23 gsz50 rfl rfl nz15_4 (lt_of_get nz15_4 hz15_4)) (by decide) ?_
   refine VL.q (q_field gfa50_0 rfl) (by decide) ?_
   refine VL.q (q_elf (s := r_0) gone9 rfl hz15_4 rfl) (by decide) ?_
   refine VL.q (q_slen Tryz.underlying9 rfl) (by decide) ?_
   refine VL.q (q_gtr rfl rfl) (by decide) ?_
   refine Zm ?_
   refine VL.split_dec 20 rfl (fun h20 => ?_) (fun h20 => ?_)
   ·
    replace hS := it_t h20 hS
    refine Zn ?_
    refine Zn ?_
    refine Zn ?_
    refine Zn ?_
    refine Zn ?_
    refine Zn ?_
    refine Zn ?_
    refine Zt ?_
    refine VL.mt true [0, 3, 28] (fun _ _ h => h) hS rfl
   replace hS := it_f h20 hS
   refine Zg ?_
   refine Zg ?_
   obtain ⟨z23_5, nz23_5, hz23_5, hS⟩ := at_s hS
   refine VL.gy rfl rfl (q_ixm (s := r_0) Tryz.underlying23 gsz50 rfl rfl nz23_5 (lt_of_get nz23_5 hz23_5)) (by decide) ?_
   refine VL.gy rfl rfl (q_field gfa50_2 rfl) (by decide) ?_
   refine VL.gy rfl rfl (q_elf (s := r_0) gone9 rfl hz23_5 rfl) (by decide) ?_
   refine VL.gy rfl rfl (q_slen Tryz.underlying9 rfl) (by decide) ?_
   refine VL.gy rfl rfl (q_gtr rfl rfl) (by decide) ?_
   refine Zf ?_
   refine VL.mt (decide (5000 < (z23_5.data.length : Int))) [0, 3, 28] (fun _ _ h => h) hS rfl
  clear hS
  rintro x28_2 hS
  show VC _ _ _ _ _ [(0, r_0.val), (3, i64 i3_1), (28, .bool x28_2)] (Mo.and Mo.tt _) (Ow.emp)
  refine VC.cond rfl (fun h28 => ?_) (fun h28 => ?_)
  ·
   replace hS := it_t h28 hS
   refine Zq (Zr ?_)
   refine Za ?_
   refine Zl ?_
   replace hS := up2 hS hK1
   cases hS
   exact Ze
  replace hS := it_b h28 hS
  refine Zk ?_
  refine Zr ?_
  refine Zm ?_
  obtain ⟨b12, hS⟩ := gd_s hS
  refine VL.q (q_add rfl rfl b12) (by decide) ?_
  refine Za ?_
  refine VL.rnd (i3_1 + 1) [0, 3] (fun _ _ h => h) (go2 hS hK1) rfl
 replace hS := it_f h10 hS
 replace hS := up2 hS hK1
 refine Zx ?_
 refine Zq (Zr ?_)
 refine Za ?_
 refine Zl ?_
 cases hS
 exact Ze
theorem rectolaw16_short_ct (r_0 : Sv FilesFile) {r : Bool} (hS : Sh.rectolaw16_short r_0.l = some r) :
 Ct Tryz.prog 37 [r_0.val] r_0.ok (Ow.emp) (X := Unit) (fun _ => .bool r) (fun _ => True) (fun _ => Mo.tt) (fun _ => Ow.emp) := by
 refine Ct.of Tryz.func37 rfl (by kernel_rfl) Tryz.ntmps37 (by simp) fun c => ?_
 unfold Sh.rectolaw16_short at hS
 refine Zq (Zr ?_)
 refine Za ?_
 refine Zl ?_
 refine Zq (Zq (Zr ?_))
 refine Zm ?_
 refine VL.q (q_ln (s := r_0) Tryz.underlying23 rfl) (by decide) ?_
 refine VL.q (q_gtr rfl rfl) (by decide) ?_
 refine Zl ?_
 refine VC.cond_dec rfl (fun h7 => ?_) (fun h7 => ?_)
 ·
  replace hS := it_t h7 hS
  refine Zq (Zr ?_)
  refine Zm ?_
  refine VL.q (q_ln (s := r_0) Tryz.underlying23 rfl) (by decide) ?_
  refine VL.q (q_gtr rfl rfl) (by decide) ?_
  refine Zm ?_
  refine VL.split_dec 11 rfl (fun h11 => ?_) (fun h11 => ?_)
  ·
   replace hS := it_t h11 hS
   refine Zg ?_
   refine VL.gy rfl rfl (q_ln (s := r_0) Tryz.underlying23 rfl) (by decide) ?_
   refine VL.gy rfl rfl (q_leq rfl rfl) (by decide) ?_
   refine Zt ?_
   refine Za ?_
   refine Zl ?_
   refine VC.keep [2] rfl ?_
   cases hS
   exact Ze
  replace hS := it_f h11 hS
  refine Zn ?_
  refine Zn ?_
  refine Zn ?_
  refine Zf ?_
  refine Za ?_
  refine Zl ?_
  refine VC.keep [2] rfl ?_
  cases hS
  exact Ze
 replace hS := it_f h7 hS
 refine Zk ?_
 refine Zq (Zr ?_)
 refine Za ?_
 refine Zl ?_
 refine Zq (Zq (Zr ?_))
 refine Za ?_
 refine Zl ?_
 refine Zb ?_
 refine VC.iter (S := Int × Int) (fun sg => (sg.1, sg.2)) (fun sg => [(0, r_0.val), (3, i64 sg.1), (4, i64 sg.2)]) (fun sg => Mo.tt) (fun sg => Ow.emp) (0, 0) [0, 3, 4] hS rfl ?_
 clear hS
 rintro ⟨n3_1, i4_2⟩ m1 y1 hS hK1
 show VC _ _ _ _ _ [(0, r_0.val), (3, i64 n3_1), (4, i64 i4_2)] (Mo.and Mo.tt _) (Ow.emp)
 refine Zq (Zq (Zr ?_))
 refine Zm ?_
 refine Zm ?_
 refine VL.q (q_ln (s := r_0) Tryz.underlying23 rfl) (by decide) ?_
 refine VL.q (q_lss rfl rfl) (by decide) ?_
 refine Zl ?_
 refine VC.cond_dec rfl (fun h19 => ?_) (fun h19 => ?_)
 ·
  replace hS := it_t h19 hS
  refine Zk ?_
  refine Zq (Zb (Zq (Zr ?_)))
  refine Zm ?_
  refine Zm ?_
  refine Zm ?_
  obtain ⟨z25_3, nz25_3, hz25_3, hS⟩ := at_s hS
  refine VL.q (q_ixm (s := r_0) Tryz.underlying23 gsz50 rfl rfl nz25_3 (lt_of_get nz25_3 hz25_3)) (by decide) ?_
  refine VL.q (q_field gfa50_2 rfl) (by decide) ?_
  refine VL.q (q_elf (s := r_0) gone9 rfl hz25_3 rfl) (by decide) ?_
  refine VL.q (q_slen Tryz.underlying9 rfl) (by decide) ?_
  obtain ⟨b29, hS⟩ := gd_s hS
  refine VL.q (q_add rfl rfl b29) (by decide) ?_
  refine Za ?_
  refine Zl ?_
  refine VC.keep [0, 3, 4] rfl ?_
  refine VC.cutJ (S := Bool) (fun (x45_4 : Bool) => x45_4) (fun (x45_4 : Bool) => [(0, r_0.val), (3, i64 (n3_1 + (z25_3.data.length : Int))), (4, i64 i4_2), (45, .bool x45_4)]) (fun (x45_4 : Bool) => Mo.tt) (fun (x45_4 : Bool) => Ow.emp) hS ?_ ?_
  ·
   clear hS
   intro k5 hS
   refine Zr ?_
   refine Zm ?_
   refine Zm ?_
   obtain ⟨z32_6, nz32_6, hz32_6, hS⟩ := at_s hS
   refine VL.q (q_ixm (s := r_0) Tryz.underlying23 gsz50 rfl rfl nz32_6 (lt_of_get nz32_6 hz32_6)) (by decide) ?_
   refine VL.q (q_field gfa50_2 rfl) (by decide) ?_
   refine VL.q (q_elf (s := r_0) gone9 rfl hz32_6 rfl) (by decide) ?_
   refine VL.q (q_slen Tryz.underlying9 rfl) (by decide) ?_
   refine VL.q (q_gtr rfl rfl) (by decide) ?_
   refine Zm ?_
   refine VL.split_dec 37 rfl (fun h37 => ?_) (fun h37 => ?_)
   ·
    replace hS := it_t h37 hS
    refine Zg ?_
    refine Zg ?_
    obtain ⟨z40_7, nz40_7, hz40_7, hS⟩ := at_s hS
    refine VL.gy rfl rfl (q_ixm (s := r_0) Tryz.underlying23 gsz50 rfl rfl nz40_7 (lt_of_get nz40_7 hz40_7)) (by decide) ?_
    refine VL.gy rfl rfl (q_field gfa50_2 rfl) (by decide) ?_
    refine VL.gy rfl rfl (q_elf (s := r_0) gone9 rfl hz40_7 rfl) (by decide) ?_
    refine VL.gy rfl rfl (q_slen Tryz.underlying9 rfl) (by decide) ?_
    refine VL.gy rfl rfl (q_leq rfl rfl) (by decide) ?_
    refine Zt ?_
    refine VL.mt (decide ((z40_7.data.length : Int) ≤ 4096)) [0, 3, 4, 45] (fun _ _ h => h) hS rfl
   replace hS := it_f h37 hS
   refine Zn ?_
   refine Zn ?_
   refine Zn ?_
   refine Zn ?_
   refine Zn ?_
   refine Zn ?_
   refine Zn ?_
   refine Zf ?_
   refine VL.mt false [0, 3, 4, 45] (fun _ _ h => h) hS rfl
  clear hS
  rintro x45_4 hS
  show VC _ _ _ _ _ [(0, r_0.val), (3, i64 (n3_1 + (z25_3.data.length : Int))), (4, i64 i4_2), (45, .bool x45_4)] (Mo.and Mo.tt _) (Ow.emp)
  refine VC.cond rfl (fun h45 => ?_) (fun h45 => ?_)
  ·
   replace hS := it_t h45 hS
   refine Zq (Zr ?_)
   refine Za ?_
   refine Zl ?_
   replace hS := up2 hS hK1
   cases hS
   exact Ze
  replace hS := it_b h45 hS
  refine Zk ?_
  refine Zr ?_
  refine Zm ?_
  obtain ⟨b21, hS⟩ := gd_s hS
  refine VL.q (q_add rfl rfl b21) (by decide) ?_
  refine Za ?_
  refine VL.rnd ((n3_1 + (z25_3.data.length : Int)), (i4_2 + 1)) [0, 3, 4] (fun _ _ h => h) (go2 hS hK1) rfl
 replace hS := it_f h19 hS
 replace hS := up2 hS hK1
 refine Zx ?_
 refine Zq (Zr ?_)
 refine Zm ?_
 refine VL.q (q_leq rfl rfl) (by decide) ?_
 refine Zm ?_
 refine VL.split_dec 48 rfl (fun h48 => ?_) (fun h48 => ?_)
 ·
  replace hS := it_t h48 hS
  refine Zn ?_
  refine Zn ?_
  refine Zt ?_
  refine Za ?_
  refine Zl ?_
  refine VC.keep [2] rfl ?_
  cases hS
  exact Ze
 replace hS := it_f h48 hS
 refine Zg ?_
 refine VL.gy rfl rfl (q_gtr rfl rfl) (by decide) ?_
 refine Zf ?_
 refine Za ?_
 refine Zl ?_
 refine VC.keep [2] rfl ?_
 cases hS
 exact Ze
theorem rectolaw16_TreesStages_ct (b_0 : Sv FilesFile) (o_1 : Sv FilesFile) (t_2 : Sv FilesFile) {r : Bool} (hS : Sh.rectolaw16_TreesStages b_0.l o_1.l t_2.l = some r) :
 Ct Tryz.prog 8 [b_0.val, o_1.val, t_2.val] (b_0.ok.and (o_1.ok.and t_2.ok)) (Ow.emp) (X := Unit) (fun _ => .bool r) (fun _ => True) (fun _ => Mo.tt) (fun _ => Ow.emp) := by
 refine Ct.of Tryz.func8 rfl (by kernel_rfl) Tryz.ntmps8 (by simp) fun c => ?_
 unfold Sh.rectolaw16_TreesStages at hS
 refine Zq (Zr ?_)
 refine Za ?_
 refine Zl ?_
 refine Zq (Zq (Zr ?_))
 obtain ⟨y16_1, ey16_1, hS⟩ := bd_s hS
 refine VL.q (q_call (rectolaw16_known_ct ey16_1) rfl (fun _ _ => rfl)) (by decide) ?_
 refine VL.q (q_not rfl) (by decide) ?_
 refine Zl ?_
 refine VC.cond rfl (fun h17 => ?_) (fun h17 => ?_)
 ·
  replace hS := it_t h17 hS
  refine Zq (Zr ?_)
  refine Za ?_
  refine Zl ?_
  cases hS
  exact Ze
 replace hS := it_b h17 hS
 refine Zk ?_
 refine Zq ?_
 refine VC.cutJ (S := Bool) (fun (x45_2 : Bool) => x45_2) (fun (x45_2 : Bool) => [(0, b_0.val), (1, o_1.val), (2, t_2.val), (45, .bool x45_2)]) (fun (x45_2 : Bool) => Mo.tt) (fun (x45_2 : Bool) => Ow.emp) hS ?_ ?_
 ·
  clear hS
  intro k3 hS
  refine Zr ?_
  refine Zm ?_
  obtain ⟨y19_4, ey19_4, hS⟩ := bd_s hS
  refine VL.q (q_call (rectolaw14_Few_ct b_0 ey19_4) rfl (fun _ _ => rfl)) (by decide) ?_
  refine VL.q (q_not rfl) (by decide) ?_
  refine Zm ?_
  refine VL.split 21 rfl (fun h21 => ?_) (fun h21 => ?_)
  ·
   replace hS := it_t h21 hS
   refine Zn ?_
   refine Zn ?_
   refine Zn ?_
   refine Zt ?_
   refine Zm ?_
   refine Zn ?_
   refine Zn ?_
   refine Zn ?_
   refine Zt ?_
   refine Zm ?_
   refine Zn ?_
   refine Zn ?_
   refine Zn ?_
   refine Zt ?_
   refine Zm ?_
   refine Zn ?_
   refine Zn ?_
   refine Zn ?_
   refine Zt ?_
   refine Zm ?_
   refine Zn ?_
   refine Zn ?_
   refine Zn ?_
   refine Zt ?_
   refine VL.mt true [0, 1, 2, 45] (fun _ _ h => h) hS rfl
  replace hS := it_b h21 hS
  refine Zg ?_
  obtain ⟨y23_5, ey23_5, hS⟩ := bd_s hS
  refine VL.gy rfl rfl (q_call (rectolaw14_Few_ct o_1 ey23_5) rfl (fun _ _ => rfl)) (by decide) ?_
  refine VL.gy rfl rfl (q_not rfl) (by decide) ?_
  refine Zf ?_
  refine Zm ?_
  refine VL.split 26 rfl (fun h26 => ?_) (fun h26 => ?_)
  ·
   replace hS := it_t h26 hS
   refine Zn ?_
   refine Zn ?_
   refine Zn ?_
   refine Zt ?_
   refine Zm ?_
   refine Zn ?_
   refine Zn ?_
   refine Zn ?_
   refine Zt ?_
   refine Zm ?_
   refine Zn ?_
   refine Zn ?_
   refine Zn ?_
   refine Zt ?_
   refine Zm ?_
   refine Zn ?_
   refine Zn ?_
   refine Zn ?_
   refine Zt ?_
   refine VL.mt true [0, 1, 2, 45] (fun _ _ h => h) hS rfl
  replace hS := it_b h26 hS
  refine Zg ?_
  obtain ⟨y28_6, ey28_6, hS⟩ := bd_s hS
  refine VL.gy rfl rfl (q_call (rectolaw14_Few_ct t_2 ey28_6) rfl (fun _ _ => rfl)) (by decide) ?_
  refine VL.gy rfl rfl (q_not rfl) (by decide) ?_
  refine Zf ?_
  refine Zm ?_
  refine VL.split 31 rfl (fun h31 => ?_) (fun h31 => ?_)
  ·
   replace hS := it_t h31 hS
   refine Zn ?_
   refine Zn ?_
   refine Zn ?_
   refine Zt ?_
   refine Zm ?_
   refine Zn ?_
   refine Zn ?_
   refine Zn ?_
   refine Zt ?_
   refine Zm ?_
   refine Zn ?_
   refine Zn ?_
   refine Zn ?_
   refine Zt ?_
   refine VL.mt true [0, 1, 2, 45] (fun _ _ h => h) hS rfl
  replace hS := it_b h31 hS
  refine Zg ?_
  obtain ⟨y33_7, ey33_7, hS⟩ := bd_s hS
  refine VL.gy rfl rfl (q_call (rectolaw16_short_ct b_0 ey33_7) rfl (fun _ _ => rfl)) (by decide) ?_
  refine VL.gy rfl rfl (q_not rfl) (by decide) ?_
  refine Zf ?_
  refine Zm ?_
  refine VL.split 36 rfl (fun h36 => ?_) (fun h36 => ?_)
  ·
   replace hS := it_t h36 hS
   refine Zn ?_
   refine Zn ?_
   refine Zn ?_
   refine Zt ?_
   refine Zm ?_
   refine Zn ?_
   refine Zn ?_
   refine Zn ?_
   refine Zt ?_
   refine VL.mt true [0, 1, 2, 45] (fun _ _ h => h) hS rfl
  replace hS := it_b h36 hS
  refine Zg ?_
  obtain ⟨y38_8, ey38_8, hS⟩ := bd_s hS
  refine VL.gy rfl rfl (q_call (rectolaw16_short_ct o_1 ey38_8) rfl (fun _ _ => rfl)) (by decide) ?_
  refine VL.gy rfl rfl (q_not rfl) (by decide) ?_
  refine Zf ?_
  refine Zm ?_
  refine VL.split 41 rfl (fun h41 => ?_) (fun h41 => ?_)
  ·
   replace hS := it_t h41 hS
   refine Zn ?_
   refine Zn ?_
   refine Zn ?_
   refine Zt ?_
   refine VL.mt true [0, 1, 2, 45] (fun _ _ h => h) hS rfl
  replace hS := it_b h41 hS
  refine Zg ?_
  obtain ⟨y43_9, ey43_9, hS⟩ := bd_s hS
  refine VL.gy rfl rfl (q_call (rectolaw16_short_ct t_2 ey43_9) rfl (fun _ _ => rfl)) (by decide) ?_
  refine VL.gy rfl rfl (q_not rfl) (by decide) ?_
  refine Zf ?_
  refine VL.mt (!y43_9) [0, 1, 2, 45] (fun _ _ h => h) hS rfl
 clear hS
 rintro x45_2 hS
 show VC _ _ _ _ _ [(0, b_0.val), (1, o_1.val), (2, t_2.val), (45, .bool x45_2)] (Mo.and Mo.tt _) (Ow.emp)
 refine VC.cond rfl (fun h45 => ?_) (fun h45 => ?_)
 ·
  replace hS := it_t h45 hS
  refine Zq (Zr ?_)
  refine Za ?_
  refine Zl ?_
  cases hS
  exact Ze
 replace hS := it_b h45 hS
 refine Zk ?_
 refine Zq (Zr ?_)
 refine Zm ?_
 refine Zm ?_
 refine Zm ?_
 obtain ⟨y50_10, ey50_10, hS⟩ := bd_s hS
 refine VL.callF (tmerge_Merge_ct b_0 o_1 t_2 [120] [121] ey50_10) rfl (by decide) ?_
 rintro ⟨q50_10_0, q50_10_1⟩ rfl
 try dsimp only
 refine Zm ?_
 refine VL.q (q_extract rfl rfl) (by decide) ?_
 refine VL.q (q_extract rfl rfl) (by decide) ?_
 refine VL.alloc (cs := [.slice none 0 0, .slice none 0 0, .slice none 0 0]) (by kernel_rfl) (by decide) fun b7_11 => ?_
 refine VL.store (vc := [q50_10_0.files.val, q50_10_0.entries.val, q50_10_0.conflicts.val]) (cs' := [q50_10_0.files.val, q50_10_0.entries.val, q50_10_0.conflicts.val]) rfl rfl rfl gsz34 rfl rfl (Nat.le_of_ble_eq_true rfl) rfl ?_
 refine Za ?_
 refine Zl ?_
 refine VC.keep [0, 1, 2, 7, 8] rfl ?_
 refine Zq (Zq (Zr ?_))
 refine Zm ?_
 refine VL.q (q_erne Tryz.underlying27 rfl) (by decide) ?_
 refine Zl ?_
 refine VC.cond_ndec rfl (fun h54 => ?_) (fun h54 => ?_)
 ·
  replace hS := it_f h54 hS
  refine Zq (Zr ?_)
  refine VL.q (q_field gfa34_1 rfl) (by decide) ?_
  refine VL.q (q_fe gone29 rfl rfl) (by decide) ?_
  refine VL.q (q_ln (s := q50_10_0.entries) Tryz.underlying29 rfl) (by decide) ?_
  refine VL.q (q_eql rfl rfl) (by decide) ?_
  refine Zm ?_
  refine VL.split_dec 59 rfl (fun h59 => ?_) (fun h59 => ?_)
  ·
   replace hS := it_t h59 hS
   refine VL.gy rfl rfl (q_field gfa34_2 rfl) (by decide) ?_
   refine VL.gy rfl rfl (q_fe gone32 rfl rfl) (by decide) ?_
   refine VL.gy rfl rfl (q_ln (s := q50_10_0.conflicts) Tryz.underlying32 rfl) (by decide) ?_
   refine VL.gy rfl rfl (q_eql rfl rfl) (by decide) ?_
   refine Zt ?_
   refine Za ?_
   refine Zl ?_
   refine VC.keep [6] rfl ?_
   cases hS
   exact Ze
  replace hS := it_f h59 hS
  refine Zn ?_
  refine Zn ?_
  refine Zn ?_
  refine Zn ?_
  refine Zf ?_
  refine Za ?_
  refine Zl ?_
  refine VC.keep [6] rfl ?_
  cases hS
  exact Ze
 replace hS := it_t h54 hS
 refine Zk ?_
 refine Zq (Zr ?_)
 refine Zm ?_
 refine Zm ?_
 refine Zm ?_
 refine VL.lit (α := Sv FilesFile) (xs := [.tmp 65, .tmp 66, .tmp 67]) (vs := [b_0.val, o_1.val, t_2.val]) [b_0, o_1, t_2] Tryz.underlying81 glit23 (by decide) rfl rfl rfl rfl (by decide) (fun h m => List.forall_mem_cons.2 ⟨InM.out (X := b_0.ok) h m, List.forall_mem_cons.2 ⟨InM.out (X := o_1.ok) h m, List.forall_mem_cons.2 ⟨InM.out (X := t_2.ok) h m, fun _ h => by cases h⟩⟩⟩) (by decide) (fun s68_12 hs68_12 => ?_) (by decide)
 replace hS := lt_to (congrArg (List.map Sv.l) hs68_12) hS
 refine Za ?_
 refine Zl ?_
 refine VC.keep [7, 9] rfl ?_
 refine Zq (Zr ?_)
 refine Za ?_
 refine Zl ?_
 refine Zq (Zq (Zr ?_))
 refine Za ?_
 refine Zl ?_
 refine Zb ?_
 refine VC.iter (S := Int × Int) (fun sg => (sg.1, sg.2)) (fun sg => [(7, ptr b7_11 0), (9, s68_12.val), (10, i64 sg.1), (11, i64 sg.2)]) (fun sg => Mo.tt) (fun sg => Ow.star (Blk b7_11 [q50_10_0.files.val, q50_10_0.entries.val, q50_10_0.conflicts.val] 34) (Ow.emp)) (0, 0) [7, 9, 10, 11] hS rfl ?_
 clear hS
 rintro ⟨n10_14, i11_15⟩ m1 y1 hS hK1
 show VC _ _ _ _ _ [(7, ptr b7_11 0), (9, s68_12.val), (10, i64 n10_14), (11, i64 i11_15)] (Mo.and Mo.tt _) (Ow.star (Blk b7_11 [q50_10_0.files.val, q50_10_0.entries.val, q50_10_0.conflicts.val] 34) (Ow.emp))
 refine Zq (Zq (Zr ?_))
 refine Zm ?_
 refine VL.q (q_field gfa34_2 rfl) (by decide) ?_
 refine VL.q (q_fe gone32 rfl rfl) (by decide) ?_
 refine VL.q (q_ln (s := q50_10_0.conflicts) Tryz.underlying32 rfl) (by decide) ?_
 refine VL.q (q_lss rfl rfl) (by decide) ?_
 refine Zl ?_
 refine VC.cond_dec rfl (fun h73 => ?_) (fun h73 => ?_)
 ·
  replace hS := it_t h73 hS
  refine Zk ?_
  refine Zq (Zb (Zq (Zr ?_)))
  refine Za ?_
  refine Zl ?_
  refine Zb ?_
  refine VC.iter (S := Int × Int) (fun sg => (sg.1, sg.2)) (fun sg => [(7, ptr b7_11 0), (9, s68_12.val), (10, i64 sg.1), (11, i64 i11_15), (12, i64 sg.2)]) (fun sg => Mo.tt) (fun sg => Ow.star (Blk b7_11 [q50_10_0.files.val, q50_10_0.entries.val, q50_10_0.conflicts.val] 34) (Ow.emp)) (n10_14, 1) [7, 9, 10, 11, 12] hS rfl ?_
  clear hS
  rintro ⟨n10_16, s12_17⟩ m2 y2 hS hK2
  show VC _ _ _ _ _ [(7, ptr b7_11 0), (9, s68_12.val), (10, i64 n10_16), (11, i64 i11_15), (12, i64 s12_17)] (Mo.and Mo.tt _) (Ow.star (Blk b7_11 [q50_10_0.files.val, q50_10_0.entries.val, q50_10_0.conflicts.val] 34) (Ow.emp))
  refine Zq (Zq (Zr ?_))
  refine Zm ?_
  refine VL.q (q_leq rfl rfl) (by decide) ?_
  refine Zl ?_
  refine VC.cond_dec rfl (fun h77 => ?_) (fun h77 => ?_)
  ·
   replace hS := it_t h77 hS
   refine Zk ?_
   refine VC.cutJ (S := Int) (fun (n10_18 : Int) => n10_18) (fun (n10_18 : Int) => [(7, ptr b7_11 0), (9, s68_12.val), (10, i64 n10_18), (11, i64 i11_15), (12, i64 s12_17)]) (fun (n10_18 : Int) => Mo.tt) (fun (n10_18 : Int) => Ow.star (Blk b7_11 [q50_10_0.files.val, q50_10_0.entries.val, q50_10_0.conflicts.val] 34) (Ow.emp)) hS ?_ ?_
   ·
    clear hS
    intro k19 hS
    refine Zb (Zq ?_)
    refine VC.draw [(0, true), (1, true), (2, true), (3, true), (4, true), (5, true), (6, true), (7, true), (8, true), (9, true), (10, true), (11, true), (12, true), (13, true), (14, false), (15, false), (16, true)] mixed (by kernel_rfl) (by kernel_rfl) (by kernel_rfl) ?_
    refine VD.q rfl (q_move rfl) (by decide) ?_
    refine VD.q rfl (q_move rfl) (by decide) ?_
    obtain ⟨b83, hS⟩ := gd_s hS
    refine VD.q rfl (q_sub rfl rfl b83) (by decide) ?_
    obtain ⟨z84_20, nz84_20, hz84_20, hS⟩ := atm_s hS
    refine VD.deep z84_20.ok hz84_20 (fun _ q => q) ?_
    refine VD.q rfl (q_ixm (s := s68_12) Tryz.underlying81 gsz23 rfl rfl nz84_20 (lt_of_get nz84_20 hz84_20)) (by decide) ?_
    refine VD.q rfl (q_el (s := s68_12) gone23 rfl hz84_20 rfl) (by decide) ?_
    refine VD.q rfl (q_field gfa34_2 rfl) (by decide) ?_
    refine VD.q rfl (q_fe gone32 rfl rfl) (by decide) ?_
    refine VD.q rfl (q_move rfl) (by decide) ?_
    obtain ⟨z89_21, nz89_21, hz89_21, hS⟩ := at_s hS
    refine VD.q rfl (q_ixm (s := q50_10_0.conflicts) Tryz.underlying32 gsz9 rfl rfl nz89_21 (lt_of_get nz89_21 hz89_21)) (by decide) ?_
    refine VD.q rfl (q_el (s := q50_10_0.conflicts) gone9 rfl hz89_21 rfl) (by decide) ?_
    obtain ⟨y91_22, ey91_22, hS⟩ := bd_s hS
    refine VD.q rfl (q_call (files_Row_Get_ct z84_20 z89_21 ey91_22) rfl (fun _ _ => rfl)) (by decide) ?_
    refine VD.q rfl (q_move rfl) (by decide) ?_
    refine VD.q rfl (q_extract rfl rfl) (by decide) ?_
    refine VD.q rfl (q_extract rfl rfl) (by decide) ?_
    refine VD.one rfl ?_
    refine VL.alloc (cs := [str [], i64 0, str []]) (by kernel_rfl) (by decide) fun b13_23 => ?_
    refine VL.back (D' := [(13, .bool y91_22.2), (12, .agg #[str y91_22.1.path, i64 y91_22.1.mode, str y91_22.1.data]), (11, .tuple #[.agg #[str y91_22.1.path, i64 y91_22.1.mode, str y91_22.1.data], .bool y91_22.2]), (10, .tuple #[.agg #[str y91_22.1.path, i64 y91_22.1.mode, str y91_22.1.data], .bool y91_22.2]), (9, str z89_21), (8, ptr q50_10_0.conflicts.b (q50_10_0.conflicts.o + (i11_15).toNat * Dat.sz Str + 0)), (6, q50_10_0.conflicts.val), (5, ptr b7_11 2), (4, z84_20.val), (3, ptr s68_12.b (s68_12.o + ((s12_17 - 1)).toNat * Dat.sz (Sv FilesFile) + 0)), (2, i64 (s12_17 - 1))]) (by kernel_rfl) (Pend.cons rfl (q_extract rfl rfl) (Pend.cons rfl (q_extract rfl rfl) (Pend.cons rfl (q_move rfl) (Pend.cons rfl (q_call (files_Row_Get_ct z84_20 z89_21 ey91_22) rfl (fun _ _ => rfl)) (Pend.cons rfl (q_el (s := q50_10_0.conflicts) gone9 rfl hz89_21 rfl) (Pend.cons rfl (q_ixm (s := q50_10_0.conflicts) Tryz.underlying32 gsz9 rfl rfl nz89_21 (lt_of_get nz89_21 hz89_21)) (Pend.cons rfl (q_fe gone32 rfl rfl) (Pend.cons rfl (q_field gfa34_2 rfl) (Pend.cons rfl (q_el (s := s68_12) gone23 rfl hz84_20 rfl) (Pend.cons rfl (q_ixm (s := s68_12) Tryz.underlying81 gsz23 rfl rfl nz84_20 (lt_of_get nz84_20 hz84_20)) (Pend.cons rfl (q_sub rfl rfl b83) (Pend.nil)))))))))))) ?_
    refine VD.one rfl ?_
    refine VL.store (vc := [str y91_22.1.path, i64 y91_22.1.mode, str y91_22.1.data]) (cs' := [str y91_22.1.path, i64 y91_22.1.mode, str y91_22.1.data]) rfl rfl rfl gsz50 rfl rfl (Nat.le_of_ble_eq_true rfl) rfl ?_
    refine VL.back (D' := [(13, .bool y91_22.2)]) (by kernel_rfl) (Pend.cons rfl (q_extract rfl rfl) (Pend.nil)) ?_
    refine VD.q rfl (q_assign rfl) (by decide) ?_
    refine VD.to (fun _ _ h => h) ?_
    refine VC.keep [7, 9, 10, 11, 12, 13, 14] rfl ?_
    refine Zq (Zq (Zr ?_))
    refine Zm ?_
    refine VL.q (q_not rfl) (by decide) ?_
    refine Zl ?_
    refine VC.cond rfl (fun h95 => ?_) (fun h95 => ?_)
    ·
     replace hS := it_t h95 hS
     refine VC.exit_mt n10_16 [7, 9, 10, 11, 12] (fun _ _ h => h) hS rfl
    replace hS := it_b h95 hS
    refine Zk ?_
    refine Zq (Zq (Zr ?_))
    refine Zm ?_
    refine VL.q (q_field gfa34_1 rfl) (by decide) ?_
    refine VL.q (q_fe gone29 rfl rfl) (by decide) ?_
    refine VL.q (q_ln (s := q50_10_0.entries) Tryz.underlying29 rfl) (by decide) ?_
    refine VL.q (q_geq rfl rfl) (by decide) ?_
    refine Zl ?_
    refine VC.keep [7, 9, 10, 11, 12, 13, 100] rfl ?_
    refine VC.cond_dec rfl (fun h100 => ?_) (fun h100 => ?_)
    ·
     replace hS := it_t h100 hS
     refine Zq (Zr ?_)
     refine Za ?_
     refine Zl ?_
     replace hS := up2 hS hK2
     replace hS := up2 hS hK1
     cases hS
     exact Ze
    replace hS := it_f h100 hS
    refine Zk ?_
    refine Zq (Zr ?_)
    refine VL.q (q_field gfa34_1 rfl) (by decide) ?_
    refine VL.q (q_fe gone29 rfl rfl) (by decide) ?_
    refine Zm ?_
    obtain ⟨z104_24, nz104_24, hz104_24, hS⟩ := at_s hS
    refine VL.q (q_ixm (s := q50_10_0.entries) Tryz.underlying29 gsz83 rfl rfl nz104_24 (lt_of_get nz104_24 hz104_24)) (by decide) ?_
    refine VL.q (q_els (s := q50_10_0.entries) gagg83 rfl rfl hz104_24) (by decide) ?_
    refine VL.alloc (cs := [str [], i64 0, i64 0, str [], i64 0, i64 0]) (by kernel_rfl) (by decide) fun b15_25 => ?_
    refine VL.store (vc := [str z104_24.path, i64 z104_24.stage, i64 z104_24.mode, str z104_24.data, i64 z104_24.time, i64 z104_24.size]) (cs' := [str z104_24.path, i64 z104_24.stage, i64 z104_24.mode, str z104_24.data, i64 z104_24.time, i64 z104_24.size]) rfl rfl rfl gsz83 rfl rfl (Nat.le_of_ble_eq_true rfl) rfl ?_
    refine Zl ?_
    refine Zq ?_
    refine VC.cutJ (S := Bool) (fun (x130_26 : Bool) => x130_26) (fun (x130_26 : Bool) => [(7, ptr b7_11 0), (9, s68_12.val), (10, i64 n10_16), (11, i64 i11_15), (12, i64 s12_17), (130, .bool x130_26)]) (fun (x130_26 : Bool) => Mo.tt) (fun (x130_26 : Bool) => Ow.star (Blk b15_25 [str z104_24.path, i64 z104_24.stage, i64 z104_24.mode, str z104_24.data, i64 z104_24.time, i64 z104_24.size] 83) (Ow.star (Blk b13_23 [str y91_22.1.path, i64 y91_22.1.mode, str y91_22.1.data] 50) (Ow.star (Blk b7_11 [q50_10_0.files.val, q50_10_0.entries.val, q50_10_0.conflicts.val] 34) (Ow.emp)))) hS ?_ ?_
    ·
     clear hS
     intro k27 hS
     refine Zr ?_
     refine VL.q (q_field gfa83_0 rfl) (by decide) ?_
     refine VL.q (q_fe gone9 rfl rfl) (by decide) ?_
     refine VL.q (q_field gfa50_0 rfl) (by decide) ?_
     refine VL.q (q_fe gone9 rfl rfl) (by decide) ?_
     refine VL.q (q_sne rfl rfl) (by decide) ?_
     refine Zm ?_
     refine VL.split_ndec 111 rfl (fun h111 => ?_) (fun h111 => ?_)
     ·
      replace hS := it_f h111 hS
      refine Zn ?_
      refine Zn ?_
      refine Zn ?_
      refine Zn ?_
      refine Zt ?_
      refine Zm ?_
      refine Zn ?_
      refine Zn ?_
      refine Zn ?_
      refine Zn ?_
      refine Zn ?_
      refine Zt ?_
      refine Zm ?_
      refine Zn ?_
      refine Zn ?_
      refine Zn ?_
      refine Zn ?_
      refine Zn ?_
      refine Zt ?_
      refine VL.mt true [7, 9, 10, 11, 12, 130] (fun _ _ h => h) hS rfl
     replace hS := it_t h111 hS
     refine VL.gy rfl rfl (q_field gfa83_1 rfl) (by decide) ?_
     refine VL.gy rfl rfl (q_fe gone3 rfl rfl) (by decide) ?_
     refine Zg ?_
     refine VL.gy rfl rfl (q_neq rfl rfl) (by decide) ?_
     refine Zf ?_
     refine Zm ?_
     refine VL.split_ndec 117 rfl (fun h117 => ?_) (fun h117 => ?_)
     ·
      replace hS := it_f h117 hS
      refine Zn ?_
      refine Zn ?_
      refine Zn ?_
      refine Zn ?_
      refine Zn ?_
      refine Zt ?_
      refine Zm ?_
      refine Zn ?_
      refine Zn ?_
      refine Zn ?_
      refine Zn ?_
      refine Zn ?_
      refine Zt ?_
      refine VL.mt true [7, 9, 10, 11, 12, 130] (fun _ _ h => h) hS rfl
     replace hS := it_t h117 hS
     refine VL.gy rfl rfl (q_field gfa83_2 rfl) (by decide) ?_
     refine VL.gy rfl rfl (q_fe gone3 rfl rfl) (by decide) ?_
     refine VL.gy rfl rfl (q_field gfa50_1 rfl) (by decide) ?_
     refine VL.gy rfl rfl (q_fe gone3 rfl rfl) (by decide) ?_
     refine VL.gy rfl rfl (q_neq rfl rfl) (by decide) ?_
     refine Zf ?_
     refine Zm ?_
     refine VL.split_ndec 124 rfl (fun h124 => ?_) (fun h124 => ?_)
     ·
      replace hS := it_f h124 hS
      refine Zn ?_
      refine Zn ?_
      refine Zn ?_
      refine Zn ?_
      refine Zn ?_
      refine Zt ?_
      refine VL.mt true [7, 9, 10, 11, 12, 130] (fun _ _ h => h) hS rfl
     replace hS := it_t h124 hS
     refine VL.gy rfl rfl (q_field gfa83_3 rfl) (by decide) ?_
     refine VL.gy rfl rfl (q_fe gone9 rfl rfl) (by decide) ?_
     refine VL.gy rfl rfl (q_field gfa50_2 rfl) (by decide) ?_
     refine VL.gy rfl rfl (q_fe gone9 rfl rfl) (by decide) ?_
     refine VL.gy rfl rfl (q_sne rfl rfl) (by decide) ?_
     refine Zf ?_
     refine VL.mt (!decide (z104_24.data = y91_22.1.data)) [7, 9, 10, 11, 12, 130] (fun _ _ h => h) hS rfl
    clear hS
    rintro x130_26 hS
    show VC _ _ _ _ _ [(7, ptr b7_11 0), (9, s68_12.val), (10, i64 n10_16), (11, i64 i11_15), (12, i64 s12_17), (130, .bool x130_26)] (Mo.and Mo.tt _) (Ow.star (Blk b15_25 [str z104_24.path, i64 z104_24.stage, i64 z104_24.mode, str z104_24.data, i64 z104_24.time, i64 z104_24.size] 83) (Ow.star (Blk b13_23 [str y91_22.1.path, i64 y91_22.1.mode, str y91_22.1.data] 50) (Ow.star (Blk b7_11 [q50_10_0.files.val, q50_10_0.entries.val, q50_10_0.conflicts.val] 34) (Ow.emp))))
    refine VC.cond rfl (fun h130 => ?_) (fun h130 => ?_)
    ·
     replace hS := it_t h130 hS
     refine Zq (Zr ?_)
     refine Za ?_
     refine Zl ?_
     replace hS := up2 hS hK2
     replace hS := up2 hS hK1
     cases hS
     exact Ze
    replace hS := it_b h130 hS
    refine Zk ?_
    refine Zr ?_
    refine Zm ?_
    obtain ⟨b132, hS⟩ := gd_s hS
    refine VL.q (q_add rfl rfl b132) (by decide) ?_
    refine Za ?_
    refine VL.mt (n10_16 + 1) [7, 9, 10, 11, 12] (fun _ _ h => h) hS rfl
   clear hS
   rintro n10_18 hS
   show VC _ _ _ _ _ [(7, ptr b7_11 0), (9, s68_12.val), (10, i64 n10_18), (11, i64 i11_15), (12, i64 s12_17)] (Mo.and Mo.tt _) (Ow.star (Blk b7_11 [q50_10_0.files.val, q50_10_0.entries.val, q50_10_0.conflicts.val] 34) (Ow.emp))
   refine Zr ?_
   refine Zm ?_
   obtain ⟨b79, hS⟩ := gd_s hS
   refine VL.q (q_add rfl rfl b79) (by decide) ?_
   refine Za ?_
   refine VL.rnd (n10_18, (s12_17 + 1)) [7, 9, 10, 11, 12] (fun _ _ h => h) (go2 hS hK2) rfl
  replace hS := it_f h77 hS
  replace hS := up2 hS hK2
  refine Zx ?_
  refine Zr ?_
  refine Zm ?_
  obtain ⟨b75, hS⟩ := gd_s hS
  refine VL.q (q_add rfl rfl b75) (by decide) ?_
  refine Za ?_
  refine VL.rnd (n10_16, (i11_15 + 1)) [7, 9, 10, 11] (fun _ _ h => h) (go2 hS hK1) rfl
 replace hS := it_f h73 hS
 replace hS := up2 hS hK1
 refine Zx ?_
 refine Zq (Zr ?_)
 refine Zm ?_
 refine VL.q (q_field gfa34_1 rfl) (by decide) ?_
 refine VL.q (q_fe gone29 rfl rfl) (by decide) ?_
 refine VL.q (q_ln (s := q50_10_0.entries) Tryz.underlying29 rfl) (by decide) ?_
 refine VL.q (q_eql rfl rfl) (by decide) ?_
 refine Za ?_
 refine Zl ?_
 refine VC.keep [6] rfl ?_
 cases hS
 exact Ze
end Go.Proofs.YtpmhinamcndmeaaGreatDoor
end

section
namespace Go.S
theorem at_get {α : Type} {l : List α} {i : Int} (h0 : 0 ≤ i) (h : i < l.length) : ∃ z, l[i.toNat]? = some z := ⟨_, List.getElem?_eq_getElem (by omega)⟩
end Go.S
end

section
namespace Go.S
theorem get_lt {α : Type} {l : List α} {i : Nat} {x : α} (h : l[i]? = some x) : i < l.length := (List.getElem?_eq_some_iff.1 h).1
theorem take_snoc {α : Type} {l : List α} {i : Int} {z : α} (h0 : 0 ≤ i) (h : l[i.toNat]? = some z) : l.take (i + 1).toNat = l.take i.toNat ++ [z] := by
  rw [show (i + 1).toNat = i.toNat + 1 by omega, List.take_add_one, h]; rfl
theorem ok_jnP {S R : Type} {K : S → Option R} {F : (S → Option R) → Option R} {Q : R → Prop} (P : S → Prop) (hK : ∀ s, P s → Ok (K s) Q) (hF : ∀ K' : S → Option R, (∀ s, P s → Ok (K' s) Q) → Ok (F K') Q) : Ok (jn K F) Q := hF K hK
end Go.S
end

section
namespace Go.S
open Go
def Fst {α : Type} (p : α → Bool) (l : List α) (r : Int) : Prop := (r = -1 ∧ ∀ z ∈ l, p z = false) ∨ ∃ k : Nat, r = k ∧ k < l.length ∧ (∀ z ∈ l.take k, p z = false) ∧ ∃ z, l[k]? = some z ∧ p z = true
theorem ixloop {α : Type} (p : α → Bool) (l : List α) (hb : l.length ≤ 1000000000) (F : α → Option Bool) (hF : ∀ z ∈ l, F z = some (p z)) (B : Int → Option (Int ⊕ Int))
    (hB : ∀ i, B i = if i < (l.length : Int) then (at_ l i).bind (fun z => (F z).bind (fun y => if y = true then up (some i) else gd (I64 (i + 1)) (go (i + 1)))) else up (some (-1))) : Ok (iter B 0) (Fst p l) := by
  refine ok_iter (I := fun i => 0 ≤ i ∧ i ≤ l.length ∧ ∀ z ∈ l.take i.toNat, p z = false) (μ := fun i => (l.length - i).toNat) ?_ ⟨by omega, by omega, by simp⟩
  rintro i ⟨h0, h1, h2⟩
  rw [hB]
  simp only [ok_if, ok_up, ok_bd, ok_some, ok_at]
  refine ⟨fun h => ?_, fun h => ?_⟩
  · obtain ⟨z, hz⟩ := at_get h0 h
    refine ⟨h0, z, hz, ?_⟩
    rw [hF z (List.mem_of_getElem? hz), ok_some]
    simp only [ok_if, ok_up, ok_gd, ok_go, ok_some]
    refine ⟨fun hp => .inr ⟨i.toNat, by omega, by omega, h2, z, hz, hp⟩, fun hp => ⟨⟨by omega, by omega⟩, ⟨by omega, by omega, fun y hy => ?_⟩, by omega⟩⟩
    rw [take_snoc h0 hz] at hy
    rcases List.mem_append.1 hy with q | q
    · exact h2 y q
    · rw [List.mem_singleton.1 q]; simpa using hp
  · rw [List.take_of_length_le (by omega)] at h2
    exact .inl ⟨rfl, h2⟩
theorem fst_any {α : Type} {p : α → Bool} {l : List α} {r : Int} (h : Fst p l r) : decide (0 ≤ r) = l.any p := by
  rcases h with ⟨rfl, h⟩ | ⟨k, rfl, hk, _, z, hz, hp⟩
  · have : l.any p = false := List.any_eq_false.2 fun z hz => by simp [h z hz]
    rw [this]; rfl
  · have : l.any p = true := List.any_eq_true.2 ⟨z, List.mem_of_getElem? hz, hp⟩
    rw [this]; simp
end Go.S
end

section
namespace Go.S
open Go
def spl (c : UInt8) : List UInt8 → List (List UInt8)
  | [] => [[]]
  | x :: r => if x = c then [] :: spl c r else match spl c r with
    | [] => [[x]]
    | y :: l => (x :: y) :: l
theorem spl_ne (c : UInt8) : ∀ s, spl c s ≠ []
  | [] => by simp [spl]
  | x :: r => by
    unfold spl
    split
    · simp
    · split <;> simp
theorem spl_len (c : UInt8) : ∀ s, (spl c s).length = s.count c + 1
  | [] => by simp [spl]
  | x :: r => by
    have ih := spl_len c r
    unfold spl
    by_cases h : x = c
    · simp [h, ih]
    · rw [if_neg h, List.count_cons_of_ne (by simpa using h)]
      cases hq : spl c r with
      | nil => exact absurd hq (spl_ne c r)
      | cons y l => rw [hq] at ih; simpa using ih
theorem spl_no {c : UInt8} : ∀ {s : List UInt8}, c ∉ s → spl c s = [s]
  | [], _ => rfl
  | x :: r, h => by
    have hx : x ≠ c := fun e => h (by simp [e])
    rw [spl, if_neg hx, spl_no fun e => h (List.mem_cons_of_mem _ e)]
theorem spl_at {c : UInt8} : ∀ {a : List UInt8} (b : List UInt8), c ∉ a → spl c (a ++ c :: b) = a :: spl c b
  | [], b, _ => by simp [spl]
  | x :: a, b, h => by
    have hx : x ≠ c := fun e => h (by simp [e])
    rw [List.cons_append, spl, if_neg hx, spl_at b fun e => h (List.mem_cons_of_mem _ e)]
theorem ix_at {c : UInt8} : ∀ {a : List UInt8} (b : List UInt8), c ∉ a → Lib.indexByte (a ++ c :: b) c = a.length
  | [], b, _ => by simp [Lib.indexByte]
  | x :: a, b, h => by
    have hx : (x == c) = false := by simpa using fun e : x = c => h (by simp [e])
    rw [List.cons_append, Lib.indexByte, hx, ix_at b fun e => h (List.mem_cons_of_mem _ e)]
    simp
theorem split_mem {c : UInt8} {s : List UInt8} (h : c ∈ s) : ∃ a b, s = a ++ c :: b ∧ c ∉ a := by
  induction s with
  | nil => cases h
  | cons x r ih =>
    by_cases hx : x = c
    · exact ⟨[], r, by simp [hx], by simp⟩
    · rcases List.mem_cons.1 h with q | q
      · exact absurd q.symm hx
      · obtain ⟨a, b, e, hn⟩ := ih q
        exact ⟨x :: a, b, by simp [e], by simp [hn, Ne.symm hx]⟩
theorem byte_of (c : UInt8) : (c.toNat : Int).toNat.toUInt8 = c := by simp
theorem ixB_eq (s : List UInt8) (c : UInt8) : ixB s (c.toNat : Int) = Lib.indexByte s c := by unfold ixB; rw [byte_of]
theorem index_ok (s : List UInt8) (c : UInt8) : Sh.internal_stringslite_Index s [c] = some (Lib.indexByte s c) := by
  apply Ok.eq
  unfold Sh.internal_stringslite_Index
  simp only [ok_jn, ok_if, ok_bd, ok_some, ok_at]
  refine ⟨fun h => by simp at h, fun _ => ⟨fun h => ?_, fun _ => ⟨fun _ => ⟨by omega, c, rfl, ?_⟩, fun h => by simp at h⟩⟩⟩
  · have : s = [c] := by simpa using (of_decide_eq_true h).symm
    rw [this]; simp [Lib.indexByte]
  · unfold Sh.internal_stringslite_IndexByte
    rw [ixB_eq]; exact Ok.of rfl rfl
theorem sindex_ok (s : List UInt8) (c : UInt8) : Sh.strings_Index s [c] = some (Lib.indexByte s c) := by
  unfold Sh.strings_Index
  rw [index_ok]; rfl
theorem count_ok (s : List UInt8) (c : UInt8) : Sh.strings_Count s [c] = some (s.count c : Int) := by
  apply Ok.eq
  unfold Sh.strings_Count
  rw [if_neg (by simp), if_pos (by simp)]
  simp only [ok_bd, ok_at, ok_some]
  refine ⟨by omega, c, rfl, ?_⟩
  unfold cntB Lib.countByte
  rw [byte_of]
theorem split_ok {s : List UInt8} (c : UInt8) (hs : s.length ≤ 1000000000) : Sh.strings_Split s [c] = some (spl c s) := by
  apply Ok.eq
  unfold Sh.strings_Split Sh.strings_genSplit
  rw [ok_bd]
  have hc : s.count c ≤ s.length := List.count_le_length
  simp only [count_ok, ok_jn, ok_if, ok_bd, ok_gd, ok_lt, ok_some, ok_at]
  refine ⟨fun h => by omega, fun _ => ⟨fun h => by simp at h, fun _ => ⟨fun _ => ?_, fun h => by omega⟩⟩⟩
  have hm : (min ((s.count c : Int) + 1) ((s.length : Int) + 1)) = (s.count c : Int) + 1 := by omega
  rw [hm]
  refine ⟨⟨by omega, by omega⟩, ⟨by omega, by omega⟩, ⟨by omega, by omega⟩, ⟨by omega, by omega⟩, ?_⟩
  refine ok_iter (I := fun t => 0 ≤ t.2.2 ∧ t.2.2 + t.1.count c = s.count c ∧ t.2.1.length = s.count c + 1 ∧ t.2.1.take t.2.2.toNat ++ spl c t.1 = spl c s ∧ t.1.length ≤ s.length) (μ := fun t => t.1.length) ?_ ⟨by simp, by simp, by simp, by simp, by simp⟩
  rintro ⟨x, l, i⟩ ⟨i0, i1, i2, i3, i4⟩
  dsimp only at i0 i1 i2 i3 i4 ⊢
  have fin : c ∉ x → Ok (((at_ l i).bind fun z61_20 => lt (l.set i.toNat x) fun ys4_22 => gd (I64 (i + 1)) (gd ((0 : Int) ≤ (i + 1) ∧ (i + 1) ≤ (ys4_22.length : Int)) (lt (ys4_22.take (i + 1).toNat) fun y65_24 => some y65_24)))) (fun a => a = spl c s) := fun hx => by
    rw [spl_no hx] at i3
    rw [List.count_eq_zero_of_not_mem hx] at i1
    simp only [ok_bd, ok_gd, ok_lt, ok_some, ok_at]
    obtain ⟨z, hz⟩ := at_get (l := l) i0 (by omega)
    refine ⟨i0, z, hz, ⟨by omega, by omega⟩, ⟨by omega, by rw [List.length_set]; omega⟩, ?_⟩
    rw [← i3, show (i + 1).toNat = i.toNat + 1 by omega, List.take_add_one, List.getElem?_set, if_pos rfl, if_pos (get_lt hz), List.take_set_of_le (Nat.le_refl _)]
    simp
  simp only [ok_jn, ok_if, ok_up, ok_bd, ok_gd, ok_lt, ok_go, ok_some, ok_at, sindex_ok] at fin ⊢
  refine ⟨fun hi => ?_, fun hi => ?_⟩
  · have hmem : c ∈ x := List.count_pos_iff.1 (by omega)
    obtain ⟨a, b, e, ha⟩ := split_mem hmem
    subst e
    rw [ix_at b ha]
    have hl : (a ++ c :: b).length = a.length + b.length + 1 := by simp; omega
    have hcb : (a ++ c :: b).count c = b.count c + 1 := by simp [List.count_eq_zero_of_not_mem ha]
    obtain ⟨z, hz⟩ := at_get (l := l) i0 (by omega)
    refine ⟨fun h => by omega, fun _ => ⟨⟨by omega, by omega⟩, ⟨by omega, by omega⟩, i0, z, hz, ⟨by simp; omega, by simp; omega⟩, ⟨by simp; omega, by simp; omega⟩, ⟨by omega, by omega⟩, ⟨by omega, ?_, by simpa using i2, ?_, ?_⟩, ?_⟩⟩
    · simp only [List.length_cons, List.length_nil]
      rw [show ((a.length : Int) + ((0 + 1 : Nat) : Int)).toNat = a.length + 1 by omega]
      have : (a ++ c :: b).drop (a.length + 1) = b := by simp
      rw [this]; omega
    · simp only [List.length_cons, List.length_nil]
      rw [show ((a.length : Int) + ((0 + 1 : Nat) : Int)).toNat = a.length + 1 by omega, show ((a.length : Int) + 0).toNat = a.length by omega]
      have e1 : (a ++ c :: b).drop (a.length + 1) = b := by simp
      have e2 : (a ++ c :: b).take a.length = a := by simp
      rw [e1, e2, ← i3, spl_at b ha, show (i + 1).toNat = i.toNat + 1 by omega, List.take_add_one, List.getElem?_set, if_pos rfl, if_pos (get_lt hz), List.take_set_of_le (Nat.le_refl _)]
      simp
    · simp; omega
    · simp; omega
  · exact fin fun hm => by have := List.count_pos_iff.2 hm; omega
theorem spl_part (c : UInt8) : ∀ (s : List UInt8), ∀ y ∈ spl c s, y.length ≤ s.length
  | [], y, h => by simp [spl] at h; simp [h]
  | x :: r, y, h => by
    have ih := spl_part c r
    unfold spl at h
    split at h
    · rcases List.mem_cons.1 h with q | q
      · simp [q]
      · have := ih y q; simp; omega
    · split at h
      · have := List.mem_singleton.1 h; simp [this]
      · next a l hq =>
        rcases List.mem_cons.1 h with q | q
        · have := ih a (by rw [hq]; simp); simp [q]; omega
        · have := ih y (by rw [hq]; simp [q]); simp; omega
end Go.S
end

section
namespace Go.S
open Go
def goodN (n : Nat) : Bool := decide (97 ≤ n ∧ n ≤ 122) || decide (48 ≤ n ∧ n ≤ 57) || decide (n = 46) || decide (n = 45) || decide (n = 95)
theorem good_all : ∀ i : Fin 256, Sh.path_good ((i.val : Nat) : Int) = some (goodN i.val) := by decide +kernel
theorem good_ok (z : UInt8) : Sh.path_good (z.toNat : Int) = some (goodN z.toNat) := good_all ⟨z.toNat, z.toNat_lt⟩
def partS (s : List UInt8) : Bool := !(decide (s = []) || decide (s = [46]) || decide (s = [46, 46])) && s.all fun z => goodN z.toNat
theorem all_snoc {α : Type} (p : α → Bool) (l : List α) (z : α) : (l ++ [z]).all p = (l.all p && p z) := by simp
theorem all_false {α : Type} {p : α → Bool} {l : List α} {z : α} (hz : z ∈ l) (h : p z = false) : l.all p = false := by
  cases hq : l.all p with
  | false => rfl
  | true => rw [List.all_eq_true.1 hq z hz] at h; cases h
theorem part_ok {s : List UInt8} (hs : s.length ≤ 1000000000) : Sh.path_part s = some (partS s) := by
  apply Ok.eq
  unfold Sh.path_part partS
  refine ok_jnP (fun q => q = (decide (s = []) || decide (s = [46]) || decide (s = [46, 46]))) ?_ ?_
  · rintro q rfl
    generalize (decide (s = []) || decide (s = [46]) || decide (s = [46, 46])) = q
    simp only [ok_if, ok_some, ok_gd, ok_lt]
    refine ⟨fun h => by rw [h]; rfl, fun h => ⟨by omega, ?_⟩⟩
    have hq : q = false := by simpa using h
    subst hq
    rw [Bool.not_false, Bool.true_and]
    refine ok_iter (I := fun i => 0 ≤ i ∧ i ≤ s.length ∧ (s.take i.toNat).all (fun z => goodN z.toNat) = true) (μ := fun i => (s.length - i).toNat) ?_ ⟨by omega, by omega, by simp⟩
    rintro i ⟨i0, i1, i2⟩
    simp only [ok_if, ok_up, ok_bd, ok_gd, ok_go, ok_some, ok_at, good_ok]
    refine ⟨fun hi => ?_, fun hi => ?_⟩
    · obtain ⟨z, hz⟩ := at_get (l := s) i0 hi
      refine ⟨i0, z, hz, fun hb => ?_, fun hg => ⟨⟨by omega, by omega⟩, ⟨by omega, by omega, ?_⟩, by omega⟩⟩
      · exact (all_false (p := fun z : UInt8 => goodN z.toNat) (List.mem_of_getElem? hz) (by simpa using hb)).symm
      · rw [take_snoc i0 hz, all_snoc, i2]; simpa using hg
    · rw [← i2, show i.toNat = s.length by omega, List.take_length]
  · intro K hK
    simp only [ok_if]
    refine ⟨fun h => hK _ (by simp [h]), fun h1 => ⟨fun h => hK _ (by simp [h]), fun h2 => hK _ (by simp [h1, h2])⟩⟩
def checkP (p : List UInt8) : Int := if 64 < p.length then 4 else if (spl 47 p).all partS then 0 else 5
theorem pcheck_ok (p : List UInt8) : Sh.path_Check p = some (checkP p) := by
  apply Ok.eq
  unfold Sh.path_Check checkP
  simp only [ok_if, ok_some]
  refine ⟨fun h => by rw [if_pos (by omega)], fun h => ?_⟩
  rw [if_neg (by omega), split_ok 47 (by omega), Option.bind_some]
  have hpart := spl_part 47 p
  have hlen := spl_len 47 p
  have hcnt : p.count 47 ≤ p.length := List.count_le_length
  generalize spl 47 p = L at *
  refine ok_iter (I := fun i => 0 ≤ i ∧ i ≤ L.length ∧ (L.take i.toNat).all partS = true) (μ := fun i => (L.length - i).toNat) ?_ ⟨by omega, by omega, by simp⟩
  rintro i ⟨i0, i1, i2⟩
  simp only [ok_if, ok_up, ok_bd, ok_gd, ok_go, ok_some, ok_at]
  refine ⟨fun hi => ?_, fun hi => ?_⟩
  · obtain ⟨z, hz⟩ := at_get (l := L) i0 hi
    have := hpart z (List.mem_of_getElem? hz)
    refine ⟨i0, z, hz, Ok.of (part_ok (by omega)) ⟨fun hb => ?_, fun hg => ⟨⟨by omega, by omega⟩, ⟨by omega, by omega, ?_⟩, by omega⟩⟩⟩
    · rw [all_false (List.mem_of_getElem? hz) (by simpa using hb)]; rfl
    · rw [take_snoc i0 hz, all_snoc, i2]; simpa using hg
  · rw [show i.toNat = L.length by omega, List.take_length] at i2
    rw [i2]; rfl
def underS (p d : List UInt8) : Bool := if d = [] then !decide (p = []) else decide (d.length + 1 < p.length ∧ p.take (d.length + 1) = d ++ [47])
theorem under_ok {p d : List UInt8} (hd : d.length ≤ 1000000000) : Sh.path_Under p d = some (underS p d) := by
  apply Ok.eq
  unfold Sh.path_Under underS Sh.strings_HasPrefix Sh.internal_stringslite_HasPrefix
  simp only [ok_if, ok_some, ok_gd, ok_lt, ok_bd]
  refine ⟨fun h => by rw [if_pos h], fun h => ⟨⟨by omega, by omega⟩, fun hl => ⟨by simp; omega, ?_⟩, fun hl => ?_⟩⟩
  · rw [if_neg h]
    refine ⟨fun hp => ⟨⟨by omega, by simpa using hp⟩, ?_⟩, fun hp => ?_⟩
    · simp only [List.length_append, List.length_singleton]
      rw [show (((d.length + 1 : Nat)) : Int).toNat = d.length + 1 by omega]
      exact decide_eq_decide.2 ⟨fun q => ⟨by omega, q⟩, fun q => q.2⟩
    · simp at hp; omega
  · rw [if_neg h]
    symm; exact decide_eq_false (by omega)
def clashS (a b : List UInt8) : Bool := decide (a ≠ []) && decide (b ≠ []) && (underS a b || underS b a)
theorem clash_ok {a b : List UInt8} (ha : a.length ≤ 1000000000) (hb : b.length ≤ 1000000000) : Sh.path_Clash a b = some (clashS a b) := by
  apply Ok.eq
  unfold Sh.path_Clash clashS
  simp only [ok_if, ok_some, ok_bd, under_ok ha, under_ok hb]
  refine ⟨fun h => by simp [h], fun h => ⟨fun h2 => by simp [h2], fun h2 => ⟨fun h3 => by simp [h, h2, h3], fun h3 => by simp [h, h2, h3]⟩⟩⟩
end Go.S
end
