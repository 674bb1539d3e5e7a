/- Part of the proofs of: Each verb of the commands is one, and with nothing behind it is a command just where it needs nothing; no condition. -/
import Derived.Test.YtipnlckfohhkbaaDoorRows
import Derived.Test.YtipnlckfohhkbaaDoorCB
set_option linter.unusedVariables false
set_option linter.unusedSimpArgs false
set_option linter.unusedSectionVars false
section
set_option linter.unusedVariables false
namespace Go.Proofs.YtipnlckfohhkbaaDoor
open Go.RowKit Go.V
open Go.S hiding Str
theorem mixed : Tryd.prog.follows .mixedOrders = true := by kernel_rfl
theorem gszb : (Tryd.prog.info? 83).map (·.size) = some 2 := by kernel_rfl
theorem gappb : ((Tryd.prog.info? 5).map fun i => (i.size, i.bytes, i.zero)) = some (1, 1, some (.int .u8 0)) := by kernel_rfl
theorem gfa83_0 : FieldAt Tryd.prog 83 0 0 := fieldAt_sz (n := 0) (f := ⟨_, _, 0, _, _, _, _⟩) Tryd.underlying83 rfl (by kernel_rfl)
theorem gfa83_1 : FieldAt Tryd.prog 83 1 1 := fieldAt_sz (n := 0) (f := ⟨_, _, 1, _, _, _, _⟩) Tryd.underlying83 rfl (by kernel_rfl)
theorem gone81 : OneCell Tryd.prog 81 := oneCell_of Tryd.underlying81 rfl
theorem gone23 : OneCell Tryd.prog 23 := oneCell_of Tryd.underlying23 rfl
theorem gsz81 : (Tryd.prog.info? 81).map (·.size) = some 1 := by kernel_rfl
theorem gsz23 : (Tryd.prog.info? 23).map (·.size) = some 1 := by kernel_rfl
theorem gsz62 : (Tryd.prog.info? 62).map (·.size) = some 6 := by kernel_rfl
theorem gfa62_3 : FieldAt Tryd.prog 62 3 3 := fieldAt_sz (n := 0) (f := ⟨_, _, 3, _, _, _, _⟩) Tryd.underlying62 rfl (by kernel_rfl)
theorem gsz9 : (Tryd.prog.info? 9).map (·.size) = some 1 := by kernel_rfl
theorem gagg62 : AggOf Tryd.prog 62 6 := aggOf_of Tryd.underlying62 rfl (by kernel_rfl)
theorem gmk9 : ((Tryd.prog.info? 9).map fun i => (i.size, i.bytes, i.zero.map fun z => z.cells.toList)) = some (1, 16, some [str []]) := by kernel_rfl
theorem gfa62_0 : FieldAt Tryd.prog 62 0 0 := fieldAt_sz (n := 0) (f := ⟨_, _, 0, _, _, _, _⟩) Tryd.underlying62 rfl (by kernel_rfl)
theorem gone9 : OneCell Tryd.prog 9 := oneCell_of Tryd.underlying9 rfl
theorem gfa62_4 : FieldAt Tryd.prog 62 4 4 := fieldAt_sz (n := 0) (f := ⟨_, _, 4, _, _, _, _⟩) Tryd.underlying62 rfl (by kernel_rfl)
theorem gsz4 : (Tryd.prog.info? 4).map (·.size) = some 1 := by kernel_rfl
theorem gfa62_1 : FieldAt Tryd.prog 62 1 1 := fieldAt_sz (n := 0) (f := ⟨_, _, 1, _, _, _, _⟩) Tryd.underlying62 rfl (by kernel_rfl)
theorem gsz5 : (Tryd.prog.info? 5).map (·.size) = some 1 := by kernel_rfl
theorem gone5 : OneCell Tryd.prog 5 := oneCell_of Tryd.underlying5 rfl
theorem gfa62_2 : FieldAt Tryd.prog 62 2 2 := fieldAt_sz (n := 0) (f := ⟨_, _, 2, _, _, _, _⟩) Tryd.underlying62 rfl (by kernel_rfl)
theorem gsz3 : (Tryd.prog.info? 3).map (·.size) = some 1 := by kernel_rfl
theorem glit9 : ((Tryd.prog.info? 9).map fun i => (i.size, i.zero.isSome)) = some (1, true) := by kernel_rfl
theorem gsz26 : (Tryd.prog.info? 26).map (·.size) = some 3 := by kernel_rfl
theorem gagg26 : AggOf Tryd.prog 26 3 := aggOf_of Tryd.underlying26 rfl (by kernel_rfl)
theorem glit26 : ((Tryd.prog.info? 26).map fun i => (i.size, i.zero.isSome)) = some (3, true) := by kernel_rfl
theorem gapp26 : ((Tryd.prog.info? 26).map fun i => (i.size, i.bytes, (i.zero.map fun z => z.cells.size))) = some (3, 40, some 3) := by kernel_rfl
theorem gfa62_5 : FieldAt Tryd.prog 62 5 5 := fieldAt_sz (n := 0) (f := ⟨_, _, 5, _, _, _, _⟩) Tryd.underlying62 rfl (by kernel_rfl)
theorem gsz22 : (Tryd.prog.info? 22).map (·.size) = some 1 := by kernel_rfl
theorem gone3 : OneCell Tryd.prog 3 := oneCell_of Tryd.underlying3 rfl
theorem gone22 : OneCell Tryd.prog 22 := oneCell_of Tryd.underlying22 rfl
theorem gfa26_0 : FieldAt Tryd.prog 26 0 0 := fieldAt_sz (n := 0) (f := ⟨_, _, 0, _, _, _, _⟩) Tryd.underlying26 rfl (by kernel_rfl)
theorem gfa26_1 : FieldAt Tryd.prog 26 1 1 := fieldAt_sz (n := 0) (f := ⟨_, _, 1, _, _, _, _⟩) Tryd.underlying26 rfl (by kernel_rfl)
theorem gfa26_2 : FieldAt Tryd.prog 26 2 2 := fieldAt_sz (n := 0) (f := ⟨_, _, 2, _, _, _, _⟩) Tryd.underlying26 rfl (by kernel_rfl)
theorem glit90 : ((Tryd.prog.info? 90).map fun i => (i.size, i.zero.isSome)) = some (1, true) := by kernel_rfl
theorem gsz90 : (Tryd.prog.info? 90).map (·.size) = some 1 := by kernel_rfl
theorem gone90 : OneCell Tryd.prog 90 := oneCell_of Tryd.underlying90 rfl
theorem gone4 : OneCell Tryd.prog 4 := oneCell_of Tryd.underlying4 rfl
theorem gapp9 : ((Tryd.prog.info? 9).map fun i => (i.size, i.bytes, (i.zero.map fun z => z.cells.size))) = some (1, 16, some 1) := by kernel_rfl
theorem geqs26 : ∀ (x0 : List UInt8) (x1 : Int) (x2 : List UInt8) (y0 : List UInt8) (y1 : Int) (y2 : List UInt8) (w : World), (Op.equalIn 10000 26 (.agg #[str x0, i64 x1, str x2]) (.agg #[str y0, i64 y1, str y2])).run Tryd.prog w = .ok (decide (x0 = y0 ∧ x1 = y1 ∧ x2 = y2)) w := by
  intro x0 x1 x2 y0 y1 y2 w
  have hS : Tryd.prog.underlying 26 = some (.struct (Tryd.prog.fieldsOf 26)) := by kernel_rfl
  rw [show (10000 : Nat) = 9999 + 1 from rfl, run_equalIn_agg w 9999 26 _ _ hS (by kernel_rfl)]
  simp only [Program.fieldsOf, Tryd.underlying26]
  go_simp
  by_cases h0 : x0 = y0 <;> by_cases h1 : x1 = y1 <;> by_cases h2 : x2 = y2 <;> simp [h0, h1, h2]
theorem geqg26 : Tryd.prog.eqGuardType Tryd.prog.depth 26 = false := by kernel_rfl
theorem glit119 : ((Tryd.prog.info? 119).map fun i => (i.size, i.zero.isSome)) = some (3, true) := by kernel_rfl
theorem gapp119 : ((Tryd.prog.info? 119).map fun i => (i.size, i.bytes, (i.zero.map fun z => z.cells.size))) = some (3, 40, some 3) := by kernel_rfl
theorem gsz68 : (Tryd.prog.info? 68).map (·.size) = some 6 := by kernel_rfl
theorem gagg68 : AggOf Tryd.prog 68 6 := aggOf_of Tryd.underlying68 rfl (by kernel_rfl)
theorem gfa68_0 : FieldAt Tryd.prog 68 0 0 := fieldAt_sz (n := 0) (f := ⟨_, _, 0, _, _, _, _⟩) Tryd.underlying68 rfl (by kernel_rfl)
theorem gfa68_1 : FieldAt Tryd.prog 68 1 1 := fieldAt_sz (n := 0) (f := ⟨_, _, 1, _, _, _, _⟩) Tryd.underlying68 rfl (by kernel_rfl)
theorem gfa68_2 : FieldAt Tryd.prog 68 2 2 := fieldAt_sz (n := 0) (f := ⟨_, _, 2, _, _, _, _⟩) Tryd.underlying68 rfl (by kernel_rfl)
theorem gfa68_3 : FieldAt Tryd.prog 68 3 3 := fieldAt_sz (n := 0) (f := ⟨_, _, 3, _, _, _, _⟩) Tryd.underlying68 rfl (by kernel_rfl)
theorem gfa68_4 : FieldAt Tryd.prog 68 4 4 := fieldAt_sz (n := 0) (f := ⟨_, _, 4, _, _, _, _⟩) Tryd.underlying68 rfl (by kernel_rfl)
theorem gfa68_5 : FieldAt Tryd.prog 68 5 5 := fieldAt_sz (n := 0) (f := ⟨_, _, 5, _, _, _, _⟩) Tryd.underlying68 rfl (by kernel_rfl)
theorem gone66 : OneCell Tryd.prog 66 := oneCell_of Tryd.underlying66 rfl
theorem gsz119 : (Tryd.prog.info? 119).map (·.size) = some 3 := by kernel_rfl
theorem gagg119 : AggOf Tryd.prog 119 3 := aggOf_of Tryd.underlying119 rfl (by kernel_rfl)
theorem geqs119 : ∀ (x0 : List UInt8) (x1 : Int) (x2 : List UInt8) (y0 : List UInt8) (y1 : Int) (y2 : List UInt8) (w : World), (Op.equalIn 10000 119 (.agg #[str x0, i64 x1, str x2]) (.agg #[str y0, i64 y1, str y2])).run Tryd.prog w = .ok (decide (x0 = y0 ∧ x1 = y1 ∧ x2 = y2)) w := by
  intro x0 x1 x2 y0 y1 y2 w
  have hS : Tryd.prog.underlying 119 = some (.struct (Tryd.prog.fieldsOf 119)) := by kernel_rfl
  rw [show (10000 : Nat) = 9999 + 1 from rfl, run_equalIn_agg w 9999 119 _ _ hS (by kernel_rfl)]
  simp only [Program.fieldsOf, Tryd.underlying119]
  go_simp
  by_cases h0 : x0 = y0 <;> by_cases h1 : x1 = y1 <;> by_cases h2 : x2 = y2 <;> simp [h0, h1, h2]
theorem geqg119 : Tryd.prog.eqGuardType Tryd.prog.depth 119 = false := by kernel_rfl
set_option maxRecDepth 100000 in
theorem copyCheck_ct (b : Nat) (p u : Value) (hp : p = .pointer none ∨ p = ptr b 0) (hu : u.oneCell' = true) : Ct Tryd.prog 83 [ptr b 0] Mo.tt (Blk b [p, u] 83) (X := Unit) (fun _ => .tuple #[]) (fun _ => True) (fun _ => Mo.tt) (fun _ => Blk b [ptr b 0, u] 83) := by
  refine Ct.of Tryd.func83 rfl (by kernel_rfl) Tryd.ntmps83 (by simp) fun c => ?_
  rcases hp with rfl | rfl
  · refine VC.seq ?_
    refine VC.region ?_
    refine VL.q (q_move rfl) (by decide) ?_
    refine VL.q (q_nilCheck rfl) (by decide) ?_
    refine VL.q (q_field gfa83_0 rfl) (by decide) ?_
    refine VL.q (q_fe gone81 rfl rfl) (by decide) ?_
    refine VL.q (q_peqn Tryd.underlying81 rfl) (by decide) ?_
    refine VL.to (fun _ _ h => h) ?_
    refine VC.cond_t rfl ?_
    refine VC.region ?_
    refine VL.q (q_move rfl) (by decide) ?_
    refine VL.q (q_move rfl) (by decide) ?_
    refine VL.q (q_tou (n := 1) Tryd.underlying81 Tryd.underlying167 gszb rfl (by simp)) (by decide) ?_
    refine VL.q (q_noEscape Tryd.func118 rfl rfl (by kernel_rfl) (by kernel_rfl) rfl) (by decide) ?_
    refine VL.q (q_fromu (n := 2) (cs := [.pointer none, u]) Tryd.underlying167 Tryd.underlying81 gszb rfl (by kernel_rfl)) (by decide) ?_
    refine VL.q (q_nilCheck rfl) (by decide) ?_
    refine VL.q (q_field gfa83_0 rfl) (by decide) ?_
    refine VL.store (vc := [ptr b 0]) (cs' := [ptr b 0, u]) rfl rfl rfl gsz81 rfl rfl (Nat.le_of_ble_eq_true rfl) rfl ?_
    exact VL.nil (fin0 (.inl rfl) rfl () rfl trivial (fun _ _ => trivial) (by exact EntO.out))
  · refine VC.seq ?_
    refine VC.region ?_
    refine VL.q (q_move rfl) (by decide) ?_
    refine VL.q (q_nilCheck rfl) (by decide) ?_
    refine VL.q (q_field gfa83_0 rfl) (by decide) ?_
    refine VL.q (q_fe gone81 rfl rfl) (by decide) ?_
    refine VL.q (q_peqn Tryd.underlying81 rfl) (by decide) ?_
    refine VL.to (fun _ _ h => h) ?_
    refine VC.cond_f rfl ?_
    refine VC.seq ?_
    refine VC.region ?_
    refine VL.q (q_move rfl) (by decide) ?_
    refine VL.q (q_nilCheck rfl) (by decide) ?_
    refine VL.q (q_field gfa83_0 rfl) (by decide) ?_
    refine VL.q (q_fe gone81 rfl rfl) (by decide) ?_
    refine VL.q (q_move rfl) (by decide) ?_
    refine VL.q (q_pne Tryd.underlying81 gszb rfl rfl) (by decide) ?_
    refine VL.to (fun _ _ h => h) ?_
    refine VC.cond_f rfl ?_
    exact VC.skip (fin0 (.inl rfl) rfl () rfl trivial (fun _ _ => trivial) (by exact EntO.out))

set_option maxRecDepth 100000 in
theorem writeString_ct (b : Nat) (l s : Str) (hb : l.length + s.length ≤ 4294967296) : Ct Tryd.prog 41 [ptr b 0, str s] Mo.tt (Bd 83 5 b l) (X := Unit) (fun _ => .tuple #[i64 s.length, .nilIface]) (fun _ => True) (fun _ => Mo.tt) (fun _ => Bd 83 5 b (l ++ s)) := by
  refine Ct.monoE (E1 := fun z => ∃ q : Value × Sv UInt8, ((q.1 = .pointer none ∨ q.1 = ptr b 0) ∧ q.2.l = l ∧ (q.2.c = 0 → q.2.a = none)) ∧ Ow.star (Blk b [q.1, q.2.val] 83) (q.2.own 5) z) (Ct.exE (entry_of Tryd.func41 rfl (by kernel_rfl)) ?_) (fun z ⟨p, q, h1, h2, h3, h4⟩ => ⟨(p, q), ⟨h1, h2, h3⟩, h4⟩)
  rintro ⟨p, q⟩ ⟨hp, hl, hc⟩
  dsimp only at hp hl hc ⊢
  refine Ct.of Tryd.func41 rfl (by kernel_rfl) Tryd.ntmps41 (by simp) fun c => ?_
  refine VC.seq ?_
  refine VC.region ?_
  refine VL.q (q_assign rfl) (by decide) ?_
  refine VL.q (q_assign rfl) (by decide) ?_
  refine VL.to (fun _ _ h => h) ?_
  refine VC.seq ?_
  refine VC.region ?_
  refine VL.q (q_move rfl) (by decide) ?_
  refine VL.callO (copyCheck_ct b p q.val hp rfl) rfl (by decide) ?_
  rintro _ _
  refine VL.to (fun _ _ h => h) ?_
  refine VC.seq ?_
  refine VC.region ?_
  refine VL.q (q_move rfl) (by decide) ?_
  refine VL.q (q_move rfl) (by decide) ?_
  refine VL.q (q_nilCheck rfl) (by decide) ?_
  refine VL.q (q_field gfa83_1 rfl) (by decide) ?_
  refine VL.q (q_fe gone23 rfl rfl) (by decide) ?_
  refine VL.q (q_move rfl) (by decide) ?_
  refine VL.appS (s := q) (r := s) Tryd.underlying23 Tryd.underlying9 gappb rfl Fo.out (by rw [hl]; exact hb) (by decide) fun q2 hq2 hc2 => ?_
  refine VL.q (q_nilCheck rfl) (by decide) ?_
  refine VL.q (q_field gfa83_1 rfl) (by decide) ?_
  refine VL.store (vc := [q2.val]) (cs' := [ptr b 0, q2.val]) rfl rfl rfl gsz23 rfl rfl (Nat.le_of_ble_eq_true rfl) rfl ?_
  refine VL.to (fun _ _ h => h) ?_
  refine VC.seq ?_
  refine VC.region ?_
  refine VL.q (q_move rfl) (by decide) ?_
  refine VL.q (q_slen Tryd.underlying9 rfl) (by decide) ?_
  refine VL.q (q_assign rfl) (by decide) ?_
  refine VL.q (q_assign rfl) (by decide) ?_
  refine VL.to (fun _ _ h => h) ?_
  exact VC.ret (fin2 (.inr rfl) rfl rfl rfl () rfl trivial (fun _ _ => trivial) (fun z hz => Bd.mk (p := ptr b 0) (s := q2) (.inr rfl) (by rw [hq2, hl]) (hc2 hc) ((EntO.out (E' := Ow.star (Blk b [ptr b 0, q2.val] 83) (q2.own 5))) z hz)))

set_option maxRecDepth 100000 in
theorem string_ct (b : Nat) (l : Str) : Ct Tryd.prog 43 [ptr b 0] Mo.tt (Bd 83 5 b l) (X := Unit) (fun _ => str l) (fun _ => True) (fun _ => Mo.tt) (fun _ => Ow.emp) := by
  refine Ct.monoE (E1 := fun z => ∃ q : Value × Sv UInt8, ((q.1 = .pointer none ∨ q.1 = ptr b 0) ∧ q.2.l = l ∧ (q.2.c = 0 → q.2.a = none)) ∧ Ow.star (Blk b [q.1, q.2.val] 83) (q.2.own 5) z) (Ct.exE (entry_of Tryd.func43 rfl (by kernel_rfl)) ?_) (fun z ⟨p, q, h1, h2, h3, h4⟩ => ⟨(p, q), ⟨h1, h2, h3⟩, h4⟩)
  rintro ⟨p, q⟩ ⟨hp, rfl, hc⟩
  dsimp only at hp hc ⊢
  refine Ct.of Tryd.func43 rfl (by kernel_rfl) Tryd.ntmps43 (by simp) fun c => ?_
  refine VC.seq ?_
  refine VC.region ?_
  refine VL.q (q_assign rfl) (by decide) ?_
  refine VL.to (fun _ _ h => h) ?_
  refine VC.seq ?_
  refine VC.draw [(0, true), (1, true), (2, true), (3, true), (4, true), (5, true), (6, true), (7, true), (8, true), (9, true), (10, false), (11, true)] mixed (by kernel_rfl) (by kernel_rfl) (by kernel_rfl) ?_
  refine VD.q rfl (q_move rfl) (by decide) ?_
  refine VD.q rfl (q_nilCheck rfl) (by decide) ?_
  refine VD.q rfl (q_field gfa83_1 rfl) (by decide) ?_
  refine VD.q rfl (q_fe gone23 rfl rfl) (by decide) ?_
  refine VD.q rfl (q_sdata (s := q) rfl hc) (by decide) ?_
  refine VD.q rfl (q_move rfl) (by decide) ?_
  refine VD.q rfl (q_nilCheck rfl) (by decide) ?_
  refine VD.q rfl (q_field gfa83_1 rfl) (by decide) ?_
  refine VD.q rfl (q_fe gone23 rfl rfl) (by decide) ?_
  refine VD.q rfl (q_ln (s := q) Tryd.underlying23 rfl) (by decide) ?_
  refine VD.one rfl ?_
  refine VL.ustr (s := q) (e := 5) rfl Fo.out (by decide) (fun w h z o l k m => St.ustr (e := 5) Tryd.underlying134 (by kernel_rfl) o l k m) ?_
  refine VL.back (D' := []) (by kernel_rfl) Pend.nil ?_
  refine VD.q rfl (q_assign rfl) (by decide) ?_
  refine VD.to (fun _ _ h => h) ?_
  exact VC.ret (fin1 (.inr rfl) rfl rfl () rfl trivial (fun _ _ => trivial) (fun _ _ => trivial))

theorem itoa_ct (n : Int) (b : Go.S.I64 n) : Ct Tryd.prog 42 [i64 n] Gl Ow.emp (X := Unit) (fun _ => str (Go.S.itoaS n)) (fun _ => True) (fun _ => Mo.tt) (fun _ => Ow.emp) :=
  Ct.of_gr (entry_of Tryd.func42 rfl (by kernel_rfl)) fun w h m l => (Tryd.strconv_Itoa n b.1 b.2 w (GBlk.var (by kernel_rfl) (InM.out (X := GBlk 1 _) h m) l)).mono fun e w' ⟨h1, k, os, h2⟩ => ⟨by rw [h1, itoaS_eq b], h2 ▸ Gr.grown w k os⟩

theorem join_ct (s : Sv Str) (sep : Str) (hb : s.l.length ≤ 4294967296 ∧ (Go.S.joinS s.l sep).length ≤ 4294967296) : Ct Tryd.prog 76 [s.val, str sep] s.ok Ow.emp (X := Unit) (fun _ => str (Go.S.joinS s.l sep)) (fun _ => True) (fun _ => Mo.tt) (fun _ => Ow.emp) :=
  Ct.of_gr (entry_of Tryd.func76 rfl (by kernel_rfl)) fun w h m l => by
    by_cases hl : s.l = []
    · have := Tryd.strings_Join_none s.a s.c ⟨⟨sep⟩⟩ w
      have e1 : s.val = .slice s.a 0 s.c := by unfold Sv.val; rw [hl]; rfl
      rw [e1]
      exact this.mono fun e w' ⟨h1, h2⟩ => ⟨by rw [h1, hl]; rfl, h2 ▸ Gr.refl w⟩
    · obtain ⟨h1, _, h3, h4, _⟩ := m
      have ha := h3 hl
      have hx : (s.l.map fun z => (⟨⟨z⟩⟩ : ByteArray)).map (·.data.toList) = s.l := by rw [List.map_map]; exact (List.map_congr_left fun z _ => rfl).trans (List.map_id _)
      have hc : ∀ (j : Nat) x, (s.l.map fun z => (⟨⟨z⟩⟩ : ByteArray))[j]? = some x → w.cell? ⟨s.b, s.o + j, none⟩ = some (.string x) := fun j x hj => by
        rw [List.getElem?_map] at hj
        cases hz : s.l[j]? with
        | none => rw [hz] at hj; cases hj
        | some z =>
          rw [hz] at hj; cases hj
          have := h4 j z hz 0 (str z) rfl
          have hs : Dat.sz Str = 1 := rfl
          rw [hs, Nat.mul_one] at this
          exact cell_of_le l (by simpa using this)
      have hlt : s.b < w.heap.size := by
        have h0 : 0 < s.l.length := List.length_pos_iff.2 hl
        have := hc 0 ⟨⟨s.l[0]⟩⟩ (by simp [h0])
        rcases Nat.lt_or_ge s.b w.heap.size with q | q
        · exact q
        · simp [World.cell?, Array.getElem?_eq_none q] at this
      have := Tryd.strings_Join s.b s.o s.c (s.l.map fun z => ⟨⟨z⟩⟩) ⟨⟨sep⟩⟩ w hc hlt (by rw [List.length_map]; omega) (by rw [List.length_map]; exact h1) (by rw [hx]; have := hb.2; unfold Go.S.joinS at this; show (Lib.join s.l sep).length ≤ _; omega)
      rw [hx, List.length_map] at this
      have e1 : s.val = .slice (some ⟨s.b, s.o, none⟩) s.l.length s.c := by unfold Sv.val; rw [ha]
      rw [e1]
      exact this.mono fun e w' ⟨h1, h2⟩ => ⟨h1, Gr.of_below h2⟩

set_option maxHeartbeats 4000000 in
set_option maxRecDepth 100000 in
theorem internal_stringslite_IndexByte_ct (s_0 : Str) (c_1 : Int) {r : Int} (hS : Sh.internal_stringslite_IndexByte s_0 c_1 = some r) :
    Ct Tryd.prog 168 [str s_0, .int .u8 c_1] Mo.tt (Ow.emp) (X := Unit) (fun _ => i64 r) (fun _ => True) (fun _ => Mo.tt) (fun _ => Ow.emp) := by
  refine Ct.of Tryd.func168 rfl (by kernel_rfl) Tryd.ntmps168 (by simp) fun c => ?_
  unfold Sh.internal_stringslite_IndexByte at hS
  refine VC.seq ?_
  refine VC.region ?_
  refine VL.q (q_assign rfl) (by decide) ?_
  refine VL.to (fun _ _ h => h) ?_
  refine VC.seq ?_
  refine VC.region ?_
  refine VL.q (q_move rfl) (by decide) ?_
  refine VL.q (q_move rfl) (by decide) ?_
  refine VL.q (q_extern Tryd.func185 rfl rfl (by kernel_rfl) (by kernel_rfl) rfl (fun w => x_ixS s_0 c_1 w)) (by decide) ?_
  refine VL.q (q_assign rfl) (by decide) ?_
  refine VL.to (fun _ _ h => h) ?_
  cases hS
  exact VC.ret (fin1 (.inr rfl) rfl rfl () rfl trivial (fun _ _ => trivial) (fun _ _ => trivial))

set_option maxHeartbeats 4000000 in
set_option maxRecDepth 100000 in
theorem internal_stringslite_Index_ct (a_0 : Str) (a_1 : Str) {r : Int} (hS : Sh.internal_stringslite_Index a_0 a_1 = some r) :
    Ct Tryd.prog 136 [str a_0, str a_1] Mo.tt (Ow.emp) (X := Unit) (fun _ => i64 r) (fun _ => True) (fun _ => Mo.tt) (fun _ => Ow.emp) := by
  refine Ct.of Tryd.func136 rfl (by kernel_rfl) Tryd.ntmps136 (by simp) fun c => ?_
  unfold Sh.internal_stringslite_Index at hS
  refine VC.seq ?_
  refine VC.region ?_
  refine VL.q (q_assign rfl) (by decide) ?_
  refine VL.to (fun _ _ h => h) ?_
  refine VC.seq ?_
  refine VC.region ?_
  refine VL.q (q_move rfl) (by decide) ?_
  refine VL.q (q_slen Tryd.underlying9 rfl) (by decide) ?_
  refine VL.q (q_assign rfl) (by decide) ?_
  refine VL.to (fun _ _ h => h) ?_
  refine VC.seq ?_
  refine VC.block ?_
  refine VC.cutJ (S := Bool) (fun (x16_1 : Bool) => x16_1) (fun (x16_1 : Bool) => [(0, str a_0), (1, str a_1), (5, i64 (a_1.length : Int)), (16, .bool x16_1)]) (fun (x16_1 : Bool) => Mo.tt) (fun (x16_1 : Bool) => Ow.emp) hS ?_ ?_
  · -- up to where ways meet
    clear hS
    intro k2 hS
    refine VC.region ?_
    refine VL.q (q_move rfl) (by decide) ?_
    refine VL.q (q_eql rfl rfl) (by decide) ?_
    refine VL.q (q_move rfl) (by decide) ?_
    refine VL.split_dec 19 rfl (fun h19 => ?_) (fun h19 => ?_)
    ·
      replace hS := it_t h19 hS
      refine VL.gn rfl rfl rfl (by decide) ?_
      refine VL.gn rfl rfl rfl (by decide) ?_
      refine VL.gn rfl rfl rfl (by decide) ?_
      refine VL.q (q_pick_t rfl rfl) (by decide) ?_
      refine VL.q (q_assign rfl) (by decide) ?_
      refine VL.mt true [0, 1, 5, 16] (fun _ _ h => h) hS rfl
    ·
      replace hS := it_f h19 hS
      refine VL.gy rfl rfl (q_move rfl) (by decide) ?_
      refine VL.gy rfl rfl (q_move rfl) (by decide) ?_
      refine VL.gy rfl rfl (q_seq rfl rfl) (by decide) ?_
      refine VL.q (q_pick_f rfl rfl) (by decide) ?_
      refine VL.q (q_assign rfl) (by decide) ?_
      refine VL.mt (decide (a_1 = a_0)) [0, 1, 5, 16] (fun _ _ h => h) hS rfl
  · -- from there
    clear hS
    rintro x16_1 hS
    show VC _ _ _ _ _ [(0, str a_0), (1, str a_1), (5, i64 (a_1.length : Int)), (16, .bool x16_1)] (Mo.and Mo.tt _) (Ow.emp)
    refine VC.cond rfl (fun h16 => ?_) (fun h16 => ?_)
    ·
      replace hS := it_t h16 hS
      refine VC.seq ?_
      refine VC.region ?_
      refine VL.q (q_assign rfl) (by decide) ?_
      refine VL.to (fun _ _ h => h) ?_
      cases hS
      exact VC.ret (fin1 (.inr rfl) rfl rfl () rfl trivial (fun _ _ => trivial) (fun _ _ => trivial))
    ·
      replace hS := it_b h16 hS
      refine VC.seq ?_
      refine VC.region ?_
      refine VL.q (q_move rfl) (by decide) ?_
      refine VL.q (q_eql rfl rfl) (by decide) ?_
      refine VL.q (q_assign rfl) (by decide) ?_
      refine VL.to (fun _ _ h => h) ?_
      refine VC.cond_dec rfl (fun h24 => ?_) (fun h24 => ?_)
      ·
        replace hS := it_t h24 hS
        refine VC.seq ?_
        refine VC.region ?_
        refine VL.q (q_move rfl) (by decide) ?_
        refine VL.q (q_move rfl) (by decide) ?_
        obtain ⟨z29_3, nz29_3, hz29_3, hS⟩ := at_s hS
        refine VL.q (q_sidx Tryd.underlying9 rfl rfl nz29_3 hz29_3) (by decide) ?_
        obtain ⟨y30_4, ey30_4, hS⟩ := bd_s hS
        refine VL.q (q_call (internal_stringslite_IndexByte_ct a_0 (z29_3.toNat : Int) ey30_4) rfl (fun _ _ => rfl)) (by decide) ?_
        refine VL.q (q_assign rfl) (by decide) ?_
        refine VL.to (fun _ _ h => h) ?_
        refine VC.keep [4] rfl ?_
        cases hS
        exact VC.ret (fin1 (.inr rfl) rfl rfl () rfl trivial (fun _ _ => trivial) (fun _ _ => trivial))
      ·
        replace hS := it_f h24 hS
        refine VC.seq ?_
        refine VC.region ?_
        refine VL.q (q_move rfl) (by decide) ?_
        refine VL.q (q_move rfl) (by decide) ?_
        refine VL.q (q_slen Tryd.underlying9 rfl) (by decide) ?_
        refine VL.q (q_geq rfl rfl) (by decide) ?_
        refine VL.q (q_assign rfl) (by decide) ?_
        refine VL.to (fun _ _ h => h) ?_
        refine VC.keep [0, 1, 5, 31] rfl ?_
        refine VC.cond_dec rfl (fun h31 => ?_) (fun h31 => ?_)
        ·
          replace hS := it_t h31 hS
          refine VC.seq ?_
          refine VC.region ?_
          refine VL.q (q_assign rfl) (by decide) ?_
          refine VL.to (fun _ _ h => h) ?_
          cases hS
          exact VC.ret (fin1 (.inr rfl) rfl rfl () rfl trivial (fun _ _ => trivial) (fun _ _ => trivial))
        ·
          replace hS := it_f h31 hS
          refine VC.seq ?_
          refine VC.region ?_
          refine VL.q (q_move rfl) (by decide) ?_
          cases hS

set_option maxHeartbeats 4000000 in
set_option maxRecDepth 100000 in
theorem internal_stringslite_Cut_ct (s_0 : Str) (sep_1 : Str) {r : Str × Str × Bool} (hS : Sh.internal_stringslite_Cut s_0 sep_1 = some r) :
    Ct Tryd.prog 109 [str s_0, str sep_1] Mo.tt (Ow.emp) (X := Unit) (fun _ => .tuple #[str r.1, str r.2.1, .bool r.2.2]) (fun _ => True) (fun _ => Mo.tt) (fun _ => Ow.emp) := by
  refine Ct.of Tryd.func109 rfl (by kernel_rfl) Tryd.ntmps109 (by simp) fun c => ?_
  unfold Sh.internal_stringslite_Cut at hS
  refine VC.seq ?_
  refine VC.region ?_
  refine VL.q (q_assign rfl) (by decide) ?_
  refine VL.q (q_assign rfl) (by decide) ?_
  refine VL.q (q_assign rfl) (by decide) ?_
  refine VL.to (fun _ _ h => h) ?_
  refine VC.seq ?_
  refine VC.seq ?_
  refine VC.region ?_
  refine VL.q (q_move rfl) (by decide) ?_
  refine VL.q (q_move rfl) (by decide) ?_
  obtain ⟨y10_1, ey10_1, hS⟩ := bd_s hS
  refine VL.q (q_call (internal_stringslite_Index_ct s_0 sep_1 ey10_1) rfl (fun _ _ => rfl)) (by decide) ?_
  refine VL.q (q_assign rfl) (by decide) ?_
  refine VL.to (fun _ _ h => h) ?_
  refine VC.seq ?_
  refine VC.region ?_
  refine VL.q (q_move rfl) (by decide) ?_
  refine VL.q (q_geq rfl rfl) (by decide) ?_
  refine VL.to (fun _ _ h => h) ?_
  refine VC.keep [0, 1, 7, 12] rfl ?_
  refine VC.cond_dec rfl (fun h12 => ?_) (fun h12 => ?_)
  ·
    replace hS := it_t h12 hS
    refine VC.seq ?_
    refine VC.draw ((List.range 12).map fun k => (k, true)) mixed (by kernel_rfl) (by kernel_rfl) (by kernel_rfl) ?_
    refine VD.q rfl (q_move rfl) (by decide) ?_
    refine VD.q rfl (q_move rfl) (by decide) ?_
    obtain ⟨b15, hS⟩ := gd_s hS
    obtain ⟨y15_2, ey15_2, hS⟩ := lt_s hS
    refine VD.q rfl (q_stoE Tryd.underlying9 rfl rfl b15.1 b15.2 ey15_2) (by decide) ?_
    refine VD.q rfl (q_move rfl) (by decide) ?_
    refine VD.q rfl (q_move rfl) (by decide) ?_
    refine VD.q rfl (q_move rfl) (by decide) ?_
    refine VD.q rfl (q_slen Tryd.underlying9 rfl) (by decide) ?_
    obtain ⟨b20, hS⟩ := gd_s hS
    refine VD.q rfl (q_add rfl rfl b20) (by decide) ?_
    obtain ⟨b21, hS⟩ := gd_s hS
    obtain ⟨y21_3, ey21_3, hS⟩ := lt_s hS
    refine VD.q rfl (q_sfromE Tryd.underlying9 rfl rfl b21.1 b21.2 ey21_3) (by decide) ?_
    refine VD.q rfl (q_assign rfl) (by decide) ?_
    refine VD.q rfl (q_assign rfl) (by decide) ?_
    refine VD.q rfl (q_assign rfl) (by decide) ?_
    refine VD.to (fun _ _ h => h) ?_
    refine VC.keep [4, 5, 6] rfl ?_
    cases hS
    exact VC.ret (fin3 (.inr rfl) rfl rfl rfl rfl () rfl trivial (fun _ _ => trivial) (fun _ _ => trivial))
  ·
    replace hS := it_f h12 hS
    refine VC.skip_to (fun _ _ h => h) ?_
    refine VC.seq ?_
    refine VC.region ?_
    refine VL.q (q_move rfl) (by decide) ?_
    refine VL.q (q_assign rfl) (by decide) ?_
    refine VL.q (q_assign rfl) (by decide) ?_
    refine VL.q (q_assign rfl) (by decide) ?_
    refine VL.to (fun _ _ h => h) ?_
    cases hS
    exact VC.ret (fin3 (.inr rfl) rfl rfl rfl rfl () rfl trivial (fun _ _ => trivial) (fun _ _ => trivial))

set_option maxHeartbeats 4000000 in
set_option maxRecDepth 100000 in
theorem strings_Cut_ct (s_0 : Str) (sep_1 : Str) {r : Str × Str × Bool} (hS : Sh.strings_Cut s_0 sep_1 = some r) :
    Ct Tryd.prog 71 [str s_0, str sep_1] Mo.tt (Ow.emp) (X := Unit) (fun _ => .tuple #[str r.1, str r.2.1, .bool r.2.2]) (fun _ => True) (fun _ => Mo.tt) (fun _ => Ow.emp) := by
  refine Ct.of Tryd.func71 rfl (by kernel_rfl) Tryd.ntmps71 (by simp) fun c => ?_
  unfold Sh.strings_Cut at hS
  refine VC.seq ?_
  refine VC.region ?_
  refine VL.q (q_assign rfl) (by decide) ?_
  refine VL.q (q_assign rfl) (by decide) ?_
  refine VL.q (q_assign rfl) (by decide) ?_
  refine VL.to (fun _ _ h => h) ?_
  refine VC.seq ?_
  refine VC.region ?_
  refine VL.q (q_move rfl) (by decide) ?_
  refine VL.q (q_move rfl) (by decide) ?_
  obtain ⟨y9_1, ey9_1, hS⟩ := bd_s hS
  refine VL.q (q_call (internal_stringslite_Cut_ct s_0 sep_1 ey9_1) rfl (fun _ _ => rfl)) (by decide) ?_
  refine VL.q (q_extract rfl rfl) (by decide) ?_
  refine VL.q (q_extract rfl rfl) (by decide) ?_
  refine VL.q (q_extract rfl rfl) (by decide) ?_
  refine VL.q (q_assign rfl) (by decide) ?_
  refine VL.q (q_assign rfl) (by decide) ?_
  refine VL.q (q_assign rfl) (by decide) ?_
  refine VL.to (fun _ _ h => h) ?_
  refine VC.keep [4, 5, 6] rfl ?_
  cases hS
  exact VC.ret (fin3 (.inr rfl) rfl rfl rfl rfl () rfl trivial (fun _ _ => trivial) (fun _ _ => trivial))

set_option maxHeartbeats 4000000 in
set_option maxRecDepth 100000 in
theorem unicode_utf8_RuneCountInString_ct (s_0 : Str) {r : Int} (hS : Sh.unicode_utf8_RuneCountInString s_0 = some r) :
    Ct Tryd.prog 148 [str s_0] Mo.tt (Ow.emp) (X := Unit) (fun _ => i64 r) (fun _ => True) (fun _ => Mo.tt) (fun _ => Ow.emp) := by
  refine Ct.of Tryd.func148 rfl (by kernel_rfl) Tryd.ntmps148 (by simp) fun c => ?_
  unfold Sh.unicode_utf8_RuneCountInString at hS
  refine VC.seq ?_
  refine VC.region ?_
  refine VL.q (q_assign rfl) (by decide) ?_
  refine VL.to (fun _ _ h => h) ?_
  refine VC.seq ?_
  refine VC.seq ?_
  refine VC.region ?_
  refine VL.q (q_move rfl) (by decide) ?_
  cases hS

set_option maxHeartbeats 4000000 in
set_option maxRecDepth 100000 in
theorem unicode_utf8_decodeRuneInStringSlow_ct (a_0 : Str) {r : Int × Int} (hS : Sh.unicode_utf8_decodeRuneInStringSlow a_0 = some r) :
    Ct Tryd.prog 150 [str a_0] Mo.tt (Ow.emp) (X := Unit) (fun _ => .tuple #[.int .i32 r.1, i64 r.2]) (fun _ => True) (fun _ => Mo.tt) (fun _ => Ow.emp) := by
  refine Ct.of Tryd.func150 rfl (by kernel_rfl) Tryd.ntmps150 (by simp) fun c => ?_
  unfold Sh.unicode_utf8_decodeRuneInStringSlow at hS
  refine VC.seq ?_
  refine VC.region ?_
  refine VL.q (q_assign rfl) (by decide) ?_
  refine VL.q (q_assign rfl) (by decide) ?_
  refine VL.to (fun _ _ h => h) ?_
  refine VC.seq ?_
  refine VC.region ?_
  refine VL.q (q_move rfl) (by decide) ?_
  refine VL.q (q_slen Tryd.underlying9 rfl) (by decide) ?_
  refine VL.q (q_assign rfl) (by decide) ?_
  refine VL.to (fun _ _ h => h) ?_
  refine VC.seq ?_
  refine VC.seq ?_
  refine VC.region ?_
  refine VL.q (q_move rfl) (by decide) ?_
  refine VL.q (q_lss rfl rfl) (by decide) ?_
  refine VL.to (fun _ _ h => h) ?_
  refine VC.cond_dec rfl (fun h16 => ?_) (fun h16 => ?_)
  ·
    replace hS := it_t h16 hS
    refine VC.seq ?_
    refine VC.region ?_
    refine VL.q (q_assign rfl) (by decide) ?_
    refine VL.q (q_assign rfl) (by decide) ?_
    refine VL.to (fun _ _ h => h) ?_
    cases hS
    exact VC.ret (fin2 (.inr rfl) rfl rfl rfl () rfl trivial (fun _ _ => trivial) (fun _ _ => trivial))
  ·
    replace hS := it_f h16 hS
    refine VC.skip_to (fun _ _ h => h) ?_
    refine VC.seq ?_
    refine VC.region ?_
    refine VL.q (q_move rfl) (by decide) ?_
    obtain ⟨z18_1, nz18_1, hz18_1, hS⟩ := at_s hS
    refine VL.q (q_sidx Tryd.underlying9 rfl rfl nz18_1 hz18_1) (by decide) ?_
    refine VL.q (q_assign rfl) (by decide) ?_
    refine VL.to (fun _ _ h => h) ?_
    refine VC.keep [0, 4, 5] rfl ?_
    refine VC.seq ?_
    refine VC.region ?_
    refine VL.q (q_move rfl) (by decide) ?_
    cases hS

set_option maxHeartbeats 4000000 in
set_option maxRecDepth 100000 in
theorem unicode_utf8_DecodeRuneInString_ct (s_0 : Str) {r : Int × Int} (hS : Sh.unicode_utf8_DecodeRuneInString s_0 = some r) :
    Ct Tryd.prog 124 [str s_0] Mo.tt (Ow.emp) (X := Unit) (fun _ => .tuple #[.int .i32 r.1, i64 r.2]) (fun _ => True) (fun _ => Mo.tt) (fun _ => Ow.emp) := by
  refine Ct.of Tryd.func124 rfl (by kernel_rfl) Tryd.ntmps124 (by simp) fun c => ?_
  unfold Sh.unicode_utf8_DecodeRuneInString at hS
  refine VC.seq ?_
  refine VC.region ?_
  refine VL.q (q_assign rfl) (by decide) ?_
  refine VL.q (q_assign rfl) (by decide) ?_
  refine VL.to (fun _ _ h => h) ?_
  refine VC.seq ?_
  refine VC.cutJ (S := Bool) (fun (x10_1 : Bool) => x10_1) (fun (x10_1 : Bool) => [(0, str s_0), (10, .bool x10_1)]) (fun (x10_1 : Bool) => Mo.tt) (fun (x10_1 : Bool) => Ow.emp) hS ?_ ?_
  · -- up to where ways meet
    clear hS
    intro k2 hS
    refine VC.region ?_
    refine VL.q (q_move rfl) (by decide) ?_
    refine VL.q (q_sne rfl rfl) (by decide) ?_
    refine VL.q (q_move rfl) (by decide) ?_
    refine VL.split_ndec 6 rfl (fun h6 => ?_) (fun h6 => ?_)
    ·
      replace hS := it_f h6 hS
      refine VL.gy rfl rfl (q_move rfl) (by decide) ?_
      obtain ⟨z8_3, nz8_3, hz8_3, hS⟩ := at_s hS
      refine VL.gy rfl rfl (q_sidx Tryd.underlying9 rfl rfl nz8_3 hz8_3) (by decide) ?_
      refine VL.gy rfl rfl (q_lss rfl rfl) (by decide) ?_
      refine VL.q (q_pick_t rfl rfl) (by decide) ?_
      refine VL.mt (decide ((z8_3.toNat : Int) < 128)) [0, 10] (fun _ _ h => h) hS rfl
    ·
      replace hS := it_t h6 hS
      refine VL.gn rfl rfl rfl (by decide) ?_
      refine VL.gn rfl rfl rfl (by decide) ?_
      refine VL.gn rfl rfl rfl (by decide) ?_
      refine VL.q (q_pick_f rfl rfl) (by decide) ?_
      refine VL.mt false [0, 10] (fun _ _ h => h) hS rfl
  · -- from there
    clear hS
    rintro x10_1 hS
    show VC _ _ _ _ _ [(0, str s_0), (10, .bool x10_1)] (Mo.and Mo.tt _) (Ow.emp)
    refine VC.cond rfl (fun h10 => ?_) (fun h10 => ?_)
    ·
      replace hS := it_t h10 hS
      refine VC.seq ?_
      refine VC.region ?_
      refine VL.q (q_move rfl) (by decide) ?_
      obtain ⟨z12_4, nz12_4, hz12_4, hS⟩ := at_s hS
      refine VL.q (q_sidx Tryd.underlying9 rfl rfl nz12_4 hz12_4) (by decide) ?_
      refine VL.q (q_conv Tryd.underlying5 Tryd.underlying21 rfl (wr_i32 z12_4)) (by decide) ?_
      refine VL.q (q_assign rfl) (by decide) ?_
      refine VL.q (q_assign rfl) (by decide) ?_
      refine VL.to (fun _ _ h => h) ?_
      cases hS
      exact VC.ret (fin2 (.inr rfl) rfl rfl rfl () rfl trivial (fun _ _ => trivial) (fun _ _ => trivial))
    ·
      replace hS := it_b h10 hS
      refine VC.region ?_
      refine VL.q (q_move rfl) (by decide) ?_
      obtain ⟨y16_5, ey16_5, hS⟩ := bd_s hS
      refine VL.q (q_call (unicode_utf8_decodeRuneInStringSlow_ct s_0 ey16_5) rfl (fun _ _ => rfl)) (by decide) ?_
      refine VL.q (q_move rfl) (by decide) ?_
      refine VL.q (q_extract rfl rfl) (by decide) ?_
      refine VL.q (q_extract rfl rfl) (by decide) ?_
      refine VL.q (q_assign rfl) (by decide) ?_
      refine VL.q (q_assign rfl) (by decide) ?_
      refine VL.to (fun _ _ h => h) ?_
      cases hS
      exact VC.ret (fin2 (.inr rfl) rfl rfl rfl () rfl trivial (fun _ _ => trivial) (fun _ _ => trivial))

set_option maxHeartbeats 4000000 in
set_option maxRecDepth 100000 in
theorem strings_explode_ct (s_0 : Str) (n_1 : Int) {r : List Str} (hS : Sh.strings_explode s_0 n_1 = some r) :
    Ct Tryd.prog 120 [str s_0, i64 n_1] Mo.tt (Ow.emp) (X := Sv Str) (fun x => x.val) (fun x => r = x.l) (fun x => Mo.tt) (fun x => Sv.own x 9) := by
  refine Ct.of Tryd.func120 rfl (by kernel_rfl) Tryd.ntmps120 (by simp) fun c => ?_
  unfold Sh.strings_explode at hS
  refine VC.seq ?_
  refine VC.region ?_
  refine VL.q (q_assign rfl) (by decide) ?_
  refine VL.to (fun _ _ h => h) ?_
  refine VC.seq ?_
  refine VC.region ?_
  refine VL.q (q_move rfl) (by decide) ?_
  obtain ⟨y11_1, ey11_1, hS⟩ := bd_s hS
  refine VL.q (q_call (unicode_utf8_RuneCountInString_ct s_0 ey11_1) rfl (fun _ _ => rfl)) (by decide) ?_
  refine VL.q (q_assign rfl) (by decide) ?_
  refine VL.to (fun _ _ h => h) ?_
  refine VC.cutJ (S := Int) (fun (n1_2 : Int) => n1_2) (fun (n1_2 : Int) => [(0, str s_0), (1, i64 n1_2)]) (fun (n1_2 : Int) => Mo.tt) (fun (n1_2 : Int) => Ow.emp) hS ?_ ?_
  · -- up to where ways meet
    clear hS
    intro k3 hS
    refine VC.cutJ (S := Bool) (fun (x18_4 : Bool) => x18_4) (fun (x18_4 : Bool) => [(0, str s_0), (1, i64 n_1), (5, i64 y11_1), (18, .bool x18_4)]) (fun (x18_4 : Bool) => Mo.tt) (fun (x18_4 : Bool) => Ow.emp) hS ?_ ?_
    · -- up to where ways meet
      clear hS
      intro k5 hS
      refine VC.region ?_
      refine VL.q (q_move rfl) (by decide) ?_
      refine VL.q (q_lss rfl rfl) (by decide) ?_
      refine VL.q (q_move rfl) (by decide) ?_
      refine VL.split_dec 14 rfl (fun h14 => ?_) (fun h14 => ?_)
      ·
        replace hS := it_t h14 hS
        refine VL.gn rfl rfl rfl (by decide) ?_
        refine VL.gn rfl rfl rfl (by decide) ?_
        refine VL.gn rfl rfl rfl (by decide) ?_
        refine VL.q (q_pick_t rfl rfl) (by decide) ?_
        refine VL.mt true [0, 1, 5, 18] (fun _ _ h => h) hS rfl
      ·
        replace hS := it_f h14 hS
        refine VL.gy rfl rfl (q_move rfl) (by decide) ?_
        refine VL.gy rfl rfl (q_move rfl) (by decide) ?_
        refine VL.gy rfl rfl (q_gtr rfl rfl) (by decide) ?_
        refine VL.q (q_pick_f rfl rfl) (by decide) ?_
        refine VL.mt (decide (y11_1 < n_1)) [0, 1, 5, 18] (fun _ _ h => h) hS rfl
    · -- from there
      clear hS
      rintro x18_4 hS
      show VC _ _ _ _ _ [(0, str s_0), (1, i64 n_1), (5, i64 y11_1), (18, .bool x18_4)] (Mo.and Mo.tt _) (Ow.emp)
      refine VC.cond rfl (fun h18 => ?_) (fun h18 => ?_)
      ·
        replace hS := it_t h18 hS
        refine VC.region ?_
        refine VL.q (q_move rfl) (by decide) ?_
        refine VL.q (q_assign rfl) (by decide) ?_
        refine VL.mt y11_1 [0, 1] (fun _ _ h => h) hS rfl
      ·
        replace hS := it_b h18 hS
        refine VC.skip_mt n_1 [0, 1] (fun _ _ h => h) hS rfl
  · -- from there
    clear hS
    rintro n1_2 hS
    show VC _ _ _ _ _ [(0, str s_0), (1, i64 n1_2)] (Mo.and Mo.tt _) (Ow.emp)
    refine VC.seq ?_
    refine VC.region ?_
    refine VL.q (q_move rfl) (by decide) ?_
    obtain ⟨b21, hS⟩ := gd_s hS
    refine VL.make (α := Str) (z := []) Tryd.underlying38 gmk9 (by decide) rfl rfl b21.1 (Int.le_refl _) (by omega) (by omega) (by decide) (fun s21_6 hs21_6 => ?_)
    replace hS := lt_to hs21_6 hS
    refine VL.q (q_assign rfl) (by decide) ?_
    refine VL.to (fun _ _ h => h) ?_
    refine VC.seq ?_
    refine VC.seq ?_
    refine VC.region ?_
    refine VL.q (q_assign rfl) (by decide) ?_
    refine VL.to (fun _ _ h => h) ?_
    refine VC.block ?_
    refine VC.iter (S := Str × Sv Str × Int) (fun sg => (sg.1, sg.2.1.l, sg.2.2)) (fun sg => [(0, str sg.1), (1, i64 n1_2), (6, sg.2.1.val), (7, i64 sg.2.2)]) (fun sg => Mo.tt) (fun sg => Ow.star (Sv.own sg.2.1 9) (Ow.emp)) (s_0, s21_6, 0) [0, 1, 6, 7] hS rfl ?_
    clear hS
    rintro ⟨s0_8, a6_9, i7_10⟩ m1 y1 hS hK1
    show VC _ _ _ _ _ [(0, str s0_8), (1, i64 n1_2), (6, a6_9.val), (7, i64 i7_10)] (Mo.and Mo.tt _) (Ow.star (Sv.own a6_9 9) (Ow.emp))
    refine VC.seq ?_
    refine VC.seq ?_
    refine VC.region ?_
    refine VL.q (q_move rfl) (by decide) ?_
    refine VL.q (q_move rfl) (by decide) ?_
    obtain ⟨b24, hS⟩ := gd_s hS
    refine VL.q (q_sub rfl rfl b24) (by decide) ?_
    refine VL.q (q_lss rfl rfl) (by decide) ?_
    refine VL.to (fun _ _ h => h) ?_
    refine VC.cond_dec rfl (fun h25 => ?_) (fun h25 => ?_)
    ·
      replace hS := it_t h25 hS
      refine VC.skip_to (fun _ _ h => h) ?_
      refine VC.seq ?_
      refine VC.block ?_
      refine VC.seq ?_
      refine VC.region ?_
      refine VL.q (q_move rfl) (by decide) ?_
      obtain ⟨y30_11, ey30_11, hS⟩ := bd_s hS
      refine VL.q (q_call (unicode_utf8_DecodeRuneInString_ct s0_8 ey30_11) rfl (fun _ _ => rfl)) (by decide) ?_
      refine VL.q (q_move rfl) (by decide) ?_
      refine VL.q (q_extract rfl rfl) (by decide) ?_
      refine VL.q (q_extract rfl rfl) (by decide) ?_
      refine VL.q (q_assign rfl) (by decide) ?_
      refine VL.q (q_assign rfl) (by decide) ?_
      refine VL.to (fun _ _ h => h) ?_
      refine VC.keep [0, 1, 6, 7, 9] rfl ?_
      refine VC.seq ?_
      refine VC.region ?_
      refine VL.q (q_move rfl) (by decide) ?_
      refine VL.q (q_move rfl) (by decide) ?_
      refine VL.q (q_move rfl) (by decide) ?_
      refine VL.q (q_move rfl) (by decide) ?_
      obtain ⟨b37, hS⟩ := gd_s hS
      obtain ⟨y37_12, ey37_12, hS⟩ := lt_s hS
      refine VL.q (q_stoE Tryd.underlying9 rfl rfl b37.1 b37.2 ey37_12) (by decide) ?_
      obtain ⟨z38_13, nz38_13, hz38_13, hS⟩ := at_s hS
      refine VL.q (q_ixo (s := a6_9) Tryd.underlying38 gsz9 rfl rfl nz38_13 (lt_of_get nz38_13 hz38_13)) (by decide) ?_
      refine VL.storeE (s := a6_9) (T := 9) (j := 0) (vc := [str y37_12]) (y37_12 : Str) (by decide) rfl rfl hz38_13 rfl gsz9 rfl rfl (Nat.le_of_ble_eq_true rfl) rfl (fun w14 hw14 haw14 hcw14 hvw14 hbw14 how14 => ?_)
      rw [← hvw14]
      replace hS := lt_to hw14 hS
      refine VL.to (fun _ _ h => h) ?_
      refine VC.region ?_
      refine VL.q (q_move rfl) (by decide) ?_
      refine VL.q (q_move rfl) (by decide) ?_
      obtain ⟨b41, hS⟩ := gd_s hS
      obtain ⟨y41_16, ey41_16, hS⟩ := lt_s hS
      refine VL.q (q_sfromE Tryd.underlying9 rfl rfl b41.1 b41.2 ey41_16) (by decide) ?_
      refine VL.q (q_assign rfl) (by decide) ?_
      refine VL.to (fun _ _ h => h) ?_
      refine VC.keep [0, 1, 6, 7] rfl ?_
      refine VC.region ?_
      refine VL.q (q_move rfl) (by decide) ?_
      obtain ⟨b27, hS⟩ := gd_s hS
      refine VL.q (q_add rfl rfl b27) (by decide) ?_
      refine VL.q (q_assign rfl) (by decide) ?_
      refine VL.rnd (y41_16, w14, (i7_10 + 1)) [0, 1, 6, 7] (fun _ _ h => h) (go2 hS hK1) rfl
    ·
      replace hS := it_f h25 hS
      replace hS := up2 hS hK1
      refine VC.exit_to (fun _ _ h => h) ?_
      refine VC.seq ?_
      refine VC.seq ?_
      refine VC.region ?_
      refine VL.q (q_move rfl) (by decide) ?_
      refine VL.q (q_gtr rfl rfl) (by decide) ?_
      refine VL.to (fun _ _ h => h) ?_
      refine VC.cond_dec rfl (fun h43 => ?_) (fun h43 => ?_)
      ·
        replace hS := it_t h43 hS
        refine VC.region ?_
        refine VL.q (q_move rfl) (by decide) ?_
        refine VL.q (q_move rfl) (by decide) ?_
        obtain ⟨b46, hS⟩ := gd_s hS
        refine VL.q (q_sub rfl rfl b46) (by decide) ?_
        refine VL.q (q_move rfl) (by decide) ?_
        obtain ⟨z48_17, nz48_17, hz48_17, hS⟩ := at_s hS
        refine VL.q (q_ixo (s := a6_9) Tryd.underlying38 gsz9 rfl rfl nz48_17 (lt_of_get nz48_17 hz48_17)) (by decide) ?_
        refine VL.storeE (s := a6_9) (T := 9) (j := 0) (vc := [str s0_8]) (s0_8 : Str) (by decide) rfl rfl hz48_17 rfl gsz9 rfl rfl (Nat.le_of_ble_eq_true rfl) rfl (fun w18 hw18 haw18 hcw18 hvw18 hbw18 how18 => ?_)
        rw [← hvw18]
        replace hS := lt_to hw18 hS
        refine VL.to (fun _ _ h => h) ?_
        refine VC.keep [6] rfl ?_
        refine VC.seq ?_
        refine VC.region ?_
        refine VL.q (q_move rfl) (by decide) ?_
        refine VL.q (q_assign rfl) (by decide) ?_
        refine VL.to (fun _ _ h => h) ?_
        cases hS
        exact VC.ret (fin1 (.inr rfl) rfl rfl w18 rfl rfl (by (try dsimp only); exact InM.out) (by (try dsimp only); exact EntO.out))
      ·
        replace hS := it_f h43 hS
        refine VC.skip_to (fun _ _ h => h) ?_
        refine VC.seq ?_
        refine VC.region ?_
        refine VL.q (q_move rfl) (by decide) ?_
        refine VL.q (q_assign rfl) (by decide) ?_
        refine VL.to (fun _ _ h => h) ?_
        refine VC.keep [4] rfl ?_
        cases hS
        exact VC.ret (fin1 (.inr rfl) rfl rfl a6_9 rfl rfl (by (try dsimp only); exact InM.out) (by (try dsimp only); exact EntO.out))

set_option maxHeartbeats 4000000 in
set_option maxRecDepth 100000 in
theorem strings_Index_ct (s_0 : Str) (substr_1 : Str) {r : Int} (hS : Sh.strings_Index s_0 substr_1 = some r) :
    Ct Tryd.prog 122 [str s_0, str substr_1] Mo.tt (Ow.emp) (X := Unit) (fun _ => i64 r) (fun _ => True) (fun _ => Mo.tt) (fun _ => Ow.emp) := by
  refine Ct.of Tryd.func122 rfl (by kernel_rfl) Tryd.ntmps122 (by simp) fun c => ?_
  unfold Sh.strings_Index at hS
  refine VC.seq ?_
  refine VC.region ?_
  refine VL.q (q_assign rfl) (by decide) ?_
  refine VL.to (fun _ _ h => h) ?_
  refine VC.seq ?_
  refine VC.region ?_
  refine VL.q (q_move rfl) (by decide) ?_
  refine VL.q (q_move rfl) (by decide) ?_
  obtain ⟨y7_1, ey7_1, hS⟩ := bd_s hS
  refine VL.q (q_call (internal_stringslite_Index_ct s_0 substr_1 ey7_1) rfl (fun _ _ => rfl)) (by decide) ?_
  refine VL.q (q_assign rfl) (by decide) ?_
  refine VL.to (fun _ _ h => h) ?_
  cases hS
  exact VC.ret (fin1 (.inr rfl) rfl rfl () rfl trivial (fun _ _ => trivial) (fun _ _ => trivial))

set_option maxHeartbeats 4000000 in
set_option maxRecDepth 100000 in
theorem strings_Count_ct (s_0 : Str) (substr_1 : Str) {r : Int} (hS : Sh.strings_Count s_0 substr_1 = some r) :
    Ct Tryd.prog 121 [str s_0, str substr_1] Mo.tt (Ow.emp) (X := Unit) (fun _ => i64 r) (fun _ => True) (fun _ => Mo.tt) (fun _ => Ow.emp) := by
  refine Ct.of Tryd.func121 rfl (by kernel_rfl) Tryd.ntmps121 (by simp) fun c => ?_
  unfold Sh.strings_Count at hS
  refine VC.seq ?_
  refine VC.region ?_
  refine VL.q (q_assign rfl) (by decide) ?_
  refine VL.to (fun _ _ h => h) ?_
  refine VC.seq ?_
  refine VC.seq ?_
  refine VC.region ?_
  refine VL.q (q_move rfl) (by decide) ?_
  refine VL.q (q_slen Tryd.underlying9 rfl) (by decide) ?_
  refine VL.q (q_eql rfl rfl) (by decide) ?_
  refine VL.to (fun _ _ h => h) ?_
  refine VC.cond_dec rfl (fun h9 => ?_) (fun h9 => ?_)
  ·
    replace hS := it_t h9 hS
    refine VC.seq ?_
    refine VC.region ?_
    refine VL.q (q_move rfl) (by decide) ?_
    obtain ⟨y11_1, ey11_1, hS⟩ := bd_s hS
    refine VL.q (q_call (unicode_utf8_RuneCountInString_ct s_0 ey11_1) rfl (fun _ _ => rfl)) (by decide) ?_
    obtain ⟨b12, hS⟩ := gd_s hS
    refine VL.q (q_add rfl rfl b12) (by decide) ?_
    refine VL.q (q_assign rfl) (by decide) ?_
    refine VL.to (fun _ _ h => h) ?_
    cases hS
    exact VC.ret (fin1 (.inr rfl) rfl rfl () rfl trivial (fun _ _ => trivial) (fun _ _ => trivial))
  ·
    replace hS := it_f h9 hS
    refine VC.skip_to (fun _ _ h => h) ?_
    refine VC.seq ?_
    refine VC.seq ?_
    refine VC.region ?_
    refine VL.q (q_move rfl) (by decide) ?_
    refine VL.q (q_slen Tryd.underlying9 rfl) (by decide) ?_
    refine VL.q (q_eql rfl rfl) (by decide) ?_
    refine VL.to (fun _ _ h => h) ?_
    refine VC.cond_dec rfl (fun h15 => ?_) (fun h15 => ?_)
    ·
      replace hS := it_t h15 hS
      refine VC.seq ?_
      refine VC.region ?_
      refine VL.q (q_move rfl) (by decide) ?_
      refine VL.q (q_move rfl) (by decide) ?_
      obtain ⟨z18_2, nz18_2, hz18_2, hS⟩ := at_s hS
      refine VL.q (q_sidx Tryd.underlying9 rfl rfl nz18_2 hz18_2) (by decide) ?_
      refine VL.q (q_extern Tryd.func149 rfl rfl (by kernel_rfl) (by kernel_rfl) rfl (fun w => x_cntS s_0 (z18_2.toNat : Int) w)) (by decide) ?_
      refine VL.q (q_assign rfl) (by decide) ?_
      refine VL.to (fun _ _ h => h) ?_
      refine VC.keep [4] rfl ?_
      cases hS
      exact VC.ret (fin1 (.inr rfl) rfl rfl () rfl trivial (fun _ _ => trivial) (fun _ _ => trivial))
    ·
      replace hS := it_f h15 hS
      refine VC.skip_to (fun _ _ h => h) ?_
      refine VC.seq ?_
      refine VC.region ?_
      refine VL.q (q_assign rfl) (by decide) ?_
      refine VL.to (fun _ _ h => h) ?_
      refine VC.block ?_
      refine VC.iter (S := Str × Int) (fun sg => (sg.1, sg.2)) (fun sg => [(0, str sg.1), (1, str substr_1), (5, i64 sg.2)]) (fun sg => Mo.tt) (fun sg => Ow.emp) (s_0, 0) [0, 1, 5] hS rfl ?_
      clear hS
      rintro ⟨s0_3, n5_4⟩ m1 y1 hS hK1
      show VC _ _ _ _ _ [(0, str s0_3), (1, str substr_1), (5, i64 n5_4)] (Mo.and Mo.tt _) (Ow.emp)
      refine VC.block ?_
      refine VC.seq ?_
      refine VC.region ?_
      refine VL.q (q_move rfl) (by decide) ?_
      refine VL.q (q_move rfl) (by decide) ?_
      obtain ⟨y22_5, ey22_5, hS⟩ := bd_s hS
      refine VL.q (q_call (strings_Index_ct s0_3 substr_1 ey22_5) rfl (fun _ _ => rfl)) (by decide) ?_
      refine VL.q (q_assign rfl) (by decide) ?_
      refine VL.to (fun _ _ h => h) ?_
      refine VC.seq ?_
      refine VC.seq ?_
      refine VC.region ?_
      refine VL.q (q_move rfl) (by decide) ?_
      refine VL.q (q_eql rfl rfl) (by decide) ?_
      refine VL.to (fun _ _ h => h) ?_
      refine VC.cond_dec rfl (fun h24 => ?_) (fun h24 => ?_)
      ·
        replace hS := it_t h24 hS
        refine VC.seq ?_
        refine VC.region ?_
        refine VL.q (q_move rfl) (by decide) ?_
        refine VL.q (q_assign rfl) (by decide) ?_
        refine VL.to (fun _ _ h => h) ?_
        refine VC.keep [4] rfl ?_
        replace hS := up2 hS hK1
        cases hS
        exact VC.ret (fin1 (.inr rfl) rfl rfl () rfl trivial (fun _ _ => trivial) (fun _ _ => trivial))
      ·
        replace hS := it_f h24 hS
        refine VC.skip_to (fun _ _ h => h) ?_
        refine VC.seq ?_
        refine VC.region ?_
        refine VL.q (q_move rfl) (by decide) ?_
        obtain ⟨b27, hS⟩ := gd_s hS
        refine VL.q (q_add rfl rfl b27) (by decide) ?_
        refine VL.q (q_assign rfl) (by decide) ?_
        refine VL.to (fun _ _ h => h) ?_
        refine VC.keep [0, 1, 5, 6] rfl ?_
        refine VC.region ?_
        refine VL.q (q_move rfl) (by decide) ?_
        refine VL.q (q_move rfl) (by decide) ?_
        refine VL.q (q_move rfl) (by decide) ?_
        refine VL.q (q_slen Tryd.underlying9 rfl) (by decide) ?_
        obtain ⟨b32, hS⟩ := gd_s hS
        refine VL.q (q_add rfl rfl b32) (by decide) ?_
        obtain ⟨b33, hS⟩ := gd_s hS
        obtain ⟨y33_6, ey33_6, hS⟩ := lt_s hS
        refine VL.q (q_sfromE Tryd.underlying9 rfl rfl b33.1 b33.2 ey33_6) (by decide) ?_
        refine VL.q (q_assign rfl) (by decide) ?_
        refine VL.rnd (y33_6, (n5_4 + 1)) [0, 1, 5] (fun _ _ h => h) (go2 hS hK1) rfl

set_option maxHeartbeats 4000000 in
set_option maxRecDepth 100000 in
theorem strings_genSplit_ct (a_0 : Str) (a_1 : Str) (a_2 : Int) (a_3 : Int) {r : List Str} (hS : Sh.strings_genSplit a_0 a_1 a_2 a_3 = some r) :
    Ct Tryd.prog 85 [str a_0, str a_1, i64 a_2, i64 a_3] Mo.tt (Ow.emp) (X := Sv Str) (fun x => x.val) (fun x => r = x.l) (fun x => x.ok) (fun x => Ow.emp) := by
  refine Ct.of Tryd.func85 rfl (by kernel_rfl) Tryd.ntmps85 (by simp) fun c => ?_
  unfold Sh.strings_genSplit at hS
  refine VC.seq ?_
  refine VC.region ?_
  refine VL.q (q_assign rfl) (by decide) ?_
  refine VL.to (fun _ _ h => h) ?_
  refine VC.seq ?_
  refine VC.seq ?_
  refine VC.region ?_
  refine VL.q (q_move rfl) (by decide) ?_
  refine VL.q (q_eql rfl rfl) (by decide) ?_
  refine VL.to (fun _ _ h => h) ?_
  refine VC.cond_dec rfl (fun h13 => ?_) (fun h13 => ?_)
  ·
    replace hS := it_t h13 hS
    refine VC.seq ?_
    refine VC.region ?_
    refine VL.q (q_assign rfl) (by decide) ?_
    refine VL.to (fun _ _ h => h) ?_
    cases hS
    exact VC.ret (fin1 (.inr rfl) rfl rfl ⟨none, 0, []⟩ rfl rfl (by (try dsimp only); exact InM.out) (fun _ _ => trivial))
  ·
    replace hS := it_f h13 hS
    refine VC.skip_to (fun _ _ h => h) ?_
    refine VC.seq ?_
    refine VC.seq ?_
    refine VC.region ?_
    refine VL.q (q_move rfl) (by decide) ?_
    refine VL.q (q_seq rfl rfl) (by decide) ?_
    refine VL.to (fun _ _ h => h) ?_
    refine VC.cond_dec rfl (fun h15 => ?_) (fun h15 => ?_)
    ·
      replace hS := it_t h15 hS
      refine VC.seq ?_
      refine VC.region ?_
      refine VL.q (q_move rfl) (by decide) ?_
      refine VL.q (q_move rfl) (by decide) ?_
      obtain ⟨y18_1, ey18_1, hS⟩ := bd_s hS
      refine VL.callO (strings_explode_ct a_0 a_3 ey18_1) rfl (by decide) ?_
      rintro q18_1_0 rfl
      try dsimp only
      refine VL.q (q_assign rfl) (by decide) ?_
      refine VL.to (fun _ _ h => h) ?_
      refine VC.keep [8] rfl ?_
      refine VC.shut q18_1_0 9 (fun _ _ _ _ => trivial) ?_
      cases hS
      exact VC.ret (fin1 (.inr rfl) rfl rfl q18_1_0 rfl rfl (by (try dsimp only); exact InM.out) (fun _ _ => trivial))
    ·
      replace hS := it_f h15 hS
      refine VC.skip_to (fun _ _ h => h) ?_
      refine VC.cutJ (S := Int) (fun (x3_2 : Int) => x3_2) (fun (x3_2 : Int) => [(0, str a_0), (1, str a_1), (2, i64 a_2), (3, i64 x3_2)]) (fun (x3_2 : Int) => Mo.tt) (fun (x3_2 : Int) => Ow.emp) hS ?_ ?_
      · -- up to where ways meet
        clear hS
        intro k3 hS
        refine VC.seq ?_
        refine VC.region ?_
        refine VL.q (q_move rfl) (by decide) ?_
        refine VL.q (q_lss rfl rfl) (by decide) ?_
        refine VL.to (fun _ _ h => h) ?_
        refine VC.cond_dec rfl (fun h20 => ?_) (fun h20 => ?_)
        ·
          replace hS := it_t h20 hS
          refine VC.region ?_
          refine VL.q (q_move rfl) (by decide) ?_
          refine VL.q (q_move rfl) (by decide) ?_
          obtain ⟨y23_4, ey23_4, hS⟩ := bd_s hS
          refine VL.q (q_call (strings_Count_ct a_0 a_1 ey23_4) rfl (fun _ _ => rfl)) (by decide) ?_
          obtain ⟨b24, hS⟩ := gd_s hS
          refine VL.q (q_add rfl rfl b24) (by decide) ?_
          refine VL.q (q_assign rfl) (by decide) ?_
          refine VL.mt (y23_4 + 1) [0, 1, 2, 3] (fun _ _ h => h) hS rfl
        ·
          replace hS := it_f h20 hS
          refine VC.skip_mt a_3 [0, 1, 2, 3] (fun _ _ h => h) hS rfl
      · -- from there
        clear hS
        rintro x3_2 hS
        show VC _ _ _ _ _ [(0, str a_0), (1, str a_1), (2, i64 a_2), (3, i64 x3_2)] (Mo.and Mo.tt _) (Ow.emp)
        refine VC.seq ?_
        refine VC.region ?_
        refine VL.q (q_move rfl) (by decide) ?_
        refine VL.q (q_move rfl) (by decide) ?_
        refine VL.q (q_slen Tryd.underlying9 rfl) (by decide) ?_
        obtain ⟨b28, hS⟩ := gd_s hS
        refine VL.q (q_add rfl rfl b28) (by decide) ?_
        refine VL.q (q_min rfl) (by decide) ?_
        refine VL.q (q_assign rfl) (by decide) ?_
        refine VL.to (fun _ _ h => h) ?_
        refine VC.seq ?_
        refine VC.region ?_
        refine VL.q (q_move rfl) (by decide) ?_
        obtain ⟨b31, hS⟩ := gd_s hS
        refine VL.make (α := Str) (z := []) Tryd.underlying38 gmk9 (by decide) rfl rfl b31.1 (Int.le_refl _) (by omega) (by omega) (by decide) (fun s31_5 hs31_5 => ?_)
        replace hS := lt_to hs31_5 hS
        refine VL.q (q_assign rfl) (by decide) ?_
        refine VL.to (fun _ _ h => h) ?_
        refine VC.keep [0, 1, 2, 3, 9] rfl ?_
        refine VC.seq ?_
        refine VC.region ?_
        refine VL.q (q_move rfl) (by decide) ?_
        obtain ⟨b33, hS⟩ := gd_s hS
        refine VL.q (q_sub rfl rfl b33) (by decide) ?_
        refine VL.q (q_assign rfl) (by decide) ?_
        refine VL.to (fun _ _ h => h) ?_
        refine VC.seq ?_
        refine VC.region ?_
        refine VL.q (q_assign rfl) (by decide) ?_
        refine VL.to (fun _ _ h => h) ?_
        refine VC.cutJ (S := Str × Sv Str × Int) (fun sg => (sg.1, sg.2.1.l, sg.2.2)) (fun sg => [(0, str sg.1), (9, sg.2.1.val), (10, i64 sg.2.2)]) (fun sg => Mo.tt) (fun sg => Ow.star (Sv.own sg.2.1 9) (Ow.emp)) hS ?_ ?_
        · -- up to where ways meet
          clear hS
          intro k10 hS
          refine VC.block ?_
          refine VC.iter (S := Str × Sv Str × Int) (fun sg => (sg.1, sg.2.1.l, sg.2.2)) (fun sg => [(0, str sg.1), (1, str a_1), (2, i64 a_2), (3, i64 ((min x3_2 ((a_0.length : Int) + 1)) - 1)), (9, sg.2.1.val), (10, i64 sg.2.2)]) (fun sg => Mo.tt) (fun sg => Ow.star (Sv.own sg.2.1 9) (Ow.emp)) (a_0, s31_5, 0) [0, 1, 2, 3, 9, 10] hS rfl ?_
          clear hS
          rintro ⟨x0_11, x9_12, x10_13⟩ m1 y1 hS hK1
          show VC _ _ _ _ _ [(0, str x0_11), (1, str a_1), (2, i64 a_2), (3, i64 ((min x3_2 ((a_0.length : Int) + 1)) - 1)), (9, x9_12.val), (10, i64 x10_13)] (Mo.and Mo.tt _) (Ow.star (Sv.own x9_12 9) (Ow.emp))
          refine VC.seq ?_
          refine VC.seq ?_
          refine VC.region ?_
          refine VL.q (q_move rfl) (by decide) ?_
          refine VL.q (q_move rfl) (by decide) ?_
          refine VL.q (q_lss rfl rfl) (by decide) ?_
          refine VL.to (fun _ _ h => h) ?_
          refine VC.cond_dec rfl (fun h36 => ?_) (fun h36 => ?_)
          ·
            replace hS := it_t h36 hS
            refine VC.skip_to (fun _ _ h => h) ?_
            refine VC.block ?_
            refine VC.seq ?_
            refine VC.region ?_
            refine VL.q (q_move rfl) (by decide) ?_
            refine VL.q (q_move rfl) (by decide) ?_
            obtain ⟨y39_14, ey39_14, hS⟩ := bd_s hS
            refine VL.q (q_call (strings_Index_ct x0_11 a_1 ey39_14) rfl (fun _ _ => rfl)) (by decide) ?_
            refine VL.q (q_assign rfl) (by decide) ?_
            refine VL.to (fun _ _ h => h) ?_
            refine VC.seq ?_
            refine VC.seq ?_
            refine VC.region ?_
            refine VL.q (q_move rfl) (by decide) ?_
            refine VL.q (q_lss rfl rfl) (by decide) ?_
            refine VL.to (fun _ _ h => h) ?_
            refine VC.keep [0, 1, 2, 3, 9, 10, 11, 41] rfl ?_
            refine VC.cond_dec rfl (fun h41 => ?_) (fun h41 => ?_)
            ·
              replace hS := it_t h41 hS
              replace hS := up2 hS hK1
              refine VC.exit_mt (x0_11, x9_12, x10_13) [0, 9, 10] (fun _ _ h => h) hS rfl
            ·
              replace hS := it_f h41 hS
              refine VC.skip_to (fun _ _ h => h) ?_
              refine VC.seq ?_
              refine VC.region ?_
              refine VL.q (q_move rfl) (by decide) ?_
              refine VL.q (q_move rfl) (by decide) ?_
              refine VL.q (q_move rfl) (by decide) ?_
              refine VL.q (q_move rfl) (by decide) ?_
              refine VL.q (q_move rfl) (by decide) ?_
              obtain ⟨b47, hS⟩ := gd_s hS
              refine VL.q (q_add rfl rfl b47) (by decide) ?_
              obtain ⟨b48, hS⟩ := gd_s hS
              obtain ⟨y48_15, ey48_15, hS⟩ := lt_s hS
              refine VL.q (q_stoE Tryd.underlying9 rfl rfl b48.1 b48.2 ey48_15) (by decide) ?_
              obtain ⟨z49_16, nz49_16, hz49_16, hS⟩ := at_s hS
              refine VL.q (q_ixo (s := x9_12) Tryd.underlying38 gsz9 rfl rfl nz49_16 (lt_of_get nz49_16 hz49_16)) (by decide) ?_
              refine VL.storeE (s := x9_12) (T := 9) (j := 0) (vc := [str y48_15]) (y48_15 : Str) (by decide) rfl rfl hz49_16 rfl gsz9 rfl rfl (Nat.le_of_ble_eq_true rfl) rfl (fun w17 hw17 haw17 hcw17 hvw17 hbw17 how17 => ?_)
              rw [← hvw17]
              replace hS := lt_to hw17 hS
              refine VL.to (fun _ _ h => h) ?_
              refine VC.keep [0, 1, 2, 3, 9, 10, 11] rfl ?_
              refine VC.seq ?_
              refine VC.region ?_
              refine VL.q (q_move rfl) (by decide) ?_
              refine VL.q (q_move rfl) (by decide) ?_
              refine VL.q (q_move rfl) (by decide) ?_
              refine VL.q (q_slen Tryd.underlying9 rfl) (by decide) ?_
              obtain ⟨b54, hS⟩ := gd_s hS
              refine VL.q (q_add rfl rfl b54) (by decide) ?_
              obtain ⟨b55, hS⟩ := gd_s hS
              obtain ⟨y55_19, ey55_19, hS⟩ := lt_s hS
              refine VL.q (q_sfromE Tryd.underlying9 rfl rfl b55.1 b55.2 ey55_19) (by decide) ?_
              refine VL.q (q_assign rfl) (by decide) ?_
              refine VL.to (fun _ _ h => h) ?_
              refine VC.keep [0, 1, 2, 3, 9, 10] rfl ?_
              refine VC.region ?_
              refine VL.q (q_move rfl) (by decide) ?_
              obtain ⟨b57, hS⟩ := gd_s hS
              refine VL.q (q_add rfl rfl b57) (by decide) ?_
              refine VL.q (q_assign rfl) (by decide) ?_
              refine VL.rnd (y55_19, w17, (x10_13 + 1)) [0, 1, 2, 3, 9, 10] (fun _ _ h => h) (go2 hS hK1) rfl
          ·
            replace hS := it_f h36 hS
            replace hS := up2 hS hK1
            refine VC.exit_mt (x0_11, x9_12, x10_13) [0, 9, 10] (fun _ _ h => h) hS rfl
        · -- from there
          clear hS
          rintro ⟨x0_7, x9_8, x10_9⟩ hS
          show VC _ _ _ _ _ [(0, str x0_7), (9, x9_8.val), (10, i64 x10_9)] (Mo.and Mo.tt _) (Ow.star (Sv.own x9_8 9) (Ow.emp))
          refine VC.seq ?_
          refine VC.region ?_
          refine VL.q (q_move rfl) (by decide) ?_
          refine VL.q (q_move rfl) (by decide) ?_
          refine VL.q (q_move rfl) (by decide) ?_
          obtain ⟨z61_20, nz61_20, hz61_20, hS⟩ := at_s hS
          refine VL.q (q_ixo (s := x9_8) Tryd.underlying38 gsz9 rfl rfl nz61_20 (lt_of_get nz61_20 hz61_20)) (by decide) ?_
          refine VL.storeE (s := x9_8) (T := 9) (j := 0) (vc := [str x0_7]) (x0_7 : Str) (by decide) rfl rfl hz61_20 rfl gsz9 rfl rfl (Nat.le_of_ble_eq_true rfl) rfl (fun w21 hw21 haw21 hcw21 hvw21 hbw21 how21 => ?_)
          rw [← hvw21]
          replace hS := lt_to hw21 hS
          refine VL.to (fun _ _ h => h) ?_
          refine VC.seq ?_
          refine VC.region ?_
          refine VL.q (q_move rfl) (by decide) ?_
          refine VL.q (q_move rfl) (by decide) ?_
          obtain ⟨b64, hS⟩ := gd_s hS
          refine VL.q (q_add rfl rfl b64) (by decide) ?_
          refine VL.shut w21 9 (fun _ _ _ _ => trivial) ?_
          obtain ⟨b65, hS⟩ := gd_s hS
          refine VL.sto Tryd.underlying38 gsz9 rfl rfl b65.1 (b65.2) (by decide) fun s65_23 hs65_23 => ?_
          replace hS := lt_to hs65_23 hS
          refine VL.q (q_assign rfl) (by decide) ?_
          refine VL.to (fun _ _ h => h) ?_
          refine VC.keep [8] rfl ?_
          cases hS
          exact VC.ret (fin1 (.inr rfl) rfl rfl s65_23 rfl rfl (by (try dsimp only); exact InM.out) (fun _ _ => trivial))

set_option maxHeartbeats 4000000 in
set_option maxRecDepth 100000 in
theorem strings_Split_ct (s_0 : Str) (sep_1 : Str) {r : List Str} (hS : Sh.strings_Split s_0 sep_1 = some r) :
    Ct Tryd.prog 44 [str s_0, str sep_1] Mo.tt (Ow.emp) (X := Sv Str) (fun x => x.val) (fun x => r = x.l) (fun x => x.ok) (fun x => Ow.emp) := by
  refine Ct.of Tryd.func44 rfl (by kernel_rfl) Tryd.ntmps44 (by simp) fun c => ?_
  unfold Sh.strings_Split at hS
  refine VC.seq ?_
  refine VC.region ?_
  refine VL.q (q_assign rfl) (by decide) ?_
  refine VL.to (fun _ _ h => h) ?_
  refine VC.seq ?_
  refine VC.region ?_
  refine VL.q (q_move rfl) (by decide) ?_
  refine VL.q (q_move rfl) (by decide) ?_
  obtain ⟨y7_1, ey7_1, hS⟩ := bd_s hS
  refine VL.callF (strings_genSplit_ct s_0 sep_1 0 (-1) ey7_1) rfl (by decide) ?_
  rintro q7_1_0 rfl
  try dsimp only
  refine VL.q (q_assign rfl) (by decide) ?_
  refine VL.to (fun _ _ h => h) ?_
  cases hS
  exact VC.ret (fin1 (.inr rfl) rfl rfl q7_1_0 rfl rfl (by (try dsimp only); exact InM.out) (fun _ _ => trivial))

set_option maxHeartbeats 4000000 in
set_option maxRecDepth 100000 in
theorem cmd_first_ct (w_0 : Sv Str) {r : Str} (hS : Sh.cmd_first w_0.l = some r) :
    Ct Tryd.prog 137 [w_0.val] w_0.ok (Ow.emp) (X := Unit) (fun _ => str r) (fun _ => True) (fun _ => Mo.tt) (fun _ => Ow.emp) := by
  refine Ct.of Tryd.func137 rfl (by kernel_rfl) Tryd.ntmps137 (by simp) fun c => ?_
  unfold Sh.cmd_first at hS
  refine VC.seq ?_
  refine VC.region ?_
  refine VL.q (q_assign rfl) (by decide) ?_
  refine VL.to (fun _ _ h => h) ?_
  refine VC.seq ?_
  refine VC.seq ?_
  refine VC.region ?_
  refine VL.q (q_move rfl) (by decide) ?_
  refine VL.q (q_ln (s := w_0) Tryd.underlying38 rfl) (by decide) ?_
  refine VL.q (q_eql rfl rfl) (by decide) ?_
  refine VL.to (fun _ _ h => h) ?_
  refine VC.cond_dec rfl (fun h5 => ?_) (fun h5 => ?_)
  ·
    replace hS := it_t h5 hS
    refine VC.seq ?_
    refine VC.region ?_
    refine VL.q (q_assign rfl) (by decide) ?_
    refine VL.to (fun _ _ h => h) ?_
    cases hS
    exact VC.ret (fin1 (.inr rfl) rfl rfl () rfl trivial (fun _ _ => trivial) (fun _ _ => trivial))
  ·
    replace hS := it_f h5 hS
    refine VC.skip_to (fun _ _ h => h) ?_
    refine VC.seq ?_
    refine VC.region ?_
    refine VL.q (q_move rfl) (by decide) ?_
    obtain ⟨z7_1, nz7_1, hz7_1, hS⟩ := at_s hS
    refine VL.q (q_ixm (s := w_0) Tryd.underlying38 gsz9 rfl rfl nz7_1 (lt_of_get nz7_1 hz7_1)) (by decide) ?_
    refine VL.q (q_el (s := w_0) gone9 rfl hz7_1 rfl) (by decide) ?_
    refine VL.q (q_assign rfl) (by decide) ?_
    refine VL.to (fun _ _ h => h) ?_
    cases hS
    exact VC.ret (fin1 (.inr rfl) rfl rfl () rfl trivial (fun _ _ => trivial) (fun _ _ => trivial))

set_option maxHeartbeats 4000000 in
set_option maxRecDepth 100000 in
theorem cmd_digit_ct (s_0 : Str) {r : Bool} (hS : Sh.cmd_digit s_0 = some r) :
    Ct Tryd.prog 138 [str s_0] Mo.tt (Ow.emp) (X := Unit) (fun _ => .bool r) (fun _ => True) (fun _ => Mo.tt) (fun _ => Ow.emp) := by
  refine Ct.of Tryd.func138 rfl (by kernel_rfl) Tryd.ntmps138 (by simp) fun c => ?_
  unfold Sh.cmd_digit at hS
  refine VC.seq ?_
  refine VC.region ?_
  refine VL.q (q_assign rfl) (by decide) ?_
  refine VL.to (fun _ _ h => h) ?_
  refine VC.seq ?_
  refine VC.region ?_
  refine VL.q (q_move rfl) (by decide) ?_
  refine VL.q (q_sne rfl rfl) (by decide) ?_
  refine VL.q (q_move rfl) (by decide) ?_
  refine VL.split_ndec 5 rfl (fun h5 => ?_) (fun h5 => ?_)
  ·
    replace hS := it_f h5 hS
    refine VL.gy rfl rfl (q_move rfl) (by decide) ?_
    obtain ⟨z7_1, nz7_1, hz7_1, hS⟩ := at_s hS
    refine VL.gy rfl rfl (q_sidx Tryd.underlying9 rfl rfl nz7_1 hz7_1) (by decide) ?_
    refine VL.gy rfl rfl (q_geq rfl rfl) (by decide) ?_
    refine VL.q (q_pick_t rfl rfl) (by decide) ?_
    refine VL.q (q_move rfl) (by decide) ?_
    refine VL.split_dec 10 rfl (fun h10 => ?_) (fun h10 => ?_)
    ·
      replace hS := it_t h10 hS
      refine VL.gy rfl rfl (q_move rfl) (by decide) ?_
      obtain ⟨z12_2, nz12_2, hz12_2, hS⟩ := at_s hS
      refine VL.gy rfl rfl (q_sidx Tryd.underlying9 rfl rfl nz12_2 hz12_2) (by decide) ?_
      refine VL.gy rfl rfl (q_leq rfl rfl) (by decide) ?_
      refine VL.q (q_pick_t rfl rfl) (by decide) ?_
      refine VL.q (q_assign rfl) (by decide) ?_
      refine VL.to (fun _ _ h => h) ?_
      refine VC.keep [2] rfl ?_
      cases hS
      exact VC.ret (fin1 (.inr rfl) rfl rfl () rfl trivial (fun _ _ => trivial) (fun _ _ => trivial))
    ·
      replace hS := it_f h10 hS
      refine VL.gn rfl rfl rfl (by decide) ?_
      refine VL.gn rfl rfl rfl (by decide) ?_
      refine VL.gn rfl rfl rfl (by decide) ?_
      refine VL.q (q_pick_f rfl rfl) (by decide) ?_
      refine VL.q (q_assign rfl) (by decide) ?_
      refine VL.to (fun _ _ h => h) ?_
      refine VC.keep [2] rfl ?_
      cases hS
      exact VC.ret (fin1 (.inr rfl) rfl rfl () rfl trivial (fun _ _ => trivial) (fun _ _ => trivial))
  ·
    replace hS := it_t h5 hS
    refine VL.gn rfl rfl rfl (by decide) ?_
    refine VL.gn rfl rfl rfl (by decide) ?_
    refine VL.gn rfl rfl rfl (by decide) ?_
    refine VL.q (q_pick_f rfl rfl) (by decide) ?_
    refine VL.q (q_move rfl) (by decide) ?_
    refine VL.gn rfl rfl rfl (by decide) ?_
    refine VL.gn rfl rfl rfl (by decide) ?_
    refine VL.gn rfl rfl rfl (by decide) ?_
    refine VL.q (q_pick_f rfl rfl) (by decide) ?_
    refine VL.q (q_assign rfl) (by decide) ?_
    refine VL.to (fun _ _ h => h) ?_
    refine VC.keep [2] rfl ?_
    cases hS
    exact VC.ret (fin1 (.inr rfl) rfl rfl () rfl trivial (fun _ _ => trivial) (fun _ _ => trivial))

set_option maxHeartbeats 4000000 in
set_option maxRecDepth 100000 in
theorem cmd_count_ct (s_0 : Str) {r : Int × Bool} (hS : Sh.cmd_count s_0 = some r) :
    Ct Tryd.prog 139 [str s_0] Mo.tt (Ow.emp) (X := Unit) (fun _ => .tuple #[i64 r.1, .bool r.2]) (fun _ => True) (fun _ => Mo.tt) (fun _ => Ow.emp) := by
  refine Ct.of Tryd.func139 rfl (by kernel_rfl) Tryd.ntmps139 (by simp) fun c => ?_
  unfold Sh.cmd_count at hS
  refine VC.seq ?_
  refine VC.region ?_
  refine VL.q (q_assign rfl) (by decide) ?_
  refine VL.q (q_assign rfl) (by decide) ?_
  refine VL.to (fun _ _ h => h) ?_
  refine VC.seq ?_
  refine VC.cutJ (S := Bool) (fun (x23_1 : Bool) => x23_1) (fun (x23_1 : Bool) => [(0, str s_0), (23, .bool x23_1)]) (fun (x23_1 : Bool) => Mo.tt) (fun (x23_1 : Bool) => Ow.emp) hS ?_ ?_
  · -- up to where ways meet
    clear hS
    intro k2 hS
    refine VC.region ?_
    refine VL.q (q_move rfl) (by decide) ?_
    refine VL.q (q_seq rfl rfl) (by decide) ?_
    refine VL.q (q_move rfl) (by decide) ?_
    refine VL.split_dec 9 rfl (fun h9 => ?_) (fun h9 => ?_)
    ·
      replace hS := it_t h9 hS
      refine VL.gn rfl rfl rfl (by decide) ?_
      refine VL.gn rfl rfl rfl (by decide) ?_
      refine VL.gn rfl rfl rfl (by decide) ?_
      refine VL.q (q_pick_t rfl rfl) (by decide) ?_
      refine VL.q (q_move rfl) (by decide) ?_
      refine VL.gn rfl rfl rfl (by decide) ?_
      refine VL.gn rfl rfl rfl (by decide) ?_
      refine VL.gn rfl rfl rfl (by decide) ?_
      refine VL.gn rfl rfl rfl (by decide) ?_
      refine VL.gu rfl rfl (by decide) ?_
      refine VL.gu rfl rfl (by decide) ?_
      refine VL.gu rfl rfl (by decide) ?_
      refine VL.gn rfl rfl rfl (by decide) ?_
      refine VL.q (q_pick_t rfl rfl) (by decide) ?_
      refine VL.mt true [0, 23] (fun _ _ h => h) hS rfl
    ·
      replace hS := it_f h9 hS
      refine VL.gy rfl rfl (q_move rfl) (by decide) ?_
      refine VL.gy rfl rfl (q_slen Tryd.underlying9 rfl) (by decide) ?_
      refine VL.gy rfl rfl (q_gtr rfl rfl) (by decide) ?_
      refine VL.q (q_pick_f rfl rfl) (by decide) ?_
      refine VL.q (q_move rfl) (by decide) ?_
      refine VL.split_dec 14 rfl (fun h14 => ?_) (fun h14 => ?_)
      ·
        replace hS := it_t h14 hS
        refine VL.gn rfl rfl rfl (by decide) ?_
        refine VL.gn rfl rfl rfl (by decide) ?_
        refine VL.gn rfl rfl rfl (by decide) ?_
        refine VL.gn rfl rfl rfl (by decide) ?_
        refine VL.gu rfl rfl (by decide) ?_
        refine VL.gu rfl rfl (by decide) ?_
        refine VL.gu rfl rfl (by decide) ?_
        refine VL.gn rfl rfl rfl (by decide) ?_
        refine VL.q (q_pick_t rfl rfl) (by decide) ?_
        refine VL.mt true [0, 23] (fun _ _ h => h) hS rfl
      ·
        replace hS := it_f h14 hS
        refine VL.gy rfl rfl (q_move rfl) (by decide) ?_
        refine VL.gy rfl rfl (q_slen Tryd.underlying9 rfl) (by decide) ?_
        refine VL.gy rfl rfl (q_gtr rfl rfl) (by decide) ?_
        refine VL.gy rfl rfl (q_move rfl) (by decide) ?_
        refine VL.split_dec 18 rfl (fun h18 => ?_) (fun h18 => ?_)
        ·
          replace hS := it_t h18 hS
          refine VL.gy rfl rfl (q_move rfl) (by decide) ?_
          obtain ⟨z20_3, nz20_3, hz20_3, hS⟩ := at_s hS
          refine VL.gy rfl rfl (q_sidx Tryd.underlying9 rfl rfl nz20_3 hz20_3) (by decide) ?_
          refine VL.gy rfl rfl (q_eql rfl rfl) (by decide) ?_
          refine VL.gy rfl rfl (q_pick_t rfl rfl) (by decide) ?_
          refine VL.q (q_pick_f rfl rfl) (by decide) ?_
          refine VL.mt (decide ((z20_3.toNat : Int) = 48)) [0, 23] (fun _ _ h => h) hS rfl
        ·
          replace hS := it_f h18 hS
          refine VL.gn rfl rfl rfl (by decide) ?_
          refine VL.gn rfl rfl rfl (by decide) ?_
          refine VL.gn rfl rfl rfl (by decide) ?_
          refine VL.gy rfl rfl (q_pick_f rfl rfl) (by decide) ?_
          refine VL.q (q_pick_f rfl rfl) (by decide) ?_
          refine VL.mt false [0, 23] (fun _ _ h => h) hS rfl
  · -- from there
    clear hS
    rintro x23_1 hS
    show VC _ _ _ _ _ [(0, str s_0), (23, .bool x23_1)] (Mo.and Mo.tt _) (Ow.emp)
    refine VC.cond rfl (fun h23 => ?_) (fun h23 => ?_)
    ·
      replace hS := it_t h23 hS
      refine VC.seq ?_
      refine VC.region ?_
      refine VL.q (q_assign rfl) (by decide) ?_
      refine VL.q (q_assign rfl) (by decide) ?_
      refine VL.to (fun _ _ h => h) ?_
      cases hS
      exact VC.ret (fin2 (.inr rfl) rfl rfl rfl () rfl trivial (fun _ _ => trivial) (fun _ _ => trivial))
    ·
      replace hS := it_b h23 hS
      refine VC.skip_to (fun _ _ h => h) ?_
      refine VC.seq ?_
      refine VC.region ?_
      refine VL.q (q_assign rfl) (by decide) ?_
      refine VL.to (fun _ _ h => h) ?_
      refine VC.seq ?_
      refine VC.seq ?_
      refine VC.region ?_
      refine VL.q (q_move rfl) (by decide) ?_
      obtain ⟨b25, hS⟩ := gd_s hS
      refine VL.s2b Tryd.underlying9 Tryd.underlying23 Tryd.underlying5 rfl b25 (by decide) fun s25_4 hs25_4 => ?_
      replace hS := lt_to hs25_4 hS
      refine VL.q (q_ln (s := s25_4) Tryd.underlying23 rfl) (by decide) ?_
      refine VL.q (q_move rfl) (by decide) ?_
      refine VL.to (fun _ _ h => h) ?_
      refine VC.block ?_
      refine VC.iter (S := Int × Int) (fun sg => (sg.1, sg.2)) (fun sg => [(4, i64 sg.1), (25, s25_4.val), (26, i64 (s25_4.l.length : Int)), (27, i64 sg.2)]) (fun sg => Mo.tt) (fun sg => Ow.emp) (0, 0) [4, 25, 26, 27] hS rfl ?_
      clear hS
      rintro ⟨n4_6, x27_7⟩ m1 y1 hS hK1
      show VC _ _ _ _ _ [(4, i64 n4_6), (25, s25_4.val), (26, i64 (s25_4.l.length : Int)), (27, i64 x27_7)] (Mo.and Mo.tt _) (Ow.emp)
      refine VC.seq ?_
      refine VC.region ?_
      refine VL.q (q_lss rfl rfl) (by decide) ?_
      refine VL.to (fun _ _ h => h) ?_
      refine VC.seq ?_
      refine VC.cond_dec rfl (fun h28 => ?_) (fun h28 => ?_)
      ·
        replace hS := it_t h28 hS
        refine VC.skip_to (fun _ _ h => h) ?_
        refine VC.seq ?_
        refine VC.block ?_
        refine VC.seq ?_
        refine VC.region ?_
        obtain ⟨z29_8, nz29_8, hz29_8, hS⟩ := at_s hS
        refine VL.q (q_ixm (s := s25_4) Tryd.underlying23 gsz5 rfl rfl nz29_8 (lt_of_get nz29_8 hz29_8)) (by decide) ?_
        refine VL.q (q_el (s := s25_4) gone5 rfl hz29_8 rfl) (by decide) ?_
        refine VL.q (q_assign rfl) (by decide) ?_
        refine VL.to (fun _ _ h => h) ?_
        refine VC.seq ?_
        refine VC.cutJ (S := Bool) (fun (x36_9 : Bool) => x36_9) (fun (x36_9 : Bool) => [(4, i64 n4_6), (6, .int .u8 (z29_8.toNat : Int)), (25, s25_4.val), (26, i64 (s25_4.l.length : Int)), (27, i64 x27_7), (36, .bool x36_9)]) (fun (x36_9 : Bool) => Mo.tt) (fun (x36_9 : Bool) => Ow.emp) hS ?_ ?_
        · -- up to where ways meet
          clear hS
          intro k10 hS
          refine VC.region ?_
          refine VL.q (q_move rfl) (by decide) ?_
          refine VL.q (q_lss rfl rfl) (by decide) ?_
          refine VL.q (q_move rfl) (by decide) ?_
          refine VL.split_dec 33 rfl (fun h33 => ?_) (fun h33 => ?_)
          ·
            replace hS := it_t h33 hS
            refine VL.gn rfl rfl rfl (by decide) ?_
            refine VL.gn rfl rfl rfl (by decide) ?_
            refine VL.q (q_pick_t rfl rfl) (by decide) ?_
            refine VL.mt true [4, 6, 25, 26, 27, 36] (fun _ _ h => h) hS rfl
          ·
            replace hS := it_f h33 hS
            refine VL.gy rfl rfl (q_move rfl) (by decide) ?_
            refine VL.gy rfl rfl (q_gtr rfl rfl) (by decide) ?_
            refine VL.q (q_pick_f rfl rfl) (by decide) ?_
            refine VL.mt (decide (57 < (z29_8.toNat : Int))) [4, 6, 25, 26, 27, 36] (fun _ _ h => h) hS rfl
        · -- from there
          clear hS
          rintro x36_9 hS
          show VC _ _ _ _ _ [(4, i64 n4_6), (6, .int .u8 (z29_8.toNat : Int)), (25, s25_4.val), (26, i64 (s25_4.l.length : Int)), (27, i64 x27_7), (36, .bool x36_9)] (Mo.and Mo.tt _) (Ow.emp)
          refine VC.cond rfl (fun h36 => ?_) (fun h36 => ?_)
          ·
            replace hS := it_t h36 hS
            refine VC.seq ?_
            refine VC.region ?_
            refine VL.q (q_assign rfl) (by decide) ?_
            refine VL.q (q_assign rfl) (by decide) ?_
            refine VL.to (fun _ _ h => h) ?_
            replace hS := up2 hS hK1
            cases hS
            exact VC.ret (fin2 (.inr rfl) rfl rfl rfl () rfl trivial (fun _ _ => trivial) (fun _ _ => trivial))
          ·
            replace hS := it_b h36 hS
            refine VC.skip_to (fun _ _ h => h) ?_
            refine VC.region ?_
            refine VL.q (q_move rfl) (by decide) ?_
            obtain ⟨b38, hS⟩ := gd_s hS
            refine VL.q (q_mul rfl rfl b38) (by decide) ?_
            refine VL.q (q_move rfl) (by decide) ?_
            obtain ⟨b40, hS⟩ := gd_s hS
            refine VL.q (q_subW rfl rfl (wu8_in b40)) (by decide) ?_
            refine VL.q (q_convW Tryd.underlying5 Tryd.underlying3 rfl) (by decide) ?_
            obtain ⟨b42, hS⟩ := gd_s hS
            refine VL.q (q_add rfl rfl b42) (by decide) ?_
            refine VL.q (q_assign rfl) (by decide) ?_
            refine VL.to (fun _ _ h => h) ?_
            refine VC.keep [4, 25, 26, 27] rfl ?_
            refine VC.region ?_
            obtain ⟨b43, hS⟩ := gd_s hS
            refine VL.q (q_add rfl rfl b43) (by decide) ?_
            refine VL.q (q_move rfl) (by decide) ?_
            refine VL.rnd (((10 * n4_6) + (IntKind.wrap .i64 ((z29_8.toNat : Int) - 48))), (x27_7 + 1)) [4, 25, 26, 27] (fun _ _ h => h) (go2 hS hK1) rfl
      ·
        replace hS := it_f h28 hS
        replace hS := up2 hS hK1
        refine VC.exit_to (fun _ _ h => h) ?_
        refine VC.seq ?_
        refine VC.region ?_
        refine VL.q (q_move rfl) (by decide) ?_
        refine VL.q (q_move rfl) (by decide) ?_
        refine VL.q (q_leq rfl rfl) (by decide) ?_
        refine VL.q (q_assign rfl) (by decide) ?_
        refine VL.q (q_assign rfl) (by decide) ?_
        refine VL.to (fun _ _ h => h) ?_
        cases hS
        exact VC.ret (fin2 (.inr rfl) rfl rfl rfl () rfl trivial (fun _ _ => trivial) (fun _ _ => trivial))

set_option maxHeartbeats 4000000 in
set_option maxRecDepth 100000 in
theorem cmd_words_ct (a_0_b : Nat) (a_0 : CmdCmd) (a_1 : Sv Str) {r : Bool × CmdCmdP} (hS : Sh.cmd_words a_0.pl a_1.l = some r) :
    Ct Tryd.prog 110 [ptr a_0_b 0, a_1.val] (a_0.todo.ok.and a_1.ok) (Blk a_0_b [str a_0.verb, str a_0.name, i64 a_0.n, str a_0.text, .bool a_0.force, a_0.todo.val] 62) (X := Bool × CmdCmd) (fun x => .bool x.1) (fun x => r = (x.1, x.2.pl)) (fun x => x.2.todo.ok) (fun x => Blk a_0_b [str x.2.verb, str x.2.name, i64 x.2.n, str x.2.text, .bool x.2.force, x.2.todo.val] 62) := by
  refine Ct.of Tryd.func110 rfl (by kernel_rfl) Tryd.ntmps110 (by simp) fun c => ?_
  unfold Sh.cmd_words at hS
  refine VC.seq ?_
  refine VC.region ?_
  refine VL.q (q_assign rfl) (by decide) ?_
  refine VL.to (fun _ _ h => h) ?_
  refine VC.seq ?_
  refine VC.region ?_
  refine VL.q (q_assign rfl) (by decide) ?_
  refine VL.q (q_assign rfl) (by decide) ?_
  refine VL.to (fun _ _ h => h) ?_
  refine VC.cutJ (S := Sv Str × Bool) (fun sg => (sg.1.l, sg.2)) (fun sg => [(0, ptr a_0_b 0), (1, sg.1.val), (5, i64 0), (6, .bool true)]) (fun sg => sg.1.ok) (fun sg => Ow.star (Blk a_0_b [str a_0.verb, str a_0.name, i64 a_0.n, str a_0.text, .bool sg.2, a_0.todo.val] 62) (Ow.emp)) hS ?_ ?_
  · -- up to where ways meet
    clear hS
    intro k3 hS
    refine VC.seq ?_
    refine VC.region ?_
    refine VL.q (q_move rfl) (by decide) ?_
    refine VL.q (q_nilCheck rfl) (by decide) ?_
    refine VL.q (q_field gfa62_0 rfl) (by decide) ?_
    refine VL.q (q_fe gone9 rfl rfl) (by decide) ?_
    refine VL.to (fun _ _ h => h) ?_
    refine VC.block ?_
    refine VC.cutJ (S := Bool) (fun (x11_4 : Bool) => x11_4) (fun (x11_4 : Bool) => [(0, ptr a_0_b 0), (1, a_1.val), (5, i64 0), (6, .bool true), (11, .bool x11_4)]) (fun (x11_4 : Bool) => Mo.tt) (fun (x11_4 : Bool) => Ow.star (Blk a_0_b [str a_0.verb, str a_0.name, i64 a_0.n, str a_0.text, .bool a_0.force, a_0.todo.val] 62) (Ow.emp)) hS ?_ ?_
    · -- up to where ways meet
      clear hS
      intro k5 hS
      refine VC.seq ?_
      refine VC.region ?_
      refine VL.q (q_seq rfl rfl) (by decide) ?_
      refine VL.q (q_assign rfl) (by decide) ?_
      refine VL.to (fun _ _ h => h) ?_
      refine VC.cond_dec rfl (fun h11 => ?_) (fun h11 => ?_)
      ·
        replace hS := it_t h11 hS
        refine VC.skip_mt (decide (a_0.verb = [114, 109])) [0, 1, 5, 6, 11] (fun _ _ h => h) hS rfl
      ·
        replace hS := it_f h11 hS
        refine VC.region ?_
        refine VL.q (q_seq rfl rfl) (by decide) ?_
        refine VL.q (q_assign rfl) (by decide) ?_
        refine VL.mt (decide (a_0.verb = [115, 119, 105, 116, 99, 104])) [0, 1, 5, 6, 11] (fun _ _ h => h) hS rfl
    · -- from there
      clear hS
      rintro x11_4 hS
      show VC _ _ _ _ _ [(0, ptr a_0_b 0), (1, a_1.val), (5, i64 0), (6, .bool true), (11, .bool x11_4)] (Mo.and Mo.tt _) (Ow.star (Blk a_0_b [str a_0.verb, str a_0.name, i64 a_0.n, str a_0.text, .bool a_0.force, a_0.todo.val] 62) (Ow.emp))
      refine VC.cond rfl (fun h11 => ?_) (fun h11 => ?_)
      ·
        replace hS := it_t h11 hS
        refine VC.cutJ (S := Bool) (fun (x25_6 : Bool) => x25_6) (fun (x25_6 : Bool) => [(0, ptr a_0_b 0), (1, a_1.val), (5, i64 0), (6, .bool true), (25, .bool x25_6)]) (fun (x25_6 : Bool) => Mo.tt) (fun (x25_6 : Bool) => Ow.star (Blk a_0_b [str a_0.verb, str a_0.name, i64 a_0.n, str a_0.text, .bool a_0.force, a_0.todo.val] 62) (Ow.emp)) hS ?_ ?_
        · -- up to where ways meet
          clear hS
          intro k7 hS
          refine VC.region ?_
          refine VL.q (q_move rfl) (by decide) ?_
          refine VL.q (q_ln (s := a_1) Tryd.underlying38 rfl) (by decide) ?_
          refine VL.q (q_gtr rfl rfl) (by decide) ?_
          refine VL.q (q_move rfl) (by decide) ?_
          refine VL.split_dec 17 rfl (fun h17 => ?_) (fun h17 => ?_)
          ·
            replace hS := it_t h17 hS
            refine VL.gy rfl rfl (q_move rfl) (by decide) ?_
            refine VL.gy rfl rfl (q_move rfl) (by decide) ?_
            refine VL.gy rfl rfl (q_ln (s := a_1) Tryd.underlying38 rfl) (by decide) ?_
            obtain ⟨b21, hS⟩ := gd_s hS
            refine VL.gy rfl rfl (q_sub rfl rfl b21) (by decide) ?_
            obtain ⟨z22_8, nz22_8, hz22_8, hS⟩ := at_s hS
            refine VL.gy rfl rfl (q_ixm (s := a_1) Tryd.underlying38 gsz9 rfl rfl nz22_8 (lt_of_get nz22_8 hz22_8)) (by decide) ?_
            refine VL.gy rfl rfl (q_el (s := a_1) gone9 rfl hz22_8 rfl) (by decide) ?_
            refine VL.gy rfl rfl (q_seq rfl rfl) (by decide) ?_
            refine VL.q (q_pick_t rfl rfl) (by decide) ?_
            refine VL.mt (decide (z22_8 = [45, 102])) [0, 1, 5, 6, 25] (fun _ _ h => h) hS rfl
          ·
            replace hS := it_f h17 hS
            refine VL.gn rfl rfl rfl (by decide) ?_
            refine VL.gn rfl rfl rfl (by decide) ?_
            refine VL.gn rfl rfl rfl (by decide) ?_
            refine VL.gn rfl rfl rfl (by decide) ?_
            refine VL.gn rfl rfl rfl (by decide) ?_
            refine VL.gn rfl rfl rfl (by decide) ?_
            refine VL.gn rfl rfl rfl (by decide) ?_
            refine VL.q (q_pick_f rfl rfl) (by decide) ?_
            refine VL.mt false [0, 1, 5, 6, 25] (fun _ _ h => h) hS rfl
        · -- from there
          clear hS
          rintro x25_6 hS
          show VC _ _ _ _ _ [(0, ptr a_0_b 0), (1, a_1.val), (5, i64 0), (6, .bool true), (25, .bool x25_6)] (Mo.and Mo.tt _) (Ow.star (Blk a_0_b [str a_0.verb, str a_0.name, i64 a_0.n, str a_0.text, .bool a_0.force, a_0.todo.val] 62) (Ow.emp))
          refine VC.cond rfl (fun h25 => ?_) (fun h25 => ?_)
          ·
            replace hS := it_t h25 hS
            refine VC.draw [(0, true), (1, true), (2, true), (3, true), (4, true), (5, true), (6, true), (7, true), (8, false), (9, true)] mixed (by kernel_rfl) (by kernel_rfl) (by kernel_rfl) ?_
            refine VD.q rfl (q_move rfl) (by decide) ?_
            refine VD.q rfl (q_move rfl) (by decide) ?_
            refine VD.q rfl (q_move rfl) (by decide) ?_
            refine VD.q rfl (q_ln (s := a_1) Tryd.underlying38 rfl) (by decide) ?_
            obtain ⟨b30, hS⟩ := gd_s hS
            refine VD.q rfl (q_sub rfl rfl b30) (by decide) ?_
            obtain ⟨b31, hS⟩ := gd_s hS
            refine VD.stoK rfl Tryd.underlying38 gsz9 rfl rfl b31.1 (b31.2) (by decide) fun s31_9 hs31_9 Qs31_9 => ?_
            replace hS := lt_to hs31_9 hS
            refine VD.q rfl (q_nilCheck rfl) (by decide) ?_
            refine VD.q rfl (q_field gfa62_4 rfl) (by decide) ?_
            refine VD.one rfl ?_
            refine VL.store (vc := [.bool true]) (cs' := [str a_0.verb, str a_0.name, i64 a_0.n, str a_0.text, .bool true, a_0.todo.val]) rfl rfl rfl gsz4 rfl rfl (Nat.le_of_ble_eq_true rfl) rfl ?_
            refine VL.back (D' := [(5, s31_9.val), (4, i64 ((a_1.l.length : Int) - 1)), (3, i64 (a_1.l.length : Int))]) (by kernel_rfl) (Pend.cons rfl ((Qs31_9 rfl rfl)) (Pend.cons rfl (q_sub rfl rfl b30) (Pend.cons rfl (q_ln (s := a_1) Tryd.underlying38 rfl) (Pend.nil)))) ?_
            refine VD.q rfl (q_assign rfl) (by decide) ?_
            refine VD.mt (s31_9, true) [0, 1, 5, 6] (fun _ _ h => h) hS rfl
          ·
            replace hS := it_b h25 hS
            refine VC.skip_mt (a_1, a_0.force) [0, 1, 5, 6] (fun _ _ h => h) hS rfl
      ·
        replace hS := it_b h11 hS
        refine VC.skip_mt (a_1, a_0.force) [0, 1, 5, 6] (fun _ _ h => h) hS rfl
  · -- from there
    clear hS
    rintro ⟨x1_1, c4_2⟩ hS
    show VC _ _ _ _ _ [(0, ptr a_0_b 0), (1, x1_1.val), (5, i64 0), (6, .bool true)] (Mo.and x1_1.ok _) (Ow.star (Blk a_0_b [str a_0.verb, str a_0.name, i64 a_0.n, str a_0.text, .bool c4_2, a_0.todo.val] 62) (Ow.emp))
    refine VC.cutJ (S := Int × Bool × Str × Int) (fun sg => (sg.1, sg.2.1, sg.2.2.1, sg.2.2.2)) (fun sg => [(1, x1_1.val), (5, i64 sg.1), (6, .bool sg.2.1)]) (fun sg => Mo.tt) (fun sg => Ow.star (Blk a_0_b [str a_0.verb, str sg.2.2.1, i64 sg.2.2.2, str a_0.text, .bool c4_2, a_0.todo.val] 62) (Ow.emp)) hS ?_ ?_
    · -- up to where ways meet
      clear hS
      intro k15 hS
      refine VC.seq ?_
      refine VC.region ?_
      refine VL.q (q_move rfl) (by decide) ?_
      refine VL.q (q_nilCheck rfl) (by decide) ?_
      refine VL.q (q_field gfa62_0 rfl) (by decide) ?_
      refine VL.q (q_fe gone9 rfl rfl) (by decide) ?_
      refine VL.to (fun _ _ h => h) ?_
      refine VC.block ?_
      refine VC.cutJ (S := Unit) (fun (_ : Unit) => ()) (fun (_ : Unit) => [(0, ptr a_0_b 0), (1, x1_1.val)]) (fun (_ : Unit) => Mo.tt) (fun (_ : Unit) => Ow.star (Blk a_0_b [str a_0.verb, str a_0.name, i64 a_0.n, str a_0.text, .bool c4_2, a_0.todo.val] 62) (Ow.emp)) hS ?_ ?_
      · -- up to where ways meet
        clear hS
        intro k16 hS
        refine VC.block ?_
        refine VC.cutJ (S := Unit) (fun (_ : Unit) => ()) (fun (_ : Unit) => [(0, ptr a_0_b 0), (1, x1_1.val)]) (fun (_ : Unit) => Mo.tt) (fun (_ : Unit) => Ow.star (Blk a_0_b [str a_0.verb, str a_0.name, i64 a_0.n, str a_0.text, .bool c4_2, a_0.todo.val] 62) (Ow.emp)) hS ?_ ?_
        · -- up to where ways meet
          clear hS
          intro k17 hS
          refine VC.block ?_
          refine VC.cutJ (S := Unit) (fun (_ : Unit) => ()) (fun (_ : Unit) => [(0, ptr a_0_b 0), (1, x1_1.val)]) (fun (_ : Unit) => Mo.tt) (fun (_ : Unit) => Ow.star (Blk a_0_b [str a_0.verb, str a_0.name, i64 a_0.n, str a_0.text, .bool c4_2, a_0.todo.val] 62) (Ow.emp)) hS ?_ ?_
          · -- up to where ways meet
            clear hS
            intro k18 hS
            refine VC.block ?_
            refine VC.cutJ (S := Unit) (fun (_ : Unit) => ()) (fun (_ : Unit) => [(0, ptr a_0_b 0), (1, x1_1.val)]) (fun (_ : Unit) => Mo.tt) (fun (_ : Unit) => Ow.star (Blk a_0_b [str a_0.verb, str a_0.name, i64 a_0.n, str a_0.text, .bool c4_2, a_0.todo.val] 62) (Ow.emp)) hS ?_ ?_
            · -- up to where ways meet
              clear hS
              intro k19 hS
              refine VC.block ?_
              refine VC.seq ?_
              refine VC.block ?_
              refine VC.seq ?_
              refine VC.seq ?_
              refine VC.seq ?_
              refine VC.region ?_
              refine VL.q (q_seq rfl rfl) (by decide) ?_
              refine VL.q (q_assign rfl) (by decide) ?_
              refine VL.to (fun _ _ h => h) ?_
              refine VC.cond_dec rfl (fun h38 => ?_) (fun h38 => ?_)
              ·
                replace hS := it_t h38 hS
                refine VC.exit_to (fun _ _ h => h) ?_
                refine VC.seq ?_
                refine VC.region ?_
                refine VL.q (q_move rfl) (by decide) ?_
                refine VL.q (q_ln (s := x1_1) Tryd.underlying38 rfl) (by decide) ?_
                refine VL.q (q_eql rfl rfl) (by decide) ?_
                refine VL.to (fun _ _ h => h) ?_
                refine VC.keep [0, 1, 5, 6, 58] rfl ?_
                refine VC.cond_dec rfl (fun h58 => ?_) (fun h58 => ?_)
                ·
                  replace hS := it_t h58 hS
                  refine VC.exit_mt (0, true, a_0.name, a_0.n) [1, 5, 6] (fun _ _ h => h) hS rfl
                ·
                  replace hS := it_f h58 hS
                  refine VC.skip_mt () [0, 1] (fun _ _ h => h) hS rfl
              ·
                replace hS := it_f h38 hS
                refine VC.skip_to (fun _ _ h => h) ?_
                refine VC.cutJ (S := Unit) (fun (_ : Unit) => ()) (fun (_ : Unit) => [(0, ptr a_0_b 0), (1, x1_1.val), (5, i64 0), (6, .bool true), (37, str a_0.verb)]) (fun (_ : Unit) => Mo.tt) (fun (_ : Unit) => Ow.star (Blk a_0_b [str a_0.verb, str a_0.name, i64 a_0.n, str a_0.text, .bool c4_2, a_0.todo.val] 62) (Ow.emp)) hS ?_ ?_
                · -- up to where ways meet
                  clear hS
                  intro k20 hS
                  refine VC.seq ?_
                  refine VC.seq ?_
                  refine VC.region ?_
                  refine VL.q (q_seq rfl rfl) (by decide) ?_
                  refine VL.q (q_assign rfl) (by decide) ?_
                  refine VL.to (fun _ _ h => h) ?_
                  refine VC.cond_dec rfl (fun h40 => ?_) (fun h40 => ?_)
                  ·
                    replace hS := it_t h40 hS
                    refine VC.skip_to (fun _ _ h => h) ?_
                    refine VC.cond_dec rfl (fun h40 => ?_) (fun h40 => ?_)
                    ·
                      replace hS := it_t h40 hS
                      refine VC.exit_mt () [0, 1] (fun _ _ h => h) hS rfl
                    ·
                      replace hS := it_f h40 hS
                      refine VC.skip_mt () [0, 1, 5, 6, 37] (fun _ _ h => h) hS rfl
                  ·
                    replace hS := it_f h40 hS
                    refine VC.seq ?_
                    refine VC.region ?_
                    refine VL.q (q_seq rfl rfl) (by decide) ?_
                    refine VL.q (q_assign rfl) (by decide) ?_
                    refine VL.to (fun _ _ h => h) ?_
                    refine VC.keep [0, 1, 5, 6, 37, 40] rfl ?_
                    refine VC.cond_dec rfl (fun h40 => ?_) (fun h40 => ?_)
                    ·
                      replace hS := it_t h40 hS
                      refine VC.skip_to (fun _ _ h => h) ?_
                      refine VC.cond_dec rfl (fun h40 => ?_) (fun h40 => ?_)
                      ·
                        replace hS := it_t h40 hS
                        refine VC.exit_mt () [0, 1] (fun _ _ h => h) hS rfl
                      ·
                        replace hS := it_f h40 hS
                        refine VC.skip_mt () [0, 1, 5, 6, 37] (fun _ _ h => h) hS rfl
                    ·
                      replace hS := it_f h40 hS
                      refine VC.seq ?_
                      refine VC.region ?_
                      refine VL.q (q_seq rfl rfl) (by decide) ?_
                      refine VL.q (q_assign rfl) (by decide) ?_
                      refine VL.to (fun _ _ h => h) ?_
                      refine VC.cond_dec rfl (fun h40 => ?_) (fun h40 => ?_)
                      ·
                        replace hS := it_t h40 hS
                        refine VC.skip_to (fun _ _ h => h) ?_
                        refine VC.cond_dec rfl (fun h40 => ?_) (fun h40 => ?_)
                        ·
                          replace hS := it_t h40 hS
                          refine VC.exit_mt () [0, 1] (fun _ _ h => h) hS rfl
                        ·
                          replace hS := it_f h40 hS
                          refine VC.skip_mt () [0, 1, 5, 6, 37] (fun _ _ h => h) hS rfl
                      ·
                        replace hS := it_f h40 hS
                        refine VC.region ?_
                        refine VL.q (q_seq rfl rfl) (by decide) ?_
                        refine VL.q (q_assign rfl) (by decide) ?_
                        refine VL.to (fun _ _ h => h) ?_
                        refine VC.cond_dec rfl (fun h40 => ?_) (fun h40 => ?_)
                        ·
                          replace hS := it_t h40 hS
                          refine VC.exit_mt () [0, 1] (fun _ _ h => h) hS rfl
                        ·
                          replace hS := it_f h40 hS
                          refine VC.skip_mt () [0, 1, 5, 6, 37] (fun _ _ h => h) hS rfl
                · -- from there
                  clear hS
                  rintro _ hS
                  show VC _ _ _ _ _ [(0, ptr a_0_b 0), (1, x1_1.val), (5, i64 0), (6, .bool true), (37, str a_0.verb)] (Mo.and Mo.tt _) (Ow.star (Blk a_0_b [str a_0.verb, str a_0.name, i64 a_0.n, str a_0.text, .bool c4_2, a_0.todo.val] 62) (Ow.emp))
                  refine VC.seq ?_
                  refine VC.seq ?_
                  refine VC.region ?_
                  refine VL.q (q_seq rfl rfl) (by decide) ?_
                  refine VL.q (q_assign rfl) (by decide) ?_
                  refine VL.to (fun _ _ h => h) ?_
                  refine VC.cond_dec rfl (fun h45 => ?_) (fun h45 => ?_)
                  ·
                    replace hS := it_t h45 hS
                    refine VC.exit_mt () [0, 1] (fun _ _ h => h) hS rfl
                  ·
                    replace hS := it_f h45 hS
                    refine VC.skip_to (fun _ _ h => h) ?_
                    refine VC.seq ?_
                    refine VC.seq ?_
                    refine VC.region ?_
                    refine VL.q (q_seq rfl rfl) (by decide) ?_
                    refine VL.q (q_assign rfl) (by decide) ?_
                    refine VL.to (fun _ _ h => h) ?_
                    refine VC.cond_dec rfl (fun h47 => ?_) (fun h47 => ?_)
                    ·
                      replace hS := it_t h47 hS
                      refine VC.exit_mt () [0, 1] (fun _ _ h => h) hS rfl
                    ·
                      replace hS := it_f h47 hS
                      refine VC.skip_to (fun _ _ h => h) ?_
                      refine VC.seq ?_
                      refine VC.seq ?_
                      refine VC.region ?_
                      refine VL.q (q_seq rfl rfl) (by decide) ?_
                      refine VL.q (q_assign rfl) (by decide) ?_
                      refine VL.to (fun _ _ h => h) ?_
                      refine VC.cond_dec rfl (fun h49 => ?_) (fun h49 => ?_)
                      ·
                        replace hS := it_t h49 hS
                        refine VC.skip_to (fun _ _ h => h) ?_
                        refine VC.cond_dec rfl (fun h49 => ?_) (fun h49 => ?_)
                        ·
                          replace hS := it_t h49 hS
                          refine VC.exit_mt () [0, 1] (fun _ _ h => h) hS rfl
                        ·
                          replace hS := it_f h49 hS
                          refine VC.skip_to (fun _ _ h => h) ?_
                          refine VC.keep [1, 5, 6] rfl ?_
                          refine VC.exit_mt (0, true, a_0.name, a_0.n) [1, 5, 6] (fun _ _ h => h) hS rfl
                      ·
                        replace hS := it_f h49 hS
                        refine VC.seq ?_
                        refine VC.region ?_
                        refine VL.q (q_seq rfl rfl) (by decide) ?_
                        refine VL.q (q_assign rfl) (by decide) ?_
                        refine VL.to (fun _ _ h => h) ?_
                        refine VC.cond_dec rfl (fun h49 => ?_) (fun h49 => ?_)
                        ·
                          replace hS := it_t h49 hS
                          refine VC.skip_to (fun _ _ h => h) ?_
                          refine VC.keep [0, 1, 5, 6, 49] rfl ?_
                          refine VC.cond_dec rfl (fun h49 => ?_) (fun h49 => ?_)
                          ·
                            replace hS := it_t h49 hS
                            refine VC.exit_mt () [0, 1] (fun _ _ h => h) hS rfl
                          ·
                            replace hS := it_f h49 hS
                            refine VC.skip_to (fun _ _ h => h) ?_
                            refine VC.exit_mt (0, true, a_0.name, a_0.n) [1, 5, 6] (fun _ _ h => h) hS rfl
                        ·
                          replace hS := it_f h49 hS
                          refine VC.seq ?_
                          refine VC.region ?_
                          refine VL.q (q_seq rfl rfl) (by decide) ?_
                          refine VL.q (q_assign rfl) (by decide) ?_
                          refine VL.to (fun _ _ h => h) ?_
                          refine VC.keep [0, 1, 5, 6, 37, 49] rfl ?_
                          refine VC.cond_dec rfl (fun h49 => ?_) (fun h49 => ?_)
                          ·
                            replace hS := it_t h49 hS
                            refine VC.skip_to (fun _ _ h => h) ?_
                            refine VC.cond_dec rfl (fun h49 => ?_) (fun h49 => ?_)
                            ·
                              replace hS := it_t h49 hS
                              refine VC.exit_mt () [0, 1] (fun _ _ h => h) hS rfl
                            ·
                              replace hS := it_f h49 hS
                              refine VC.skip_to (fun _ _ h => h) ?_
                              refine VC.exit_mt (0, true, a_0.name, a_0.n) [1, 5, 6] (fun _ _ h => h) hS rfl
                          ·
                            replace hS := it_f h49 hS
                            refine VC.seq ?_
                            refine VC.region ?_
                            refine VL.q (q_seq rfl rfl) (by decide) ?_
                            refine VL.q (q_assign rfl) (by decide) ?_
                            refine VL.to (fun _ _ h => h) ?_
                            refine VC.cond_dec rfl (fun h49 => ?_) (fun h49 => ?_)
                            ·
                              replace hS := it_t h49 hS
                              refine VC.skip_to (fun _ _ h => h) ?_
                              refine VC.cond_dec rfl (fun h49 => ?_) (fun h49 => ?_)
                              ·
                                replace hS := it_t h49 hS
                                refine VC.exit_mt () [0, 1] (fun _ _ h => h) hS rfl
                              ·
                                replace hS := it_f h49 hS
                                refine VC.skip_to (fun _ _ h => h) ?_
                                refine VC.exit_mt (0, true, a_0.name, a_0.n) [1, 5, 6] (fun _ _ h => h) hS rfl
                            ·
                              replace hS := it_f h49 hS
                              refine VC.seq ?_
                              refine VC.region ?_
                              refine VL.q (q_seq rfl rfl) (by decide) ?_
                              refine VL.q (q_assign rfl) (by decide) ?_
                              refine VL.to (fun _ _ h => h) ?_
                              refine VC.cond_dec rfl (fun h49 => ?_) (fun h49 => ?_)
                              ·
                                replace hS := it_t h49 hS
                                refine VC.skip_to (fun _ _ h => h) ?_
                                refine VC.cond_dec rfl (fun h49 => ?_) (fun h49 => ?_)
                                ·
                                  replace hS := it_t h49 hS
                                  refine VC.exit_mt () [0, 1] (fun _ _ h => h) hS rfl
                                ·
                                  replace hS := it_f h49 hS
                                  refine VC.skip_to (fun _ _ h => h) ?_
                                  refine VC.exit_mt (0, true, a_0.name, a_0.n) [1, 5, 6] (fun _ _ h => h) hS rfl
                              ·
                                replace hS := it_f h49 hS
                                refine VC.region ?_
                                refine VL.q (q_seq rfl rfl) (by decide) ?_
                                refine VL.q (q_assign rfl) (by decide) ?_
                                refine VL.to (fun _ _ h => h) ?_
                                refine VC.cond_dec rfl (fun h49 => ?_) (fun h49 => ?_)
                                ·
                                  replace hS := it_t h49 hS
                                  refine VC.exit_mt () [0, 1] (fun _ _ h => h) hS rfl
                                ·
                                  replace hS := it_f h49 hS
                                  refine VC.skip_to (fun _ _ h => h) ?_
                                  refine VC.exit_mt (0, true, a_0.name, a_0.n) [1, 5, 6] (fun _ _ h => h) hS rfl
            · -- from there
              clear hS
              rintro _ hS
              show VC _ _ _ _ _ [(0, ptr a_0_b 0), (1, x1_1.val)] (Mo.and Mo.tt _) (Ow.star (Blk a_0_b [str a_0.verb, str a_0.name, i64 a_0.n, str a_0.text, .bool c4_2, a_0.todo.val] 62) (Ow.emp))
              refine VC.seq ?_
              refine VC.seq ?_
              refine VC.region ?_
              refine VL.q (q_assign rfl) (by decide) ?_
              refine VL.to (fun _ _ h => h) ?_
              refine VC.seq ?_
              refine VC.region ?_
              refine VL.q (q_move rfl) (by decide) ?_
              refine VL.q (q_move rfl) (by decide) ?_
              obtain ⟨y61_21, ey61_21, hS⟩ := bd_s hS
              refine VL.q (q_call (cmd_first_ct x1_1 ey61_21) rfl (fun _ _ => rfl)) (by decide) ?_
              refine VL.q (q_nilCheck rfl) (by decide) ?_
              refine VL.q (q_field gfa62_1 rfl) (by decide) ?_
              refine VL.store (vc := [str y61_21]) (cs' := [str a_0.verb, str y61_21, i64 a_0.n, str a_0.text, .bool c4_2, a_0.todo.val]) rfl rfl rfl gsz9 rfl rfl (Nat.le_of_ble_eq_true rfl) rfl ?_
              refine VL.to (fun _ _ h => h) ?_
              refine VC.region ?_
              refine VL.q (q_move rfl) (by decide) ?_
              refine VL.q (q_nilCheck rfl) (by decide) ?_
              refine VL.q (q_field gfa62_1 rfl) (by decide) ?_
              refine VL.q (q_fe gone9 rfl rfl) (by decide) ?_
              refine VL.q (q_sne rfl rfl) (by decide) ?_
              refine VL.q (q_assign rfl) (by decide) ?_
              refine VL.to (fun _ _ h => h) ?_
              refine VC.keep [1, 5, 6] rfl ?_
              refine VC.exit_mt (1, (!decide (y61_21 = [])), y61_21, a_0.n) [1, 5, 6] (fun _ _ h => h) hS rfl
          · -- from there
            clear hS
            rintro _ hS
            show VC _ _ _ _ _ [(0, ptr a_0_b 0), (1, x1_1.val)] (Mo.and Mo.tt _) (Ow.star (Blk a_0_b [str a_0.verb, str a_0.name, i64 a_0.n, str a_0.text, .bool c4_2, a_0.todo.val] 62) (Ow.emp))
            refine VC.seq ?_
            refine VC.seq ?_
            refine VC.region ?_
            refine VL.q (q_assign rfl) (by decide) ?_
            refine VL.to (fun _ _ h => h) ?_
            refine VC.seq ?_
            refine VC.region ?_
            refine VL.q (q_move rfl) (by decide) ?_
            obtain ⟨y70_22, ey70_22, hS⟩ := bd_s hS
            refine VL.q (q_call (cmd_first_ct x1_1 ey70_22) rfl (fun _ _ => rfl)) (by decide) ?_
            obtain ⟨y71_23, ey71_23, hS⟩ := bd_s hS
            refine VL.q (q_call (cmd_digit_ct y70_22 ey71_23) rfl (fun _ _ => rfl)) (by decide) ?_
            refine VL.to (fun _ _ h => h) ?_
            refine VC.cond rfl (fun h71 => ?_) (fun h71 => ?_)
            ·
              replace hS := it_t h71 hS
              refine VC.region ?_
              refine VL.q (q_move rfl) (by decide) ?_
              refine VL.q (q_move rfl) (by decide) ?_
              obtain ⟨y75_24, ey75_24, hS⟩ := bd_s hS
              refine VL.q (q_call (cmd_first_ct x1_1 ey75_24) rfl (fun _ _ => rfl)) (by decide) ?_
              obtain ⟨y76_25, ey76_25, hS⟩ := bd_s hS
              refine VL.q (q_call (cmd_count_ct y75_24 ey76_25) rfl (fun _ _ => rfl)) (by decide) ?_
              refine VL.q (q_move rfl) (by decide) ?_
              refine VL.q (q_extract rfl rfl) (by decide) ?_
              refine VL.q (q_extract rfl rfl) (by decide) ?_
              refine VL.q (q_nilCheck rfl) (by decide) ?_
              refine VL.q (q_field gfa62_2 rfl) (by decide) ?_
              refine VL.store (vc := [i64 y76_25.1]) (cs' := [str a_0.verb, str a_0.name, i64 y76_25.1, str a_0.text, .bool c4_2, a_0.todo.val]) rfl rfl rfl gsz3 rfl rfl (Nat.le_of_ble_eq_true rfl) rfl ?_
              refine VL.q (q_assign rfl) (by decide) ?_
              refine VL.to (fun _ _ h => h) ?_
              refine VC.keep [1, 5, 6] rfl ?_
              refine VC.exit_mt (1, y76_25.2, a_0.name, y76_25.1) [1, 5, 6] (fun _ _ h => h) hS rfl
            ·
              replace hS := it_b h71 hS
              refine VC.seq ?_
              refine VC.region ?_
              refine VL.q (q_move rfl) (by decide) ?_
              refine VL.q (q_move rfl) (by decide) ?_
              obtain ⟨y83_26, ey83_26, hS⟩ := bd_s hS
              refine VL.q (q_call (cmd_first_ct x1_1 ey83_26) rfl (fun _ _ => rfl)) (by decide) ?_
              refine VL.q (q_nilCheck rfl) (by decide) ?_
              refine VL.q (q_field gfa62_1 rfl) (by decide) ?_
              refine VL.store (vc := [str y83_26]) (cs' := [str a_0.verb, str y83_26, i64 a_0.n, str a_0.text, .bool c4_2, a_0.todo.val]) rfl rfl rfl gsz9 rfl rfl (Nat.le_of_ble_eq_true rfl) rfl ?_
              refine VL.to (fun _ _ h => h) ?_
              refine VC.keep [0, 1, 5] rfl ?_
              refine VC.region ?_
              refine VL.q (q_move rfl) (by decide) ?_
              refine VL.q (q_nilCheck rfl) (by decide) ?_
              refine VL.q (q_field gfa62_1 rfl) (by decide) ?_
              refine VL.q (q_fe gone9 rfl rfl) (by decide) ?_
              refine VL.q (q_sne rfl rfl) (by decide) ?_
              refine VL.q (q_assign rfl) (by decide) ?_
              refine VL.to (fun _ _ h => h) ?_
              refine VC.exit_mt (1, (!decide (y83_26 = [])), y83_26, a_0.n) [1, 5, 6] (fun _ _ h => h) hS rfl
        · -- from there
          clear hS
          rintro _ hS
          show VC _ _ _ _ _ [(0, ptr a_0_b 0), (1, x1_1.val)] (Mo.and Mo.tt _) (Ow.star (Blk a_0_b [str a_0.verb, str a_0.name, i64 a_0.n, str a_0.text, .bool c4_2, a_0.todo.val] 62) (Ow.emp))
          refine VC.seq ?_
          refine VC.seq ?_
          refine VC.region ?_
          refine VL.q (q_assign rfl) (by decide) ?_
          refine VL.to (fun _ _ h => h) ?_
          refine VC.seq ?_
          refine VC.region ?_
          refine VL.q (q_move rfl) (by decide) ?_
          refine VL.q (q_move rfl) (by decide) ?_
          obtain ⟨y93_27, ey93_27, hS⟩ := bd_s hS
          refine VL.q (q_call (cmd_first_ct x1_1 ey93_27) rfl (fun _ _ => rfl)) (by decide) ?_
          refine VL.q (q_nilCheck rfl) (by decide) ?_
          refine VL.q (q_field gfa62_1 rfl) (by decide) ?_
          refine VL.store (vc := [str y93_27]) (cs' := [str a_0.verb, str y93_27, i64 a_0.n, str a_0.text, .bool c4_2, a_0.todo.val]) rfl rfl rfl gsz9 rfl rfl (Nat.le_of_ble_eq_true rfl) rfl ?_
          refine VL.to (fun _ _ h => h) ?_
          refine VC.cutJ (S := Bool) (fun (x106_28 : Bool) => x106_28) (fun (x106_28 : Bool) => [(0, ptr a_0_b 0), (1, x1_1.val), (5, i64 2), (106, .bool x106_28)]) (fun (x106_28 : Bool) => Mo.tt) (fun (x106_28 : Bool) => Ow.star (Blk a_0_b [str a_0.verb, str y93_27, i64 a_0.n, str a_0.text, .bool c4_2, a_0.todo.val] 62) (Ow.emp)) hS ?_ ?_
          · -- up to where ways meet
            clear hS
            intro k29 hS
            refine VC.region ?_
            refine VL.q (q_move rfl) (by decide) ?_
            refine VL.q (q_ln (s := x1_1) Tryd.underlying38 rfl) (by decide) ?_
            refine VL.q (q_move rfl) (by decide) ?_
            refine VL.q (q_eql rfl rfl) (by decide) ?_
            refine VL.q (q_move rfl) (by decide) ?_
            refine VL.split_dec 100 rfl (fun h100 => ?_) (fun h100 => ?_)
            ·
              replace hS := it_t h100 hS
              refine VL.gy rfl rfl (q_move rfl) (by decide) ?_
              refine VL.gy rfl rfl (q_nilCheck rfl) (by decide) ?_
              refine VL.gy rfl rfl (q_field gfa62_1 rfl) (by decide) ?_
              refine VL.gy rfl rfl (q_fe gone9 rfl rfl) (by decide) ?_
              refine VL.gy rfl rfl (q_sne rfl rfl) (by decide) ?_
              refine VL.q (q_pick_t rfl rfl) (by decide) ?_
              refine VL.mt (!decide (y93_27 = [])) [0, 1, 5, 106] (fun _ _ h => h) hS rfl
            ·
              replace hS := it_f h100 hS
              refine VL.gn rfl rfl rfl (by decide) ?_
              refine VL.gn rfl rfl rfl (by decide) ?_
              refine VL.gn rfl rfl rfl (by decide) ?_
              refine VL.gn rfl rfl rfl (by decide) ?_
              refine VL.gn rfl rfl rfl (by decide) ?_
              refine VL.q (q_pick_f rfl rfl) (by decide) ?_
              refine VL.mt false [0, 1, 5, 106] (fun _ _ h => h) hS rfl
          · -- from there
            clear hS
            rintro x106_28 hS
            show VC _ _ _ _ _ [(0, ptr a_0_b 0), (1, x1_1.val), (5, i64 2), (106, .bool x106_28)] (Mo.and Mo.tt _) (Ow.star (Blk a_0_b [str a_0.verb, str y93_27, i64 a_0.n, str a_0.text, .bool c4_2, a_0.todo.val] 62) (Ow.emp))
            refine VC.cond rfl (fun h106 => ?_) (fun h106 => ?_)
            ·
              replace hS := it_t h106 hS
              refine VC.region ?_
              refine VL.q (q_move rfl) (by decide) ?_
              refine VL.q (q_move rfl) (by decide) ?_
              obtain ⟨z110_30, nz110_30, hz110_30, hS⟩ := at_s hS
              refine VL.q (q_ixm (s := x1_1) Tryd.underlying38 gsz9 rfl rfl nz110_30 (lt_of_get nz110_30 hz110_30)) (by decide) ?_
              refine VL.q (q_el (s := x1_1) gone9 rfl hz110_30 rfl) (by decide) ?_
              obtain ⟨y112_31, ey112_31, hS⟩ := bd_s hS
              refine VL.q (q_call (cmd_count_ct z110_30 ey112_31) rfl (fun _ _ => rfl)) (by decide) ?_
              refine VL.q (q_move rfl) (by decide) ?_
              refine VL.q (q_extract rfl rfl) (by decide) ?_
              refine VL.q (q_extract rfl rfl) (by decide) ?_
              refine VL.q (q_nilCheck rfl) (by decide) ?_
              refine VL.q (q_field gfa62_2 rfl) (by decide) ?_
              refine VL.store (vc := [i64 y112_31.1]) (cs' := [str a_0.verb, str y93_27, i64 y112_31.1, str a_0.text, .bool c4_2, a_0.todo.val]) rfl rfl rfl gsz3 rfl rfl (Nat.le_of_ble_eq_true rfl) rfl ?_
              refine VL.q (q_assign rfl) (by decide) ?_
              refine VL.to (fun _ _ h => h) ?_
              refine VC.keep [1, 5, 6] rfl ?_
              refine VC.exit_mt (2, y112_31.2, y93_27, y112_31.1) [1, 5, 6] (fun _ _ h => h) hS rfl
            ·
              replace hS := it_b h106 hS
              refine VC.region ?_
              refine VL.q (q_assign rfl) (by decide) ?_
              refine VL.to (fun _ _ h => h) ?_
              refine VC.exit_mt (2, false, y93_27, a_0.n) [1, 5, 6] (fun _ _ h => h) hS rfl
      · -- from there
        clear hS
        rintro _ hS
        show VC _ _ _ _ _ [(0, ptr a_0_b 0), (1, x1_1.val)] (Mo.and Mo.tt _) (Ow.star (Blk a_0_b [str a_0.verb, str a_0.name, i64 a_0.n, str a_0.text, .bool c4_2, a_0.todo.val] 62) (Ow.emp))
        refine VC.seq ?_
        refine VC.seq ?_
        refine VC.region ?_
        refine VL.q (q_assign rfl) (by decide) ?_
        refine VL.to (fun _ _ h => h) ?_
        refine VC.region ?_
        refine VL.q (q_move rfl) (by decide) ?_
        refine VL.q (q_move rfl) (by decide) ?_
        obtain ⟨y120_32, ey120_32, hS⟩ := bd_s hS
        refine VL.q (q_call (cmd_first_ct x1_1 ey120_32) rfl (fun _ _ => rfl)) (by decide) ?_
        obtain ⟨y121_33, ey121_33, hS⟩ := bd_s hS
        refine VL.q (q_call (cmd_count_ct y120_32 ey121_33) rfl (fun _ _ => rfl)) (by decide) ?_
        refine VL.q (q_move rfl) (by decide) ?_
        refine VL.q (q_extract rfl rfl) (by decide) ?_
        refine VL.q (q_extract rfl rfl) (by decide) ?_
        refine VL.q (q_nilCheck rfl) (by decide) ?_
        refine VL.q (q_field gfa62_2 rfl) (by decide) ?_
        refine VL.store (vc := [i64 y121_33.1]) (cs' := [str a_0.verb, str a_0.name, i64 y121_33.1, str a_0.text, .bool c4_2, a_0.todo.val]) rfl rfl rfl gsz3 rfl rfl (Nat.le_of_ble_eq_true rfl) rfl ?_
        refine VL.q (q_assign rfl) (by decide) ?_
        refine VL.to (fun _ _ h => h) ?_
        refine VC.keep [1, 5, 6] rfl ?_
        refine VC.exit_mt (1, y121_33.2, a_0.name, y121_33.1) [1, 5, 6] (fun _ _ h => h) hS rfl
    · -- from there
      clear hS
      rintro ⟨x5_11, x6_12, c1_13, c2_14⟩ hS
      show VC _ _ _ _ _ [(1, x1_1.val), (5, i64 x5_11), (6, .bool x6_12)] (Mo.and Mo.tt _) (Ow.star (Blk a_0_b [str a_0.verb, str c1_13, i64 c2_14, str a_0.text, .bool c4_2, a_0.todo.val] 62) (Ow.emp))
      refine VC.seq ?_
      refine VC.region ?_
      refine VL.q (q_move rfl) (by decide) ?_
      refine VL.q (q_move rfl) (by decide) ?_
      refine VL.split 127 rfl (fun h127 => ?_) (fun h127 => ?_)
      ·
        replace hS := it_t h127 hS
        refine VL.gy rfl rfl (q_move rfl) (by decide) ?_
        refine VL.gy rfl rfl (q_ln (s := x1_1) Tryd.underlying38 rfl) (by decide) ?_
        refine VL.gy rfl rfl (q_move rfl) (by decide) ?_
        refine VL.gy rfl rfl (q_eql rfl rfl) (by decide) ?_
        refine VL.q (q_pick_t rfl rfl) (by decide) ?_
        refine VL.q (q_assign rfl) (by decide) ?_
        refine VL.to (fun _ _ h => h) ?_
        refine VC.keep [4] rfl ?_
        cases hS
        exact VC.ret (fin1 (.inr rfl) rfl rfl ((decide ((x1_1.l.length : Int) = x5_11)), ⟨a_0.verb, c1_13, c2_14, a_0.text, c4_2, a_0.todo⟩) rfl rfl (by (try dsimp only); exact InM.out) (by (try dsimp only); exact EntO.out))
      ·
        replace hS := it_b h127 hS
        refine VL.gn rfl rfl rfl (by decide) ?_
        refine VL.gn rfl rfl rfl (by decide) ?_
        refine VL.gn rfl rfl rfl (by decide) ?_
        refine VL.gn rfl rfl rfl (by decide) ?_
        refine VL.q (q_pick_f rfl rfl) (by decide) ?_
        refine VL.q (q_assign rfl) (by decide) ?_
        refine VL.to (fun _ _ h => h) ?_
        refine VC.keep [4] rfl ?_
        cases hS
        exact VC.ret (fin1 (.inr rfl) rfl rfl (false, ⟨a_0.verb, c1_13, c2_14, a_0.text, c4_2, a_0.todo⟩) rfl rfl (by (try dsimp only); exact InM.out) (by (try dsimp only); exact EntO.out))

set_option maxHeartbeats 4000000 in
set_option maxRecDepth 100000 in
theorem cmd_read_ct (line_0 : Str) {r : CmdCmdP × Bool} (hS : Sh.cmd_read line_0 = some r) :
    Ct Tryd.prog 72 [str line_0] Mo.tt (Ow.emp) (X := CmdCmd × Bool) (fun x => .tuple #[.agg (Dat.enc x.1).toArray, .bool x.2]) (fun x => r = (x.1.pl, x.2)) (fun x => x.1.m) (fun x => Ow.emp) := by
  refine Ct.of Tryd.func72 rfl (by kernel_rfl) Tryd.ntmps72 (by simp) fun c => ?_
  unfold Sh.cmd_read at hS
  refine VC.seq ?_
  refine VC.region ?_
  refine VL.alloc (cs := [str [], str [], i64 0, str [], .bool false, .slice none 0 0]) (by kernel_rfl) (by decide) fun b2_1 => ?_
  refine VL.q (q_assign rfl) (by decide) ?_
  refine VL.to (fun _ _ h => h) ?_
  refine VC.seq ?_
  refine VC.region ?_
  refine VL.q (q_move rfl) (by decide) ?_
  obtain ⟨y12_2, ey12_2, hS⟩ := bd_s hS
  refine VL.q (q_call (strings_Cut_ct line_0 [32] ey12_2) rfl (fun _ _ => rfl)) (by decide) ?_
  refine VL.q (q_move rfl) (by decide) ?_
  refine VL.q (q_extract rfl rfl) (by decide) ?_
  refine VL.q (q_extract rfl rfl) (by decide) ?_
  refine VL.q (q_extract rfl rfl) (by decide) ?_
  refine VL.q (q_assign rfl) (by decide) ?_
  refine VL.q (q_assign rfl) (by decide) ?_
  refine VL.q (q_assign rfl) (by decide) ?_
  refine VL.to (fun _ _ h => h) ?_
  refine VC.keep [2, 4, 5, 6] rfl ?_
  refine VC.seq ?_
  refine VC.region ?_
  refine VL.q (q_move rfl) (by decide) ?_
  refine VL.q (q_build (vs := [(0, str y12_2.1)]) (cs := #[str y12_2.1, str [], i64 0, str [], .bool false, .slice none 0 0]) rfl (by kernel_rfl)) (by decide) ?_
  refine VL.alloc (cs := [str [], str [], i64 0, str [], .bool false, .slice none 0 0]) (by kernel_rfl) (by decide) fun b7_3 => ?_
  refine VL.store (vc := [str y12_2.1, str [], i64 0, str [], .bool false, .slice none 0 0]) (cs' := [str y12_2.1, str [], i64 0, str [], .bool false, .slice none 0 0]) rfl rfl rfl gsz62 rfl rfl (Nat.le_of_ble_eq_true rfl) rfl ?_
  refine VL.to (fun _ _ h => h) ?_
  refine VC.seq ?_
  refine VC.cutJ (S := Bool) (fun (x23_4 : Bool) => x23_4) (fun (x23_4 : Bool) => [(2, ptr b2_1 0), (5, str y12_2.2.1), (6, .bool y12_2.2.2), (7, ptr b7_3 0), (23, .bool x23_4)]) (fun (x23_4 : Bool) => Mo.tt) (fun (x23_4 : Bool) => Ow.star (Blk b7_3 [str y12_2.1, str [], i64 0, str [], .bool false, .slice none 0 0] 62) (Ow.star (Blk b2_1 [str [], str [], i64 0, str [], .bool false, .slice none 0 0] 62) (Ow.emp))) hS ?_ ?_
  · -- up to where ways meet
    clear hS
    intro k5 hS
    refine VC.region ?_
    refine VL.q (q_move rfl) (by decide) ?_
    refine VL.q (q_seq rfl rfl) (by decide) ?_
    refine VL.q (q_move rfl) (by decide) ?_
    refine VL.split_dec 20 rfl (fun h20 => ?_) (fun h20 => ?_)
    ·
      replace hS := it_t h20 hS
      refine VL.gn rfl rfl rfl (by decide) ?_
      refine VL.gn rfl rfl rfl (by decide) ?_
      refine VL.q (q_pick_t rfl rfl) (by decide) ?_
      refine VL.mt true [2, 5, 6, 7, 23] (fun _ _ h => h) hS rfl
    ·
      replace hS := it_f h20 hS
      refine VL.gy rfl rfl (q_move rfl) (by decide) ?_
      refine VL.gy rfl rfl (q_seq rfl rfl) (by decide) ?_
      refine VL.q (q_pick_f rfl rfl) (by decide) ?_
      refine VL.mt (decide (y12_2.1 = [115, 116, 97, 115, 104])) [2, 5, 6, 7, 23] (fun _ _ h => h) hS rfl
  · -- from there
    clear hS
    rintro x23_4 hS
    show VC _ _ _ _ _ [(2, ptr b2_1 0), (5, str y12_2.2.1), (6, .bool y12_2.2.2), (7, ptr b7_3 0), (23, .bool x23_4)] (Mo.and Mo.tt _) (Ow.star (Blk b7_3 [str y12_2.1, str [], i64 0, str [], .bool false, .slice none 0 0] 62) (Ow.star (Blk b2_1 [str [], str [], i64 0, str [], .bool false, .slice none 0 0] 62) (Ow.emp)))
    refine VC.cond rfl (fun h23 => ?_) (fun h23 => ?_)
    ·
      replace hS := it_t h23 hS
      refine VC.seq ?_
      refine VC.region ?_
      refine VL.q (q_move rfl) (by decide) ?_
      refine VL.q (q_field gfa62_3 rfl) (by decide) ?_
      refine VL.store (vc := [str y12_2.2.1]) (cs' := [str y12_2.1, str [], i64 0, str y12_2.2.1, .bool false, .slice none 0 0]) rfl rfl rfl gsz9 rfl rfl (Nat.le_of_ble_eq_true rfl) rfl ?_
      refine VL.to (fun _ _ h => h) ?_
      refine VC.seq ?_
      refine VC.region ?_
      refine VL.q (q_fes gagg62 rfl rfl) (by decide) ?_
      refine VL.q (q_move rfl) (by decide) ?_
      refine VL.q (q_not rfl) (by decide) ?_
      refine VL.q (q_move rfl) (by decide) ?_
      refine VL.split 29 rfl (fun h29 => ?_) (fun h29 => ?_)
      ·
        replace hS := it_t h29 hS
        refine VL.gn rfl rfl rfl (by decide) ?_
        refine VL.gn rfl rfl rfl (by decide) ?_
        refine VL.q (q_pick_t rfl rfl) (by decide) ?_
        refine VL.store (vc := [str y12_2.1, str [], i64 0, str y12_2.2.1, .bool false, .slice none 0 0]) (cs' := [str y12_2.1, str [], i64 0, str y12_2.2.1, .bool false, .slice none 0 0]) rfl rfl rfl gsz62 rfl rfl (Nat.le_of_ble_eq_true rfl) rfl ?_
        refine VL.q (q_assign rfl) (by decide) ?_
        refine VL.to (fun _ _ h => h) ?_
        refine VC.keep [2, 3] rfl ?_
        cases hS
        exact VC.ret (finG (vs := [.agg #[str y12_2.1, str [], i64 0, str y12_2.2.1, .bool false, .slice none 0 0], .bool true]) (.inr rfl) rfl (RVs.cell gagg62 rfl rfl Rd.blk (RVs.tmp rfl (RVs.nil))) (⟨y12_2.1, [], 0, y12_2.2.1, false, ⟨none, 0, []⟩⟩, true) rfl rfl (by (try dsimp only); exact InM.out) (fun _ _ => trivial))
      ·
        replace hS := it_b h29 hS
        refine VL.gy rfl rfl (q_move rfl) (by decide) ?_
        refine VL.gy rfl rfl (q_sne rfl rfl) (by decide) ?_
        refine VL.q (q_pick_f rfl rfl) (by decide) ?_
        refine VL.store (vc := [str y12_2.1, str [], i64 0, str y12_2.2.1, .bool false, .slice none 0 0]) (cs' := [str y12_2.1, str [], i64 0, str y12_2.2.1, .bool false, .slice none 0 0]) rfl rfl rfl gsz62 rfl rfl (Nat.le_of_ble_eq_true rfl) rfl ?_
        refine VL.q (q_assign rfl) (by decide) ?_
        refine VL.to (fun _ _ h => h) ?_
        refine VC.keep [2, 3] rfl ?_
        cases hS
        exact VC.ret (finG (vs := [.agg #[str y12_2.1, str [], i64 0, str y12_2.2.1, .bool false, .slice none 0 0], .bool (!decide (y12_2.2.1 = []))]) (.inr rfl) rfl (RVs.cell gagg62 rfl rfl Rd.blk (RVs.tmp rfl (RVs.nil))) (⟨y12_2.1, [], 0, y12_2.2.1, false, ⟨none, 0, []⟩⟩, (!decide (y12_2.2.1 = []))) rfl rfl (by (try dsimp only); exact InM.out) (fun _ _ => trivial))
    ·
      replace hS := it_b h23 hS
      refine VC.skip_to (fun _ _ h => h) ?_
      refine VC.seq ?_
      refine VC.region ?_
      refine VL.q (q_assign rfl) (by decide) ?_
      refine VL.to (fun _ _ h => h) ?_
      refine VC.cutJ (S := Sv Str) (fun (w8_6 : Sv Str) => w8_6.l) (fun (w8_6 : Sv Str) => [(2, ptr b2_1 0), (7, ptr b7_3 0), (8, w8_6.val)]) (fun (w8_6 : Sv Str) => w8_6.ok) (fun (w8_6 : Sv Str) => Ow.star (Blk b7_3 [str y12_2.1, str [], i64 0, str [], .bool false, .slice none 0 0] 62) (Ow.star (Blk b2_1 [str [], str [], i64 0, str [], .bool false, .slice none 0 0] 62) (Ow.emp))) hS ?_ ?_
      · -- up to where ways meet
        clear hS
        intro k7 hS
        refine VC.seq ?_
        refine VC.region ?_
        refine VL.q (q_move rfl) (by decide) ?_
        refine VL.to (fun _ _ h => h) ?_
        refine VC.cond rfl (fun h33 => ?_) (fun h33 => ?_)
        ·
          replace hS := it_t h33 hS
          refine VC.region ?_
          refine VL.q (q_move rfl) (by decide) ?_
          obtain ⟨y35_8, ey35_8, hS⟩ := bd_s hS
          refine VL.callF (strings_Split_ct y12_2.2.1 [32] ey35_8) rfl (by decide) ?_
          rintro q35_8_0 rfl
          try dsimp only
          refine VL.q (q_assign rfl) (by decide) ?_
          refine VL.mt q35_8_0 [2, 7, 8] (fun _ _ h => h) hS rfl
        ·
          replace hS := it_b h33 hS
          refine VC.skip_mt ⟨none, 0, []⟩ [2, 7, 8] (fun _ _ h => h) hS rfl
      · -- from there
        clear hS
        rintro w8_6 hS
        show VC _ _ _ _ _ [(2, ptr b2_1 0), (7, ptr b7_3 0), (8, w8_6.val)] (Mo.and w8_6.ok _) (Ow.star (Blk b7_3 [str y12_2.1, str [], i64 0, str [], .bool false, .slice none 0 0] 62) (Ow.star (Blk b2_1 [str [], str [], i64 0, str [], .bool false, .slice none 0 0] 62) (Ow.emp)))
        refine VC.seq ?_
        refine VC.region ?_
        refine VL.q (q_move rfl) (by decide) ?_
        refine VL.reB b7_3 (cs' := [str y12_2.1, str [], i64 0, str [], .bool false, (⟨none, 0, []⟩ : Sv TodoStep).val]) rfl ?_
        obtain ⟨y37_9, ey37_9, hS⟩ := bd_s hS
        refine VL.callO (cmd_words_ct b7_3 (⟨y12_2.1, [], 0, [], false, (⟨none, 0, []⟩ : Sv TodoStep)⟩ : CmdCmd) w8_6 ey37_9) rfl (by decide) ?_
        rintro ⟨q37_9_0, q37_9_1⟩ rfl
        try dsimp only
        refine VL.q (q_assign rfl) (by decide) ?_
        refine VL.to (fun _ _ h => h) ?_
        refine VC.seq ?_
        refine VC.region ?_
        refine VL.q (q_fes gagg62 rfl rfl) (by decide) ?_
        refine VL.q (q_move rfl) (by decide) ?_
        refine VL.store (vc := [str q37_9_1.verb, str q37_9_1.name, i64 q37_9_1.n, str q37_9_1.text, .bool q37_9_1.force, q37_9_1.todo.val]) (cs' := [str q37_9_1.verb, str q37_9_1.name, i64 q37_9_1.n, str q37_9_1.text, .bool q37_9_1.force, q37_9_1.todo.val]) rfl rfl rfl gsz62 rfl rfl (Nat.le_of_ble_eq_true rfl) rfl ?_
        refine VL.q (q_assign rfl) (by decide) ?_
        refine VL.to (fun _ _ h => h) ?_
        cases hS
        exact VC.ret (finG (vs := [.agg #[str q37_9_1.verb, str q37_9_1.name, i64 q37_9_1.n, str q37_9_1.text, .bool q37_9_1.force, q37_9_1.todo.val], .bool q37_9_0]) (.inr rfl) rfl (RVs.cell gagg62 rfl rfl Rd.blk (RVs.tmp rfl (RVs.nil))) (⟨q37_9_1.verb, q37_9_1.name, q37_9_1.n, q37_9_1.text, q37_9_1.force, q37_9_1.todo⟩, q37_9_0) rfl rfl (by (try dsimp only); exact InM.out) (fun _ _ => trivial))

set_option maxHeartbeats 4000000 in
set_option maxRecDepth 100000 in
theorem cmd_Verbs_ct  {r : List Str} (hS : Sh.cmd_Verbs = some r) :
    Ct Tryd.prog 35 [] Mo.tt (Ow.emp) (X := Sv Str) (fun x => x.val) (fun x => r = x.l) (fun x => x.ok) (fun x => Ow.emp) := by
  refine Ct.of Tryd.func35 rfl (by kernel_rfl) Tryd.ntmps35 (by simp) fun c => ?_
  unfold Sh.cmd_Verbs at hS
  refine VC.seq ?_
  refine VC.region ?_
  refine VL.q (q_assign rfl) (by decide) ?_
  refine VL.to (fun _ _ h => h) ?_
  refine VC.seq ?_
  refine VC.region ?_
  refine VL.lit (α := Str) (xs := [.const (str [97, 100, 100]), .const (str [114, 109]), .const (str [99, 111, 109, 109, 105, 116]), .const (str [98, 114, 97, 110, 99, 104]), .const (str [100, 101, 108, 101, 116, 101]), .const (str [115, 119, 105, 116, 99, 104]), .const (str [114, 101, 115, 101, 116]), .const (str [109, 101, 114, 103, 101]), .const (str [112, 105, 99, 107]), .const (str [114, 101, 118, 101, 114, 116]), .const (str [115, 116, 97, 115, 104]), .const (str [112, 111, 112]), .const (str [97, 112, 112, 108, 121]), .const (str [115, 104, 101, 108, 118, 101]), .const (str [114, 101, 98, 97, 115, 101]), .const (str [99, 111, 110, 116, 105, 110, 117, 101]), .const (str [115, 107, 105, 112]), .const (str [97, 98, 111, 114, 116]), .const (str [117, 110, 100, 111]), .const (str [114, 101, 100, 111])]) (vs := [str [97, 100, 100], str [114, 109], str [99, 111, 109, 109, 105, 116], str [98, 114, 97, 110, 99, 104], str [100, 101, 108, 101, 116, 101], str [115, 119, 105, 116, 99, 104], str [114, 101, 115, 101, 116], str [109, 101, 114, 103, 101], str [112, 105, 99, 107], str [114, 101, 118, 101, 114, 116], str [115, 116, 97, 115, 104], str [112, 111, 112], str [97, 112, 112, 108, 121], str [115, 104, 101, 108, 118, 101], str [114, 101, 98, 97, 115, 101], str [99, 111, 110, 116, 105, 110, 117, 101], str [115, 107, 105, 112], str [97, 98, 111, 114, 116], str [117, 110, 100, 111], str [114, 101, 100, 111]]) [[97, 100, 100], [114, 109], [99, 111, 109, 109, 105, 116], [98, 114, 97, 110, 99, 104], [100, 101, 108, 101, 116, 101], [115, 119, 105, 116, 99, 104], [114, 101, 115, 101, 116], [109, 101, 114, 103, 101], [112, 105, 99, 107], [114, 101, 118, 101, 114, 116], [115, 116, 97, 115, 104], [112, 111, 112], [97, 112, 112, 108, 121], [115, 104, 101, 108, 118, 101], [114, 101, 98, 97, 115, 101], [99, 111, 110, 116, 105, 110, 117, 101], [115, 107, 105, 112], [97, 98, 111, 114, 116], [117, 110, 100, 111], [114, 101, 100, 111]] Tryd.underlying38 glit9 (by decide) rfl rfl rfl rfl (by decide) (fun _ _ _ _ => trivial) (by decide) (fun s1_1 hs1_1 => ?_) (by decide)
  replace hS := lt_to hs1_1 hS
  refine VL.q (q_assign rfl) (by decide) ?_
  refine VL.to (fun _ _ h => h) ?_
  cases hS
  exact VC.ret (fin1 (.inr rfl) rfl rfl s1_1 rfl rfl (by (try dsimp only); exact InM.out) (fun _ _ => trivial))

set_option maxHeartbeats 4000000 in
set_option maxRecDepth 100000 in
theorem slices_Index_string_string_ct (s_0 : Sv Str) (v_1 : Str) {r : Int} (hS : Sh.slices_Index_string_string s_0.l v_1 = some r) :
    Ct Tryd.prog 111 [s_0.val, str v_1] s_0.ok (Ow.emp) (X := Unit) (fun _ => i64 r) (fun _ => True) (fun _ => Mo.tt) (fun _ => Ow.emp) := by
  refine Ct.of Tryd.func111 rfl (by kernel_rfl) Tryd.ntmps111 (by simp) fun c => ?_
  unfold Sh.slices_Index_string_string at hS
  refine VC.seq ?_
  refine VC.region ?_
  refine VL.q (q_assign rfl) (by decide) ?_
  refine VL.to (fun _ _ h => h) ?_
  refine VC.seq ?_
  refine VC.seq ?_
  refine VC.region ?_
  refine VL.q (q_move rfl) (by decide) ?_
  refine VL.q (q_ln (s := s_0) Tryd.underlying38 rfl) (by decide) ?_
  refine VL.q (q_move rfl) (by decide) ?_
  refine VL.to (fun _ _ h => h) ?_
  refine VC.block ?_
  refine VC.iter (S := Int) (fun (x8_1 : Int) => x8_1) (fun (x8_1 : Int) => [(0, s_0.val), (1, str v_1), (7, i64 (s_0.l.length : Int)), (8, i64 x8_1)]) (fun (x8_1 : Int) => Mo.tt) (fun (x8_1 : Int) => Ow.emp) 0 [0, 1, 7, 8] hS rfl ?_
  clear hS
  rintro x8_1 m1 y1 hS hK1
  show VC _ _ _ _ _ [(0, s_0.val), (1, str v_1), (7, i64 (s_0.l.length : Int)), (8, i64 x8_1)] (Mo.and Mo.tt _) (Ow.emp)
  refine VC.seq ?_
  refine VC.region ?_
  refine VL.q (q_lss rfl rfl) (by decide) ?_
  refine VL.to (fun _ _ h => h) ?_
  refine VC.seq ?_
  refine VC.cond_dec rfl (fun h9 => ?_) (fun h9 => ?_)
  ·
    replace hS := it_t h9 hS
    refine VC.skip_to (fun _ _ h => h) ?_
    refine VC.seq ?_
    refine VC.block ?_
    refine VC.seq ?_
    refine VC.region ?_
    refine VL.q (q_move rfl) (by decide) ?_
    refine VL.q (q_assign rfl) (by decide) ?_
    refine VL.to (fun _ _ h => h) ?_
    refine VC.seq ?_
    refine VC.region ?_
    refine VL.q (q_move rfl) (by decide) ?_
    refine VL.q (q_move rfl) (by decide) ?_
    refine VL.q (q_move rfl) (by decide) ?_
    obtain ⟨z14_2, nz14_2, hz14_2, hS⟩ := at_s hS
    refine VL.q (q_ixm (s := s_0) Tryd.underlying38 gsz9 rfl rfl nz14_2 (lt_of_get nz14_2 hz14_2)) (by decide) ?_
    refine VL.q (q_el (s := s_0) gone9 rfl hz14_2 rfl) (by decide) ?_
    refine VL.q (q_seq rfl rfl) (by decide) ?_
    refine VL.to (fun _ _ h => h) ?_
    refine VC.keep [0, 1, 7, 8, 5, 16] rfl ?_
    refine VC.cond_dec rfl (fun h16 => ?_) (fun h16 => ?_)
    ·
      replace hS := it_t h16 hS
      refine VC.seq ?_
      refine VC.region ?_
      refine VL.q (q_move rfl) (by decide) ?_
      refine VL.q (q_assign rfl) (by decide) ?_
      refine VL.to (fun _ _ h => h) ?_
      replace hS := up2 hS hK1
      cases hS
      exact VC.ret (fin1 (.inr rfl) rfl rfl () rfl trivial (fun _ _ => trivial) (fun _ _ => trivial))
    ·
      replace hS := it_f h16 hS
      refine VC.skip_to (fun _ _ h => h) ?_
      refine VC.region ?_
      obtain ⟨b18, hS⟩ := gd_s hS
      refine VL.q (q_add rfl rfl b18) (by decide) ?_
      refine VL.q (q_move rfl) (by decide) ?_
      refine VL.rnd (x8_1 + 1) [0, 1, 7, 8] (fun _ _ h => h) (go2 hS hK1) rfl
  ·
    replace hS := it_f h9 hS
    replace hS := up2 hS hK1
    refine VC.exit_to (fun _ _ h => h) ?_
    refine VC.seq ?_
    refine VC.region ?_
    refine VL.q (q_assign rfl) (by decide) ?_
    refine VL.to (fun _ _ h => h) ?_
    cases hS
    exact VC.ret (fin1 (.inr rfl) rfl rfl () rfl trivial (fun _ _ => trivial) (fun _ _ => trivial))

set_option maxHeartbeats 4000000 in
set_option maxRecDepth 100000 in
theorem cmd_place_ct (verb_0 : Str) {r : Int} (hS : Sh.cmd_place verb_0 = some r) :
    Ct Tryd.prog 73 [str verb_0] Mo.tt (Ow.emp) (X := Unit) (fun _ => i64 r) (fun _ => True) (fun _ => Mo.tt) (fun _ => Ow.emp) := by
  refine Ct.of Tryd.func73 rfl (by kernel_rfl) Tryd.ntmps73 (by simp) fun c => ?_
  unfold Sh.cmd_place at hS
  refine VC.seq ?_
  refine VC.region ?_
  refine VL.q (q_assign rfl) (by decide) ?_
  refine VL.to (fun _ _ h => h) ?_
  refine VC.seq ?_
  refine VC.region ?_
  obtain ⟨y3_1, ey3_1, hS⟩ := bd_s hS
  refine VL.callF (cmd_Verbs_ct ey3_1) rfl (by decide) ?_
  rintro q3_1_0 rfl
  try dsimp only
  refine VL.q (q_move rfl) (by decide) ?_
  obtain ⟨y5_2, ey5_2, hS⟩ := bd_s hS
  refine VL.q (q_call (slices_Index_string_string_ct q3_1_0 verb_0 ey5_2) rfl (fun _ _ => rfl)) (by decide) ?_
  refine VL.q (q_assign rfl) (by decide) ?_
  refine VL.to (fun _ _ h => h) ?_
  cases hS
  exact VC.ret (fin1 (.inr rfl) rfl rfl () rfl trivial (fun _ _ => trivial) (fun _ _ => trivial))

set_option maxHeartbeats 4000000 in
set_option maxRecDepth 100000 in
theorem cmd_fault_ct (c_0 : CmdCmd) (err_1 : Er) {r : Err} (hS : Sh.cmd_fault c_0.pl err_1.pl = some r) :
    Ct Tryd.prog 74 [.agg #[str c_0.verb, str c_0.name, i64 c_0.n, str c_0.text, .bool c_0.force, c_0.todo.val], err_1.val] (c_0.todo.ok.and err_1.ok) (Ow.emp) (X := Er) (fun x => x.val) (fun x => r = x.pl) (fun x => x.ok) (fun x => Ow.emp) := by
  refine Ct.of Tryd.func74 rfl (by kernel_rfl) Tryd.ntmps74 (by simp) fun c => ?_
  unfold Sh.cmd_fault at hS
  refine VC.seq ?_
  refine VC.region ?_
  refine VL.box (cs := [str c_0.verb, str c_0.name, i64 c_0.n, str c_0.text, .bool c_0.force, c_0.todo.val]) rfl rfl (by decide) fun b2_1 => ?_
  refine VL.q (q_assign rfl) (by decide) ?_
  refine VL.to (fun _ _ h => h) ?_
  refine VC.seq ?_
  refine VC.region ?_
  refine VL.q (q_field gfa62_0 rfl) (by decide) ?_
  refine VL.q (q_fe gone9 rfl rfl) (by decide) ?_
  obtain ⟨y7_2, ey7_2, hS⟩ := bd_s hS
  refine VL.q (q_call (cmd_place_ct c_0.verb ey7_2) rfl (fun _ _ => rfl)) (by decide) ?_
  refine VL.q (q_move rfl) (by decide) ?_
  refine VL.q (q_build (vs := [(0, str [99, 109, 100]), (1, i64 y7_2), (2, err_1.val)]) (cs := #[str [99, 109, 100], i64 y7_2, err_1.val]) rfl (by generalize err_1 = z0; cases z0 <;> kernel_rfl)) (by decide) ?_
  refine VL.box (cs := [str [99, 109, 100], i64 y7_2, err_1.val]) rfl rfl (by decide) fun b10_3 => ?_
  refine VL.shutB b10_3 ?_
  refine VL.q (q_mkif Tryd.underlying93 (fun _ h => by cases h) rfl) (by decide) ?_
  refine VL.q (q_assign rfl) (by decide) ?_
  refine VL.to (fun _ _ h => h) ?_
  refine VC.keep [4] rfl ?_
  cases hS
  exact VC.ret (fin1 (.inr rfl) rfl rfl (Er.fault b10_3 [99, 109, 100] y7_2 err_1) rfl rfl (by (try dsimp only); exact InM.out) (fun _ _ => trivial))

set_option maxHeartbeats 4000000 in
set_option maxRecDepth 100000 in
theorem strings_trimLeftByte_ct (s_0 : Str) (c_1 : Int) {r : Str} (hS : Sh.strings_trimLeftByte s_0 c_1 = some r) :
    Ct Tryd.prog 86 [str s_0, .int .u8 c_1] Mo.tt (Ow.emp) (X := Unit) (fun _ => str r) (fun _ => True) (fun _ => Mo.tt) (fun _ => Ow.emp) := by
  refine Ct.of Tryd.func86 rfl (by kernel_rfl) Tryd.ntmps86 (by simp) fun c => ?_
  unfold Sh.strings_trimLeftByte at hS
  refine VC.seq ?_
  refine VC.region ?_
  refine VL.q (q_assign rfl) (by decide) ?_
  refine VL.to (fun _ _ h => h) ?_
  refine VC.seq ?_
  refine VC.block ?_
  refine VC.iter (S := Str) (fun (s0_1 : Str) => s0_1) (fun (s0_1 : Str) => [(0, str s0_1), (1, .int .u8 c_1)]) (fun (s0_1 : Str) => Mo.tt) (fun (s0_1 : Str) => Ow.emp) s_0 [0, 1] hS rfl ?_
  clear hS
  rintro s0_1 m1 y1 hS hK1
  show VC _ _ _ _ _ [(0, str s0_1), (1, .int .u8 c_1)] (Mo.and Mo.tt _) (Ow.emp)
  refine VC.seq ?_
  refine VC.seq ?_
  refine VC.region ?_
  refine VL.q (q_move rfl) (by decide) ?_
  refine VL.q (q_slen Tryd.underlying9 rfl) (by decide) ?_
  refine VL.q (q_gtr rfl rfl) (by decide) ?_
  refine VL.q (q_move rfl) (by decide) ?_
  refine VL.split_dec 8 rfl (fun h8 => ?_) (fun h8 => ?_)
  ·
    replace hS := it_t h8 hS
    refine VL.gy rfl rfl (q_move rfl) (by decide) ?_
    obtain ⟨z10_2, nz10_2, hz10_2, hS⟩ := at_s hS
    refine VL.gy rfl rfl (q_sidx Tryd.underlying9 rfl rfl nz10_2 hz10_2) (by decide) ?_
    refine VL.gy rfl rfl (q_move rfl) (by decide) ?_
    refine VL.gy rfl rfl (q_eql rfl rfl) (by decide) ?_
    refine VL.q (q_pick_t rfl rfl) (by decide) ?_
    refine VL.to (fun _ _ h => h) ?_
    refine VC.keep [0, 1, 13] rfl ?_
    refine VC.cond_dec rfl (fun h13 => ?_) (fun h13 => ?_)
    ·
      replace hS := it_t h13 hS
      refine VC.skip_to (fun _ _ h => h) ?_
      refine VC.block ?_
      refine VC.region ?_
      refine VL.q (q_move rfl) (by decide) ?_
      obtain ⟨b15, hS⟩ := gd_s hS
      obtain ⟨y15_3, ey15_3, hS⟩ := lt_s hS
      refine VL.q (q_sfromE Tryd.underlying9 rfl rfl b15.1 b15.2 ey15_3) (by decide) ?_
      refine VL.q (q_assign rfl) (by decide) ?_
      refine VL.rnd y15_3 [0, 1] (fun _ _ h => h) (go2 hS hK1) rfl
    ·
      replace hS := it_f h13 hS
      replace hS := up2 hS hK1
      refine VC.exit_to (fun _ _ h => h) ?_
      refine VC.seq ?_
      refine VC.region ?_
      refine VL.q (q_move rfl) (by decide) ?_
      refine VL.q (q_assign rfl) (by decide) ?_
      refine VL.to (fun _ _ h => h) ?_
      cases hS
      exact VC.ret (fin1 (.inr rfl) rfl rfl () rfl trivial (fun _ _ => trivial) (fun _ _ => trivial))
  ·
    replace hS := it_f h8 hS
    refine VL.gn rfl rfl rfl (by decide) ?_
    refine VL.gn rfl rfl rfl (by decide) ?_
    refine VL.gn rfl rfl rfl (by decide) ?_
    refine VL.gn rfl rfl rfl (by decide) ?_
    refine VL.q (q_pick_f rfl rfl) (by decide) ?_
    refine VL.to (fun _ _ h => h) ?_
    refine VC.keep [0, 1, 13] rfl ?_
    refine VC.cond_f rfl ?_
    replace hS := up2 hS hK1
    refine VC.exit_to (fun _ _ h => h) ?_
    refine VC.seq ?_
    refine VC.region ?_
    refine VL.q (q_move rfl) (by decide) ?_
    refine VL.q (q_assign rfl) (by decide) ?_
    refine VL.to (fun _ _ h => h) ?_
    cases hS
    exact VC.ret (fin1 (.inr rfl) rfl rfl () rfl trivial (fun _ _ => trivial) (fun _ _ => trivial))

set_option maxHeartbeats 4000000 in
set_option maxRecDepth 100000 in
theorem strings_TrimLeft_ct (s_0 : Str) (cutset_1 : Str) {r : Str} (hS : Sh.strings_TrimLeft s_0 cutset_1 = some r) :
    Ct Tryd.prog 45 [str s_0, str cutset_1] Mo.tt (Ow.emp) (X := Unit) (fun _ => str r) (fun _ => True) (fun _ => Mo.tt) (fun _ => Ow.emp) := by
  refine Ct.of Tryd.func45 rfl (by kernel_rfl) Tryd.ntmps45 (by simp) fun c => ?_
  unfold Sh.strings_TrimLeft at hS
  refine VC.seq ?_
  refine VC.region ?_
  refine VL.q (q_assign rfl) (by decide) ?_
  refine VL.to (fun _ _ h => h) ?_
  refine VC.seq ?_
  refine VC.cutJ (S := Bool) (fun (x12_1 : Bool) => x12_1) (fun (x12_1 : Bool) => [(0, str s_0), (1, str cutset_1), (12, .bool x12_1)]) (fun (x12_1 : Bool) => Mo.tt) (fun (x12_1 : Bool) => Ow.emp) hS ?_ ?_
  · -- up to where ways meet
    clear hS
    intro k2 hS
    refine VC.region ?_
    refine VL.q (q_move rfl) (by decide) ?_
    refine VL.q (q_seq rfl rfl) (by decide) ?_
    refine VL.q (q_move rfl) (by decide) ?_
    refine VL.split_dec 9 rfl (fun h9 => ?_) (fun h9 => ?_)
    ·
      replace hS := it_t h9 hS
      refine VL.gn rfl rfl rfl (by decide) ?_
      refine VL.gn rfl rfl rfl (by decide) ?_
      refine VL.q (q_pick_t rfl rfl) (by decide) ?_
      refine VL.mt true [0, 1, 12] (fun _ _ h => h) hS rfl
    ·
      replace hS := it_f h9 hS
      refine VL.gy rfl rfl (q_move rfl) (by decide) ?_
      refine VL.gy rfl rfl (q_seq rfl rfl) (by decide) ?_
      refine VL.q (q_pick_f rfl rfl) (by decide) ?_
      refine VL.mt (decide (cutset_1 = [])) [0, 1, 12] (fun _ _ h => h) hS rfl
  · -- from there
    clear hS
    rintro x12_1 hS
    show VC _ _ _ _ _ [(0, str s_0), (1, str cutset_1), (12, .bool x12_1)] (Mo.and Mo.tt _) (Ow.emp)
    refine VC.cond rfl (fun h12 => ?_) (fun h12 => ?_)
    ·
      replace hS := it_t h12 hS
      refine VC.seq ?_
      refine VC.region ?_
      refine VL.q (q_move rfl) (by decide) ?_
      refine VL.q (q_assign rfl) (by decide) ?_
      refine VL.to (fun _ _ h => h) ?_
      cases hS
      exact VC.ret (fin1 (.inr rfl) rfl rfl () rfl trivial (fun _ _ => trivial) (fun _ _ => trivial))
    ·
      replace hS := it_b h12 hS
      refine VC.skip_to (fun _ _ h => h) ?_
      refine VC.seq ?_
      refine VC.cutJ (S := Bool) (fun (x21_3 : Bool) => x21_3) (fun (x21_3 : Bool) => [(0, str s_0), (1, str cutset_1), (21, .bool x21_3)]) (fun (x21_3 : Bool) => Mo.tt) (fun (x21_3 : Bool) => Ow.emp) hS ?_ ?_
      · -- up to where ways meet
        clear hS
        intro k4 hS
        refine VC.region ?_
        refine VL.q (q_move rfl) (by decide) ?_
        refine VL.q (q_slen Tryd.underlying9 rfl) (by decide) ?_
        refine VL.q (q_eql rfl rfl) (by decide) ?_
        refine VL.q (q_move rfl) (by decide) ?_
        refine VL.split_dec 17 rfl (fun h17 => ?_) (fun h17 => ?_)
        ·
          replace hS := it_t h17 hS
          refine VL.gy rfl rfl (q_move rfl) (by decide) ?_
          obtain ⟨z19_5, nz19_5, hz19_5, hS⟩ := at_s hS
          refine VL.gy rfl rfl (q_sidx Tryd.underlying9 rfl rfl nz19_5 hz19_5) (by decide) ?_
          refine VL.gy rfl rfl (q_lss rfl rfl) (by decide) ?_
          refine VL.q (q_pick_t rfl rfl) (by decide) ?_
          refine VL.mt (decide ((z19_5.toNat : Int) < 128)) [0, 1, 21] (fun _ _ h => h) hS rfl
        ·
          replace hS := it_f h17 hS
          refine VL.gn rfl rfl rfl (by decide) ?_
          refine VL.gn rfl rfl rfl (by decide) ?_
          refine VL.gn rfl rfl rfl (by decide) ?_
          refine VL.q (q_pick_f rfl rfl) (by decide) ?_
          refine VL.mt false [0, 1, 21] (fun _ _ h => h) hS rfl
      · -- from there
        clear hS
        rintro x21_3 hS
        show VC _ _ _ _ _ [(0, str s_0), (1, str cutset_1), (21, .bool x21_3)] (Mo.and Mo.tt _) (Ow.emp)
        refine VC.cond rfl (fun h21 => ?_) (fun h21 => ?_)
        ·
          replace hS := it_t h21 hS
          refine VC.seq ?_
          refine VC.region ?_
          refine VL.q (q_move rfl) (by decide) ?_
          refine VL.q (q_move rfl) (by decide) ?_
          obtain ⟨z24_6, nz24_6, hz24_6, hS⟩ := at_s hS
          refine VL.q (q_sidx Tryd.underlying9 rfl rfl nz24_6 hz24_6) (by decide) ?_
          obtain ⟨y25_7, ey25_7, hS⟩ := bd_s hS
          refine VL.q (q_call (strings_trimLeftByte_ct s_0 (z24_6.toNat : Int) ey25_7) rfl (fun _ _ => rfl)) (by decide) ?_
          refine VL.q (q_assign rfl) (by decide) ?_
          refine VL.to (fun _ _ h => h) ?_
          cases hS
          exact VC.ret (fin1 (.inr rfl) rfl rfl () rfl trivial (fun _ _ => trivial) (fun _ _ => trivial))
        ·
          replace hS := it_b h21 hS
          refine VC.skip_to (fun _ _ h => h) ?_
          refine VC.seq ?_
          refine VC.seq ?_
          refine VC.region ?_
          refine VL.q (q_move rfl) (by decide) ?_
          cases hS

set_option maxHeartbeats 4000000 in
set_option maxRecDepth 100000 in
theorem todo_cut_ct (s_0 : Str) {r : Str × Str} (hS : Sh.todo_cut s_0 = some r) :
    Ct Tryd.prog 90 [str s_0] Mo.tt (Ow.emp) (X := Unit) (fun _ => .tuple #[str r.1, str r.2]) (fun _ => True) (fun _ => Mo.tt) (fun _ => Ow.emp) := by
  refine Ct.of Tryd.func90 rfl (by kernel_rfl) Tryd.ntmps90 (by simp) fun c => ?_
  unfold Sh.todo_cut at hS
  refine VC.seq ?_
  refine VC.region ?_
  refine VL.q (q_assign rfl) (by decide) ?_
  refine VL.q (q_assign rfl) (by decide) ?_
  refine VL.to (fun _ _ h => h) ?_
  refine VC.seq ?_
  refine VC.region ?_
  refine VL.q (q_move rfl) (by decide) ?_
  obtain ⟨y6_1, ey6_1, hS⟩ := bd_s hS
  refine VL.q (q_call (strings_Index_ct s_0 [32] ey6_1) rfl (fun _ _ => rfl)) (by decide) ?_
  refine VL.q (q_assign rfl) (by decide) ?_
  refine VL.to (fun _ _ h => h) ?_
  refine VC.seq ?_
  refine VC.seq ?_
  refine VC.region ?_
  refine VL.q (q_move rfl) (by decide) ?_
  refine VL.q (q_lss rfl rfl) (by decide) ?_
  refine VL.to (fun _ _ h => h) ?_
  refine VC.cond_dec rfl (fun h8 => ?_) (fun h8 => ?_)
  ·
    replace hS := it_t h8 hS
    refine VC.seq ?_
    refine VC.region ?_
    refine VL.q (q_move rfl) (by decide) ?_
    refine VL.q (q_assign rfl) (by decide) ?_
    refine VL.q (q_assign rfl) (by decide) ?_
    refine VL.to (fun _ _ h => h) ?_
    cases hS
    exact VC.ret (fin2 (.inr rfl) rfl rfl rfl () rfl trivial (fun _ _ => trivial) (fun _ _ => trivial))
  ·
    replace hS := it_f h8 hS
    refine VC.skip_to (fun _ _ h => h) ?_
    refine VC.seq ?_
    refine VC.draw ((List.range 9).map fun k => (k, true)) mixed (by kernel_rfl) (by kernel_rfl) (by kernel_rfl) ?_
    refine VD.q rfl (q_move rfl) (by decide) ?_
    refine VD.q rfl (q_move rfl) (by decide) ?_
    obtain ⟨b12, hS⟩ := gd_s hS
    obtain ⟨y12_2, ey12_2, hS⟩ := lt_s hS
    refine VD.q rfl (q_stoE Tryd.underlying9 rfl rfl b12.1 b12.2 ey12_2) (by decide) ?_
    refine VD.q rfl (q_move rfl) (by decide) ?_
    refine VD.q rfl (q_move rfl) (by decide) ?_
    obtain ⟨b15, hS⟩ := gd_s hS
    obtain ⟨y15_3, ey15_3, hS⟩ := lt_s hS
    refine VD.q rfl (q_sfromE Tryd.underlying9 rfl rfl b15.1 b15.2 ey15_3) (by decide) ?_
    obtain ⟨y16_4, ey16_4, hS⟩ := bd_s hS
    refine VD.q rfl (q_call (strings_TrimLeft_ct y15_3 [32] ey16_4) rfl (fun _ _ => rfl)) (by decide) ?_
    refine VD.q rfl (q_assign rfl) (by decide) ?_
    refine VD.q rfl (q_assign rfl) (by decide) ?_
    refine VD.to (fun _ _ h => h) ?_
    refine VC.keep [2, 3] rfl ?_
    cases hS
    exact VC.ret (fin2 (.inr rfl) rfl rfl rfl () rfl trivial (fun _ _ => trivial) (fun _ _ => trivial))

set_option maxHeartbeats 4000000 in
set_option maxRecDepth 100000 in
theorem strings_trimRightByte_ct (s_0 : Str) (c_1 : Int) {r : Str} (hS : Sh.strings_trimRightByte s_0 c_1 = some r) :
    Ct Tryd.prog 126 [str s_0, .int .u8 c_1] Mo.tt (Ow.emp) (X := Unit) (fun _ => str r) (fun _ => True) (fun _ => Mo.tt) (fun _ => Ow.emp) := by
  refine Ct.of Tryd.func126 rfl (by kernel_rfl) Tryd.ntmps126 (by simp) fun c => ?_
  unfold Sh.strings_trimRightByte at hS
  refine VC.seq ?_
  refine VC.region ?_
  refine VL.q (q_assign rfl) (by decide) ?_
  refine VL.to (fun _ _ h => h) ?_
  refine VC.seq ?_
  refine VC.block ?_
  refine VC.iter (S := Str) (fun (s0_1 : Str) => s0_1) (fun (s0_1 : Str) => [(0, str s0_1), (1, .int .u8 c_1)]) (fun (s0_1 : Str) => Mo.tt) (fun (s0_1 : Str) => Ow.emp) s_0 [0, 1] hS rfl ?_
  clear hS
  rintro s0_1 m1 y1 hS hK1
  show VC _ _ _ _ _ [(0, str s0_1), (1, .int .u8 c_1)] (Mo.and Mo.tt _) (Ow.emp)
  refine VC.seq ?_
  refine VC.seq ?_
  refine VC.region ?_
  refine VL.q (q_move rfl) (by decide) ?_
  refine VL.q (q_slen Tryd.underlying9 rfl) (by decide) ?_
  refine VL.q (q_gtr rfl rfl) (by decide) ?_
  refine VL.q (q_move rfl) (by decide) ?_
  refine VL.split_dec 8 rfl (fun h8 => ?_) (fun h8 => ?_)
  ·
    replace hS := it_t h8 hS
    refine VL.gy rfl rfl (q_move rfl) (by decide) ?_
    refine VL.gy rfl rfl (q_move rfl) (by decide) ?_
    refine VL.gy rfl rfl (q_slen Tryd.underlying9 rfl) (by decide) ?_
    obtain ⟨b12, hS⟩ := gd_s hS
    refine VL.gy rfl rfl (q_sub rfl rfl b12) (by decide) ?_
    obtain ⟨z13_2, nz13_2, hz13_2, hS⟩ := at_s hS
    refine VL.gy rfl rfl (q_sidx Tryd.underlying9 rfl rfl nz13_2 hz13_2) (by decide) ?_
    refine VL.gy rfl rfl (q_move rfl) (by decide) ?_
    refine VL.gy rfl rfl (q_eql rfl rfl) (by decide) ?_
    refine VL.q (q_pick_t rfl rfl) (by decide) ?_
    refine VL.to (fun _ _ h => h) ?_
    refine VC.keep [0, 1, 16] rfl ?_
    refine VC.cond_dec rfl (fun h16 => ?_) (fun h16 => ?_)
    ·
      replace hS := it_t h16 hS
      refine VC.skip_to (fun _ _ h => h) ?_
      refine VC.block ?_
      refine VC.region ?_
      refine VL.q (q_move rfl) (by decide) ?_
      refine VL.q (q_move rfl) (by decide) ?_
      refine VL.q (q_slen Tryd.underlying9 rfl) (by decide) ?_
      obtain ⟨b20, hS⟩ := gd_s hS
      refine VL.q (q_sub rfl rfl b20) (by decide) ?_
      obtain ⟨b21, hS⟩ := gd_s hS
      obtain ⟨y21_3, ey21_3, hS⟩ := lt_s hS
      refine VL.q (q_stoE Tryd.underlying9 rfl rfl b21.1 b21.2 ey21_3) (by decide) ?_
      refine VL.q (q_assign rfl) (by decide) ?_
      refine VL.rnd y21_3 [0, 1] (fun _ _ h => h) (go2 hS hK1) rfl
    ·
      replace hS := it_f h16 hS
      replace hS := up2 hS hK1
      refine VC.exit_to (fun _ _ h => h) ?_
      refine VC.seq ?_
      refine VC.region ?_
      refine VL.q (q_move rfl) (by decide) ?_
      refine VL.q (q_assign rfl) (by decide) ?_
      refine VL.to (fun _ _ h => h) ?_
      cases hS
      exact VC.ret (fin1 (.inr rfl) rfl rfl () rfl trivial (fun _ _ => trivial) (fun _ _ => trivial))
  ·
    replace hS := it_f h8 hS
    refine VL.gn rfl rfl rfl (by decide) ?_
    refine VL.gn rfl rfl rfl (by decide) ?_
    refine VL.gn rfl rfl rfl (by decide) ?_
    refine VL.gn rfl rfl rfl (by decide) ?_
    refine VL.gn rfl rfl rfl (by decide) ?_
    refine VL.gn rfl rfl rfl (by decide) ?_
    refine VL.gn rfl rfl rfl (by decide) ?_
    refine VL.q (q_pick_f rfl rfl) (by decide) ?_
    refine VL.to (fun _ _ h => h) ?_
    refine VC.keep [0, 1, 16] rfl ?_
    refine VC.cond_f rfl ?_
    replace hS := up2 hS hK1
    refine VC.exit_to (fun _ _ h => h) ?_
    refine VC.seq ?_
    refine VC.region ?_
    refine VL.q (q_move rfl) (by decide) ?_
    refine VL.q (q_assign rfl) (by decide) ?_
    refine VL.to (fun _ _ h => h) ?_
    cases hS
    exact VC.ret (fin1 (.inr rfl) rfl rfl () rfl trivial (fun _ _ => trivial) (fun _ _ => trivial))

set_option maxHeartbeats 4000000 in
set_option maxRecDepth 100000 in
theorem strings_Trim_ct (s_0 : Str) (cutset_1 : Str) {r : Str} (hS : Sh.strings_Trim s_0 cutset_1 = some r) :
    Ct Tryd.prog 91 [str s_0, str cutset_1] Mo.tt (Ow.emp) (X := Unit) (fun _ => str r) (fun _ => True) (fun _ => Mo.tt) (fun _ => Ow.emp) := by
  refine Ct.of Tryd.func91 rfl (by kernel_rfl) Tryd.ntmps91 (by simp) fun c => ?_
  unfold Sh.strings_Trim at hS
  refine VC.seq ?_
  refine VC.region ?_
  refine VL.q (q_assign rfl) (by decide) ?_
  refine VL.to (fun _ _ h => h) ?_
  refine VC.seq ?_
  refine VC.cutJ (S := Bool) (fun (x12_1 : Bool) => x12_1) (fun (x12_1 : Bool) => [(0, str s_0), (1, str cutset_1), (12, .bool x12_1)]) (fun (x12_1 : Bool) => Mo.tt) (fun (x12_1 : Bool) => Ow.emp) hS ?_ ?_
  · -- up to where ways meet
    clear hS
    intro k2 hS
    refine VC.region ?_
    refine VL.q (q_move rfl) (by decide) ?_
    refine VL.q (q_seq rfl rfl) (by decide) ?_
    refine VL.q (q_move rfl) (by decide) ?_
    refine VL.split_dec 9 rfl (fun h9 => ?_) (fun h9 => ?_)
    ·
      replace hS := it_t h9 hS
      refine VL.gn rfl rfl rfl (by decide) ?_
      refine VL.gn rfl rfl rfl (by decide) ?_
      refine VL.q (q_pick_t rfl rfl) (by decide) ?_
      refine VL.mt true [0, 1, 12] (fun _ _ h => h) hS rfl
    ·
      replace hS := it_f h9 hS
      refine VL.gy rfl rfl (q_move rfl) (by decide) ?_
      refine VL.gy rfl rfl (q_seq rfl rfl) (by decide) ?_
      refine VL.q (q_pick_f rfl rfl) (by decide) ?_
      refine VL.mt (decide (cutset_1 = [])) [0, 1, 12] (fun _ _ h => h) hS rfl
  · -- from there
    clear hS
    rintro x12_1 hS
    show VC _ _ _ _ _ [(0, str s_0), (1, str cutset_1), (12, .bool x12_1)] (Mo.and Mo.tt _) (Ow.emp)
    refine VC.cond rfl (fun h12 => ?_) (fun h12 => ?_)
    ·
      replace hS := it_t h12 hS
      refine VC.seq ?_
      refine VC.region ?_
      refine VL.q (q_move rfl) (by decide) ?_
      refine VL.q (q_assign rfl) (by decide) ?_
      refine VL.to (fun _ _ h => h) ?_
      cases hS
      exact VC.ret (fin1 (.inr rfl) rfl rfl () rfl trivial (fun _ _ => trivial) (fun _ _ => trivial))
    ·
      replace hS := it_b h12 hS
      refine VC.skip_to (fun _ _ h => h) ?_
      refine VC.seq ?_
      refine VC.cutJ (S := Bool) (fun (x21_3 : Bool) => x21_3) (fun (x21_3 : Bool) => [(0, str s_0), (1, str cutset_1), (21, .bool x21_3)]) (fun (x21_3 : Bool) => Mo.tt) (fun (x21_3 : Bool) => Ow.emp) hS ?_ ?_
      · -- up to where ways meet
        clear hS
        intro k4 hS
        refine VC.region ?_
        refine VL.q (q_move rfl) (by decide) ?_
        refine VL.q (q_slen Tryd.underlying9 rfl) (by decide) ?_
        refine VL.q (q_eql rfl rfl) (by decide) ?_
        refine VL.q (q_move rfl) (by decide) ?_
        refine VL.split_dec 17 rfl (fun h17 => ?_) (fun h17 => ?_)
        ·
          replace hS := it_t h17 hS
          refine VL.gy rfl rfl (q_move rfl) (by decide) ?_
          obtain ⟨z19_5, nz19_5, hz19_5, hS⟩ := at_s hS
          refine VL.gy rfl rfl (q_sidx Tryd.underlying9 rfl rfl nz19_5 hz19_5) (by decide) ?_
          refine VL.gy rfl rfl (q_lss rfl rfl) (by decide) ?_
          refine VL.q (q_pick_t rfl rfl) (by decide) ?_
          refine VL.mt (decide ((z19_5.toNat : Int) < 128)) [0, 1, 21] (fun _ _ h => h) hS rfl
        ·
          replace hS := it_f h17 hS
          refine VL.gn rfl rfl rfl (by decide) ?_
          refine VL.gn rfl rfl rfl (by decide) ?_
          refine VL.gn rfl rfl rfl (by decide) ?_
          refine VL.q (q_pick_f rfl rfl) (by decide) ?_
          refine VL.mt false [0, 1, 21] (fun _ _ h => h) hS rfl
      · -- from there
        clear hS
        rintro x21_3 hS
        show VC _ _ _ _ _ [(0, str s_0), (1, str cutset_1), (21, .bool x21_3)] (Mo.and Mo.tt _) (Ow.emp)
        refine VC.cond rfl (fun h21 => ?_) (fun h21 => ?_)
        ·
          replace hS := it_t h21 hS
          refine VC.seq ?_
          refine VC.draw ((List.range 8).map fun k => (k, true)) mixed (by kernel_rfl) (by kernel_rfl) (by kernel_rfl) ?_
          refine VD.q rfl (q_move rfl) (by decide) ?_
          refine VD.q rfl (q_move rfl) (by decide) ?_
          obtain ⟨z24_6, nz24_6, hz24_6, hS⟩ := at_s hS
          refine VD.q rfl (q_sidx Tryd.underlying9 rfl rfl nz24_6 hz24_6) (by decide) ?_
          obtain ⟨y25_7, ey25_7, hS⟩ := bd_s hS
          refine VD.q rfl (q_call (strings_trimRightByte_ct s_0 (z24_6.toNat : Int) ey25_7) rfl (fun _ _ => rfl)) (by decide) ?_
          refine VD.q rfl (q_move rfl) (by decide) ?_
          obtain ⟨z27_8, nz27_8, hz27_8, hS⟩ := at_s hS
          refine VD.q rfl (q_sidx Tryd.underlying9 rfl rfl nz27_8 hz27_8) (by decide) ?_
          obtain ⟨y28_9, ey28_9, hS⟩ := bd_s hS
          refine VD.q rfl (q_call (strings_trimLeftByte_ct y25_7 (z27_8.toNat : Int) ey28_9) rfl (fun _ _ => rfl)) (by decide) ?_
          refine VD.q rfl (q_assign rfl) (by decide) ?_
          refine VD.to (fun _ _ h => h) ?_
          refine VC.keep [4] rfl ?_
          cases hS
          exact VC.ret (fin1 (.inr rfl) rfl rfl () rfl trivial (fun _ _ => trivial) (fun _ _ => trivial))
        ·
          replace hS := it_b h21 hS
          refine VC.skip_to (fun _ _ h => h) ?_
          refine VC.seq ?_
          refine VC.seq ?_
          refine VC.region ?_
          refine VL.q (q_move rfl) (by decide) ?_
          cases hS

set_option maxHeartbeats 4000000 in
set_option maxRecDepth 100000 in
theorem todo_verb_ct (s_0 : Str) {r : Bool × Bool} (hS : Sh.todo_verb s_0 = some r) :
    Ct Tryd.prog 92 [str s_0] Mo.tt (Ow.emp) (X := Unit) (fun _ => .tuple #[.bool r.1, .bool r.2]) (fun _ => True) (fun _ => Mo.tt) (fun _ => Ow.emp) := by
  refine Ct.of Tryd.func92 rfl (by kernel_rfl) Tryd.ntmps92 (by simp) fun c => ?_
  unfold Sh.todo_verb at hS
  refine VC.seq ?_
  refine VC.region ?_
  refine VL.q (q_assign rfl) (by decide) ?_
  refine VL.q (q_assign rfl) (by decide) ?_
  refine VL.to (fun _ _ h => h) ?_
  refine VC.seq ?_
  refine VC.seq ?_
  refine VC.region ?_
  refine VL.q (q_move rfl) (by decide) ?_
  refine VL.to (fun _ _ h => h) ?_
  refine VC.block ?_
  refine VC.cutJ (S := Unit) (fun (_ : Unit) => ()) (fun (_ : Unit) => []) (fun (_ : Unit) => Mo.tt) (fun (_ : Unit) => Ow.emp) hS ?_ ?_
  · -- up to where ways meet
    clear hS
    intro k1 hS
    refine VC.block ?_
    refine VC.block ?_
    refine VC.block ?_
    refine VC.block ?_
    refine VC.cutJ (S := Unit) (fun (_ : Unit) => ()) (fun (_ : Unit) => []) (fun (_ : Unit) => Mo.tt) (fun (_ : Unit) => Ow.emp) hS ?_ ?_
    · -- up to where ways meet
      clear hS
      intro k2 hS
      refine VC.block ?_
      refine VC.block ?_
      refine VC.seq ?_
      refine VC.seq ?_
      refine VC.seq ?_
      refine VC.region ?_
      refine VL.q (q_seq rfl rfl) (by decide) ?_
      refine VL.q (q_assign rfl) (by decide) ?_
      refine VL.to (fun _ _ h => h) ?_
      refine VC.cond_dec rfl (fun h5 => ?_) (fun h5 => ?_)
      ·
        replace hS := it_t h5 hS
        refine VC.exit_mt () [] (fun _ _ h => h) hS rfl
      ·
        replace hS := it_f h5 hS
        refine VC.skip_to (fun _ _ h => h) ?_
        refine VC.seq ?_
        refine VC.seq ?_
        refine VC.region ?_
        refine VL.q (q_seq rfl rfl) (by decide) ?_
        refine VL.q (q_assign rfl) (by decide) ?_
        refine VL.to (fun _ _ h => h) ?_
        refine VC.cond_dec rfl (fun h7 => ?_) (fun h7 => ?_)
        ·
          replace hS := it_t h7 hS
          refine VC.exit_mt () [] (fun _ _ h => h) hS rfl
        ·
          replace hS := it_f h7 hS
          refine VC.skip_to (fun _ _ h => h) ?_
          refine VC.seq ?_
          refine VC.seq ?_
          refine VC.region ?_
          refine VL.q (q_seq rfl rfl) (by decide) ?_
          refine VL.q (q_assign rfl) (by decide) ?_
          refine VL.to (fun _ _ h => h) ?_
          refine VC.cond_dec rfl (fun h9 => ?_) (fun h9 => ?_)
          ·
            replace hS := it_t h9 hS
            refine VC.exit_mt () [] (fun _ _ h => h) hS rfl
          ·
            replace hS := it_f h9 hS
            refine VC.skip_to (fun _ _ h => h) ?_
            refine VC.seq ?_
            refine VC.seq ?_
            refine VC.region ?_
            refine VL.q (q_seq rfl rfl) (by decide) ?_
            refine VL.q (q_assign rfl) (by decide) ?_
            refine VL.to (fun _ _ h => h) ?_
            refine VC.keep [4, 11] rfl ?_
            refine VC.cond_dec rfl (fun h11 => ?_) (fun h11 => ?_)
            ·
              replace hS := it_t h11 hS
              refine VC.exit_mt () [] (fun _ _ h => h) hS rfl
            ·
              replace hS := it_f h11 hS
              refine VC.skip_to (fun _ _ h => h) ?_
              refine VC.seq ?_
              refine VC.seq ?_
              refine VC.region ?_
              refine VL.q (q_seq rfl rfl) (by decide) ?_
              refine VL.q (q_assign rfl) (by decide) ?_
              refine VL.to (fun _ _ h => h) ?_
              refine VC.cond_dec rfl (fun h13 => ?_) (fun h13 => ?_)
              ·
                replace hS := it_t h13 hS
                refine VC.exit_mt () [] (fun _ _ h => h) hS rfl
              ·
                replace hS := it_f h13 hS
                refine VC.skip_to (fun _ _ h => h) ?_
                refine VC.seq ?_
                refine VC.region ?_
                refine VL.q (q_seq rfl rfl) (by decide) ?_
                refine VL.q (q_assign rfl) (by decide) ?_
                refine VL.to (fun _ _ h => h) ?_
                refine VC.cond_dec rfl (fun h15 => ?_) (fun h15 => ?_)
                ·
                  replace hS := it_t h15 hS
                  refine VC.exit_mt () [] (fun _ _ h => h) hS rfl
                ·
                  replace hS := it_f h15 hS
                  refine VC.skip_to (fun _ _ h => h) ?_
                  refine VC.exit_to (fun _ _ h => h) ?_
                  refine VC.seq ?_
                  refine VC.region ?_
                  refine VL.q (q_assign rfl) (by decide) ?_
                  refine VL.q (q_assign rfl) (by decide) ?_
                  refine VL.to (fun _ _ h => h) ?_
                  cases hS
                  exact VC.ret (fin2 (.inr rfl) rfl rfl rfl () rfl trivial (fun _ _ => trivial) (fun _ _ => trivial))
    · -- from there
      clear hS
      rintro _ hS
      show VC _ _ _ _ _ [] (Mo.and Mo.tt _) (Ow.emp)
      refine VC.seq ?_
      refine VC.seq ?_
      refine VC.region ?_
      refine VL.q (q_assign rfl) (by decide) ?_
      refine VL.q (q_assign rfl) (by decide) ?_
      refine VL.to (fun _ _ h => h) ?_
      cases hS
      exact VC.ret (fin2 (.inr rfl) rfl rfl rfl () rfl trivial (fun _ _ => trivial) (fun _ _ => trivial))
  · -- from there
    clear hS
    rintro _ hS
    show VC _ _ _ _ _ [] (Mo.and Mo.tt _) (Ow.emp)
    refine VC.seq ?_
    refine VC.seq ?_
    refine VC.region ?_
    refine VL.q (q_assign rfl) (by decide) ?_
    refine VL.q (q_assign rfl) (by decide) ?_
    refine VL.to (fun _ _ h => h) ?_
    cases hS
    exact VC.ret (fin2 (.inr rfl) rfl rfl rfl () rfl trivial (fun _ _ => trivial) (fun _ _ => trivial))

set_option maxHeartbeats 4000000 in
set_option maxRecDepth 100000 in
theorem todo_number_ct (s_0 : Str) {r : Int × Bool} (hS : Sh.todo_number s_0 = some r) :
    Ct Tryd.prog 93 [str s_0] Mo.tt (Ow.emp) (X := Unit) (fun _ => .tuple #[i64 r.1, .bool r.2]) (fun _ => True) (fun _ => Mo.tt) (fun _ => Ow.emp) := by
  refine Ct.of Tryd.func93 rfl (by kernel_rfl) Tryd.ntmps93 (by simp) fun c => ?_
  unfold Sh.todo_number at hS
  refine VC.seq ?_
  refine VC.region ?_
  refine VL.q (q_assign rfl) (by decide) ?_
  refine VL.q (q_assign rfl) (by decide) ?_
  refine VL.to (fun _ _ h => h) ?_
  refine VC.seq ?_
  refine VC.cutJ (S := Bool) (fun (x18_1 : Bool) => x18_1) (fun (x18_1 : Bool) => [(0, str s_0), (18, .bool x18_1)]) (fun (x18_1 : Bool) => Mo.tt) (fun (x18_1 : Bool) => Ow.emp) hS ?_ ?_
  · -- up to where ways meet
    clear hS
    intro k2 hS
    refine VC.region ?_
    refine VL.q (q_move rfl) (by decide) ?_
    refine VL.q (q_seq rfl rfl) (by decide) ?_
    refine VL.q (q_move rfl) (by decide) ?_
    refine VL.split_dec 9 rfl (fun h9 => ?_) (fun h9 => ?_)
    ·
      replace hS := it_t h9 hS
      refine VL.gn rfl rfl rfl (by decide) ?_
      refine VL.gn rfl rfl rfl (by decide) ?_
      refine VL.gn rfl rfl rfl (by decide) ?_
      refine VL.q (q_pick_t rfl rfl) (by decide) ?_
      refine VL.q (q_move rfl) (by decide) ?_
      refine VL.gn rfl rfl rfl (by decide) ?_
      refine VL.gn rfl rfl rfl (by decide) ?_
      refine VL.gn rfl rfl rfl (by decide) ?_
      refine VL.q (q_pick_t rfl rfl) (by decide) ?_
      refine VL.mt true [0, 18] (fun _ _ h => h) hS rfl
    ·
      replace hS := it_f h9 hS
      refine VL.gy rfl rfl (q_move rfl) (by decide) ?_
      refine VL.gy rfl rfl (q_slen Tryd.underlying9 rfl) (by decide) ?_
      refine VL.gy rfl rfl (q_gtr rfl rfl) (by decide) ?_
      refine VL.q (q_pick_f rfl rfl) (by decide) ?_
      refine VL.q (q_move rfl) (by decide) ?_
      refine VL.split_dec 14 rfl (fun h14 => ?_) (fun h14 => ?_)
      ·
        replace hS := it_t h14 hS
        refine VL.gn rfl rfl rfl (by decide) ?_
        refine VL.gn rfl rfl rfl (by decide) ?_
        refine VL.gn rfl rfl rfl (by decide) ?_
        refine VL.q (q_pick_t rfl rfl) (by decide) ?_
        refine VL.mt true [0, 18] (fun _ _ h => h) hS rfl
      ·
        replace hS := it_f h14 hS
        refine VL.gy rfl rfl (q_move rfl) (by decide) ?_
        obtain ⟨z16_3, nz16_3, hz16_3, hS⟩ := at_s hS
        refine VL.gy rfl rfl (q_sidx Tryd.underlying9 rfl rfl nz16_3 hz16_3) (by decide) ?_
        refine VL.gy rfl rfl (q_eql rfl rfl) (by decide) ?_
        refine VL.q (q_pick_f rfl rfl) (by decide) ?_
        refine VL.mt (decide ((z16_3.toNat : Int) = 48)) [0, 18] (fun _ _ h => h) hS rfl
  · -- from there
    clear hS
    rintro x18_1 hS
    show VC _ _ _ _ _ [(0, str s_0), (18, .bool x18_1)] (Mo.and Mo.tt _) (Ow.emp)
    refine VC.cond rfl (fun h18 => ?_) (fun h18 => ?_)
    ·
      replace hS := it_t h18 hS
      refine VC.seq ?_
      refine VC.region ?_
      refine VL.q (q_assign rfl) (by decide) ?_
      refine VL.q (q_assign rfl) (by decide) ?_
      refine VL.to (fun _ _ h => h) ?_
      cases hS
      exact VC.ret (fin2 (.inr rfl) rfl rfl rfl () rfl trivial (fun _ _ => trivial) (fun _ _ => trivial))
    ·
      replace hS := it_b h18 hS
      refine VC.skip_to (fun _ _ h => h) ?_
      refine VC.seq ?_
      refine VC.region ?_
      refine VL.q (q_assign rfl) (by decide) ?_
      refine VL.to (fun _ _ h => h) ?_
      refine VC.seq ?_
      refine VC.seq ?_
      refine VC.region ?_
      refine VL.q (q_move rfl) (by decide) ?_
      obtain ⟨b20, hS⟩ := gd_s hS
      refine VL.s2b Tryd.underlying9 Tryd.underlying23 Tryd.underlying5 rfl b20 (by decide) fun s20_4 hs20_4 => ?_
      replace hS := lt_to hs20_4 hS
      refine VL.q (q_ln (s := s20_4) Tryd.underlying23 rfl) (by decide) ?_
      refine VL.q (q_move rfl) (by decide) ?_
      refine VL.to (fun _ _ h => h) ?_
      refine VC.block ?_
      refine VC.iter (S := Int × Int) (fun sg => (sg.1, sg.2)) (fun sg => [(4, i64 sg.1), (20, s20_4.val), (21, i64 (s20_4.l.length : Int)), (22, i64 sg.2)]) (fun sg => Mo.tt) (fun sg => Ow.emp) (0, 0) [4, 20, 21, 22] hS rfl ?_
      clear hS
      rintro ⟨n4_6, x22_7⟩ m1 y1 hS hK1
      show VC _ _ _ _ _ [(4, i64 n4_6), (20, s20_4.val), (21, i64 (s20_4.l.length : Int)), (22, i64 x22_7)] (Mo.and Mo.tt _) (Ow.emp)
      refine VC.seq ?_
      refine VC.region ?_
      refine VL.q (q_lss rfl rfl) (by decide) ?_
      refine VL.to (fun _ _ h => h) ?_
      refine VC.seq ?_
      refine VC.cond_dec rfl (fun h23 => ?_) (fun h23 => ?_)
      ·
        replace hS := it_t h23 hS
        refine VC.skip_to (fun _ _ h => h) ?_
        refine VC.seq ?_
        refine VC.block ?_
        refine VC.seq ?_
        refine VC.region ?_
        obtain ⟨z24_8, nz24_8, hz24_8, hS⟩ := at_s hS
        refine VL.q (q_ixm (s := s20_4) Tryd.underlying23 gsz5 rfl rfl nz24_8 (lt_of_get nz24_8 hz24_8)) (by decide) ?_
        refine VL.q (q_el (s := s20_4) gone5 rfl hz24_8 rfl) (by decide) ?_
        refine VL.q (q_assign rfl) (by decide) ?_
        refine VL.to (fun _ _ h => h) ?_
        refine VC.seq ?_
        refine VC.cutJ (S := Bool) (fun (x31_9 : Bool) => x31_9) (fun (x31_9 : Bool) => [(4, i64 n4_6), (6, .int .u8 (z24_8.toNat : Int)), (20, s20_4.val), (21, i64 (s20_4.l.length : Int)), (22, i64 x22_7), (31, .bool x31_9)]) (fun (x31_9 : Bool) => Mo.tt) (fun (x31_9 : Bool) => Ow.emp) hS ?_ ?_
        · -- up to where ways meet
          clear hS
          intro k10 hS
          refine VC.region ?_
          refine VL.q (q_move rfl) (by decide) ?_
          refine VL.q (q_lss rfl rfl) (by decide) ?_
          refine VL.q (q_move rfl) (by decide) ?_
          refine VL.split_dec 28 rfl (fun h28 => ?_) (fun h28 => ?_)
          ·
            replace hS := it_t h28 hS
            refine VL.gn rfl rfl rfl (by decide) ?_
            refine VL.gn rfl rfl rfl (by decide) ?_
            refine VL.q (q_pick_t rfl rfl) (by decide) ?_
            refine VL.mt true [4, 6, 20, 21, 22, 31] (fun _ _ h => h) hS rfl
          ·
            replace hS := it_f h28 hS
            refine VL.gy rfl rfl (q_move rfl) (by decide) ?_
            refine VL.gy rfl rfl (q_gtr rfl rfl) (by decide) ?_
            refine VL.q (q_pick_f rfl rfl) (by decide) ?_
            refine VL.mt (decide (57 < (z24_8.toNat : Int))) [4, 6, 20, 21, 22, 31] (fun _ _ h => h) hS rfl
        · -- from there
          clear hS
          rintro x31_9 hS
          show VC _ _ _ _ _ [(4, i64 n4_6), (6, .int .u8 (z24_8.toNat : Int)), (20, s20_4.val), (21, i64 (s20_4.l.length : Int)), (22, i64 x22_7), (31, .bool x31_9)] (Mo.and Mo.tt _) (Ow.emp)
          refine VC.cond rfl (fun h31 => ?_) (fun h31 => ?_)
          ·
            replace hS := it_t h31 hS
            refine VC.seq ?_
            refine VC.region ?_
            refine VL.q (q_assign rfl) (by decide) ?_
            refine VL.q (q_assign rfl) (by decide) ?_
            refine VL.to (fun _ _ h => h) ?_
            replace hS := up2 hS hK1
            cases hS
            exact VC.ret (fin2 (.inr rfl) rfl rfl rfl () rfl trivial (fun _ _ => trivial) (fun _ _ => trivial))
          ·
            replace hS := it_b h31 hS
            refine VC.skip_to (fun _ _ h => h) ?_
            refine VC.region ?_
            refine VL.q (q_move rfl) (by decide) ?_
            obtain ⟨b33, hS⟩ := gd_s hS
            refine VL.q (q_mul rfl rfl b33) (by decide) ?_
            refine VL.q (q_move rfl) (by decide) ?_
            obtain ⟨b35, hS⟩ := gd_s hS
            refine VL.q (q_subW rfl rfl (wu8_in b35)) (by decide) ?_
            refine VL.q (q_convW Tryd.underlying5 Tryd.underlying3 rfl) (by decide) ?_
            obtain ⟨b37, hS⟩ := gd_s hS
            refine VL.q (q_add rfl rfl b37) (by decide) ?_
            refine VL.q (q_assign rfl) (by decide) ?_
            refine VL.to (fun _ _ h => h) ?_
            refine VC.keep [4, 20, 21, 22] rfl ?_
            refine VC.region ?_
            obtain ⟨b38, hS⟩ := gd_s hS
            refine VL.q (q_add rfl rfl b38) (by decide) ?_
            refine VL.q (q_move rfl) (by decide) ?_
            refine VL.rnd (((10 * n4_6) + (IntKind.wrap .i64 ((z24_8.toNat : Int) - 48))), (x22_7 + 1)) [4, 20, 21, 22] (fun _ _ h => h) (go2 hS hK1) rfl
      ·
        replace hS := it_f h23 hS
        replace hS := up2 hS hK1
        refine VC.exit_to (fun _ _ h => h) ?_
        refine VC.seq ?_
        refine VC.region ?_
        refine VL.q (q_move rfl) (by decide) ?_
        refine VL.q (q_move rfl) (by decide) ?_
        refine VL.q (q_leq rfl rfl) (by decide) ?_
        refine VL.q (q_assign rfl) (by decide) ?_
        refine VL.q (q_assign rfl) (by decide) ?_
        refine VL.to (fun _ _ h => h) ?_
        cases hS
        exact VC.ret (fin2 (.inr rfl) rfl rfl rfl () rfl trivial (fun _ _ => trivial) (fun _ _ => trivial))

set_option maxHeartbeats 4000000 in
set_option maxRecDepth 100000 in
theorem todo_line_ct (a_0 : Str) {r : TodoStep × Int} (hS : Sh.todo_line a_0 = some r) :
    Ct Tryd.prog 46 [str a_0] Mo.tt (Ow.emp) (X := Unit) (fun _ => .tuple #[.agg #[str r.1.verb, i64 r.1.commit, str r.1.text], i64 r.2]) (fun _ => True) (fun _ => Mo.tt) (fun _ => Ow.emp) := by
  refine Ct.of Tryd.func46 rfl (by kernel_rfl) Tryd.ntmps46 (by simp) fun c => ?_
  unfold Sh.todo_line at hS
  refine VC.seq ?_
  refine VC.region ?_
  refine VL.alloc (cs := [str [], i64 0, str []]) (by kernel_rfl) (by decide) fun b2_1 => ?_
  refine VL.q (q_assign rfl) (by decide) ?_
  refine VL.to (fun _ _ h => h) ?_
  refine VC.seq ?_
  refine VC.region ?_
  refine VL.q (q_move rfl) (by decide) ?_
  obtain ⟨y15_2, ey15_2, hS⟩ := bd_s hS
  refine VL.q (q_call (todo_cut_ct a_0 ey15_2) rfl (fun _ _ => rfl)) (by decide) ?_
  refine VL.q (q_move rfl) (by decide) ?_
  refine VL.q (q_extract rfl rfl) (by decide) ?_
  refine VL.q (q_extract rfl rfl) (by decide) ?_
  refine VL.q (q_assign rfl) (by decide) ?_
  refine VL.q (q_assign rfl) (by decide) ?_
  refine VL.to (fun _ _ h => h) ?_
  refine VC.seq ?_
  refine VC.seq ?_
  refine VC.region ?_
  refine VL.q (q_move rfl) (by decide) ?_
  obtain ⟨y19_3, ey19_3, hS⟩ := bd_s hS
  refine VL.q (q_call (strings_Trim_ct y15_2.2 [32] ey19_3) rfl (fun _ _ => rfl)) (by decide) ?_
  refine VL.q (q_seq rfl rfl) (by decide) ?_
  refine VL.to (fun _ _ h => h) ?_
  refine VC.keep [2, 4, 5, 20] rfl ?_
  refine VC.cond_dec rfl (fun h20 => ?_) (fun h20 => ?_)
  ·
    replace hS := it_t h20 hS
    refine VC.seq ?_
    refine VC.region ?_
    refine VL.q (q_build (vs := []) (cs := #[str [], i64 0, str []]) rfl (by kernel_rfl)) (by decide) ?_
    refine VL.store (vc := [str [], i64 0, str []]) (cs' := [str [], i64 0, str []]) rfl rfl rfl gsz26 rfl rfl (Nat.le_of_ble_eq_true rfl) rfl ?_
    refine VL.q (q_assign rfl) (by decide) ?_
    refine VL.to (fun _ _ h => h) ?_
    cases hS
    exact VC.ret (finG (vs := [.agg #[str [], i64 0, str []], i64 2]) (.inr rfl) rfl (RVs.cell gagg26 rfl rfl Rd.blk (RVs.tmp rfl (RVs.nil))) () rfl trivial (by (try dsimp only); exact InM.out) (fun _ _ => trivial))
  ·
    replace hS := it_f h20 hS
    refine VC.skip_to (fun _ _ h => h) ?_
    refine VC.seq ?_
    refine VC.seq ?_
    refine VC.region ?_
    refine VL.q (q_move rfl) (by decide) ?_
    obtain ⟨y24_4, ey24_4, hS⟩ := bd_s hS
    refine VL.q (q_call (todo_verb_ct y15_2.1 ey24_4) rfl (fun _ _ => rfl)) (by decide) ?_
    refine VL.q (q_move rfl) (by decide) ?_
    refine VL.q (q_extract rfl rfl) (by decide) ?_
    refine VL.q (q_extract rfl rfl) (by decide) ?_
    refine VL.q (q_assign rfl) (by decide) ?_
    refine VL.q (q_assign rfl) (by decide) ?_
    refine VL.to (fun _ _ h => h) ?_
    refine VC.keep [2, 4, 5, 6] rfl ?_
    refine VC.seq ?_
    refine VC.region ?_
    refine VL.q (q_move rfl) (by decide) ?_
    refine VL.q (q_not rfl) (by decide) ?_
    refine VL.to (fun _ _ h => h) ?_
    refine VC.cond rfl (fun h28 => ?_) (fun h28 => ?_)
    ·
      replace hS := it_t h28 hS
      refine VC.seq ?_
      refine VC.region ?_
      refine VL.q (q_build (vs := []) (cs := #[str [], i64 0, str []]) rfl (by kernel_rfl)) (by decide) ?_
      refine VL.store (vc := [str [], i64 0, str []]) (cs' := [str [], i64 0, str []]) rfl rfl rfl gsz26 rfl rfl (Nat.le_of_ble_eq_true rfl) rfl ?_
      refine VL.q (q_assign rfl) (by decide) ?_
      refine VL.to (fun _ _ h => h) ?_
      cases hS
      exact VC.ret (finG (vs := [.agg #[str [], i64 0, str []], i64 5]) (.inr rfl) rfl (RVs.cell gagg26 rfl rfl Rd.blk (RVs.tmp rfl (RVs.nil))) () rfl trivial (by (try dsimp only); exact InM.out) (fun _ _ => trivial))
    ·
      replace hS := it_b h28 hS
      refine VC.skip_to (fun _ _ h => h) ?_
      refine VC.seq ?_
      refine VC.region ?_
      refine VL.q (q_move rfl) (by decide) ?_
      obtain ⟨y32_5, ey32_5, hS⟩ := bd_s hS
      refine VL.q (q_call (strings_Cut_ct y15_2.2 [32] ey32_5) rfl (fun _ _ => rfl)) (by decide) ?_
      refine VL.q (q_move rfl) (by decide) ?_
      refine VL.q (q_extract rfl rfl) (by decide) ?_
      refine VL.q (q_extract rfl rfl) (by decide) ?_
      refine VL.q (q_extract rfl rfl) (by decide) ?_
      refine VL.q (q_assign rfl) (by decide) ?_
      refine VL.q (q_assign rfl) (by decide) ?_
      refine VL.q (q_assign rfl) (by decide) ?_
      refine VL.to (fun _ _ h => h) ?_
      refine VC.keep [2, 4, 8, 9, 10] rfl ?_
      refine VC.seq ?_
      refine VC.region ?_
      refine VL.q (q_move rfl) (by decide) ?_
      obtain ⟨y38_6, ey38_6, hS⟩ := bd_s hS
      refine VL.q (q_call (todo_number_ct y32_5.1 ey38_6) rfl (fun _ _ => rfl)) (by decide) ?_
      refine VL.q (q_move rfl) (by decide) ?_
      refine VL.q (q_extract rfl rfl) (by decide) ?_
      refine VL.q (q_extract rfl rfl) (by decide) ?_
      refine VL.q (q_assign rfl) (by decide) ?_
      refine VL.q (q_assign rfl) (by decide) ?_
      refine VL.to (fun _ _ h => h) ?_
      refine VC.seq ?_
      refine VC.seq ?_
      refine VC.region ?_
      refine VL.q (q_move rfl) (by decide) ?_
      refine VL.q (q_not rfl) (by decide) ?_
      refine VL.to (fun _ _ h => h) ?_
      refine VC.keep [2, 4, 9, 10, 11, 42] rfl ?_
      refine VC.cond rfl (fun h42 => ?_) (fun h42 => ?_)
      ·
        replace hS := it_t h42 hS
        refine VC.seq ?_
        refine VC.region ?_
        refine VL.q (q_build (vs := []) (cs := #[str [], i64 0, str []]) rfl (by kernel_rfl)) (by decide) ?_
        refine VL.store (vc := [str [], i64 0, str []]) (cs' := [str [], i64 0, str []]) rfl rfl rfl gsz26 rfl rfl (Nat.le_of_ble_eq_true rfl) rfl ?_
        refine VL.q (q_assign rfl) (by decide) ?_
        refine VL.to (fun _ _ h => h) ?_
        cases hS
        exact VC.ret (finG (vs := [.agg #[str [], i64 0, str []], i64 1]) (.inr rfl) rfl (RVs.cell gagg26 rfl rfl Rd.blk (RVs.tmp rfl (RVs.nil))) () rfl trivial (by (try dsimp only); exact InM.out) (fun _ _ => trivial))
      ·
        replace hS := it_b h42 hS
        refine VC.skip_to (fun _ _ h => h) ?_
        refine VC.cutJ (S := Str) (fun (x9_7 : Str) => x9_7) (fun (x9_7 : Str) => [(2, ptr b2_1 0), (4, str y15_2.1), (9, str x9_7), (11, i64 y38_6.1)]) (fun (x9_7 : Str) => Mo.tt) (fun (x9_7 : Str) => Ow.star (Blk b2_1 [str [], i64 0, str []] 26) (Ow.emp)) hS ?_ ?_
        · -- up to where ways meet
          clear hS
          intro k8 hS
          refine VC.seq ?_
          refine VC.region ?_
          refine VL.q (q_move rfl) (by decide) ?_
          refine VL.to (fun _ _ h => h) ?_
          refine VC.block ?_
          refine VC.seq ?_
          refine VC.region ?_
          refine VL.q (q_seq rfl rfl) (by decide) ?_
          refine VL.q (q_assign rfl) (by decide) ?_
          refine VL.to (fun _ _ h => h) ?_
          refine VC.cond_dec rfl (fun h49 => ?_) (fun h49 => ?_)
          ·
            replace hS := it_t h49 hS
            refine VC.seq ?_
            refine VC.cutJ (S := Bool) (fun (x56_9 : Bool) => x56_9) (fun (x56_9 : Bool) => [(2, ptr b2_1 0), (4, str y15_2.1), (9, str y32_5.2.1), (11, i64 y38_6.1), (56, .bool x56_9)]) (fun (x56_9 : Bool) => Mo.tt) (fun (x56_9 : Bool) => Ow.star (Blk b2_1 [str [], i64 0, str []] 26) (Ow.emp)) hS ?_ ?_
            · -- up to where ways meet
              clear hS
              intro k10 hS
              refine VC.region ?_
              refine VL.q (q_move rfl) (by decide) ?_
              refine VL.q (q_not rfl) (by decide) ?_
              refine VL.q (q_move rfl) (by decide) ?_
              refine VL.split 53 rfl (fun h53 => ?_) (fun h53 => ?_)
              ·
                replace hS := it_t h53 hS
                refine VL.gn rfl rfl rfl (by decide) ?_
                refine VL.gn rfl rfl rfl (by decide) ?_
                refine VL.q (q_pick_t rfl rfl) (by decide) ?_
                refine VL.mt true [2, 4, 9, 11, 56] (fun _ _ h => h) hS rfl
              ·
                replace hS := it_b h53 hS
                refine VL.gy rfl rfl (q_move rfl) (by decide) ?_
                refine VL.gy rfl rfl (q_seq rfl rfl) (by decide) ?_
                refine VL.q (q_pick_f rfl rfl) (by decide) ?_
                refine VL.mt (decide (y32_5.2.1 = [])) [2, 4, 9, 11, 56] (fun _ _ h => h) hS rfl
            · -- from there
              clear hS
              rintro x56_9 hS
              show VC _ _ _ _ _ [(2, ptr b2_1 0), (4, str y15_2.1), (9, str y32_5.2.1), (11, i64 y38_6.1), (56, .bool x56_9)] (Mo.and Mo.tt _) (Ow.star (Blk b2_1 [str [], i64 0, str []] 26) (Ow.emp))
              refine VC.cond rfl (fun h56 => ?_) (fun h56 => ?_)
              ·
                replace hS := it_t h56 hS
                refine VC.seq ?_
                refine VC.region ?_
                refine VL.q (q_build (vs := []) (cs := #[str [], i64 0, str []]) rfl (by kernel_rfl)) (by decide) ?_
                refine VL.store (vc := [str [], i64 0, str []]) (cs' := [str [], i64 0, str []]) rfl rfl rfl gsz26 rfl rfl (Nat.le_of_ble_eq_true rfl) rfl ?_
                refine VL.q (q_assign rfl) (by decide) ?_
                refine VL.to (fun _ _ h => h) ?_
                cases hS
                exact VC.ret (finG (vs := [.agg #[str [], i64 0, str []], i64 2]) (.inr rfl) rfl (RVs.cell gagg26 rfl rfl Rd.blk (RVs.tmp rfl (RVs.nil))) () rfl trivial (by (try dsimp only); exact InM.out) (fun _ _ => trivial))
              ·
                replace hS := it_b h56 hS
                refine VC.skip_to (fun _ _ h => h) ?_
                refine VC.seq ?_
                refine VC.region ?_
                refine VL.q (q_move rfl) (by decide) ?_
                refine VL.q (q_slen Tryd.underlying9 rfl) (by decide) ?_
                refine VL.q (q_gtr rfl rfl) (by decide) ?_
                refine VL.to (fun _ _ h => h) ?_
                refine VC.cond_dec rfl (fun h60 => ?_) (fun h60 => ?_)
                ·
                  replace hS := it_t h60 hS
                  refine VC.seq ?_
                  refine VC.region ?_
                  refine VL.q (q_build (vs := []) (cs := #[str [], i64 0, str []]) rfl (by kernel_rfl)) (by decide) ?_
                  refine VL.store (vc := [str [], i64 0, str []]) (cs' := [str [], i64 0, str []]) rfl rfl rfl gsz26 rfl rfl (Nat.le_of_ble_eq_true rfl) rfl ?_
                  refine VL.q (q_assign rfl) (by decide) ?_
                  refine VL.to (fun _ _ h => h) ?_
                  cases hS
                  exact VC.ret (finG (vs := [.agg #[str [], i64 0, str []], i64 4]) (.inr rfl) rfl (RVs.cell gagg26 rfl rfl Rd.blk (RVs.tmp rfl (RVs.nil))) () rfl trivial (by (try dsimp only); exact InM.out) (fun _ _ => trivial))
                ·
                  replace hS := it_f h60 hS
                  refine VC.skip_mt y32_5.2.1 [2, 4, 9, 11] (fun _ _ h => h) hS rfl
          ·
            replace hS := it_f h49 hS
            refine VC.seq ?_
            refine VC.seq ?_
            refine VC.region ?_
            refine VL.q (q_move rfl) (by decide) ?_
            obtain ⟨y46_11, ey46_11, hS⟩ := bd_s hS
            refine VL.q (q_call (strings_Trim_ct y32_5.2.1 [32] ey46_11) rfl (fun _ _ => rfl)) (by decide) ?_
            refine VL.q (q_sne rfl rfl) (by decide) ?_
            refine VL.to (fun _ _ h => h) ?_
            refine VC.keep [2, 4, 11, 47] rfl ?_
            refine VC.cond_ndec rfl (fun h47 => ?_) (fun h47 => ?_)
            ·
              replace hS := it_f h47 hS
              refine VC.seq ?_
              refine VC.region ?_
              refine VL.q (q_build (vs := []) (cs := #[str [], i64 0, str []]) rfl (by kernel_rfl)) (by decide) ?_
              refine VL.store (vc := [str [], i64 0, str []]) (cs' := [str [], i64 0, str []]) rfl rfl rfl gsz26 rfl rfl (Nat.le_of_ble_eq_true rfl) rfl ?_
              refine VL.q (q_assign rfl) (by decide) ?_
              refine VL.to (fun _ _ h => h) ?_
              cases hS
              exact VC.ret (finG (vs := [.agg #[str [], i64 0, str []], i64 2]) (.inr rfl) rfl (RVs.cell gagg26 rfl rfl Rd.blk (RVs.tmp rfl (RVs.nil))) () rfl trivial (by (try dsimp only); exact InM.out) (fun _ _ => trivial))
            ·
              replace hS := it_t h47 hS
              refine VC.skip_to (fun _ _ h => h) ?_
              refine VC.region ?_
              refine VL.q (q_assign rfl) (by decide) ?_
              refine VL.mt [] [2, 4, 9, 11] (fun _ _ h => h) hS rfl
        · -- from there
          clear hS
          rintro x9_7 hS
          show VC _ _ _ _ _ [(2, ptr b2_1 0), (4, str y15_2.1), (9, str x9_7), (11, i64 y38_6.1)] (Mo.and Mo.tt _) (Ow.star (Blk b2_1 [str [], i64 0, str []] 26) (Ow.emp))
          refine VC.seq ?_
          refine VC.region ?_
          refine VL.q (q_move rfl) (by decide) ?_
          refine VL.q (q_move rfl) (by decide) ?_
          refine VL.q (q_move rfl) (by decide) ?_
          refine VL.q (q_build (vs := [(0, str y15_2.1), (1, i64 y38_6.1), (2, str x9_7)]) (cs := #[str y15_2.1, i64 y38_6.1, str x9_7]) rfl (by kernel_rfl)) (by decide) ?_
          refine VL.store (vc := [str y15_2.1, i64 y38_6.1, str x9_7]) (cs' := [str y15_2.1, i64 y38_6.1, str x9_7]) rfl rfl rfl gsz26 rfl rfl (Nat.le_of_ble_eq_true rfl) rfl ?_
          refine VL.q (q_assign rfl) (by decide) ?_
          refine VL.to (fun _ _ h => h) ?_
          cases hS
          exact VC.ret (finG (vs := [.agg #[str y15_2.1, i64 y38_6.1, str x9_7], i64 0]) (.inr rfl) rfl (RVs.cell gagg26 rfl rfl Rd.blk (RVs.tmp rfl (RVs.nil))) () rfl trivial (by (try dsimp only); exact InM.out) (fun _ _ => trivial))

set_option maxHeartbeats 4000000 in
set_option maxRecDepth 100000 in
theorem slices_Clip_todo_Step_todo_Step_ct (s_0 : Sv TodoStep) {r : List TodoStep} (hS : Sh.slices_Clip_todo_Step_todo_Step s_0.l = some r) :
    Ct Tryd.prog 47 [s_0.val] s_0.ok (Ow.emp) (X := Sv TodoStep) (fun x => x.val) (fun x => r = x.l) (fun x => x.ok) (fun x => Ow.emp) := by
  refine Ct.of Tryd.func47 rfl (by kernel_rfl) Tryd.ntmps47 (by simp) fun c => ?_
  unfold Sh.slices_Clip_todo_Step_todo_Step at hS
  refine VC.seq ?_
  refine VC.region ?_
  refine VL.q (q_assign rfl) (by decide) ?_
  refine VL.to (fun _ _ h => h) ?_
  refine VC.seq ?_
  refine VC.region ?_
  refine VL.q (q_move rfl) (by decide) ?_
  refine VL.q (q_move rfl) (by decide) ?_
  refine VL.q (q_ln (s := s_0) Tryd.underlying22 rfl) (by decide) ?_
  refine VL.q (q_move rfl) (by decide) ?_
  refine VL.q (q_ln (s := s_0) Tryd.underlying22 rfl) (by decide) ?_
  obtain ⟨b8, hS⟩ := gd_s hS
  refine VL.stom Tryd.underlying22 gsz26 rfl rfl rfl b8.1 (b8.2) (by decide) fun s8_1 hs8_1 => ?_
  replace hS := lt_to hs8_1 hS
  refine VL.q (q_assign rfl) (by decide) ?_
  refine VL.to (fun _ _ h => h) ?_
  cases hS
  exact VC.ret (fin1 (.inr rfl) rfl rfl s8_1 rfl rfl (by (try dsimp only); exact InM.out) (fun _ _ => trivial))

set_option maxHeartbeats 4000000 in
set_option maxRecDepth 100000 in
theorem todo_Parse_ct (s_0 : Str) {r : List TodoStep × Err} (hS : Sh.todo_Parse s_0 = some r) :
    Ct Tryd.prog 11 [str s_0] Mo.tt (Ow.emp) (X := Sv TodoStep × Er) (fun x => .tuple #[x.1.val, x.2.val]) (fun x => r = (x.1.l, x.2.pl)) (fun x => (x.1.ok.and x.2.ok)) (fun x => Ow.emp) := by
  refine Ct.of Tryd.func11 rfl (by kernel_rfl) Tryd.ntmps11 (by simp) fun c => ?_
  unfold Sh.todo_Parse at hS
  refine VC.seq ?_
  refine VC.region ?_
  refine VL.q (q_assign rfl) (by decide) ?_
  refine VL.q (q_assign rfl) (by decide) ?_
  refine VL.to (fun _ _ h => h) ?_
  refine VC.seq ?_
  refine VC.region ?_
  refine VL.q (q_assign rfl) (by decide) ?_
  refine VL.to (fun _ _ h => h) ?_
  refine VC.seq ?_
  refine VC.seq ?_
  refine VC.region ?_
  refine VL.q (q_move rfl) (by decide) ?_
  obtain ⟨y10_1, ey10_1, hS⟩ := bd_s hS
  refine VL.callF (strings_Split_ct s_0 [10] ey10_1) rfl (by decide) ?_
  rintro q10_1_0 rfl
  try dsimp only
  refine VL.q (q_ln (s := q10_1_0) Tryd.underlying38 rfl) (by decide) ?_
  refine VL.q (q_move rfl) (by decide) ?_
  refine VL.to (fun _ _ h => h) ?_
  refine VC.block ?_
  refine VC.nilO (⟨none, 0, []⟩ : Sv TodoStep) 26 ⟨rfl, rfl⟩ ?_
  refine VC.iter (S := Sv TodoStep × Int) (fun sg => (sg.1.l, sg.2)) (fun sg => [(4, sg.1.val), (10, q10_1_0.val), (11, i64 (q10_1_0.l.length : Int)), (12, i64 sg.2)]) (fun sg => Mo.tt) (fun sg => Ow.star (Sv.own sg.1 26) (Ow.emp)) (⟨none, 0, []⟩, 0) [4, 10, 11, 12] hS rfl ?_
  clear hS
  rintro ⟨out4_2, x12_3⟩ m1 y1 hS hK1
  show VC _ _ _ _ _ [(4, out4_2.val), (10, q10_1_0.val), (11, i64 (q10_1_0.l.length : Int)), (12, i64 x12_3)] (Mo.and Mo.tt _) (Ow.star (Sv.own out4_2 26) (Ow.emp))
  refine VC.seq ?_
  refine VC.region ?_
  refine VL.q (q_lss rfl rfl) (by decide) ?_
  refine VL.to (fun _ _ h => h) ?_
  refine VC.seq ?_
  refine VC.cond_dec rfl (fun h13 => ?_) (fun h13 => ?_)
  ·
    replace hS := it_t h13 hS
    refine VC.skip_to (fun _ _ h => h) ?_
    refine VC.seq ?_
    refine VC.block ?_
    refine VC.seq ?_
    refine VC.region ?_
    refine VL.q (q_move rfl) (by decide) ?_
    obtain ⟨z15_4, nz15_4, hz15_4, hS⟩ := at_s hS
    refine VL.q (q_ixm (s := q10_1_0) Tryd.underlying38 gsz9 rfl rfl nz15_4 (lt_of_get nz15_4 hz15_4)) (by decide) ?_
    refine VL.q (q_el (s := q10_1_0) gone9 rfl hz15_4 rfl) (by decide) ?_
    refine VL.q (q_assign rfl) (by decide) ?_
    refine VL.q (q_assign rfl) (by decide) ?_
    refine VL.to (fun _ _ h => h) ?_
    refine VC.seq ?_
    refine VC.region ?_
    refine VL.q (q_move rfl) (by decide) ?_
    obtain ⟨y18_5, ey18_5, hS⟩ := bd_s hS
    refine VL.q (q_call (strings_TrimLeft_ct z15_4 [32] ey18_5) rfl (fun _ _ => rfl)) (by decide) ?_
    refine VL.q (q_assign rfl) (by decide) ?_
    refine VL.to (fun _ _ h => h) ?_
    refine VC.seq ?_
    refine VC.seq ?_
    refine VC.region ?_
    refine VL.q (q_move rfl) (by decide) ?_
    refine VL.q (q_seq rfl rfl) (by decide) ?_
    refine VL.q (q_move rfl) (by decide) ?_
    refine VL.split_dec 21 rfl (fun h21 => ?_) (fun h21 => ?_)
    ·
      replace hS := it_t h21 hS
      refine VL.gn rfl rfl rfl (by decide) ?_
      refine VL.gn rfl rfl rfl (by decide) ?_
      refine VL.gn rfl rfl rfl (by decide) ?_
      refine VL.q (q_pick_t rfl rfl) (by decide) ?_
      refine VL.to (fun _ _ h => h) ?_
      refine VC.keep [4, 10, 11, 12, 5, 6, 25] rfl ?_
      refine VC.cond_t rfl ?_
      refine VC.exit_to (fun _ _ h => h) ?_
      refine VC.region ?_
      obtain ⟨b50, hS⟩ := gd_s hS
      refine VL.q (q_add rfl rfl b50) (by decide) ?_
      refine VL.q (q_move rfl) (by decide) ?_
      refine VL.rnd (out4_2, (x12_3 + 1)) [4, 10, 11, 12] (fun _ _ h => h) (go2 hS hK1) rfl
    ·
      replace hS := it_f h21 hS
      refine VL.gy rfl rfl (q_move rfl) (by decide) ?_
      obtain ⟨z23_6, nz23_6, hz23_6, hS⟩ := at_s hS
      refine VL.gy rfl rfl (q_sidx Tryd.underlying9 rfl rfl nz23_6 hz23_6) (by decide) ?_
      refine VL.gy rfl rfl (q_eql rfl rfl) (by decide) ?_
      refine VL.q (q_pick_f rfl rfl) (by decide) ?_
      refine VL.to (fun _ _ h => h) ?_
      refine VC.keep [4, 10, 11, 12, 5, 6, 25] rfl ?_
      refine VC.cond_dec rfl (fun h25 => ?_) (fun h25 => ?_)
      ·
        replace hS := it_t h25 hS
        refine VC.exit_to (fun _ _ h => h) ?_
        refine VC.region ?_
        obtain ⟨b50, hS⟩ := gd_s hS
        refine VL.q (q_add rfl rfl b50) (by decide) ?_
        refine VL.q (q_move rfl) (by decide) ?_
        refine VL.rnd (out4_2, (x12_3 + 1)) [4, 10, 11, 12] (fun _ _ h => h) (go2 hS hK1) rfl
      ·
        replace hS := it_f h25 hS
        refine VC.skip_to (fun _ _ h => h) ?_
        refine VC.seq ?_
        refine VC.region ?_
        refine VL.q (q_move rfl) (by decide) ?_
        obtain ⟨y28_7, ey28_7, hS⟩ := bd_s hS
        refine VL.q (q_call (todo_line_ct y18_5 ey28_7) rfl (fun _ _ => rfl)) (by decide) ?_
        refine VL.q (q_move rfl) (by decide) ?_
        refine VL.q (q_extract rfl rfl) (by decide) ?_
        refine VL.q (q_extract rfl rfl) (by decide) ?_
        refine VL.alloc (cs := [str [], i64 0, str []]) (by kernel_rfl) (by decide) fun b7_8 => ?_
        refine VL.store (vc := [str y28_7.1.verb, i64 y28_7.1.commit, str y28_7.1.text]) (cs' := [str y28_7.1.verb, i64 y28_7.1.commit, str y28_7.1.text]) rfl rfl rfl gsz26 rfl rfl (Nat.le_of_ble_eq_true rfl) rfl ?_
        refine VL.q (q_assign rfl) (by decide) ?_
        refine VL.to (fun _ _ h => h) ?_
        refine VC.keep [4, 10, 11, 12, 5, 7, 8] rfl ?_
        refine VC.seq ?_
        refine VC.seq ?_
        refine VC.region ?_
        refine VL.q (q_move rfl) (by decide) ?_
        refine VL.q (q_neq rfl rfl) (by decide) ?_
        refine VL.to (fun _ _ h => h) ?_
        refine VC.cond_ndec rfl (fun h32 => ?_) (fun h32 => ?_)
        ·
          replace hS := it_f h32 hS
          refine VC.seq ?_
          refine VC.region ?_
          refine VL.q (q_move rfl) (by decide) ?_
          refine VL.q (q_move rfl) (by decide) ?_
          refine VL.q (q_mkif Tryd.underlying90 (fun _ h => by cases h) rfl) (by decide) ?_
          refine VL.q (q_build (vs := [(0, str [108, 105, 110, 101]), (1, i64 x12_3), (2, (Er.no y28_7.2).val)]) (cs := #[str [108, 105, 110, 101], i64 x12_3, (Er.no y28_7.2).val]) rfl (by kernel_rfl)) (by decide) ?_
          refine VL.box (cs := [str [108, 105, 110, 101], i64 x12_3, (Er.no y28_7.2).val]) rfl rfl (by decide) fun b37_9 => ?_
          refine VL.shutB b37_9 ?_
          refine VL.q (q_mkif Tryd.underlying93 (fun _ h => by cases h) rfl) (by decide) ?_
          refine VL.q (q_assign rfl) (by decide) ?_
          refine VL.q (q_assign rfl) (by decide) ?_
          refine VL.to (fun _ _ h => h) ?_
          refine VC.keep [2, 3] rfl ?_
          replace hS := up2 hS hK1
          cases hS
          exact VC.ret (fin2 (.inr rfl) rfl rfl rfl (⟨none, 0, []⟩, (Er.fault b37_9 [108, 105, 110, 101] x12_3 (Er.no y28_7.2))) rfl rfl (by (try dsimp only); exact InM.out) (fun _ _ => trivial))
        ·
          replace hS := it_t h32 hS
          refine VC.skip_to (fun _ _ h => h) ?_
          refine VC.seq ?_
          refine VC.seq ?_
          refine VC.region ?_
          refine VL.q (q_move rfl) (by decide) ?_
          refine VL.q (q_ln (s := out4_2) Tryd.underlying22 rfl) (by decide) ?_
          refine VL.q (q_eql rfl rfl) (by decide) ?_
          refine VL.to (fun _ _ h => h) ?_
          refine VC.cond_dec rfl (fun h41 => ?_) (fun h41 => ?_)
          ·
            replace hS := it_t h41 hS
            refine VC.seq ?_
            refine VC.region ?_
            refine VL.q (q_mkif Tryd.underlying90 (fun _ h => by cases h) rfl) (by decide) ?_
            refine VL.q (q_build (vs := [(0, str [108, 105, 110, 101]), (1, i64 32), (2, (Er.no 4).val)]) (cs := #[str [108, 105, 110, 101], i64 32, (Er.no 4).val]) rfl (by kernel_rfl)) (by decide) ?_
            refine VL.box (cs := [str [108, 105, 110, 101], i64 32, (Er.no 4).val]) rfl rfl (by decide) fun b44_10 => ?_
            refine VL.shutB b44_10 ?_
            refine VL.q (q_mkif Tryd.underlying93 (fun _ h => by cases h) rfl) (by decide) ?_
            refine VL.q (q_assign rfl) (by decide) ?_
            refine VL.q (q_assign rfl) (by decide) ?_
            refine VL.to (fun _ _ h => h) ?_
            refine VC.keep [2, 3] rfl ?_
            replace hS := up2 hS hK1
            cases hS
            exact VC.ret (fin2 (.inr rfl) rfl rfl rfl (⟨none, 0, []⟩, (Er.fault b44_10 [108, 105, 110, 101] 32 (Er.no 4))) rfl rfl (by (try dsimp only); exact InM.out) (fun _ _ => trivial))
          ·
            replace hS := it_f h41 hS
            refine VC.skip_to (fun _ _ h => h) ?_
            refine VC.keep [4, 10, 11, 12, 7] rfl ?_
            refine VC.region ?_
            refine VL.q (q_move rfl) (by decide) ?_
            refine VL.q (q_fes gagg26 rfl rfl) (by decide) ?_
            refine VL.lit (α := TodoStep) (xs := [.tmp 47]) (vs := [.agg #[str y28_7.1.verb, i64 y28_7.1.commit, str y28_7.1.text]]) [⟨y28_7.1.verb, y28_7.1.commit, y28_7.1.text⟩] Tryd.underlying22 glit26 (by decide) rfl rfl rfl rfl (by decide) (fun _ _ _ _ => trivial) (by decide) (fun s48_11 hs48_11 => ?_) (by decide)
            replace hS := lt_to hs48_11 hS
            obtain ⟨b49, hS⟩ := gd_s hS
            refine VL.app (s := out4_2) (r := s48_11) Tryd.underlying22 gapp26 (by decide) rfl Fo.out (ap1 b49) (ap2 b49 (by decide)) (by decide) (fun s49_13 hs49_13 => ?_)
            replace hS := lt_to hs49_13 hS
            refine VL.q (q_assign rfl) (by decide) ?_
            refine VL.to (fun _ _ h => h) ?_
            refine VC.region ?_
            obtain ⟨b50, hS⟩ := gd_s hS
            refine VL.q (q_add rfl rfl b50) (by decide) ?_
            refine VL.q (q_move rfl) (by decide) ?_
            refine VL.rnd (s49_13, (x12_3 + 1)) [4, 10, 11, 12] (fun _ _ h => h) (go2 hS hK1) rfl
  ·
    replace hS := it_f h13 hS
    replace hS := up2 hS hK1
    refine VC.exit_to (fun _ _ h => h) ?_
    refine VC.seq ?_
    refine VC.region ?_
    refine VL.q (q_move rfl) (by decide) ?_
    refine VL.shut out4_2 26 (fun _ _ _ _ => trivial) ?_
    obtain ⟨y52_15, ey52_15, hS⟩ := bd_s hS
    refine VL.callF (slices_Clip_todo_Step_todo_Step_ct out4_2 ey52_15) rfl (by decide) ?_
    rintro q52_15_0 rfl
    try dsimp only
    refine VL.q (q_assign rfl) (by decide) ?_
    refine VL.q (q_assign rfl) (by decide) ?_
    refine VL.to (fun _ _ h => h) ?_
    cases hS
    exact VC.ret (fin2 (.inr rfl) rfl rfl rfl (q52_15_0, .nil) rfl rfl (by (try dsimp only); exact InM.out) (fun _ _ => trivial))

set_option maxHeartbeats 4000000 in
set_option maxRecDepth 100000 in
theorem path_good_ct (c_0 : Int) {r : Bool} (hS : Sh.path_good c_0 = some r) :
    Ct Tryd.prog 164 [.int .u8 c_0] Mo.tt (Ow.emp) (X := Unit) (fun _ => .bool r) (fun _ => True) (fun _ => Mo.tt) (fun _ => Ow.emp) := by
  refine Ct.of Tryd.func164 rfl (by kernel_rfl) Tryd.ntmps164 (by simp) fun c => ?_
  unfold Sh.path_good at hS
  refine VC.seq ?_
  refine VC.region ?_
  refine VL.q (q_assign rfl) (by decide) ?_
  refine VL.to (fun _ _ h => h) ?_
  refine VC.cutJ (S := Unit) (fun (_ : Unit) => ()) (fun (_ : Unit) => [(0, .int .u8 c_0)]) (fun (_ : Unit) => Mo.tt) (fun (_ : Unit) => Ow.emp) hS ?_ ?_
  · -- up to where ways meet
    clear hS
    intro k1 hS
    refine VC.seq ?_
    refine VC.region ?_
    refine VL.q (q_move rfl) (by decide) ?_
    refine VL.to (fun _ _ h => h) ?_
    refine VC.block ?_
    refine VC.cutJ (S := Unit) (fun (_ : Unit) => ()) (fun (_ : Unit) => []) (fun (_ : Unit) => Mo.tt) (fun (_ : Unit) => Ow.emp) hS ?_ ?_
    · -- up to where ways meet
      clear hS
      intro k2 hS
      refine VC.block ?_
      refine VC.block ?_
      refine VC.block ?_
      refine VC.seq ?_
      refine VC.seq ?_
      refine VC.seq ?_
      refine VC.region ?_
      refine VL.q (q_eql rfl rfl) (by decide) ?_
      refine VL.q (q_assign rfl) (by decide) ?_
      refine VL.to (fun _ _ h => h) ?_
      refine VC.cond_dec rfl (fun h4 => ?_) (fun h4 => ?_)
      ·
        replace hS := it_t h4 hS
        refine VC.exit_mt () [] (fun _ _ h => h) hS rfl
      ·
        replace hS := it_f h4 hS
        refine VC.skip_to (fun _ _ h => h) ?_
        refine VC.seq ?_
        refine VC.seq ?_
        refine VC.region ?_
        refine VL.q (q_eql rfl rfl) (by decide) ?_
        refine VL.q (q_assign rfl) (by decide) ?_
        refine VL.to (fun _ _ h => h) ?_
        refine VC.cond_dec rfl (fun h6 => ?_) (fun h6 => ?_)
        ·
          replace hS := it_t h6 hS
          refine VC.exit_mt () [] (fun _ _ h => h) hS rfl
        ·
          replace hS := it_f h6 hS
          refine VC.skip_to (fun _ _ h => h) ?_
          refine VC.seq ?_
          refine VC.region ?_
          refine VL.q (q_eql rfl rfl) (by decide) ?_
          refine VL.q (q_assign rfl) (by decide) ?_
          refine VL.to (fun _ _ h => h) ?_
          refine VC.cond_dec rfl (fun h8 => ?_) (fun h8 => ?_)
          ·
            replace hS := it_t h8 hS
            refine VC.exit_mt () [] (fun _ _ h => h) hS rfl
          ·
            replace hS := it_f h8 hS
            refine VC.skip_to (fun _ _ h => h) ?_
            refine VC.exit_mt () [0] (fun _ _ h => h) hS rfl
    · -- from there
      clear hS
      rintro _ hS
      show VC _ _ _ _ _ [] (Mo.and Mo.tt _) (Ow.emp)
      refine VC.seq ?_
      refine VC.seq ?_
      refine VC.region ?_
      refine VL.q (q_assign rfl) (by decide) ?_
      refine VL.to (fun _ _ h => h) ?_
      cases hS
      exact VC.ret (fin1 (.inr rfl) rfl rfl () rfl trivial (fun _ _ => trivial) (fun _ _ => trivial))
  · -- from there
    clear hS
    rintro _ hS
    show VC _ _ _ _ _ [(0, .int .u8 c_0)] (Mo.and Mo.tt _) (Ow.emp)
    refine VC.seq ?_
    refine VC.region ?_
    refine VL.q (q_move rfl) (by decide) ?_
    refine VL.q (q_geq rfl rfl) (by decide) ?_
    refine VL.q (q_move rfl) (by decide) ?_
    refine VL.split_dec 12 rfl (fun h12 => ?_) (fun h12 => ?_)
    ·
      replace hS := it_t h12 hS
      refine VL.gy rfl rfl (q_move rfl) (by decide) ?_
      refine VL.gy rfl rfl (q_leq rfl rfl) (by decide) ?_
      refine VL.q (q_pick_t rfl rfl) (by decide) ?_
      refine VL.q (q_move rfl) (by decide) ?_
      refine VL.split_dec 16 rfl (fun h16 => ?_) (fun h16 => ?_)
      ·
        replace hS := it_t h16 hS
        refine VL.gn rfl rfl rfl (by decide) ?_
        refine VL.gn rfl rfl rfl (by decide) ?_
        refine VL.gn rfl rfl rfl (by decide) ?_
        refine VL.gu rfl rfl (by decide) ?_
        refine VL.gu rfl rfl (by decide) ?_
        refine VL.gn rfl rfl rfl (by decide) ?_
        refine VL.q (q_pick_t rfl rfl) (by decide) ?_
        refine VL.q (q_assign rfl) (by decide) ?_
        refine VL.to (fun _ _ h => h) ?_
        refine VC.keep [2] rfl ?_
        cases hS
        exact VC.ret (fin1 (.inr rfl) rfl rfl () rfl trivial (fun _ _ => trivial) (fun _ _ => trivial))
      ·
        replace hS := it_f h16 hS
        refine VL.gy rfl rfl (q_move rfl) (by decide) ?_
        refine VL.gy rfl rfl (q_geq rfl rfl) (by decide) ?_
        refine VL.gy rfl rfl (q_move rfl) (by decide) ?_
        refine VL.split_dec 19 rfl (fun h19 => ?_) (fun h19 => ?_)
        ·
          replace hS := it_t h19 hS
          refine VL.gy rfl rfl (q_move rfl) (by decide) ?_
          refine VL.gy rfl rfl (q_leq rfl rfl) (by decide) ?_
          refine VL.gy rfl rfl (q_pick_t rfl rfl) (by decide) ?_
          refine VL.q (q_pick_f rfl rfl) (by decide) ?_
          refine VL.q (q_assign rfl) (by decide) ?_
          refine VL.to (fun _ _ h => h) ?_
          refine VC.keep [2] rfl ?_
          cases hS
          exact VC.ret (fin1 (.inr rfl) rfl rfl () rfl trivial (fun _ _ => trivial) (fun _ _ => trivial))
        ·
          replace hS := it_f h19 hS
          refine VL.gn rfl rfl rfl (by decide) ?_
          refine VL.gn rfl rfl rfl (by decide) ?_
          refine VL.gy rfl rfl (q_pick_f rfl rfl) (by decide) ?_
          refine VL.q (q_pick_f rfl rfl) (by decide) ?_
          refine VL.q (q_assign rfl) (by decide) ?_
          refine VL.to (fun _ _ h => h) ?_
          refine VC.keep [2] rfl ?_
          cases hS
          exact VC.ret (fin1 (.inr rfl) rfl rfl () rfl trivial (fun _ _ => trivial) (fun _ _ => trivial))
    ·
      replace hS := it_f h12 hS
      refine VL.gn rfl rfl rfl (by decide) ?_
      refine VL.gn rfl rfl rfl (by decide) ?_
      refine VL.q (q_pick_f rfl rfl) (by decide) ?_
      refine VL.q (q_move rfl) (by decide) ?_
      refine VL.gy rfl rfl (q_move rfl) (by decide) ?_
      refine VL.gy rfl rfl (q_geq rfl rfl) (by decide) ?_
      refine VL.gy rfl rfl (q_move rfl) (by decide) ?_
      refine VL.split_dec 19 rfl (fun h19 => ?_) (fun h19 => ?_)
      ·
        replace hS := it_t h19 hS
        refine VL.gy rfl rfl (q_move rfl) (by decide) ?_
        refine VL.gy rfl rfl (q_leq rfl rfl) (by decide) ?_
        refine VL.gy rfl rfl (q_pick_t rfl rfl) (by decide) ?_
        refine VL.q (q_pick_f rfl rfl) (by decide) ?_
        refine VL.q (q_assign rfl) (by decide) ?_
        refine VL.to (fun _ _ h => h) ?_
        refine VC.keep [2] rfl ?_
        cases hS
        exact VC.ret (fin1 (.inr rfl) rfl rfl () rfl trivial (fun _ _ => trivial) (fun _ _ => trivial))
      ·
        replace hS := it_f h19 hS
        refine VL.gn rfl rfl rfl (by decide) ?_
        refine VL.gn rfl rfl rfl (by decide) ?_
        refine VL.gy rfl rfl (q_pick_f rfl rfl) (by decide) ?_
        refine VL.q (q_pick_f rfl rfl) (by decide) ?_
        refine VL.q (q_assign rfl) (by decide) ?_
        refine VL.to (fun _ _ h => h) ?_
        refine VC.keep [2] rfl ?_
        cases hS
        exact VC.ret (fin1 (.inr rfl) rfl rfl () rfl trivial (fun _ _ => trivial) (fun _ _ => trivial))

set_option maxHeartbeats 4000000 in
set_option maxRecDepth 100000 in
theorem path_part_ct (s_0 : Str) {r : Bool} (hS : Sh.path_part s_0 = some r) :
    Ct Tryd.prog 132 [str s_0] Mo.tt (Ow.emp) (X := Unit) (fun _ => .bool r) (fun _ => True) (fun _ => Mo.tt) (fun _ => Ow.emp) := by
  refine Ct.of Tryd.func132 rfl (by kernel_rfl) Tryd.ntmps132 (by simp) fun c => ?_
  unfold Sh.path_part at hS
  refine VC.seq ?_
  refine VC.region ?_
  refine VL.q (q_assign rfl) (by decide) ?_
  refine VL.to (fun _ _ h => h) ?_
  refine VC.seq ?_
  refine VC.cutJ (S := Bool) (fun (x14_1 : Bool) => x14_1) (fun (x14_1 : Bool) => [(0, str s_0), (14, .bool x14_1)]) (fun (x14_1 : Bool) => Mo.tt) (fun (x14_1 : Bool) => Ow.emp) hS ?_ ?_
  · -- up to where ways meet
    clear hS
    intro k2 hS
    refine VC.region ?_
    refine VL.q (q_move rfl) (by decide) ?_
    refine VL.q (q_seq rfl rfl) (by decide) ?_
    refine VL.q (q_move rfl) (by decide) ?_
    refine VL.split_dec 7 rfl (fun h7 => ?_) (fun h7 => ?_)
    ·
      replace hS := it_t h7 hS
      refine VL.gn rfl rfl rfl (by decide) ?_
      refine VL.gn rfl rfl rfl (by decide) ?_
      refine VL.q (q_pick_t rfl rfl) (by decide) ?_
      refine VL.q (q_move rfl) (by decide) ?_
      refine VL.gn rfl rfl rfl (by decide) ?_
      refine VL.gn rfl rfl rfl (by decide) ?_
      refine VL.q (q_pick_t rfl rfl) (by decide) ?_
      refine VL.mt true [0, 14] (fun _ _ h => h) hS rfl
    ·
      replace hS := it_f h7 hS
      refine VL.gy rfl rfl (q_move rfl) (by decide) ?_
      refine VL.gy rfl rfl (q_seq rfl rfl) (by decide) ?_
      refine VL.q (q_pick_f rfl rfl) (by decide) ?_
      refine VL.q (q_move rfl) (by decide) ?_
      refine VL.split_dec 11 rfl (fun h11 => ?_) (fun h11 => ?_)
      ·
        replace hS := it_t h11 hS
        refine VL.gn rfl rfl rfl (by decide) ?_
        refine VL.gn rfl rfl rfl (by decide) ?_
        refine VL.q (q_pick_t rfl rfl) (by decide) ?_
        refine VL.mt true [0, 14] (fun _ _ h => h) hS rfl
      ·
        replace hS := it_f h11 hS
        refine VL.gy rfl rfl (q_move rfl) (by decide) ?_
        refine VL.gy rfl rfl (q_seq rfl rfl) (by decide) ?_
        refine VL.q (q_pick_f rfl rfl) (by decide) ?_
        refine VL.mt (decide (s_0 = [46, 46])) [0, 14] (fun _ _ h => h) hS rfl
  · -- from there
    clear hS
    rintro x14_1 hS
    show VC _ _ _ _ _ [(0, str s_0), (14, .bool x14_1)] (Mo.and Mo.tt _) (Ow.emp)
    refine VC.cond rfl (fun h14 => ?_) (fun h14 => ?_)
    ·
      replace hS := it_t h14 hS
      refine VC.seq ?_
      refine VC.region ?_
      refine VL.q (q_assign rfl) (by decide) ?_
      refine VL.to (fun _ _ h => h) ?_
      cases hS
      exact VC.ret (fin1 (.inr rfl) rfl rfl () rfl trivial (fun _ _ => trivial) (fun _ _ => trivial))
    ·
      replace hS := it_b h14 hS
      refine VC.skip_to (fun _ _ h => h) ?_
      refine VC.seq ?_
      refine VC.seq ?_
      refine VC.region ?_
      refine VL.q (q_move rfl) (by decide) ?_
      obtain ⟨b16, hS⟩ := gd_s hS
      refine VL.s2b Tryd.underlying9 Tryd.underlying23 Tryd.underlying5 rfl b16 (by decide) fun s16_3 hs16_3 => ?_
      replace hS := lt_to hs16_3 hS
      refine VL.q (q_ln (s := s16_3) Tryd.underlying23 rfl) (by decide) ?_
      refine VL.q (q_move rfl) (by decide) ?_
      refine VL.to (fun _ _ h => h) ?_
      refine VC.block ?_
      refine VC.iter (S := Int) (fun (x18_5 : Int) => x18_5) (fun (x18_5 : Int) => [(16, s16_3.val), (17, i64 (s16_3.l.length : Int)), (18, i64 x18_5)]) (fun (x18_5 : Int) => Mo.tt) (fun (x18_5 : Int) => Ow.emp) 0 [16, 17, 18] hS rfl ?_
      clear hS
      rintro x18_5 m1 y1 hS hK1
      show VC _ _ _ _ _ [(16, s16_3.val), (17, i64 (s16_3.l.length : Int)), (18, i64 x18_5)] (Mo.and Mo.tt _) (Ow.emp)
      refine VC.seq ?_
      refine VC.region ?_
      refine VL.q (q_lss rfl rfl) (by decide) ?_
      refine VL.to (fun _ _ h => h) ?_
      refine VC.seq ?_
      refine VC.cond_dec rfl (fun h19 => ?_) (fun h19 => ?_)
      ·
        replace hS := it_t h19 hS
        refine VC.skip_to (fun _ _ h => h) ?_
        refine VC.seq ?_
        refine VC.block ?_
        refine VC.seq ?_
        refine VC.region ?_
        obtain ⟨z20_6, nz20_6, hz20_6, hS⟩ := at_s hS
        refine VL.q (q_ixm (s := s16_3) Tryd.underlying23 gsz5 rfl rfl nz20_6 (lt_of_get nz20_6 hz20_6)) (by decide) ?_
        refine VL.q (q_el (s := s16_3) gone5 rfl hz20_6 rfl) (by decide) ?_
        refine VL.q (q_assign rfl) (by decide) ?_
        refine VL.to (fun _ _ h => h) ?_
        refine VC.seq ?_
        refine VC.region ?_
        refine VL.q (q_move rfl) (by decide) ?_
        obtain ⟨y23_7, ey23_7, hS⟩ := bd_s hS
        refine VL.q (q_call (path_good_ct (z20_6.toNat : Int) ey23_7) rfl (fun _ _ => rfl)) (by decide) ?_
        refine VL.q (q_not rfl) (by decide) ?_
        refine VL.to (fun _ _ h => h) ?_
        refine VC.cond rfl (fun h24 => ?_) (fun h24 => ?_)
        ·
          replace hS := it_t h24 hS
          refine VC.seq ?_
          refine VC.region ?_
          refine VL.q (q_assign rfl) (by decide) ?_
          refine VL.to (fun _ _ h => h) ?_
          refine VC.keep [2] rfl ?_
          replace hS := up2 hS hK1
          cases hS
          exact VC.ret (fin1 (.inr rfl) rfl rfl () rfl trivial (fun _ _ => trivial) (fun _ _ => trivial))
        ·
          replace hS := it_b h24 hS
          refine VC.skip_to (fun _ _ h => h) ?_
          refine VC.region ?_
          obtain ⟨b25, hS⟩ := gd_s hS
          refine VL.q (q_add rfl rfl b25) (by decide) ?_
          refine VL.q (q_move rfl) (by decide) ?_
          refine VL.rnd (x18_5 + 1) [16, 17, 18] (fun _ _ h => h) (go2 hS hK1) rfl
      ·
        replace hS := it_f h19 hS
        replace hS := up2 hS hK1
        refine VC.exit_to (fun _ _ h => h) ?_
        refine VC.seq ?_
        refine VC.region ?_
        refine VL.q (q_assign rfl) (by decide) ?_
        refine VL.to (fun _ _ h => h) ?_
        cases hS
        exact VC.ret (fin1 (.inr rfl) rfl rfl () rfl trivial (fun _ _ => trivial) (fun _ _ => trivial))

set_option maxHeartbeats 4000000 in
set_option maxRecDepth 100000 in
theorem path_Check_ct (p_0 : Str) {r : Int} (hS : Sh.path_Check p_0 = some r) :
    Ct Tryd.prog 97 [str p_0] Mo.tt (Ow.emp) (X := Unit) (fun _ => i64 r) (fun _ => True) (fun _ => Mo.tt) (fun _ => Ow.emp) := by
  refine Ct.of Tryd.func97 rfl (by kernel_rfl) Tryd.ntmps97 (by simp) fun c => ?_
  unfold Sh.path_Check at hS
  refine VC.seq ?_
  refine VC.region ?_
  refine VL.q (q_assign rfl) (by decide) ?_
  refine VL.to (fun _ _ h => h) ?_
  refine VC.seq ?_
  refine VC.seq ?_
  refine VC.region ?_
  refine VL.q (q_move rfl) (by decide) ?_
  refine VL.q (q_slen Tryd.underlying9 rfl) (by decide) ?_
  refine VL.q (q_gtr rfl rfl) (by decide) ?_
  refine VL.to (fun _ _ h => h) ?_
  refine VC.cond_dec rfl (fun h7 => ?_) (fun h7 => ?_)
  ·
    replace hS := it_t h7 hS
    refine VC.seq ?_
    refine VC.region ?_
    refine VL.q (q_assign rfl) (by decide) ?_
    refine VL.to (fun _ _ h => h) ?_
    cases hS
    exact VC.ret (fin1 (.inr rfl) rfl rfl () rfl trivial (fun _ _ => trivial) (fun _ _ => trivial))
  ·
    replace hS := it_f h7 hS
    refine VC.skip_to (fun _ _ h => h) ?_
    refine VC.seq ?_
    refine VC.seq ?_
    refine VC.region ?_
    refine VL.q (q_move rfl) (by decide) ?_
    obtain ⟨y9_1, ey9_1, hS⟩ := bd_s hS
    refine VL.callF (strings_Split_ct p_0 [47] ey9_1) rfl (by decide) ?_
    rintro q9_1_0 rfl
    try dsimp only
    refine VL.q (q_ln (s := q9_1_0) Tryd.underlying38 rfl) (by decide) ?_
    refine VL.q (q_move rfl) (by decide) ?_
    refine VL.to (fun _ _ h => h) ?_
    refine VC.block ?_
    refine VC.iter (S := Int) (fun (x11_2 : Int) => x11_2) (fun (x11_2 : Int) => [(9, q9_1_0.val), (10, i64 (q9_1_0.l.length : Int)), (11, i64 x11_2)]) (fun (x11_2 : Int) => Mo.tt) (fun (x11_2 : Int) => Ow.emp) 0 [9, 10, 11] hS rfl ?_
    clear hS
    rintro x11_2 m1 y1 hS hK1
    show VC _ _ _ _ _ [(9, q9_1_0.val), (10, i64 (q9_1_0.l.length : Int)), (11, i64 x11_2)] (Mo.and Mo.tt _) (Ow.emp)
    refine VC.seq ?_
    refine VC.region ?_
    refine VL.q (q_lss rfl rfl) (by decide) ?_
    refine VL.to (fun _ _ h => h) ?_
    refine VC.seq ?_
    refine VC.cond_dec rfl (fun h12 => ?_) (fun h12 => ?_)
    ·
      replace hS := it_t h12 hS
      refine VC.skip_to (fun _ _ h => h) ?_
      refine VC.seq ?_
      refine VC.block ?_
      refine VC.seq ?_
      refine VC.region ?_
      obtain ⟨z13_3, nz13_3, hz13_3, hS⟩ := at_s hS
      refine VL.q (q_ixm (s := q9_1_0) Tryd.underlying38 gsz9 rfl rfl nz13_3 (lt_of_get nz13_3 hz13_3)) (by decide) ?_
      refine VL.q (q_el (s := q9_1_0) gone9 rfl hz13_3 rfl) (by decide) ?_
      refine VL.q (q_assign rfl) (by decide) ?_
      refine VL.to (fun _ _ h => h) ?_
      refine VC.seq ?_
      refine VC.region ?_
      refine VL.q (q_move rfl) (by decide) ?_
      obtain ⟨y16_4, ey16_4, hS⟩ := bd_s hS
      refine VL.q (q_call (path_part_ct z13_3 ey16_4) rfl (fun _ _ => rfl)) (by decide) ?_
      refine VL.q (q_not rfl) (by decide) ?_
      refine VL.to (fun _ _ h => h) ?_
      refine VC.cond rfl (fun h17 => ?_) (fun h17 => ?_)
      ·
        replace hS := it_t h17 hS
        refine VC.seq ?_
        refine VC.region ?_
        refine VL.q (q_assign rfl) (by decide) ?_
        refine VL.to (fun _ _ h => h) ?_
        refine VC.keep [2] rfl ?_
        replace hS := up2 hS hK1
        cases hS
        exact VC.ret (fin1 (.inr rfl) rfl rfl () rfl trivial (fun _ _ => trivial) (fun _ _ => trivial))
      ·
        replace hS := it_b h17 hS
        refine VC.skip_to (fun _ _ h => h) ?_
        refine VC.region ?_
        obtain ⟨b18, hS⟩ := gd_s hS
        refine VL.q (q_add rfl rfl b18) (by decide) ?_
        refine VL.q (q_move rfl) (by decide) ?_
        refine VL.rnd (x11_2 + 1) [9, 10, 11] (fun _ _ h => h) (go2 hS hK1) rfl
    ·
      replace hS := it_f h12 hS
      replace hS := up2 hS hK1
      refine VC.exit_to (fun _ _ h => h) ?_
      refine VC.seq ?_
      refine VC.region ?_
      refine VL.q (q_assign rfl) (by decide) ?_
      refine VL.to (fun _ _ h => h) ?_
      cases hS
      exact VC.ret (fin1 (.inr rfl) rfl rfl () rfl trivial (fun _ _ => trivial) (fun _ _ => trivial))

set_option maxHeartbeats 4000000 in
set_option maxRecDepth 100000 in
theorem names_Good_ct (name_0 : Str) {r : Bool} (hS : Sh.names_Good name_0 = some r) :
    Ct Tryd.prog 113 [str name_0] Mo.tt (Ow.emp) (X := Unit) (fun _ => .bool r) (fun _ => True) (fun _ => Mo.tt) (fun _ => Ow.emp) := by
  refine Ct.of Tryd.func113 rfl (by kernel_rfl) Tryd.ntmps113 (by simp) fun c => ?_
  unfold Sh.names_Good at hS
  refine VC.seq ?_
  refine VC.region ?_
  refine VL.q (q_assign rfl) (by decide) ?_
  refine VL.to (fun _ _ h => h) ?_
  refine VC.seq ?_
  refine VC.seq ?_
  refine VC.region ?_
  refine VL.q (q_move rfl) (by decide) ?_
  obtain ⟨b6, hS⟩ := gd_s hS
  refine VL.s2b Tryd.underlying9 Tryd.underlying23 Tryd.underlying5 rfl b6 (by decide) fun s6_1 hs6_1 => ?_
  replace hS := lt_to hs6_1 hS
  refine VL.q (q_ln (s := s6_1) Tryd.underlying23 rfl) (by decide) ?_
  refine VL.q (q_move rfl) (by decide) ?_
  refine VL.to (fun _ _ h => h) ?_
  refine VC.block ?_
  refine VC.iter (S := Int) (fun (x8_3 : Int) => x8_3) (fun (x8_3 : Int) => [(0, str name_0), (6, s6_1.val), (7, i64 (s6_1.l.length : Int)), (8, i64 x8_3)]) (fun (x8_3 : Int) => Mo.tt) (fun (x8_3 : Int) => Ow.emp) 0 [0, 6, 7, 8] hS rfl ?_
  clear hS
  rintro x8_3 m1 y1 hS hK1
  show VC _ _ _ _ _ [(0, str name_0), (6, s6_1.val), (7, i64 (s6_1.l.length : Int)), (8, i64 x8_3)] (Mo.and Mo.tt _) (Ow.emp)
  refine VC.seq ?_
  refine VC.region ?_
  refine VL.q (q_lss rfl rfl) (by decide) ?_
  refine VL.to (fun _ _ h => h) ?_
  refine VC.seq ?_
  refine VC.cond_dec rfl (fun h9 => ?_) (fun h9 => ?_)
  ·
    replace hS := it_t h9 hS
    refine VC.skip_to (fun _ _ h => h) ?_
    refine VC.seq ?_
    refine VC.block ?_
    refine VC.seq ?_
    refine VC.region ?_
    refine VL.q (q_move rfl) (by decide) ?_
    obtain ⟨z11_4, nz11_4, hz11_4, hS⟩ := at_s hS
    refine VL.q (q_ixm (s := s6_1) Tryd.underlying23 gsz5 rfl rfl nz11_4 (lt_of_get nz11_4 hz11_4)) (by decide) ?_
    refine VL.q (q_el (s := s6_1) gone5 rfl hz11_4 rfl) (by decide) ?_
    refine VL.q (q_assign rfl) (by decide) ?_
    refine VL.q (q_assign rfl) (by decide) ?_
    refine VL.to (fun _ _ h => h) ?_
    refine VC.cutJ (S := Bool) (fun (x34_5 : Bool) => x34_5) (fun (x34_5 : Bool) => [(0, str name_0), (6, s6_1.val), (7, i64 (s6_1.l.length : Int)), (8, i64 x8_3), (34, .bool x34_5)]) (fun (x34_5 : Bool) => Mo.tt) (fun (x34_5 : Bool) => Ow.emp) hS ?_ ?_
    · -- up to where ways meet
      clear hS
      intro k6 hS
      refine VC.region ?_
      refine VL.q (q_move rfl) (by decide) ?_
      refine VL.q (q_lss rfl rfl) (by decide) ?_
      refine VL.q (q_move rfl) (by decide) ?_
      refine VL.split_dec 15 rfl (fun h15 => ?_) (fun h15 => ?_)
      ·
        replace hS := it_t h15 hS
        refine VL.gn rfl rfl rfl (by decide) ?_
        refine VL.gn rfl rfl rfl (by decide) ?_
        refine VL.q (q_pick_t rfl rfl) (by decide) ?_
        refine VL.q (q_move rfl) (by decide) ?_
        refine VL.gy rfl rfl (q_move rfl) (by decide) ?_
        refine VL.gy rfl rfl (q_eql rfl rfl) (by decide) ?_
        refine VL.gy rfl rfl (q_move rfl) (by decide) ?_
        refine VL.split_dec 22 rfl (fun h22 => ?_) (fun h22 => ?_)
        ·
          replace hS := it_t h22 hS
          refine VL.gn rfl rfl rfl (by decide) ?_
          refine VL.gn rfl rfl rfl (by decide) ?_
          refine VL.gn rfl rfl rfl (by decide) ?_
          refine VL.gu rfl rfl (by decide) ?_
          refine VL.gu rfl rfl (by decide) ?_
          refine VL.gu rfl rfl (by decide) ?_
          refine VL.gu rfl rfl (by decide) ?_
          refine VL.gu rfl rfl (by decide) ?_
          refine VL.gu rfl rfl (by decide) ?_
          refine VL.gn rfl rfl rfl (by decide) ?_
          refine VL.gy rfl rfl (q_pick_t rfl rfl) (by decide) ?_
          refine VL.q (q_pick_t rfl rfl) (by decide) ?_
          refine VL.mt true [0, 6, 7, 8, 34] (fun _ _ h => h) hS rfl
        ·
          replace hS := it_f h22 hS
          refine VL.gy rfl rfl (q_move rfl) (by decide) ?_
          refine VL.gy rfl rfl (q_neq rfl rfl) (by decide) ?_
          refine VL.gy rfl rfl (q_move rfl) (by decide) ?_
          refine VL.split_ndec 25 rfl (fun h25 => ?_) (fun h25 => ?_)
          ·
            replace hS := it_f h25 hS
            refine VL.gy rfl rfl (q_move rfl) (by decide) ?_
            refine VL.gy rfl rfl (q_lss rfl rfl) (by decide) ?_
            refine VL.gy rfl rfl (q_move rfl) (by decide) ?_
            refine VL.split_dec 28 rfl (fun h28 => ?_) (fun h28 => ?_)
            ·
              replace hS := it_t h28 hS
              refine VL.gn rfl rfl rfl (by decide) ?_
              refine VL.gn rfl rfl rfl (by decide) ?_
              refine VL.gy rfl rfl (q_pick_t rfl rfl) (by decide) ?_
              refine VL.gy rfl rfl (q_pick_t rfl rfl) (by decide) ?_
              refine VL.gy rfl rfl (q_pick_f rfl rfl) (by decide) ?_
              refine VL.q (q_pick_t rfl rfl) (by decide) ?_
              refine VL.mt true [0, 6, 7, 8, 34] (fun _ _ h => h) hS rfl
            ·
              replace hS := it_f h28 hS
              refine VL.gy rfl rfl (q_move rfl) (by decide) ?_
              refine VL.gy rfl rfl (q_gtr rfl rfl) (by decide) ?_
              refine VL.gy rfl rfl (q_pick_f rfl rfl) (by decide) ?_
              refine VL.gy rfl rfl (q_pick_t rfl rfl) (by decide) ?_
              refine VL.gy rfl rfl (q_pick_f rfl rfl) (by decide) ?_
              refine VL.q (q_pick_t rfl rfl) (by decide) ?_
              refine VL.mt (decide (57 < (z11_4.toNat : Int))) [0, 6, 7, 8, 34] (fun _ _ h => h) hS rfl
          ·
            replace hS := it_t h25 hS
            refine VL.gn rfl rfl rfl (by decide) ?_
            refine VL.gn rfl rfl rfl (by decide) ?_
            refine VL.gn rfl rfl rfl (by decide) ?_
            refine VL.gu rfl rfl (by decide) ?_
            refine VL.gu rfl rfl (by decide) ?_
            refine VL.gn rfl rfl rfl (by decide) ?_
            refine VL.gy rfl rfl (q_pick_f rfl rfl) (by decide) ?_
            refine VL.gy rfl rfl (q_pick_f rfl rfl) (by decide) ?_
            refine VL.q (q_pick_t rfl rfl) (by decide) ?_
            refine VL.mt false [0, 6, 7, 8, 34] (fun _ _ h => h) hS rfl
      ·
        replace hS := it_f h15 hS
        refine VL.gy rfl rfl (q_move rfl) (by decide) ?_
        refine VL.gy rfl rfl (q_gtr rfl rfl) (by decide) ?_
        refine VL.q (q_pick_f rfl rfl) (by decide) ?_
        refine VL.q (q_move rfl) (by decide) ?_
        refine VL.split_dec 19 rfl (fun h19 => ?_) (fun h19 => ?_)
        ·
          replace hS := it_t h19 hS
          refine VL.gy rfl rfl (q_move rfl) (by decide) ?_
          refine VL.gy rfl rfl (q_eql rfl rfl) (by decide) ?_
          refine VL.gy rfl rfl (q_move rfl) (by decide) ?_
          refine VL.split_dec 22 rfl (fun h22 => ?_) (fun h22 => ?_)
          ·
            replace hS := it_t h22 hS
            refine VL.gn rfl rfl rfl (by decide) ?_
            refine VL.gn rfl rfl rfl (by decide) ?_
            refine VL.gn rfl rfl rfl (by decide) ?_
            refine VL.gu rfl rfl (by decide) ?_
            refine VL.gu rfl rfl (by decide) ?_
            refine VL.gu rfl rfl (by decide) ?_
            refine VL.gu rfl rfl (by decide) ?_
            refine VL.gu rfl rfl (by decide) ?_
            refine VL.gu rfl rfl (by decide) ?_
            refine VL.gn rfl rfl rfl (by decide) ?_
            refine VL.gy rfl rfl (q_pick_t rfl rfl) (by decide) ?_
            refine VL.q (q_pick_t rfl rfl) (by decide) ?_
            refine VL.mt true [0, 6, 7, 8, 34] (fun _ _ h => h) hS rfl
          ·
            replace hS := it_f h22 hS
            refine VL.gy rfl rfl (q_move rfl) (by decide) ?_
            refine VL.gy rfl rfl (q_neq rfl rfl) (by decide) ?_
            refine VL.gy rfl rfl (q_move rfl) (by decide) ?_
            refine VL.split_ndec 25 rfl (fun h25 => ?_) (fun h25 => ?_)
            ·
              replace hS := it_f h25 hS
              refine VL.gy rfl rfl (q_move rfl) (by decide) ?_
              refine VL.gy rfl rfl (q_lss rfl rfl) (by decide) ?_
              refine VL.gy rfl rfl (q_move rfl) (by decide) ?_
              refine VL.split_dec 28 rfl (fun h28 => ?_) (fun h28 => ?_)
              ·
                replace hS := it_t h28 hS
                refine VL.gn rfl rfl rfl (by decide) ?_
                refine VL.gn rfl rfl rfl (by decide) ?_
                refine VL.gy rfl rfl (q_pick_t rfl rfl) (by decide) ?_
                refine VL.gy rfl rfl (q_pick_t rfl rfl) (by decide) ?_
                refine VL.gy rfl rfl (q_pick_f rfl rfl) (by decide) ?_
                refine VL.q (q_pick_t rfl rfl) (by decide) ?_
                refine VL.mt true [0, 6, 7, 8, 34] (fun _ _ h => h) hS rfl
              ·
                replace hS := it_f h28 hS
                refine VL.gy rfl rfl (q_move rfl) (by decide) ?_
                refine VL.gy rfl rfl (q_gtr rfl rfl) (by decide) ?_
                refine VL.gy rfl rfl (q_pick_f rfl rfl) (by decide) ?_
                refine VL.gy rfl rfl (q_pick_t rfl rfl) (by decide) ?_
                refine VL.gy rfl rfl (q_pick_f rfl rfl) (by decide) ?_
                refine VL.q (q_pick_t rfl rfl) (by decide) ?_
                refine VL.mt (decide (57 < (z11_4.toNat : Int))) [0, 6, 7, 8, 34] (fun _ _ h => h) hS rfl
            ·
              replace hS := it_t h25 hS
              refine VL.gn rfl rfl rfl (by decide) ?_
              refine VL.gn rfl rfl rfl (by decide) ?_
              refine VL.gn rfl rfl rfl (by decide) ?_
              refine VL.gu rfl rfl (by decide) ?_
              refine VL.gu rfl rfl (by decide) ?_
              refine VL.gn rfl rfl rfl (by decide) ?_
              refine VL.gy rfl rfl (q_pick_f rfl rfl) (by decide) ?_
              refine VL.gy rfl rfl (q_pick_f rfl rfl) (by decide) ?_
              refine VL.q (q_pick_t rfl rfl) (by decide) ?_
              refine VL.mt false [0, 6, 7, 8, 34] (fun _ _ h => h) hS rfl
        ·
          replace hS := it_f h19 hS
          refine VL.gn rfl rfl rfl (by decide) ?_
          refine VL.gn rfl rfl rfl (by decide) ?_
          refine VL.gn rfl rfl rfl (by decide) ?_
          refine VL.gu rfl rfl (by decide) ?_
          refine VL.gu rfl rfl (by decide) ?_
          refine VL.gu rfl rfl (by decide) ?_
          refine VL.gu rfl rfl (by decide) ?_
          refine VL.gu rfl rfl (by decide) ?_
          refine VL.gu rfl rfl (by decide) ?_
          refine VL.gu rfl rfl (by decide) ?_
          refine VL.gu rfl rfl (by decide) ?_
          refine VL.gu rfl rfl (by decide) ?_
          refine VL.gu rfl rfl (by decide) ?_
          refine VL.gn rfl rfl rfl (by decide) ?_
          refine VL.q (q_pick_f rfl rfl) (by decide) ?_
          refine VL.mt false [0, 6, 7, 8, 34] (fun _ _ h => h) hS rfl
    · -- from there
      clear hS
      rintro x34_5 hS
      show VC _ _ _ _ _ [(0, str name_0), (6, s6_1.val), (7, i64 (s6_1.l.length : Int)), (8, i64 x8_3), (34, .bool x34_5)] (Mo.and Mo.tt _) (Ow.emp)
      refine VC.cond rfl (fun h34 => ?_) (fun h34 => ?_)
      ·
        replace hS := it_t h34 hS
        refine VC.seq ?_
        refine VC.region ?_
        refine VL.q (q_assign rfl) (by decide) ?_
        refine VL.to (fun _ _ h => h) ?_
        replace hS := up2 hS hK1
        cases hS
        exact VC.ret (fin1 (.inr rfl) rfl rfl () rfl trivial (fun _ _ => trivial) (fun _ _ => trivial))
      ·
        replace hS := it_b h34 hS
        refine VC.skip_to (fun _ _ h => h) ?_
        refine VC.region ?_
        obtain ⟨b35, hS⟩ := gd_s hS
        refine VL.q (q_add rfl rfl b35) (by decide) ?_
        refine VL.q (q_move rfl) (by decide) ?_
        refine VL.rnd (x8_3 + 1) [0, 6, 7, 8] (fun _ _ h => h) (go2 hS hK1) rfl
  ·
    replace hS := it_f h9 hS
    replace hS := up2 hS hK1
    refine VC.exit_to (fun _ _ h => h) ?_
    refine VC.seq ?_
    refine VC.region ?_
    refine VL.q (q_move rfl) (by decide) ?_
    refine VL.q (q_slen Tryd.underlying9 rfl) (by decide) ?_
    refine VL.q (q_geq rfl rfl) (by decide) ?_
    refine VL.q (q_move rfl) (by decide) ?_
    refine VL.split_dec 39 rfl (fun h39 => ?_) (fun h39 => ?_)
    ·
      replace hS := it_t h39 hS
      refine VL.gy rfl rfl (q_move rfl) (by decide) ?_
      refine VL.gy rfl rfl (q_slen Tryd.underlying9 rfl) (by decide) ?_
      refine VL.gy rfl rfl (q_leq rfl rfl) (by decide) ?_
      refine VL.q (q_pick_t rfl rfl) (by decide) ?_
      refine VL.q (q_assign rfl) (by decide) ?_
      refine VL.to (fun _ _ h => h) ?_
      refine VC.keep [2] rfl ?_
      cases hS
      exact VC.ret (fin1 (.inr rfl) rfl rfl () rfl trivial (fun _ _ => trivial) (fun _ _ => trivial))
    ·
      replace hS := it_f h39 hS
      refine VL.gn rfl rfl rfl (by decide) ?_
      refine VL.gn rfl rfl rfl (by decide) ?_
      refine VL.gn rfl rfl rfl (by decide) ?_
      refine VL.q (q_pick_f rfl rfl) (by decide) ?_
      refine VL.q (q_assign rfl) (by decide) ?_
      refine VL.to (fun _ _ h => h) ?_
      refine VC.keep [2] rfl ?_
      cases hS
      exact VC.ret (fin1 (.inr rfl) rfl rfl () rfl trivial (fun _ _ => trivial) (fun _ _ => trivial))

set_option maxHeartbeats 4000000 in
set_option maxRecDepth 100000 in
theorem cmd_name_ct (c_0 : CmdCmd) {r : Int} (hS : Sh.cmd_name c_0.pl = some r) :
    Ct Tryd.prog 77 [.agg #[str c_0.verb, str c_0.name, i64 c_0.n, str c_0.text, .bool c_0.force, c_0.todo.val]] c_0.todo.ok (Ow.emp) (X := Unit) (fun _ => i64 r) (fun _ => True) (fun _ => Mo.tt) (fun _ => Ow.emp) := by
  refine Ct.of Tryd.func77 rfl (by kernel_rfl) Tryd.ntmps77 (by simp) fun c => ?_
  unfold Sh.cmd_name at hS
  refine VC.seq ?_
  refine VC.region ?_
  refine VL.box (cs := [str c_0.verb, str c_0.name, i64 c_0.n, str c_0.text, .bool c_0.force, c_0.todo.val]) rfl rfl (by decide) fun b1_1 => ?_
  refine VL.q (q_assign rfl) (by decide) ?_
  refine VL.to (fun _ _ h => h) ?_
  refine VC.seq ?_
  refine VC.region ?_
  refine VL.q (q_assign rfl) (by decide) ?_
  refine VL.to (fun _ _ h => h) ?_
  refine VC.cutJ (S := Bool) (fun (ok3_2 : Bool) => ok3_2) (fun (ok3_2 : Bool) => [(3, .bool ok3_2)]) (fun (ok3_2 : Bool) => Mo.tt) (fun (ok3_2 : Bool) => Ow.star (Blk b1_1 [str c_0.verb, str c_0.name, i64 c_0.n, str c_0.text, .bool c_0.force, c_0.todo.val] 62) (Ow.emp)) hS ?_ ?_
  · -- up to where ways meet
    clear hS
    intro k3 hS
    refine VC.seq ?_
    refine VC.region ?_
    refine VL.q (q_field gfa62_0 rfl) (by decide) ?_
    refine VL.q (q_fe gone9 rfl rfl) (by decide) ?_
    refine VL.to (fun _ _ h => h) ?_
    refine VC.block ?_
    refine VC.cutJ (S := Unit) (fun (_ : Unit) => ()) (fun (_ : Unit) => [(1, ptr b1_1 0)]) (fun (_ : Unit) => Mo.tt) (fun (_ : Unit) => Ow.star (Blk b1_1 [str c_0.verb, str c_0.name, i64 c_0.n, str c_0.text, .bool c_0.force, c_0.todo.val] 62) (Ow.emp)) hS ?_ ?_
    · -- up to where ways meet
      clear hS
      intro k4 hS
      refine VC.block ?_
      refine VC.cutJ (S := Unit) (fun (_ : Unit) => ()) (fun (_ : Unit) => [(1, ptr b1_1 0)]) (fun (_ : Unit) => Mo.tt) (fun (_ : Unit) => Ow.star (Blk b1_1 [str c_0.verb, str c_0.name, i64 c_0.n, str c_0.text, .bool c_0.force, c_0.todo.val] 62) (Ow.emp)) hS ?_ ?_
      · -- up to where ways meet
        clear hS
        intro k5 hS
        refine VC.block ?_
        refine VC.cutJ (S := Unit) (fun (_ : Unit) => ()) (fun (_ : Unit) => [(1, ptr b1_1 0)]) (fun (_ : Unit) => Mo.tt) (fun (_ : Unit) => Ow.star (Blk b1_1 [str c_0.verb, str c_0.name, i64 c_0.n, str c_0.text, .bool c_0.force, c_0.todo.val] 62) (Ow.emp)) hS ?_ ?_
        · -- up to where ways meet
          clear hS
          intro k6 hS
          refine VC.block ?_
          refine VC.cutJ (S := Unit) (fun (_ : Unit) => ()) (fun (_ : Unit) => [(1, ptr b1_1 0)]) (fun (_ : Unit) => Mo.tt) (fun (_ : Unit) => Ow.star (Blk b1_1 [str c_0.verb, str c_0.name, i64 c_0.n, str c_0.text, .bool c_0.force, c_0.todo.val] 62) (Ow.emp)) hS ?_ ?_
          · -- up to where ways meet
            clear hS
            intro k7 hS
            refine VC.block ?_
            refine VC.seq ?_
            refine VC.block ?_
            refine VC.seq ?_
            refine VC.seq ?_
            refine VC.seq ?_
            refine VC.region ?_
            refine VL.q (q_seq rfl rfl) (by decide) ?_
            refine VL.q (q_assign rfl) (by decide) ?_
            refine VL.to (fun _ _ h => h) ?_
            refine VC.cond_dec rfl (fun h6 => ?_) (fun h6 => ?_)
            ·
              replace hS := it_t h6 hS
              refine VC.exit_to (fun _ _ h => h) ?_
              refine VC.seq ?_
              refine VC.region ?_
              refine VL.q (q_field gfa62_1 rfl) (by decide) ?_
              refine VL.q (q_fe gone9 rfl rfl) (by decide) ?_
              refine VL.q (q_seq rfl rfl) (by decide) ?_
              refine VL.to (fun _ _ h => h) ?_
              refine VC.keep [1, 20] rfl ?_
              refine VC.cond_dec rfl (fun h20 => ?_) (fun h20 => ?_)
              ·
                replace hS := it_t h20 hS
                refine VC.seq ?_
                refine VC.region ?_
                refine VL.q (q_assign rfl) (by decide) ?_
                refine VL.to (fun _ _ h => h) ?_
                cases hS
                exact VC.ret (fin1 (.inr rfl) rfl rfl () rfl trivial (fun _ _ => trivial) (fun _ _ => trivial))
              ·
                replace hS := it_f h20 hS
                refine VC.skip_mt () [1] (fun _ _ h => h) hS rfl
            ·
              replace hS := it_f h6 hS
              refine VC.skip_to (fun _ _ h => h) ?_
              refine VC.seq ?_
              refine VC.seq ?_
              refine VC.region ?_
              refine VL.q (q_seq rfl rfl) (by decide) ?_
              refine VL.q (q_assign rfl) (by decide) ?_
              refine VL.to (fun _ _ h => h) ?_
              refine VC.cond_dec rfl (fun h8 => ?_) (fun h8 => ?_)
              ·
                replace hS := it_t h8 hS
                refine VC.exit_mt () [1] (fun _ _ h => h) hS rfl
              ·
                replace hS := it_f h8 hS
                refine VC.skip_to (fun _ _ h => h) ?_
                refine VC.cutJ (S := Unit) (fun (_ : Unit) => ()) (fun (_ : Unit) => [(1, ptr b1_1 0), (3, .bool true), (5, str c_0.verb)]) (fun (_ : Unit) => Mo.tt) (fun (_ : Unit) => Ow.star (Blk b1_1 [str c_0.verb, str c_0.name, i64 c_0.n, str c_0.text, .bool c_0.force, c_0.todo.val] 62) (Ow.emp)) hS ?_ ?_
                · -- up to where ways meet
                  clear hS
                  intro k8 hS
                  refine VC.seq ?_
                  refine VC.seq ?_
                  refine VC.region ?_
                  refine VL.q (q_seq rfl rfl) (by decide) ?_
                  refine VL.q (q_assign rfl) (by decide) ?_
                  refine VL.to (fun _ _ h => h) ?_
                  refine VC.keep [1, 3, 5, 10] rfl ?_
                  refine VC.cond_dec rfl (fun h10 => ?_) (fun h10 => ?_)
                  ·
                    replace hS := it_t h10 hS
                    refine VC.skip_to (fun _ _ h => h) ?_
                    refine VC.cond_dec rfl (fun h10 => ?_) (fun h10 => ?_)
                    ·
                      replace hS := it_t h10 hS
                      refine VC.exit_mt () [1] (fun _ _ h => h) hS rfl
                    ·
                      replace hS := it_f h10 hS
                      refine VC.skip_mt () [1, 3, 5] (fun _ _ h => h) hS rfl
                  ·
                    replace hS := it_f h10 hS
                    refine VC.seq ?_
                    refine VC.region ?_
                    refine VL.q (q_seq rfl rfl) (by decide) ?_
                    refine VL.q (q_assign rfl) (by decide) ?_
                    refine VL.to (fun _ _ h => h) ?_
                    refine VC.cond_dec rfl (fun h10 => ?_) (fun h10 => ?_)
                    ·
                      replace hS := it_t h10 hS
                      refine VC.skip_to (fun _ _ h => h) ?_
                      refine VC.cond_dec rfl (fun h10 => ?_) (fun h10 => ?_)
                      ·
                        replace hS := it_t h10 hS
                        refine VC.exit_mt () [1] (fun _ _ h => h) hS rfl
                      ·
                        replace hS := it_f h10 hS
                        refine VC.skip_mt () [1, 3, 5] (fun _ _ h => h) hS rfl
                    ·
                      replace hS := it_f h10 hS
                      refine VC.region ?_
                      refine VL.q (q_seq rfl rfl) (by decide) ?_
                      refine VL.q (q_assign rfl) (by decide) ?_
                      refine VL.to (fun _ _ h => h) ?_
                      refine VC.cond_dec rfl (fun h10 => ?_) (fun h10 => ?_)
                      ·
                        replace hS := it_t h10 hS
                        refine VC.exit_mt () [1] (fun _ _ h => h) hS rfl
                      ·
                        replace hS := it_f h10 hS
                        refine VC.skip_mt () [1, 3, 5] (fun _ _ h => h) hS rfl
                · -- from there
                  clear hS
                  rintro _ hS
                  show VC _ _ _ _ _ [(1, ptr b1_1 0), (3, .bool true), (5, str c_0.verb)] (Mo.and Mo.tt _) (Ow.star (Blk b1_1 [str c_0.verb, str c_0.name, i64 c_0.n, str c_0.text, .bool c_0.force, c_0.todo.val] 62) (Ow.emp))
                  refine VC.seq ?_
                  refine VC.seq ?_
                  refine VC.region ?_
                  refine VL.q (q_seq rfl rfl) (by decide) ?_
                  refine VL.q (q_assign rfl) (by decide) ?_
                  refine VL.to (fun _ _ h => h) ?_
                  refine VC.cond_dec rfl (fun h14 => ?_) (fun h14 => ?_)
                  ·
                    replace hS := it_t h14 hS
                    refine VC.exit_mt () [1] (fun _ _ h => h) hS rfl
                  ·
                    replace hS := it_f h14 hS
                    refine VC.skip_to (fun _ _ h => h) ?_
                    refine VC.seq ?_
                    refine VC.region ?_
                    refine VL.q (q_seq rfl rfl) (by decide) ?_
                    refine VL.q (q_assign rfl) (by decide) ?_
                    refine VL.to (fun _ _ h => h) ?_
                    refine VC.cond_dec rfl (fun h16 => ?_) (fun h16 => ?_)
                    ·
                      replace hS := it_t h16 hS
                      refine VC.exit_mt () [1] (fun _ _ h => h) hS rfl
                    ·
                      replace hS := it_f h16 hS
                      refine VC.skip_to (fun _ _ h => h) ?_
                      refine VC.exit_mt true [3] (fun _ _ h => h) hS rfl
          · -- from there
            clear hS
            rintro _ hS
            show VC _ _ _ _ _ [(1, ptr b1_1 0)] (Mo.and Mo.tt _) (Ow.star (Blk b1_1 [str c_0.verb, str c_0.name, i64 c_0.n, str c_0.text, .bool c_0.force, c_0.todo.val] 62) (Ow.emp))
            refine VC.seq ?_
            refine VC.seq ?_
            refine VC.region ?_
            refine VL.q (q_field gfa62_1 rfl) (by decide) ?_
            refine VL.q (q_fe gone9 rfl rfl) (by decide) ?_
            obtain ⟨y23_9, ey23_9, hS⟩ := bd_s hS
            refine VL.q (q_call (path_Check_ct c_0.name ey23_9) rfl (fun _ _ => rfl)) (by decide) ?_
            refine VL.q (q_assign rfl) (by decide) ?_
            refine VL.to (fun _ _ h => h) ?_
            cases hS
            exact VC.ret (fin1 (.inr rfl) rfl rfl () rfl trivial (fun _ _ => trivial) (fun _ _ => trivial))
        · -- from there
          clear hS
          rintro _ hS
          show VC _ _ _ _ _ [(1, ptr b1_1 0)] (Mo.and Mo.tt _) (Ow.star (Blk b1_1 [str c_0.verb, str c_0.name, i64 c_0.n, str c_0.text, .bool c_0.force, c_0.todo.val] 62) (Ow.emp))
          refine VC.seq ?_
          refine VC.region ?_
          refine VL.q (q_field gfa62_1 rfl) (by decide) ?_
          refine VL.q (q_fe gone9 rfl rfl) (by decide) ?_
          obtain ⟨y26_10, ey26_10, hS⟩ := bd_s hS
          refine VL.q (q_call (names_Good_ct c_0.name ey26_10) rfl (fun _ _ => rfl)) (by decide) ?_
          refine VL.q (q_assign rfl) (by decide) ?_
          refine VL.to (fun _ _ h => h) ?_
          refine VC.exit_mt y26_10 [3] (fun _ _ h => h) hS rfl
      · -- from there
        clear hS
        rintro _ hS
        show VC _ _ _ _ _ [(1, ptr b1_1 0)] (Mo.and Mo.tt _) (Ow.star (Blk b1_1 [str c_0.verb, str c_0.name, i64 c_0.n, str c_0.text, .bool c_0.force, c_0.todo.val] 62) (Ow.emp))
        refine VC.seq ?_
        refine VC.region ?_
        refine VL.q (q_field gfa62_1 rfl) (by decide) ?_
        refine VL.q (q_fe gone9 rfl rfl) (by decide) ?_
        refine VL.q (q_seq rfl rfl) (by decide) ?_
        refine VL.q (q_move rfl) (by decide) ?_
        refine VL.split_dec 30 rfl (fun h30 => ?_) (fun h30 => ?_)
        ·
          replace hS := it_t h30 hS
          refine VL.gn rfl rfl rfl (by decide) ?_
          refine VL.gn rfl rfl rfl (by decide) ?_
          refine VL.gn rfl rfl rfl (by decide) ?_
          refine VL.q (q_pick_t rfl rfl) (by decide) ?_
          refine VL.q (q_assign rfl) (by decide) ?_
          refine VL.to (fun _ _ h => h) ?_
          refine VC.exit_mt true [3] (fun _ _ h => h) hS rfl
        ·
          replace hS := it_f h30 hS
          refine VL.gy rfl rfl (q_field gfa62_1 rfl) (by decide) ?_
          refine VL.gy rfl rfl (q_fe gone9 rfl rfl) (by decide) ?_
          obtain ⟨y33_11, ey33_11, hS⟩ := bd_s hS
          refine VL.gy rfl rfl (q_call (names_Good_ct c_0.name ey33_11) rfl (fun _ _ => rfl)) (by decide) ?_
          refine VL.q (q_pick_f rfl rfl) (by decide) ?_
          refine VL.q (q_assign rfl) (by decide) ?_
          refine VL.to (fun _ _ h => h) ?_
          refine VC.exit_mt y33_11 [3] (fun _ _ h => h) hS rfl
    · -- from there
      clear hS
      rintro _ hS
      show VC _ _ _ _ _ [(1, ptr b1_1 0)] (Mo.and Mo.tt _) (Ow.star (Blk b1_1 [str c_0.verb, str c_0.name, i64 c_0.n, str c_0.text, .bool c_0.force, c_0.todo.val] 62) (Ow.emp))
      refine VC.seq ?_
      refine VC.region ?_
      refine VL.q (q_field gfa62_1 rfl) (by decide) ?_
      refine VL.q (q_fe gone9 rfl rfl) (by decide) ?_
      refine VL.q (q_seq rfl rfl) (by decide) ?_
      refine VL.q (q_move rfl) (by decide) ?_
      refine VL.split_dec 38 rfl (fun h38 => ?_) (fun h38 => ?_)
      ·
        replace hS := it_t h38 hS
        refine VL.gn rfl rfl rfl (by decide) ?_
        refine VL.gn rfl rfl rfl (by decide) ?_
        refine VL.gn rfl rfl rfl (by decide) ?_
        refine VL.q (q_pick_t rfl rfl) (by decide) ?_
        refine VL.q (q_move rfl) (by decide) ?_
        refine VL.gn rfl rfl rfl (by decide) ?_
        refine VL.gn rfl rfl rfl (by decide) ?_
        refine VL.gn rfl rfl rfl (by decide) ?_
        refine VL.q (q_pick_t rfl rfl) (by decide) ?_
        refine VL.q (q_assign rfl) (by decide) ?_
        refine VL.to (fun _ _ h => h) ?_
        refine VC.keep [3] rfl ?_
        refine VC.exit_mt true [3] (fun _ _ h => h) hS rfl
      ·
        replace hS := it_f h38 hS
        refine VL.gy rfl rfl (q_field gfa62_1 rfl) (by decide) ?_
        refine VL.gy rfl rfl (q_fe gone9 rfl rfl) (by decide) ?_
        refine VL.gy rfl rfl (q_seq rfl rfl) (by decide) ?_
        refine VL.q (q_pick_f rfl rfl) (by decide) ?_
        refine VL.q (q_move rfl) (by decide) ?_
        refine VL.split_dec 43 rfl (fun h43 => ?_) (fun h43 => ?_)
        ·
          replace hS := it_t h43 hS
          refine VL.gn rfl rfl rfl (by decide) ?_
          refine VL.gn rfl rfl rfl (by decide) ?_
          refine VL.gn rfl rfl rfl (by decide) ?_
          refine VL.q (q_pick_t rfl rfl) (by decide) ?_
          refine VL.q (q_assign rfl) (by decide) ?_
          refine VL.to (fun _ _ h => h) ?_
          refine VC.keep [3] rfl ?_
          refine VC.exit_mt true [3] (fun _ _ h => h) hS rfl
        ·
          replace hS := it_f h43 hS
          refine VL.gy rfl rfl (q_field gfa62_1 rfl) (by decide) ?_
          refine VL.gy rfl rfl (q_fe gone9 rfl rfl) (by decide) ?_
          refine VL.gy rfl rfl (q_seq rfl rfl) (by decide) ?_
          refine VL.q (q_pick_f rfl rfl) (by decide) ?_
          refine VL.q (q_assign rfl) (by decide) ?_
          refine VL.to (fun _ _ h => h) ?_
          refine VC.keep [3] rfl ?_
          refine VC.exit_mt (decide (c_0.name = [104, 97, 114, 100])) [3] (fun _ _ h => h) hS rfl
  · -- from there
    clear hS
    rintro ok3_2 hS
    show VC _ _ _ _ _ [(3, .bool ok3_2)] (Mo.and Mo.tt _) (Ow.star (Blk b1_1 [str c_0.verb, str c_0.name, i64 c_0.n, str c_0.text, .bool c_0.force, c_0.todo.val] 62) (Ow.emp))
    refine VC.seq ?_
    refine VC.seq ?_
    refine VC.region ?_
    refine VL.q (q_move rfl) (by decide) ?_
    refine VL.q (q_not rfl) (by decide) ?_
    refine VL.to (fun _ _ h => h) ?_
    refine VC.cond rfl (fun h49 => ?_) (fun h49 => ?_)
    ·
      replace hS := it_t h49 hS
      refine VC.seq ?_
      refine VC.region ?_
      refine VL.q (q_assign rfl) (by decide) ?_
      refine VL.to (fun _ _ h => h) ?_
      cases hS
      exact VC.ret (fin1 (.inr rfl) rfl rfl () rfl trivial (fun _ _ => trivial) (fun _ _ => trivial))
    ·
      replace hS := it_b h49 hS
      refine VC.skip_to (fun _ _ h => h) ?_
      refine VC.seq ?_
      refine VC.region ?_
      refine VL.q (q_assign rfl) (by decide) ?_
      refine VL.to (fun _ _ h => h) ?_
      cases hS
      exact VC.ret (fin1 (.inr rfl) rfl rfl () rfl trivial (fun _ _ => trivial) (fun _ _ => trivial))

end Go.Proofs.YtipnlckfohhkbaaDoor
end
