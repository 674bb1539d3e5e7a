/- Empty lines and remarks between steps are as if they were not there: the law of the lines that count. -/
import Derived.Deep.DeepHandedRow
import Derived.LaidLaws
import Derived.Test.YtipnlckfohhkbaaDoorCards
import Derived.Test.YtipnlckfohhkbaaDoorTie
import Derived.Test.YtipnlckfohhkbaaDoorUC
set_option linter.unusedVariables false
set_option linter.unusedSimpArgs false
set_option linter.unusedSectionVars false
section
set_option linter.unusedVariables false
namespace Go.Proofs.YtipnlckfohhkbaaDoor
open Go.ChangeShapes Go.WideShapes Go.ChangeAt Go.RowKit Go.V
open Go.S hiding Str
theorem Tryd.own : ownKnob Tryd.prog.godebug = none := by kernel_rfl
theorem Tryd.laidOut : laidOutB Tryd.prog = true := by kernel_rfl
instance : Rg TodoStep := ⟨fun x => Rg.rg x.commit⟩
/-- a part's bulk is at most the whole's -/
theorem bulk_part {H : Type} {d : DataW H} {l : List (DataW H)} (h : d ∈ l) : Rows.uptoBulk d ≤ Rows.uptoBulkAll l := by
  induction l with
  | nil => cases h
  | cons x r ih =>
    simp only [Rows.uptoBulkAll]
    cases List.mem_cons.1 h with
    | inl e => subst e; omega
    | inr e => have := ih e; omega
def wt (x : TodoStep) : Nat := x.verb.length + x.text.length
set_option maxRecDepth 100000 in
/-- a step that is read, and its letters -/
theorem opn26b {H : Type} {enc : TypeId × Value → H} {W : World} {b0 : Nat} {sp : Nat → Bool} {hd : Bool} {fuel : Nat} {cs : List Value} {x : DataW H × List MemPlace} (h : DataW.trod enc Tryd.prog W b0 sp hd fuel 26 cs = some x) :
    ∃ z : TodoStep, cs = Dat.enc z ∧ (Dat.deep z).on (wh W) ∧ Rg.rg z ∧ wt z ≤ Rows.uptoBulk x.1 := by
  obtain ⟨xs, n, rfl, rfl, hl, hx, hf⟩ := DataW.trod_struct Tryd.underlying26 h
  rw [show Tryd.prog.cellsOf 26 = 3 by kernel_rfl] at hl
  replace hx : xs.length = 3 := hx
  have c9 : Tryd.prog.cellsOf 9 = 1 := by kernel_rfl
  have c3 : Tryd.prog.cellsOf 3 = 1 := by kernel_rfl
  match cs, hl, xs, hx, hf with
  | [c0, c1, c2], _, [a0, a1, a2], _, hf =>
    have h0 : DataW.trod enc Tryd.prog W b0 sp hd n 9 (([c0, c1, c2].drop 0).take (Tryd.prog.cellsOf 9)) = some a0 := hf 0 _ rfl
    have h1 : DataW.trod enc Tryd.prog W b0 sp hd n 3 (([c0, c1, c2].drop 1).take (Tryd.prog.cellsOf 3)) = some a1 := hf 1 _ rfl
    have h2 : DataW.trod enc Tryd.prog W b0 sp hd n 9 (([c0, c1, c2].drop 2).take (Tryd.prog.cellsOf 9)) = some a2 := hf 2 _ rfl
    rw [c9] at h0 h2
    rw [c3] at h1
    obtain ⟨s0, e0, rfl, _⟩ := DataW.trod_string Tryd.underlying9 h0
    obtain ⟨s2, e2, rfl, _⟩ := DataW.trod_string Tryd.underlying9 h2
    obtain ⟨n1, e1, rfl, hw⟩ := DataW.trod_int Tryd.underlying3 h1
    obtain rfl : c0 = .string s0 := List.head_eq_of_cons_eq e0
    obtain rfl : c2 = .string s2 := List.head_eq_of_cons_eq e2
    obtain rfl : c1 = .int .i64 n1 := List.head_eq_of_cons_eq e1
    have hb : -9223372036854775808 ≤ n1 ∧ n1 ≤ 9223372036854775807 := by simpa [Lit.wf, IntKind.min, IntKind.max, IntKind.signed, IntKind.bits] using hw
    refine ⟨⟨s0.data.toList, n1, s2.data.toList⟩, rfl, trivial, hb, ?_⟩
    simp only [wt, List.map_cons, List.map_nil, Rows.uptoBulk, Rows.uptoBulkAll]
    omega
theorem svb {H : Type} {enc : TypeId × Value → H} {W : World} {b0 : Nat} {sp : Nat → Bool} {hd : Bool} {fuel : Nat} {cs : List Value} {x : DataW H × List MemPlace} (h : DataW.trod enc Tryd.prog W b0 sp hd fuel 22 cs = some x) :
    ∃ z : Sv TodoStep, cs = Dat.enc z ∧ (Dat.deep z).on (wh W) ∧ Rg.rg z ∧ ∀ y ∈ z.l, wt y ≤ Rows.uptoBulk x.1 := by
  have hc : Tryd.prog.cellsOf 26 = Dat.sz TodoStep := by kernel_rfl
  have hpos : 0 < Dat.sz TodoStep := by decide
  rcases DataW.trod_slice Tryd.underlying22 h with ⟨rfl, _⟩ | ⟨a, len, cap, elems, rest, n, _, rfl, rfl, hb, hl, hm, hlen, hel, _⟩
  · exact ⟨⟨none, 0, []⟩, rfl, ⟨Nat.le_refl _, by simp [maxLen], fun h => absurd rfl h, fun _ _ h => by simp at h, fun _ h => by cases h⟩, fun _ h => (by cases h), fun _ h => (by cases h)⟩
  · have each : ∀ i, i < len → ∃ z : TodoStep, W.cells? b0 (a.add (i * Dat.sz TodoStep)) (Dat.sz TodoStep) = some (Dat.enc z) ∧ ((Dat.deep z).on (wh W) ∧ Rg.rg z) ∧ wt z ≤ Rows.uptoBulk (.slice (elems.map (·.1)) (rest.map (·.1))) := fun i hi => by
      have h1 := hel i hi
      rw [List.getElem?_eq_getElem (by omega), hc] at h1
      cases h2 : W.cells? b0 (a.add (i * Dat.sz TodoStep)) (Dat.sz TodoStep) with
      | none => rw [h2] at h1; cases h1
      | some cs' =>
        rw [h2] at h1
        obtain ⟨z, rfl, hz, hg, hw⟩ := opn26b h1
        refine ⟨z, rfl, ⟨hz, hg⟩, Nat.le_trans hw ?_⟩
        have := bulk_part (List.mem_map.2 ⟨_, List.getElem_mem (l := elems) (n := i) (by omega), rfl⟩ : (elems[i]'(by omega)).1 ∈ elems.map (·.1))
        simp only [Rows.uptoBulk]
        omega
    obtain ⟨l, h1, h2⟩ := pick_list len each
    refine ⟨⟨some a, cap, l⟩, by rw [← h1]; rfl, ⟨by simpa [h1] using hl, hm, fun hne => ?_, fun i z hz => ?_, fun z hz => ?_⟩, fun z hz => ?_, fun z hz => ?_⟩
    · simp only at hne
      obtain ⟨z, hz⟩ : ∃ z, l[0]? = some z := ⟨_, List.getElem?_eq_getElem (List.length_pos_iff.2 hne)⟩
      have := (cells_at (h2 0 z hz).1 hpos).1
      simp only [Nat.zero_mul] at this
      cases a
      simp [Addr.add] at this
      simp_all [Sv.b, Sv.o]
    · have := (cells_at (h2 i z hz).1 hpos).2
      rw [add_block, add_off] at this
      exact this
    · obtain ⟨i, hi, rfl⟩ := List.mem_iff_getElem.1 hz
      exact (h2 i l[i] (List.getElem?_eq_getElem hi)).2.1.1
    · obtain ⟨i, hi, rfl⟩ := List.mem_iff_getElem.1 hz
      exact (h2 i l[i] (List.getElem?_eq_getElem hi)).2.1.2
    · obtain ⟨i, hi, rfl⟩ := List.mem_iff_getElem.1 hz
      exact (h2 i l[i] (List.getElem?_eq_getElem hi)).2.2
set_option maxRecDepth 100000 in
theorem todoLines_ctr (H : Type) (enc : TypeId × Value → H) (W : World) (base : Nat) (args : Array Value) (ds gs : List (DataW H)) (before : List MemPlace)
    (hval0 : ∀ (j : Nat) t v, Tryd.f3.params[j]? = some t → args[j]? = some v → Value.okWide Tryd.prog W .any base t v)
    (hW : DataW.Whole enc Tryd.prog Tryd.f3.params.toList Rows.todoLinesSpec.vars false W args.toList ds gs before) (hk : Rows.uptoSmall H (ds ++ gs) = true) (hL : laidMetH Tryd.prog Rows.todoLinesRow.laid W) :
    Calls Tryd.prog 3 args W fun e W' => ∃ v, e = .returned v ∧ Rows.todoLinesSpec.post enc Tryd.prog Tryd.f3 false true false false W args v W' := by
  have hval : ∀ (j : Nat) t v, Tryd.f3.params[j]? = some t → args[j]? = some v → Value.okWide Tryd.prog W .any base t v := hval0
  have hW' := hW
  obtain ⟨p, q, hA0, hV, hpq, hfz, hnd⟩ := hW'
  have hA : DataW.TrodAll enc Tryd.prog W 0 (fun _ => true) true Tryd.f3.params.toList args.toList ds p := hA0
  rw [Tryd.params3] at hA hval
  obtain ⟨v0, vs0, d0, ds0, p0, q0, hargs, rfl, hp0, h0, r0⟩ := trodAll_cons hA
  obtain ⟨v1, vs1, d1, ds1, p1, q1, rfl, rfl, hp1, h1, r1⟩ := trodAll_cons r0
  obtain ⟨rfl, rfl, hq⟩ := trodAll_nil r1
  obtain rfl : args = #[v0, v1] := by cases args; simp_all
  have hbulk : Rows.uptoBulkAll ((d0 :: [d1]) ++ gs) ≤ 1048576 := of_decide_eq_true hk
  simp only [List.cons_append, Rows.uptoBulkAll] at hbulk
  obtain ⟨n0, h0'⟩ := h0
  obtain ⟨x0, e0, m0, g0, w0⟩ := svb h0'
  obtain rfl := okw_slice Tryd.underlying22 (hval 0 22 v0 rfl rfl) e0
  obtain ⟨x1, e1, m1, g1⟩ := Opn.arg (Opn.sv (α := UInt8) Tryd.underlying23 (by kernel_rfl) (by decide) (Opn.u8 Tryd.underlying5)) h1
  obtain rfl := okw_slice Tryd.underlying23 (hval 1 23 v1 rfl rfl) e1
  have gl1 := tab_laid (name := "internal/strconv.uint64pow10") (g := 1) (t := 201) (e := 181) (n := 20) (k := .u64) (zs := Lib.pow10Tab) (by kernel_rfl) (by kernel_rfl) Tryd.underlying201 Tryd.underlying181 (by kernel_rfl) (by kernel_rfl) (by kernel_rfl) hL
  have hI : ∀ y ∈ x0.l, y.verb.length ≤ 1048576 ∧ y.text.length ≤ 1048576 ∧ Go.S.I64 y.commit := fun y hy => by
    have hw := w0 y hy
    simp only [wt] at hw
    exact ⟨by omega, by omega, g0 y hy⟩
  refine (((rectolaw21_TodoLines_ct x0 x1 (todoLines_ok x0.l x1.l hI)).law ⟨m0, m1, gl1⟩)).mono fun e W' ⟨he, hg⟩ => ⟨_, he, ?_⟩
  exact law_post Tryd.laidOut (by kernel_rfl) (by kernel_rfl) Tryd.underlying4 rfl hW hg rfl
theorem todoLines_reads (os : Os) {H : Type} (enc : TypeId × Value → H) : DataW.whole enc Tryd.prog ((World.laidAll Tryd.prog os Rows.todoLinesRow.laid).forCall (fun _ _ => 0) ⟨#[], #[.slice none 0 0, .slice none 0 0], []⟩).memory Tryd.f3.params.toList Rows.todoLinesSpec.vars false (#[Value.slice none 0 0, .slice none 0 0] : Array Value).toList 8 = some ([.nil, .nil], [], []) := by kernel_rfl
theorem todoLines_okw (os : Os) : Input.okWideB Tryd.prog ((World.laidAll Tryd.prog os Rows.todoLinesRow.laid).forCall (fun _ _ => 0) ⟨#[], #[.slice none 0 0, .slice none 0 0], []⟩) 3 ⟨#[], #[.slice none 0 0, .slice none 0 0], []⟩ = true := by kernel_rfl
set_option maxRecDepth 100000 in
theorem todoLinesUpto_lifted (os : Os) (started : os.Started) (H : Type) (enc : TypeId × Value → H) (F : Stop.Interp) :
    ReturnsInHanded {} Tryd.checked os 3 .any ((Rows.OpenSpec.upto Rows.todoLinesSpec).preRow enc Tryd.prog Tryd.f3 Rows.todoLinesUptoRow.domain false Rows.todoLinesUptoRow.laid) (((Rows.OpenSpec.upto Rows.todoLinesSpec).at F).post enc Tryd.prog Tryd.f3 false true false false) := by
  refine returnsInHanded_of_row (C := Tryd.checked) (s := Rows.OpenSpec.upto Rows.todoLinesSpec) Tryd.own started (by kernel_rfl) Tryd.func3
    ⟨World.laidAll Tryd.prog os Rows.todoLinesRow.laid, fun _ _ => 0, ⟨#[], #[.slice none 0 0, .slice none 0 0], []⟩, World.laidAll_os _ _ _, World.shaped_of_ZipB (by kernel_rfl) (by kernel_rfl), (Input.okWide_of_okWideB (base := 0) (todoLines_okw os)).1, (Input.okWide_of_okWideB (todoLines_okw os)).2,
      OpenSpec.preRow_of_cond 8 (todoLines_reads os enc) (by kernel_rfl) (fun k hk => by cases hk; kernel_rfl) (by kernel_rfl) (by rw [MakeChecks.laidMetH_plain _ _ _ (by kernel_rfl)]; exact laidMet_laidAll _ (by kernel_rfl) (by kernel_rfl)), by
      simp only [Assume.holds]
      exact ⟨by simp, by simp, fun _ => Modest.zero, by simp, by simp⟩⟩ ?_
  intro W base args ds gs before hval hW _ hcond _ hL _ _
  exact todoLines_ctr H enc W base args ds gs before hval hW (hcond _ rfl) hL
theorem todoLines_upto : Rows.TodoLinesUptoSaid :=
  OpenClaim.holds_of_cond 3 Tryd.f3 rfl rfl rfl rfl rfl rfl rfl ⟨rfl, rfl, rfl, rfl, rfl⟩ rfl rfl rfl rfl rfl (by kernel_rfl) Tryd.func3 (by kernel_rfl)
    (of_decide_eq_true (by kernel_rfl)) (by unfold Func.isWrapper; first | (rw [if_pos (by decide +kernel)]; kernel_rfl) | (rw [if_neg (by decide +kernel)]; exact ⟨rfl, rfl⟩))
    (fun os started H enc _ F => by rw [OpenClaim.pre_eq_preRow]; exact todoLinesUpto_lifted os started H enc F)
theorem todoLinesUpto_card : Rows.TodoLinesUptoCardSaid :=
  Claim7.holds_tied_plain_at .later [] [.data, .data, .data, .data, .pinned] true (true, "63111ccc22840064956b00befcee19eb5b0b49b664c63450bea08efe35f63a0c") false todoLines_upto (fun _ h => by cases h) (by kernel_rfl) (fun _ h => by cases h) todoLinesUpto_row_tie rfl ⟨rfl, rfl⟩ (by kernel_rfl) rfl
    (fun f fn hf hfn => by
      obtain rfl : f = 3 := Option.some.inj ((show Tryd.prog.funcNamed "recto/rectolaw21.TodoLines" = some 3 by kernel_rfl).symm.trans hf) |>.symm
      obtain rfl : fn = Tryd.f3 := (Option.some.inj (Tryd.func3.symm.trans hfn)).symm
      exact ⟨by kernel_rfl, fun j t ht => by
        rw [Tryd.params3] at ht
        have hm : t ∈ [22, 23] := by simpa using Array.mem_of_getElem? ht
        have hall : ([22, 23].all fun u => !Tryd.prog.wantsStandIn u) = true := by kernel_rfl
        exact (show Tryd.prog.wantsStandIn t = false by simpa using List.all_eq_true.1 hall t hm)⟩)
    (by kernel_rfl)
end Go.Proofs.YtipnlckfohhkbaaDoor
end
