/- Part of the proofs of: Any steps in words and back, and whether they can be done on any commits, and the first that can not: as the document has it, for any steps and any graph. -/
import Derived.ProofKit
import Derived.OpenShut
import Derived.LaidMore
import Derived.Lay
import Derived.SevenTiedAt
import Derived.Stop.Joined
import Derived.LaidHandle
import Derived.Test.YtnkoilkmnpmlmaaGreatDoorBD
set_option linter.unusedVariables false
set_option linter.unusedSimpArgs false
set_option linter.unusedSectionVars false
section
namespace Go.S
open Go
theorem todoBack_ok (l : List TodoStep) (g : List (List Int)) (hI : ∀ x ∈ l, I64 x.commit) : Sh.rectolaw21_TodoBack l g = some true := by
  apply Ok.eq
  unfold Sh.rectolaw21_TodoBack
  rw [known21, Option.bind_some, if_neg (by simp)]
  refine ok_jnP (fun b => b = false → l.length ≤ 40 ∧ g.length ≤ 60) ?_ ?_
  · intro b0 hb0
    simp only [ok_if, ok_some]
    refine ⟨fun _ => trivial, fun hbf => ?_⟩
    obtain ⟨hl, hg⟩ := hb0 (by simpa using hbf)
    refine ok_iter (I := fun t => 0 ≤ t.2 ∧ t.2 ≤ l.length ∧ (∀ x ∈ l.take t.2.toNat, x.verb.length ≤ 30 ∧ x.text.length ≤ 300) ∧ (t.1 = true → l.length ≤ 32 ∧ ∀ x ∈ l.take t.2.toNat, Good21 x)) (μ := fun t => (l.length - t.2).toNat) ?_ ⟨by simp, by simp, by simp, fun h => ⟨by have := of_decide_eq_true h; omega, by simp⟩⟩
    rintro ⟨b, i⟩ ⟨i0, i1, i2, i3⟩
    dsimp only at i0 i1 i2 i3 ⊢
    simp only [ok_if, ok_up, ok_bd, ok_gd, ok_lt, ok_go, ok_some, ok_at]
    refine ⟨fun hi => ?_, fun hi => ?_⟩
    · obtain ⟨x, hx⟩ := at_get (l := l) i0 hi
      refine ok_jnP (fun b' => (x.verb.length ≤ 30 ∧ x.text.length ≤ 300) ∧ (b' = true → l.length ≤ 32 ∧ (∀ y ∈ l.take i.toNat, Good21 y) ∧ Good21 x)) ?_ ?_
      · rintro b' ⟨hv, hb⟩
        simp only [ok_gd, ok_go]
        refine ⟨⟨by omega, by omega⟩, ⟨by omega, by omega, fun y hy => ?_, fun q => ⟨(hb q).1, fun y hy => ?_⟩⟩, by omega⟩
        · rw [take_snoc i0 hx] at hy
          rcases List.mem_append.1 hy with q | q
          · exact i2 y q
          · rw [List.mem_singleton.1 q]; exact hv
        · rw [take_snoc i0 hx] at hy
          rcases List.mem_append.1 hy with q2 | q2
          · exact (hb q).2.1 y q2
          · rw [List.mem_singleton.1 q2]; exact (hb q).2.2
      · intro K hK
        rw [ok_bd, ok_at]
        refine ⟨i0, x, hx, ?_⟩
        refine ok_jnP (fun c => c = false → x.verb.length ≤ 30 ∧ x.text.length ≤ 300) ?_ ?_
        · intro c hc
          simp only [ok_if, ok_up, ok_some]
          refine ⟨fun _ => trivial, fun hcf => ?_⟩
          have hv := hc (by simpa using hcf)
          refine ok_jnP (fun c => c = true → b = true ∧ isV x.verb = true ∧ 1 ≤ x.commit ∧ x.commit ≤ 1000000) ?_ ?_
          · intro c hc
            simp only [ok_if, ok_bd]
            have no : Ok (K false) _ := hK false ⟨hv, fun h => by cases h⟩
            refine ⟨fun hr => ⟨fun hct => ⟨fun _ => no, fun hne => ⟨fun h256 => Ok.of (lines_ok (by omega)) (hK _ ⟨hv, fun h1 => ?_⟩), fun _ => no⟩⟩, fun _ => no⟩, fun hr => hK _ ⟨hv, fun hct => ?_⟩⟩
            · obtain ⟨c1, c2, c3, c4⟩ := hc hct
              refine ⟨(i3 c1).1, (i3 c1).2, c2, c3, c4, fun _ => ⟨hne, by omega, fun hm => ?_⟩⟩
              have h1' := of_decide_eq_true h1
              rw [spl_len] at h1'
              have := List.count_pos_iff.2 hm
              omega
            · obtain ⟨c1, c2, c3, c4⟩ := hc hct
              exact ⟨(i3 c1).1, (i3 c1).2, c2, c3, c4, fun e => absurd e hr⟩
          · intro K2 hK2
            have no : Ok (K2 false) _ := hK2 false fun h => by cases h
            simp only [ok_if, ok_bd]
            refine ⟨fun hbt => (rverb_ok _).mono fun v hvv => ⟨fun h0 => ⟨fun h1 => hK2 _ fun h2 => ⟨hbt, ?_, h1, of_decide_eq_true h2⟩, fun _ => no⟩, fun _ => no⟩, fun _ => no⟩
            cases hq : isV x.verb with
            | true => rfl
            | false => have := hvv.2 hq; omega
        · intro K2 hK2
          simp only [ok_if]
          refine ⟨fun _ => hK2 _ fun h => (by cases h), fun h30 => hK2 _ fun h => ?_⟩
          have := of_decide_eq_false h
          omega
    · have htk : l.take i.toNat = l := by rw [show i.toNat = l.length by omega, List.take_length]
      rw [htk] at i2 i3
      have hs : ∀ x ∈ l, Sml x := fun x hx => ⟨by have := (i2 x hx).1; omega, by have := (i2 x hx).2; omega, hI x hx⟩
      refine ok_jnP (fun c => c = false) ?_ ?_
      · rintro c rfl
        simp only [ok_if, ok_bd, ok_some]
        refine ⟨fun h => (by cases h), fun _ => ⟨fun _ => trivial, fun hb => ?_⟩⟩
        obtain ⟨h32, hgood⟩ := i3 (by simpa using hb)
        have hp := textS_len hs
        refine Ok.of (text_ok hs (by omega)) (Ok.of (parse_ok (by omega)) ?_)
        rw [back_ok hgood h32]
        refine ok_jnP (fun c => c = false) ?_ ?_
        · rintro c rfl
          rw [if_neg (by simp)]
          refine ok_iter (I := fun i => 0 ≤ i ∧ i ≤ l.length) (μ := fun i => (l.length - i).toNat) ?_ ⟨by omega, by omega⟩
          rintro j ⟨j0, j1⟩
          simp only [ok_if, ok_up, ok_some]
          refine ⟨fun hj => ?_, fun _ => trivial⟩
          refine ok_jnP (fun c => c = false) ?_ ?_
          · rintro c rfl
            rw [if_neg (by simp), ok_gd, ok_go]
            exact ⟨⟨by omega, by omega⟩, ⟨by omega, by omega⟩, by omega⟩
          · intro K hK
            obtain ⟨x, hx⟩ := at_get (l := l) j0 hj
            have hx' : (l.map norm)[j.toNat]? = some (norm x) := by rw [List.getElem?_map, hx]; rfl
            simp only [ok_if, ok_bd, ok_at]
            refine ⟨j0, _, hx', j0, _, hx, fun _ => ⟨j0, _, hx', j0, _, hx, fun _ => ⟨j0, _, hx, fun hr => ⟨j0, _, hx', j0, _, hx, fun _ => ⟨j0, _, hx, fun _ => hK _ rfl, fun h => absurd hr h⟩, fun h => absurd ?_ h⟩, fun hr => ⟨j0, _, hx, fun h => absurd h hr, fun _ => ⟨j0, _, hx', hK _ ?_⟩⟩⟩, fun h => absurd rfl h⟩, fun h => absurd rfl h⟩
            · simp [norm, rewordW, hr]
            · simp [norm, rewordW, hr]
        · intro K hK
          simp only [ok_if]
          refine ⟨fun _ => hK _ (by simp), fun h => absurd rfl h⟩
      · intro K hK
        simp only [ok_if, ok_bd]
        refine Ok.of (tcheck_ok (by omega)) (Ok.of (of21_ok (by omega)) (Ok.of (rcheck_ok (by omega)) (Ok.of (checkS_tells l g (by omega)) ⟨fun h => by simp at h, fun _ => Ok.of (text_ok hs (by omega)) (Ok.of (of21_ok (by omega)) (Ok.of (rtext_ok hs (by omega)) (hK _ ?_)))⟩)))
        simp
  · intro K hK
    simp only [ok_if, ok_bd]
    refine ⟨fun _ => hK _ fun h => (by cases h), fun h1 => ⟨fun _ => hK _ fun h => (by cases h), fun h2 => (check_ok g).mono fun r _ => hK _ fun _ => ⟨by omega, by omega⟩⟩⟩
end Go.S
end

section
set_option linter.unusedVariables false
namespace Go.V
open Go.RowKit Go.ChangeShapes Go.WideShapes
/-- a law's run, in the kit's words -/
theorem Ct.law {P : Program} {f : FuncId} {args : List Value} {M : Mo} {v : Value} {φ : Unit → Prop} {M2 : Unit → Mo} {E2 : Unit → Ow} (h : Ct P f args M Ow.emp (fun _ => v) φ M2 E2) {w : World} (hM : M.on (wh w)) :
    Calls P f args.toArray w fun en w' => en = .returned v ∧ Gr w w' :=
  (h.calls w (wh w) Hp.nil hM trivial (Hp.nil_off _) (fun _ _ e => e) (fun b o q => by cases q)).mono fun en w' ⟨r, e1, z, e2, e3, e4⟩ => ⟨by rw [e1, e2], e4.os, e4.tape, e4.output, e4.size, fun b hb => e4.frame b hb (by simp [Hp.nil])⟩
section
variable {H : Type} {enc : TypeId × Value → H} {P : Program} {W W' : World}
theorem trodAll_stays (hl : laidOutB P = true) {sp' : Nat → Bool} : ∀ {ts : List TypeId} {vs : List Value} {ds : List (DataW H)} {ps : List MemPlace}, ts.all (fun t => P.readableRec t && decide (t < P.types.size)) = true →
    DataW.TrodAll enc P W 0 (fun _ => true) true ts vs ds ps → (∀ p ∈ ps, W.sameAt W' p) → (∀ p ∈ ps, sp' p.block = true) → DataW.TrodAll enc P W' 0 sp' true ts vs ds ps
  | [], [], [], _, _, h, _, _ => h
  | t :: ts, v :: vs, d :: ds, _, ha, ⟨p, q, h1, h2, rfl⟩, hs, hb => by
    simp only [List.all_cons, Bool.and_eq_true, decide_eq_true_eq] at ha
    exact ⟨p, q, WideElems.Trod_stays hl ha.1.1 ha.1.2 h1 (fun x hx => hs x (List.mem_append_left _ hx)) (fun x hx => hb x (List.mem_append_left _ hx)),
      trodAll_stays hl ha.2 h2 (fun x hx => hs x (List.mem_append_right _ hx)) (fun x hx => hb x (List.mem_append_right _ hx)), rfl⟩
  | [], _ :: _, _, _, _, h, _, _ => by simp [DataW.TrodAll] at h
  | [], [], _ :: _, _, _, h, _, _ => by simp [DataW.TrodAll] at h
  | _ :: _, [], _, _, _, h, _, _ => by simp [DataW.TrodAll] at h
  | _ :: _, _ :: _, [], _, _, h, _, _ => by simp [DataW.TrodAll] at h
theorem Gr.below (h : Gr W W') : Below W.heap.size W W' := ⟨h.os, h.tape, h.output, h.size, h.block⟩
/-- a law that answers true and leaves all as it was -/
theorem law_post {f : Func} {s : ChangeSpec} {args : Array Value} {ds gs : List (DataW H)} {before : List MemPlace} {tb : TypeId} {fresh handsOn : Bool}
    (hl : laidOutB P = true) (hp : f.params.toList.all (fun t => P.readableRec t && decide (t < P.types.size)) = true) (hr : f.resultTypes = #[tb]) (htb : P.underlying tb = some .bool) (hv : s.vars = [])
    (hW : DataW.Whole enc P f.params.toList s.vars false W args.toList ds gs before) (hg : Gr W W') (hs : s.fn H ds = ⟨[.lit (.bool true)], ds, []⟩) : s.post enc P f false fresh handsOn false W args (.bool true) W' := by
  have hW' := hW
  obtain ⟨p, q, hA, hV, rfl, hfz, hnd⟩ := hW
  rw [hv] at hV
  obtain ⟨rfl, rfl⟩ : gs = [] ∧ q = [] := by
    cases gs
    · exact ⟨rfl, hV⟩
    · simp [DataW.TrodVars] at hV
  have hb : ∀ x ∈ p, x.block < W.heap.size := fun x hx => by simpa using hW'.lt x (List.mem_append_left _ hx)
  refine ⟨ds, [], _, [], p, [], hW', ?_, ?_, ?_, hg.below.frame _, fun h => by cases h⟩
  · rw [List.append_nil, hs, hr]
    exact trodAll_mk1 (shut_bool htb true)
  · rw [List.append_nil, hs]
    exact trodAll_stays hl hp hA (fun x hx => hg.below.same (hb x hx)) (fun x hx => by simpa using hb x hx)
  · rw [List.append_nil, hs, hv]
    rfl
theorem add_block (a : Addr) (i : Nat) : (a.add i).block = a.block := by unfold Addr.add; split <;> rfl
theorem add_off (a : Addr) (i : Nat) : (a.add i).off = a.off + i := by unfold Addr.add; split <;> simp_all
theorem op_str {t : TypeId} {v : Value} {r : Reach} {b0 : Nat} (ht : P.underlying t = some .string) (hv : Value.okWide P W r b0 t v) : ∃ s : Str, v = str s := by
  obtain ⟨s, rfl⟩ := okWide_string ht hv
  exact ⟨s.data.toList, rfl⟩
theorem op_strs {t e : TypeId} {v : Value} {r : Reach} {b0 b1 : Nat} {sp : Nat → Bool} {hd : Bool} {d : DataW H} {p : List MemPlace} (ht : P.underlying t = some (.slice e)) (he : P.underlying e = some .string) (hc : P.cellsOf e = 1)
    (hv : Value.okWide P W r b0 t v) (h : DataW.Trod enc P W b1 sp hd t v d p) : ∃ s : Sv Str, v = s.val ∧ s.ok.on (wh W) := by
  obtain ⟨a0, len, cap, rfl⟩ := okWide_slice ht hv
  obtain ⟨fuel, hf⟩ := h
  rcases open_strings ht he hc hf with ⟨hcs, hx⟩ | ⟨a, len', cap', ss, hcs, _, hl, hm, hz, hx, hcell, hsz⟩
  · simp [Value.cells] at hcs
    obtain ⟨rfl, rfl, rfl⟩ := hcs
    exact ⟨⟨none, 0, []⟩, rfl, by simp, by simp [maxLen], by simp, by simp, by simp⟩
  · simp [Value.cells] at hcs
    obtain ⟨rfl, rfl, rfl⟩ := hcs
    have hlen : len ≤ ss.length := by rw [hz]; split <;> omega
    refine ⟨⟨some a, cap, (ss.take len).map fun s => s.data.toList⟩, ?_, ?_, hm, ?_, ?_, fun _ _ => trivial⟩
    · simp [Sv.val, Nat.min_eq_left hlen]
    · simp [Nat.min_eq_left hlen]; exact hl
    · intro hne
      have h0 : 0 < ss.length := by
        rcases Nat.eq_zero_or_pos ss.length with h | h
        · exact absurd (by simp [List.length_eq_zero_iff.1 h]) hne
        · exact h
      have := hcell 0 h0
      unfold World.cell? at this
      split at this
      · split at this
        · cases this
        · next hsp =>
          simp [Addr.add] at hsp
          cases a
          simp_all [Sv.b, Sv.o]
      · cases this
    · intro i x hx2 j u hj
      rw [List.getElem?_map, Option.map_eq_some_iff] at hx2
      obtain ⟨y, hy, rfl⟩ := hx2
      rw [List.getElem?_take] at hy
      split at hy
      · next hi =>
        have hi2 := (List.getElem?_eq_some_iff.1 hy).1
        have h1 := hcell i hi2
        obtain ⟨rfl, rfl⟩ : j = 0 ∧ u = str y.data.toList := by
          cases j with
          | zero => exact ⟨rfl, (Option.some.inj hj).symm⟩
          | succ j => simp [Dat.enc] at hj
        rw [List.getD_eq_getElem?_getD, hy] at h1
        unfold World.cell? at h1
        show Hp.cell (wh W) a.block (a.off + i * 1 + 0) = _
        unfold Hp.cell wh
        rw [add_block, add_off] at h1
        simp only [Nat.mul_one, Nat.add_zero]
        split at h1
        · next c hb =>
          rw [hb]
          split at h1
          · cases h1
          · simpa using h1
        · cases h1
      · cases hy
end
end Go.V
end

section
set_option linter.unusedVariables false
namespace Go.V
open Go.RowKit Go.ChangeShapes Go.WideShapes
instance : Dat Bool := ⟨1, fun b => [.bool b], fun _ => rfl, fun _ _ h => by cases List.mem_singleton.1 h; rfl, fun _ => Mo.tt⟩
/-- what numbers that were read keep to -/
class Rg (α : Type) where
  rg : α → Prop
instance : Rg Int := ⟨Go.S.I64⟩
instance : Rg Bool := ⟨fun _ => True⟩
instance : Rg UInt8 := ⟨fun _ => True⟩
instance : Rg Str := ⟨fun _ => True⟩
instance {α : Type} [Rg α] : Rg (Sv α) := ⟨fun s => ∀ z ∈ s.l, Rg.rg z⟩
section
variable {P : Program}
/-- whatever can be read of a type is such data, with all that it leads to -/
def Opn (P : Program) (t : TypeId) (α : Type) [Dat α] [Rg α] : Prop := ∀ {H : Type} {enc : TypeId × Value → H} {W : World} {b0 : Nat} {sp : Nat → Bool} {hd : Bool} {fuel : Nat} {cs : List Value} {x : DataW H × List MemPlace},
  DataW.trod enc P W b0 sp hd fuel t cs = some x → ∃ z : α, cs = Dat.enc z ∧ (Dat.deep z).on (wh W) ∧ Rg.rg z
theorem Opn.i64 {t : TypeId} (ht : P.underlying t = some (.int .i64)) : Opn P t Int := fun h => by
  obtain ⟨n, rfl, _, hw⟩ := DataW.trod_int ht h
  refine ⟨n, rfl, trivial, ?_⟩
  have hb : -9223372036854775808 ≤ n ∧ n ≤ 9223372036854775807 := by simpa [Lit.wf, IntKind.min, IntKind.max, IntKind.signed, IntKind.bits] using hw
  exact hb
theorem Opn.bool {t : TypeId} (ht : P.underlying t = some .bool) : Opn P t Bool := fun h => by
  obtain ⟨n, rfl, _⟩ := DataW.trod_bool ht h
  exact ⟨n, rfl, trivial, trivial⟩
theorem Opn.u8 {t : TypeId} (ht : P.underlying t = some (.int .u8)) : Opn P t UInt8 := fun h => by
  obtain ⟨n, rfl, _, hw⟩ := DataW.trod_int ht h
  have hb : 0 ≤ n ∧ n ≤ 255 := by simpa [Lit.wf, IntKind.min, IntKind.max, IntKind.signed, IntKind.bits] using hw
  refine ⟨UInt8.ofNat n.toNat, ?_, trivial, trivial⟩
  show [Value.int .u8 n] = [.int .u8 ((UInt8.ofNat n.toNat).toNat : Int)]
  rw [← u8_z hb rfl]
theorem Opn.str {t : TypeId} (ht : P.underlying t = some .string) : Opn P t Str := fun h => by
  obtain ⟨s, rfl, _, _⟩ := DataW.trod_string ht h
  exact ⟨s.data.toList, rfl, trivial, trivial⟩
theorem pick_list {α : Type} {Q : Nat → α → Prop} : ∀ (n : Nat), (∀ i, i < n → ∃ z, Q i z) → ∃ l : List α, l.length = n ∧ ∀ i z, l[i]? = some z → Q i z
  | 0, _ => ⟨[], rfl, fun i z h => by simp at h⟩
  | n + 1, h => by
    obtain ⟨l, hl, hq⟩ := pick_list n fun i hi => h i (by omega)
    obtain ⟨z, hz⟩ := h n (by omega)
    refine ⟨l ++ [z], by simp [hl], fun i y hy => ?_⟩
    rw [List.getElem?_append] at hy
    split at hy
    · exact hq i y hy
    · have : i = n := by
        have := (List.getElem?_eq_some_iff.1 hy).1
        simp at this; omega
      subst this
      rw [hl] at hy
      simp at hy
      subst hy
      exact hz
theorem cells_at {W : World} {b0 n : Nat} {a : Addr} {cs : List Value} (h : W.cells? b0 a n = some cs) (hn : 0 < n) : a.spot = none ∧ (wh W).at a.block a.off cs := by
  unfold World.cells? at h
  split at h
  · have hl := mapM_some_length h
    rw [List.length_range] at hl
    have hg : ∀ i, i < n → W.cell? (a.add i) = cs[i]? := fun i hi => mapM_some_get h i i (by simp [hi])
    have key : ∀ (c : Addr) (v : Value), W.cell? c = some v → c.spot = none ∧ (wh W).cell c.block c.off = some v := fun c v hc => by
      unfold World.cell? at hc
      unfold Hp.cell wh
      split at hc
      · next hb =>
        split at hc
        · cases hc
        · next hsp => exact ⟨by simpa using hsp, by rw [hb]; simpa using hc⟩
      · cases hc
    refine ⟨?_, fun j v hj => ?_⟩
    · obtain ⟨v, hv⟩ : ∃ v, cs[0]? = some v := ⟨_, List.getElem?_eq_getElem (by omega)⟩
      have := (key _ v ((hg 0 hn).trans hv)).1
      unfold Addr.add at this
      split at this <;> simp_all
    · have hjn : j < n := by have := (List.getElem?_eq_some_iff.1 hj).1; omega
      have := (key _ v ((hg j hjn).trans hj)).2
      rwa [add_block, add_off] at this
  · cases h
theorem Opn.sv {t e : TypeId} {α : Type} [Dat α] [Rg α] (ht : P.underlying t = some (.slice e)) (hc : P.cellsOf e = Dat.sz α) (hpos : 0 < Dat.sz α) (he : Opn P e α) : Opn P t (Sv α) := fun {H enc W b0 sp hd fuel cs x} h => by
  rcases DataW.trod_slice ht h with ⟨rfl, _⟩ | ⟨a, len, cap, elems, rest, n, _, rfl, _, hb, hl, hm, hlen, hel, _⟩
  · exact ⟨⟨none, 0, []⟩, rfl, ⟨Nat.le_refl _, by simp [maxLen], fun h => absurd rfl h, fun _ _ h => by simp at h, fun _ h => by cases h⟩, fun _ h => (by cases h)⟩
  · have each : ∀ i, i < len → ∃ z : α, W.cells? b0 (a.add (i * Dat.sz α)) (Dat.sz α) = some (Dat.enc z) ∧ (Dat.deep z).on (wh W) ∧ Rg.rg z := fun i hi => by
      have h1 := hel i hi
      rw [List.getElem?_eq_getElem (by omega), hc] at h1
      cases h2 : W.cells? b0 (a.add (i * Dat.sz α)) (Dat.sz α) with
      | none => rw [h2] at h1; cases h1
      | some cs' =>
        rw [h2] at h1
        obtain ⟨z, rfl, hz⟩ := he h1
        exact ⟨z, rfl, hz⟩
    obtain ⟨l, h1, h2⟩ := pick_list len each
    refine ⟨⟨some a, cap, l⟩, by rw [← h1]; rfl, ⟨by simpa [h1] using hl, hm, fun hne => ?_, fun i z hz => ?_, fun z hz => ?_⟩, fun z hz => ?_⟩
    · simp only at hne
      obtain ⟨z, hz⟩ : ∃ z, l[0]? = some z := ⟨_, List.getElem?_eq_getElem (List.length_pos_iff.2 hne)⟩
      have := (cells_at (h2 0 z hz).1 hpos).1
      simp only [Nat.zero_mul] at this
      cases a
      simp [Addr.add] at this
      simp_all [Sv.b, Sv.o]
    · have := (cells_at (h2 i z hz).1 hpos).2
      rw [add_block, add_off] at this
      exact this
    · obtain ⟨i, hi, rfl⟩ := List.mem_iff_getElem.1 hz
      exact (h2 i l[i] (List.getElem?_eq_getElem hi)).2.1
    · obtain ⟨i, hi, rfl⟩ := List.mem_iff_getElem.1 hz
      exact (h2 i l[i] (List.getElem?_eq_getElem hi)).2.2
theorem trod_fields {H : Type} {enc : TypeId × Value → H} {W : World} {b0 : Nat} {sp : Nat → Bool} {hd : Bool} {fuel : Nat} {cs : List Value} {x : DataW H × List MemPlace} {t : TypeId} {fs : Array Field} (ht : P.underlying t = some (.struct fs)) (h : DataW.trod enc P W b0 sp hd fuel t cs = some x) :
    cs.length = P.cellsOf t ∧ ∀ (i : Nat) (f : Field), fs[i]? = some f → ∃ (n : Nat) (y : DataW H × List MemPlace), DataW.trod enc P W b0 sp hd n f.type ((cs.drop f.offset).take (P.cellsOf f.type)) = some y := by
  obtain ⟨xs, n, _, _, hl, hx, hf⟩ := DataW.trod_struct ht h
  refine ⟨hl, fun i f hi => ⟨n, ?_⟩⟩
  have h1 := hf i f hi
  have hi' := (Array.getElem?_eq_some_iff.1 hi).1
  rw [List.getElem?_eq_getElem (by omega)] at h1
  exact ⟨_, h1⟩
/-- a field -/
theorem Opn.fld {H : Type} {enc : TypeId × Value → H} {W : World} {b0 : Nat} {sp : Nat → Bool} {hd : Bool} {cs cs' : List Value} {t : TypeId} {α : Type} [Dat α] [Rg α] (ho : Opn P t α) {off k : Nat} (hk : P.cellsOf t = k) (h : ∃ (n : Nat) (y : DataW H × List MemPlace), DataW.trod enc P W b0 sp hd n t ((cs.drop off).take (P.cellsOf t)) = some y) (hc : (cs.drop off).take k = cs') :
    ∃ z : α, cs' = Dat.enc z ∧ (Dat.deep z).on (wh W) ∧ Rg.rg z := by
  subst hk
  subst hc
  obtain ⟨n, y, h⟩ := h
  exact ho h
/-- an argument, out of what is read of it -/
theorem Opn.arg {t : TypeId} {α : Type} [Dat α] [Rg α] (ho : Opn P t α) {H : Type} {enc : TypeId × Value → H} {W : World} {b0 : Nat} {sp : Nat → Bool} {hd : Bool} {v : Value} {d : DataW H} {p : List MemPlace} (h : DataW.Trod enc P W b0 sp hd t v d p) : ∃ z : α, v.cells.toList = Dat.enc z ∧ (Dat.deep z).on (wh W) ∧ Rg.rg z := by
  obtain ⟨f, h⟩ := h
  exact ho h
theorem cells_agg {cs : List Value} {v : Value} {c : Array Value} (hv : v = .agg c) (h : v.cells.toList = cs) : v = .agg cs.toArray := by
  subst hv
  subst h
  simp [Value.cells]
theorem okw_struct {W : World} {r : Reach} {b0 : Nat} {t : TypeId} {fs : Array Field} {v : Value} (ht : P.underlying t = some (.struct fs)) (h : Value.okWide P W r b0 t v) : ∃ c, v = .agg c := by
  unfold Value.okWide at h
  rw [ht] at h
  obtain ⟨c, hc, _⟩ := h
  exact ⟨c, hc⟩
theorem okw_slice {W : World} {r : Reach} {b0 : Nat} {t e : TypeId} {v : Value} {α : Type} [Dat α] {z : Sv α} (ht : P.underlying t = some (.slice e)) (h : Value.okWide P W r b0 t v) (hc : v.cells.toList = Dat.enc z) : v = z.val := by
  obtain ⟨a0, len, cap, rfl⟩ := okWide_slice ht h
  have : [Value.slice a0 len cap] = [z.val] := hc
  exact List.head_eq_of_cons_eq this
end
end Go.V
end

section
set_option linter.unusedVariables false
namespace Go.V
open Go.RowKit
theorem handle_laid {P : Program} {W : World} {name : String} {nm : List UInt8} {u0 ty0 : TypeId} {g : Nat} {d : DataW Unit} {v : Value} {L : List (String × DataW Unit)} (hg : P.globalNamed name = some g) (hm : L.find? (fun x => x.1 == name) = some (name, d)) (hn : d.handleName? = some nm) (hfn : d.funcsIn? = none)
    (hu : (P.cutTypes.find? (·.1 == "internal/reflectlite.rtype")).map (·.2) = some u0) (hone : ((List.range P.types.size).filter fun t => P.rowNamed t nm) = [ty0]) (hv : typeHandle P ty0 = v) (h : laidMetH P L W) : (GBlk g #[.iface u0 (.agg #[v])]).on (wh W) := by
  have hL : (name, d) ∈ L.filter fun x => x.2.handleName?.isSome := List.mem_filter.2 ⟨List.mem_of_find?_eq_some hm, by simp [hn]⟩
  have h' := (laidMetH_iff.1 h).2 _ hL
  simp only [hfn] at h'
  obtain ⟨nm', u, ty, e1, e2, e3, e4, e5⟩ := h'
  rw [hn] at e1
  obtain rfl := Option.some.inj e1
  obtain rfl := Option.some.inj (hu.symm.trans e2)
  have hm : ty ∈ (List.range P.types.size).filter fun t => P.rowNamed t nm := List.mem_filter.2 ⟨List.mem_range.2 e3, e4⟩
  rw [hone] at hm
  obtain rfl := List.mem_singleton.1 hm
  rw [hv] at e5
  exact GBlk.of_var hg e5
theorem laidMet_on {P : Program} {w0 : World} {laid : List (String × DataW Unit)} (args : Array Value) (hf : w0.layFits P laid [] = true) (hi : w0.layIfaces P laid (w0.layVars P laid) = true) :
    laidMet P laid ((w0.layVars P laid).forCall (fun _ _ => 0) ⟨#[], args, []⟩).memory := by
  have e1 : (laid.filter fun x => (laid.map (·.1)).contains x.1) = laid := List.filter_eq_self.2 fun x hx => List.contains_iff_mem.2 (List.mem_map.2 ⟨x, hx, rfl⟩)
  have e2 : (laid.filter fun x => !(laid.map (·.1)).contains x.1) = [] := List.filter_eq_nil_iff.2 fun x hx => by rw [List.contains_iff_mem.2 (List.mem_map.2 ⟨x, hx, rfl⟩)]; simp
  have h : laidMet P laid (w0.layVars P laid) := laidMet_layVars (w0 := w0) (laid.map (·.1)) [] (by rw [e1]) (by rw [e1]; exact hf) (by rw [e1]; exact hi) (by rw [e2]; exact LaidIn.none)
  exact h.of_heap (by simp [World.memory, World.forCall, Input.heap])
/-- a world that holds what is asked, its handle laid ahead -/
noncomputable def heldW (P : Program) (os : Os) (g : Nat) (v : Value) : World :=
  { World.holding P os ⟨#[], #[], []⟩ with heap := (World.holding P os ⟨#[], #[], []⟩).heap.modify g fun
      | .cells _ t frozen => .cells #[v] t frozen
      | o => o }
end Go.V
end
