/- Part of the proofs of: Bytes, files, words up to their ends; one more is too long: each number about an end, looked at by the kernel. -/
import Derived.Laws.StructEq
import Derived.Laws.Tables
import Derived.Laws.Cover2
import Derived.Lib.ConvBytes
import Derived.Lib.Bytealg
import Derived.Lib.AppendZeros
import Derived.Lib.ItoaNum
import Derived.Lib.LaidTab
import Derived.LaidSub
import Derived.Sort.Grow
import Derived.Deep.Draws
import Derived.Stop.Asserts
import Derived.LaidEql
import Derived.OneCell
import Derived.Below
import Derived.ProofKit
import Derived.OpenShut
import Derived.LaidMore
import Derived.Lay
import Derived.SevenTiedAt
import Derived.Stop.Joined
import Derived.LaidHandle
import Derived.Lib.Join
import Derived.Lib.Overlaps
import Derived.Lib.AppendZerosOnto
import Derived.Sort.Walk0
import Derived.Lib.SlicesCompact
import Derived.Sort.Row
import Derived.Sort.EncStr
import Derived.Maps.Own
import Derived.Maps.Views
import Derived.Sort.KeysCollected
import Derived.StringKeys
import Derived.Shelf.Strings.OnBuilder
import Derived.Shelf.LaysM
import Derived.Shelf.Strconv.Itoa3
import Derived.Shelf.Sort.Plain
import Derived.Shelf.Slices.CompactS
import Derived.Shelf.Slices.In.SortNone
import Derived.Test.YtipnlckfohhkbaaGreatDoorProg
import Derived.Test.YtipnlckfohhkbaaGreatDoorOA
set_option linter.unusedVariables false
set_option linter.unusedSimpArgs false
set_option linter.unusedSectionVars false
section
namespace Go.V
open Go.RowKit Go.S
section
variable {P : Program} {N : Nat} {c : Cx} {ops : Array Oper} {Q Q1 : Exit → Act → World → Prop} {rest : List Oper} {o : Oper} {ρ : Env} {M M' M1 M0 : Mo} {E E1 F A : Ow} {v u : Value} {X S T R : Type}
  {d : Nat} {od : Option Nat} {ty : TypeId} {pos : String} {after : Array Edge} {gd : Option (Nat × Bool)} {x y : Operand} {t t' e tb : TypeId} {f : FuncId} {args : List Value} {k k' : IntKind} {m n : Int}
theorem q_steql {xs ys : Array Value} {b : Bool} (hg : P.eqGuardType P.depth t = false) (h : ∀ w, (Op.equalIn 10000 t (.agg xs) (.agg ys)).run P w = .ok b w) (e1 : ρ.ev x = some (.agg xs)) (e2 : ρ.ev y = some (.agg ys)) : Qt P N c ⟨od, .binOp .eql t x y t', ty, pos, after, gd⟩ (.bool b) ρ M E := q_bin e1 e2 (fun w => run_eqGuard_agg w .eql t x y xs ys hg) fun w => by
  rw [run_eql_struct, h w]; rfl
theorem q_stneq {xs ys : Array Value} {b : Bool} (hg : P.eqGuardType P.depth t = false) (h : ∀ w, (Op.equalIn 10000 t (.agg xs) (.agg ys)).run P w = .ok b w) (e1 : ρ.ev x = some (.agg xs)) (e2 : ρ.ev y = some (.agg ys)) : Qt P N c ⟨od, .binOp .neq t x y t', ty, pos, after, gd⟩ (.bool (!b)) ρ M E := q_bin e1 e2 (fun w => run_eqGuard_agg w .neq t x y xs ys hg) fun w => by
  rw [run_neq_struct, h w]; rfl
theorem q_slss {s s' : List UInt8} (e1 : ρ.ev x = some (str s)) (e2 : ρ.ev y = some (str s')) : Qt P N c ⟨od, .binOp .lss t x y t', ty, pos, after, gd⟩ (.bool (Op.bytesLess s s')) ρ M E := q_bin e1 e2 (guard_str _ _ _) fun w => by
  simp [binOp, Op.stringOp, go_sem]
theorem q_sgeq {s s' : List UInt8} (e1 : ρ.ev x = some (str s)) (e2 : ρ.ev y = some (str s')) : Qt P N c ⟨od, .binOp .geq t x y t', ty, pos, after, gd⟩ (.bool (!Op.bytesLess s s')) ρ M E := q_bin e1 e2 (guard_str _ _ _) fun w => by
  simp [binOp, Op.stringOp, go_sem]
theorem q_sgtr {s s' : List UInt8} (e1 : ρ.ev x = some (str s)) (e2 : ρ.ev y = some (str s')) : Qt P N c ⟨od, .binOp .gtr t x y t', ty, pos, after, gd⟩ (.bool (!(Op.bytesLess s s' || decide (s = s')))) ρ M E := q_bin e1 e2 (guard_str _ _ _) fun w => by
  have h : (s == s') = decide (s = s') := beq_dec _ _
  simp [binOp, Op.stringOp, go_sem, h]
theorem q_sleq {s s' : List UInt8} (e1 : ρ.ev x = some (str s)) (e2 : ρ.ev y = some (str s')) : Qt P N c ⟨od, .binOp .leq t x y t', ty, pos, after, gd⟩ (.bool (Op.bytesLess s s' || decide (s = s'))) ρ M E := q_bin e1 e2 (guard_str _ _ _) fun w => by
  have h : (s == s') = decide (s = s') := beq_dec _ _
  simp [binOp, Op.stringOp, go_sem, h]
end
end Go.V
end

section
namespace Go.S
open Go
/-- the first place of a byte in a text; how often it is there -/
noncomputable def ixB (s : List UInt8) (c : Int) : Int := Lib.indexByte s c.toNat.toUInt8
noncomputable def cntB (s : List UInt8) (c : Int) : Int := (Lib.countByte s c.toNat.toUInt8 : Nat)
end Go.S
namespace Go.V
open Go.RowKit Go.S
section
variable {P : Program} {N : Nat} {c : Cx} {ops : Array Oper} {Q Q1 : Exit → Act → World → Prop} {rest : List Oper} {o : Oper} {ρ : Env} {M M' M1 M0 : Mo} {E E1 F A : Ow} {v u : Value} {X S T R : Type}
  {d : Nat} {od : Option Nat} {ty : TypeId} {pos : String} {after : Array Edge} {gd : Option (Nat × Bool)} {x y : Operand} {t t' e tb : TypeId} {f : FuncId} {args : List Value} {k k' : IntKind} {m n : Int}
/-- a text's bytes in a row of their own, which is never turned -/
theorem VL.s2b {s : Str} {u : TypeDesc} (hs : P.underlying t = some u) (hu : P.underlying t' = some (.slice e)) (he : P.underlying e = some (.int .u8)) (e1 : ρ.ev x = some (str s)) (hlen : s.length ≤ 4294967296) (hd : d < N)
    (kk : ∀ q : Sv UInt8, q.l = s → VL P N c ops Q rest ((d, q.val) :: ρ) (q.ok.and M) E) : VL P N c ops Q (⟨some d, .convert t t' x, ty, pos, after, none⟩ :: rest) ρ M E := by
  refine VL.newM (S := Sv UInt8) (val := Sv.val) (φ := fun q => q.l = s) (M2 := fun q => q.ok) (fun a w h g m l => ?_) hd kk
  have hr := Lib.run_convert_string_bytes (P := P) w t t' e ⟨⟨s⟩⟩ hs hu he
  have hsz : (⟨⟨s⟩⟩ : ByteArray).size = s.length := rfl
  have hmax : s.length ≤ maxLen := by unfold maxLen; omega
  rw [hsz] at hr
  refine ⟨⟨some ⟨w.heap.size, 0, none⟩, grownCap w s.length 0 e, s⟩, Lib.bytesWorld w e ⟨⟨s⟩⟩, .cells (Lib.bytesCells w e ⟨⟨s⟩⟩) e ((Lib.bytesCells w e ⟨⟨s⟩⟩).size, (Lib.bytesCells w e ⟨⟨s⟩⟩).size + 1), ?_, rfl, ⟨?_, ?_, ?_, by rw [Lib.bytesWorld_size]; omega, fun j hj => Lib.bytesWorld_at_old w e _ j hj⟩, Lib.bytesWorld_at_new w e _, ?_⟩
  · simp only [execOp, g.ev e1, Sem.run_bind, hr, Result.andThen_ok, Sem.run_pure]; rfl
  · simp [Lib.bytesWorld, World.freeze, World.alloc, World.drew, -World.alloc_eq, -World.drew_eq]
  · simp [Lib.bytesWorld, World.freeze, World.alloc, World.drew, -World.alloc_eq, -World.drew_eq]
  · simp [Lib.bytesWorld, World.freeze, World.alloc, World.drew, -World.alloc_eq, -World.drew_eq]
  · have hblk : (h.join (Hp.one w.heap.size (.cells (Lib.bytesCells w e ⟨⟨s⟩⟩) e ((Lib.bytesCells w e ⟨⟨s⟩⟩).size, (Lib.bytesCells w e ⟨⟨s⟩⟩).size + 1)))) w.heap.size = some (.cells (Lib.bytesCells w e ⟨⟨s⟩⟩) e ((Lib.bytesCells w e ⟨⟨s⟩⟩).size, (Lib.bytesCells w e ⟨⟨s⟩⟩).size + 1)) := by
      have hh : h w.heap.size = none := by
        cases hb : h w.heap.size with
        | none => rfl
        | some p => have := (Array.getElem?_eq_some_iff.1 (l _ p hb)).1; omega
      unfold Hp.join
      rw [hh, Hp.one_self]
    refine ⟨grownCap_ge _ _ _ _, grownCap_le_maxLen _ _ _ _ hmax, fun _ => by simp [Sv.b, Sv.o], fun i z hz => ?_, fun _ _ => trivial⟩
    intro j v hj
    have hd1 : Dat.sz UInt8 = 1 := rfl
    have hj0 : j = 0 := by
      cases j with
      | zero => rfl
      | succ j => simp [Dat.enc] at hj
    subst hj0
    have hv : v = .int .u8 z.toNat := by simp [Dat.enc] at hj; exact hj.symm
    subst hv
    have hi := (List.getElem?_eq_some_iff.1 hz).1
    simp only at hz hi
    have hzz := (List.getElem?_eq_some_iff.1 hz).2
    have hcell : (Lib.bytesCells w e ⟨⟨s⟩⟩)[i]? = some (.int .u8 z.toNat) := by
      simp only [Lib.bytesCells, Array.getElem?_append]
      simp [hi, hzz]
    show (h.join _).cell w.heap.size (0 + i * 1 + 0) = _
    unfold Hp.cell
    rw [hblk]
    simpa using hcell
/-- a function of the library's that the model has in place -/
theorem q_extern {fn : Func} {ex : Array Value → Sem Value} {xs : List Operand} {vs : List Value} {ts : Array TypeId} (hf : P.funcs[f]? = some fn) (hname : (fn.name == "runtime.NumGoroutine") = false) (hb : fn.body.isNone = true) (hn : Extern.findNext fn = none) (he : Extern.find fn = some ex) (ha : ρ.evs xs = some vs) (h : ∀ w : World, (ex vs.toArray).run P w = .ok v w) :
    Qt P N c ⟨od, .call { callee := .value (.func f), args := xs.toArray, argTypes := ts }, ty, pos, after, gd⟩ v ρ M E := q_ext ha fun w => by
  rw [run_callFunc_extern hf hname hb hn he, h w]; rfl
theorem x_ixS {P : Program} (s : Str) (c : Int) (w : World) : (Extern.BytealgIndexByte.indexByte #[str s, .int .u8 c]).run P w = .ok (i64 (ixB s c)) w := Lib.run_indexByteString ⟨⟨s⟩⟩ c w
theorem x_cntS {P : Program} (s : Str) (c : Int) (w : World) : (Extern.BytealgCount.count #[str s, .int .u8 c]).run P w = .ok (i64 (cntB s c)) w := Lib.run_countString ⟨⟨s⟩⟩ c w
theorem x_cmpS {P : Program} (s r : Str) (w : World) : (Extern.BytealgCompare.compare #[str s, str r]).run P w = .ok (i64 (Lib.compareBytes s r)) w := Lib.run_compareString ⟨⟨s⟩⟩ ⟨⟨r⟩⟩ w
/-- a function, with what it has caught -/
theorem q_mkfn {g : FuncId} {xs : List Operand} {vs : List Value} (ha : ρ.evs xs = some vs) : Qt P N c ⟨od, .makeFunc (.func g) #[] xs.toArray, ty, pos, after, gd⟩ (.func (.func g) #[] vs.toArray) ρ M E := Qt.of_run fun a w h _ => by
  have e := h.evs ha
  subst e
  simp [execOp, Instr.makeFunc]
theorem gOp_of_VLg {K : Act → World → Prop} {a : Act} {w : World} {i : Nat} {op : Op} (hk : ops[i]? = some ⟨od, op, ty, pos, after, gd⟩) (hw : Region.wanted (⟨od, op, ty, pos, after, gd⟩ : Oper) (yielded ops a.tmps) = true) (h : wpList P ops (fun e a w => e = .normal ∧ K a w) [⟨od, op, ty, pos, after, gd⟩] a w) : gOp P ops i K a w := by
  unfold gOp
  simp only [hk]
  unfold wpList at h
  rw [if_pos hw] at h
  rw [if_pos hw]
  rcases h with h | ⟨_, a', w', h, _⟩
  · unfold Oper.wp at h
    generalize (execOp a.eval ⟨od, op, ty, pos, after, gd⟩).run P w = rr at *
    cases rr with
    | ok n w' =>
      cases n <;> simp only [Oper.upon, gUpon] at h ⊢
      case value u => exact h.2
      case skip => exact h.2
      case defer dd => exact h.2
      case enter f args =>
        refine h.mono fun e w'' he => ?_
        cases e with
        | returned v => exact ⟨v, rfl, he.2⟩
        | panicked ch => cases he.1
        | outgrown => obtain ⟨_, _, h, _⟩ := he; cases h
      case row row args => exact Rows.mono h fun v w'' he => he.2
    | halt x w' =>
      cases x <;> simp only [Oper.upon] at h
      case panic => cases h.1
  · cases h
/-- an operation of any kind, with a guard that holds, the only one that can come up now -/
theorem VD.oneG {r : List (Nat × Bool)} {D : List (Nat × Value)} {R : List (Nat × Value) → Act → World → Prop} {op : Op} {i j s : Nat} {b : Bool} (hk : ops[i]? = some ⟨od, op, ty, pos, after, some (j, b)⟩) (hj : (ops[j]?).bind (·.dst) = some s) (hb : ρ.get s = some (.bool b))
    (h : VL P N c ops (toR P N c ops fun a w => (∀ p ∈ strike ops i D, YI P ops p a w) ∧ wpD P ops R r (strike ops i D) a w) [⟨od, op, ty, pos, after, some (j, b)⟩] ρ M E) : VDR P N c ops R ((i, false) :: r) D ρ M E := fun a w x y =>
  ⟨_, hk, fun w1 g => gOp_of_VLg hk (by rw [wanted_of hj x hb _ rfl]; simp) (h a w1 x (y.grow g))⟩
/-- .. whose guard does not hold -/
theorem VD.oneN {r : List (Nat × Bool)} {D D' : List (Nat × Value)} {R : List (Nat × Value) → Act → World → Prop} {op : Op} {i j s : Nat} {b b' : Bool} (hk : ops[i]? = some ⟨some d, op, ty, pos, after, some (j, b)⟩) (hj : (ops[j]?).bind (·.dst) = some s) (hb : ρ.get s = some (.bool b')) (hw : (b' == b) = false) (hd : d < N)
    (hD : strike ops i D = D') (hp : Pend P N c ops D' ((d, undef) :: ρ) M E) (h : VDR P N c ops R r D' ((d, undef) :: ρ) M E) : VDR P N c ops R ((i, false) :: r) D ρ M E := fun a w x y => by
  subst hD
  refine ⟨_, hk, fun w1 g => ?_⟩
  have hn : Region.wanted (⟨some d, op, ty, pos, after, some (j, b)⟩ : Oper) (yielded ops a.tmps) = false := by rw [wanted_of hj x hb _ rfl, hw]
  unfold gOp
  simp only [hk]
  rw [if_neg (by rw [hn]; decide)]
  exact ⟨hp _ _ (x.put hd undef) (y.grow g), h _ _ (x.put hd undef) (y.grow g)⟩
/-- nothing of a slice of one's own: it is grown from there -/
theorem VL.own0 {α : Type} [Dat α] {s : Sv α} (hu : P.underlying t = some (.slice e)) (hz : (P.info? e).map (·.size) = some (Dat.sz α)) (e0 : ρ.ev x = some s.val) (e1 : ρ.ev y = some (i64 0)) (hE : Foc E (s.own e) F) (hd : d < N)
    (kk : ∀ q : Sv α, q.l = [] → VL P N c ops Q rest ((d, q.val) :: ρ) M (Ow.star (q.own e) F)) : VL P N c ops Q (⟨some d, .slice t x none (some y) none, ty, pos, after, none⟩ :: rest) ρ M E :=
  VL.q (q_cut (lo' := none) (hi' := some 0) (mx' := none) 0 0 s.c hu hz e0 rfl (by simp [optv, e1]) rfl rfl rfl (by simp) (fun h => by cases h) (Nat.le_refl _) (Nat.zero_le _) (Nat.le_refl _) (Nat.zero_le _)) hd (VL.mono (fun _ h => h) (fun z hz => by
    obtain ⟨a, b, d1, d2, ha, hb⟩ := hE z hz
    refine ⟨a, b, d1, d2, ?_, hb⟩
    obtain ⟨q1, q2, q3⟩ := ha
    refine ⟨Nat.zero_le _, by simpa [Sv.sub] using q2, ?_⟩
    rcases q3 with ⟨w1, w2⟩ | ⟨g, cur, w1, w2, w3, _⟩
    · exact .inl ⟨rfl, by simp [Sv.sub, w2]⟩
    · refine .inr ⟨g, cur, ?_, w2, by simpa [Sv.sub] using w3, by simp [Sv.sub]⟩
      simp [Sv.sub, w1, Addr.add]) (kk (s.sub 0 0 s.c) rfl))
/-- zeros behind nil: a new slice of one's own -/
theorem VL.appZ {α : Type} [Dat α] {xs : List Operand} {k1 kn : IntKind} {tn : TypeId} {z : α} {bt : Nat} (hu : P.underlying t = some (.slice e)) (htn : P.underlying tn = some (.int kn)) (hi : ((P.info? e).map fun i => (i.size, i.bytes, i.zero.map fun z => z.cells.toList)) = some (Dat.sz α, bt, some (Dat.enc z))) (hpos : 0 < Dat.sz α)
    (ha : ρ.evs xs = some [.slice none 0 0, .int k1 n]) (h0 : 0 < n) (hm : n ≤ 4294967296) (hb : bt ≤ 32768) (hd : d < N)
    (k : ∀ s : Sv α, s.l = List.replicate n.toNat z → VL P N c ops Q rest ((d, s.val) :: ρ) M (Ow.star (s.own e) E)) : VL P N c ops Q (⟨some d, .call { callee := .builtin .append, args := xs.toArray, argTypes := #[t, tn] }, ty, pos, after, none⟩ :: rest) ρ M E := by
  cases hj : P.info? e with
  | none => rw [hj] at hi; cases hi
  | some i =>
    rw [hj] at hi
    simp only [Option.map_some, Option.some.injEq, Prod.mk.injEq] at hi
    obtain ⟨h1, h2, h3⟩ := hi
    cases hz : i.zero with
    | none => rw [hz] at h3; cases h3
    | some zv =>
      rw [hz] at h3
      have h3' : zv.cells.toList = Dat.enc z := by simpa using h3
      have hzs : zv.cells.size = Dat.sz α := by rw [← Array.length_toList, h3', Dat.len]
      have hn : (n.toNat : Int) = n := by omega
      have hmul : n.toNat * i.bytes ≤ 4294967296 * 32768 := Nat.mul_le_mul (by omega) (by omega)
      refine VL.newO (S := Sv α) (val := Sv.val) (φ := fun s => s.l = List.replicate n.toNat z) (A := fun s => s.own e) (fun a w g => ?_) hd k
      have hr := Lib.run_append_nil_zeros (P := P) w t tn ty e i zv k1 kn hu htn hj hz n.toNat (by omega) (by omega) (by omega) (Nat.le_trans hmul (by decide))
      rw [hn] at hr
      have hge := grownCap_ge w n.toNat 0 e
      have hle := grownCap_le_maxLen w n.toNat 0 e (by unfold maxLen; omega)
      refine ⟨⟨some ⟨w.heap.size, 0, none⟩, grownCap w n.toNat 0 e, List.replicate n.toNat z⟩, _, .cells (Builtin.zeroCells zv.cells n.toNat ++ Builtin.zeroCells zv.cells (grownCap w n.toNat 0 e - n.toNat)) e, ?_, rfl, (Gr.drew w).trans (Gr.alloc w.drew _), heap_alloc_new w.drew _, ?_⟩
      · simp only [execOp, resolve, List.map_toArray, g.evs ha, Sem.run_bind, Sem.run_pure, Result.andThen_ok, invoke, builtin, hr, Sv.val, List.length_replicate]
      · refine ⟨by simpa using hge, hle, .inr ⟨_, _, rfl, Hp.one_self _ _, ?_, ?_⟩⟩
        · simp only [Array.size_append, size_zeroCells, hzs]
          rw [← Nat.add_mul]
          congr 1
          omega
        · have e1 : (List.replicate n.toNat z).length * Dat.sz α = (Builtin.zeroCells zv.cells n.toNat).toList.length := by rw [List.length_replicate, Array.length_toList, size_zeroCells, hzs]
          rw [Array.toList_append, e1, List.take_left]
          apply List.ext_getElem?
          intro j
          by_cases hlt : j < n.toNat * Dat.sz α
          · have hmod : j % Dat.sz α < Dat.sz α := Nat.mod_lt _ hpos
            have hdiv : j / Dat.sz α < n.toNat := (Nat.div_lt_iff_lt_mul hpos).2 hlt
            have hjj : j / Dat.sz α * Dat.sz α + j % Dat.sz α = j := by rw [Nat.mul_comm]; exact Nat.div_add_mod j _
            have hx : (List.replicate n.toNat z)[j / Dat.sz α]? = some z := by simp [hdiv]
            obtain ⟨q, hq⟩ : ∃ q, (Dat.enc z)[j % Dat.sz α]? = some q := ⟨_, List.getElem?_eq_getElem (by rw [Dat.len]; exact hmod)⟩
            have := flatMap_get (α := α) Dat.len _ _ _ hx _ _ hq
            rw [hjj] at this
            rw [this]
            have hlt' : j < n.toNat * zv.cells.size := by rw [hzs]; exact hlt
            simp only [Builtin.zeroCells, Array.toList_map, List.getElem?_map, Array.toList_range, List.getElem?_range hlt', Option.map_some]
            rw [← h3'] at hq
            rw [Array.getElem?_toList] at hq
            simp [getElem!_def, hzs, hq]
          · rw [List.getElem?_eq_none (by rw [Array.length_toList, size_zeroCells, hzs]; omega), List.getElem?_eq_none (by rw [enc_len, List.length_replicate]; omega)]
theorem VD.oneU {r : List (Nat × Bool)} {D D' : List (Nat × Value)} {R : List (Nat × Value) → Act → World → Prop} {op : Op} {i j s : Nat} {b : Bool} (hk : ops[i]? = some ⟨some d, op, ty, pos, after, some (j, b)⟩) (hj : (ops[j]?).bind (·.dst) = some s) (hb : ρ.get s = some undef) (hd : d < N)
    (hD : strike ops i D = D') (hp : Pend P N c ops D' ((d, undef) :: ρ) M E) (h : VDR P N c ops R r D' ((d, undef) :: ρ) M E) : VDR P N c ops R ((i, false) :: r) D ρ M E := fun a w x y => by
  subst hD
  refine ⟨_, hk, fun w1 g => ?_⟩
  have hn : Region.wanted (⟨some d, op, ty, pos, after, some (j, b)⟩ : Oper) (yielded ops a.tmps) = false := by rw [wanted_un hj x hb _ rfl]
  unfold gOp
  simp only [hk]
  rw [if_neg (by rw [hn]; decide)]
  exact ⟨hp _ _ (x.put hd undef) (y.grow g), h _ _ (x.put hd undef) (y.grow g)⟩
theorem q_cap0 {xs : List Operand} (ht : P.underlying t = some (.slice e)) (h : ρ.evs xs = some [.slice none 0 0]) : Qt P N c ⟨od, .call { callee := .builtin .cap, args := xs.toArray, argTypes := #[t] }, ty, pos, after, gd⟩ (i64 0) ρ M E := Qt.of_run fun a w g _ => by
  simp only [execOp, resolve, List.map_toArray, g.evs h]
  simp [go_sem, invoke, builtin, Builtin.cap_, run_underlying ht, goInt]
theorem q_nil0 (α : Type) [Dat α] (hu : P.underlying t = some (.slice e)) (hz : (P.info? e).map (·.size) = some (Dat.sz α)) (e0 : ρ.ev x = some (.slice none 0 0)) (e1 : ρ.ev y = some (i64 0)) : Qt P N c ⟨od, .slice t x none (some y) none, ty, pos, after, gd⟩ (.slice none 0 0) ρ M E :=
  q_cut (s := (⟨none, 0, []⟩ : Sv α)) (lo' := none) (hi' := some 0) (mx' := none) 0 0 0 hu hz e0 rfl (by simp [optv, e1]) rfl rfl rfl rfl (fun _ => rfl) (Nat.le_refl _) (Nat.le_refl _) (Nat.le_refl _) (Nat.le_refl _)
theorem Er.one [ErNo] (z : Er) : z.val.oneCell' = true := by cases z <;> rfl
theorem wr_i32 (u : UInt8) : IntKind.i32.wrap (u.toNat : Int) = (u.toNat : Int) := IntWalk.i32_in _ (by have := u.toNat_lt; omega)
theorem q_min {m n : Int} {xs : List Operand} {ts : Array TypeId} (h : ρ.evs xs = some [i64 m, i64 n]) : Qt P N c ⟨od, .call { callee := .builtin .min, args := xs.toArray, argTypes := ts }, ty, pos, after, gd⟩ (i64 (min m n)) ρ M E := Qt.of_run fun a w g _ => by
  simp only [execOp, resolve, List.map_toArray, g.evs h]
  have hr : (Builtin.min_ ts ty #[i64 m, i64 n]).run P w = .ok (i64 (min m n)) w := by
    simp [Builtin.min_, Builtin.min2, go_sem]
    rw [Int.min_def]
    split <;> split <;> first | rfl | (congr 1; omega) | omega | (simp; omega)
  simp [go_sem, invoke, builtin, hr]
instance (priority := 700) UpdB.inn (A F G : Ow) (b : Nat) (cs : List Value) (T : TypeId) [i : UpdB A b cs T G] : UpdB (Ow.star A F) b cs T (Ow.star G F) := ⟨Foc.inn i.out⟩
theorem VL.reB (b : Nat) {cs cs' : List Value} {T : TypeId} [j : UpdB E b cs T F] (h : cs = cs') (k : VL P N c ops Q rest ρ M (Ow.star (Blk b cs' T) F)) : VL P N c ops Q rest ρ M E := by
  subst h
  exact VL.mono (fun _ x => x) (fun z hz => j.out z hz) k
theorem VD.reB {r : List (Nat × Bool)} {D : List (Nat × Value)} (b : Nat) {cs cs' : List Value} {T : TypeId} [j : UpdB E b cs T F] (h : cs = cs') (k : VD P N c ops Q r D ρ M (Ow.star (Blk b cs' T) F)) : VD P N c ops Q r D ρ M E := by
  subst h
  exact fun a w g st => k a w g (st.mono (fun _ x => x) (fun z hz => j.out z hz))
theorem VC.reB {p : Code} (b : Nat) {cs cs' : List Value} {T : TypeId} [j : UpdB E b cs T F] (h : cs = cs') (k : VC P N c Q p ρ M (Ow.star (Blk b cs' T) F)) : VC P N c Q p ρ M E := by
  subst h
  exact fun a w g st => k a w g (st.mono (fun _ x => x) (fun z hz => j.out z hz))
theorem VD.smid {α : Type} [Dat α] {k' : Nat} {rr : List (Nat × Bool)} {D : List (Nat × Value)} {s : Sv α} {z : Operand} {m n : Int} (hk : ops[k']? = some ⟨some d, .slice t x (some y) (some z) none, ty, pos, after, none⟩) (hu : P.underlying t = some (.slice e)) (hz : (P.info? e).map (·.size) = some (Dat.sz α)) (e0 : ρ.ev x = some s.val) (e1 : ρ.ev y = some (i64 m)) (e2 : ρ.ev z = some (i64 n)) [hs : InM M s.ok] (h0 : 0 ≤ m) (h1 : m ≤ n) (h2 : n ≤ s.l.length) (hd : d < N)
    (kk : ∀ (q : Sv α) (u : Value), q.l = (s.l.drop m.toNat).take (n.toNat - m.toNat) → VD P N c ops Q rr (addD ops k' u D) ((d, q.val) :: ρ) (q.ok.and M) E) : VD P N c ops Q ((k', true) :: rr) D ρ M E :=
  VD.part (lo' := some m) (hi' := some n) (mx' := none) hk m.toNat n.toNat hu hz e0 (by simp [optv, e1]) (by simp [optv, e2]) rfl (by simp; omega) (by simp; omega) (.inl rfl) (fun h => by cases h) (by omega) (by omega) hd fun q u hq => kk q u hq
theorem Pend.consX {D : List (Nat × Value)} {i : Nat} {op : Op} (hk : ops[i]? = some ⟨od, op, ty, pos, after, gd⟩) (h : ∀ a w, Agr N ρ a → St c M E w → YU P ops ⟨od, op, ty, pos, after, gd⟩ v a w) (n : Pend P N c ops D ρ M E) : Pend P N c ops ((i, v) :: D) ρ M E := fun a w x y p hp => by
  rcases List.mem_cons.1 hp with rfl | hp
  · intro o ho
    have ho' : ops[i]? = some o := ho
    rw [hk] at ho'
    cases ho'
    exact h a w x y
  · exact n a w x y p hp
theorem Pend.consG {D : List (Nat × Value)} {i j s : Nat} {b : Bool} {op : Op} (hk : ops[i]? = some ⟨od, op, ty, pos, after, some (j, b)⟩) (hj : (ops[j]?).bind (·.dst) = some s) (hb : ρ.get s = some (.bool b)) (h : Qt P N c ⟨od, op, ty, pos, after, some (j, b)⟩ v ρ M E) (n : Pend P N c ops D ρ M E) : Pend P N c ops ((i, v) :: D) ρ M E :=
  Pend.consX hk (fun a w x y => .inl ⟨by rw [wanted_of hj x hb _ rfl]; simp, fun w1 g => h a w1 x (y.grow g)⟩) n
theorem Pend.consN {D : List (Nat × Value)} {i j s : Nat} {b b' : Bool} {op : Op} (hk : ops[i]? = some ⟨od, op, ty, pos, after, some (j, b)⟩) (hj : (ops[j]?).bind (·.dst) = some s) (hb : ρ.get s = some (.bool b')) (hw : (b' == b) = false) (n : Pend P N c ops D ρ M E) : Pend P N c ops ((i, undef) :: D) ρ M E :=
  Pend.consX hk (fun a w x y => .inr ⟨by rw [wanted_of hj x hb _ rfl, hw], rfl⟩) n
theorem Pend.consU {D : List (Nat × Value)} {i j s : Nat} {b : Bool} {op : Op} (hk : ops[i]? = some ⟨od, op, ty, pos, after, some (j, b)⟩) (hj : (ops[j]?).bind (·.dst) = some s) (hb : ρ.get s = some undef) (n : Pend P N c ops D ρ M E) : Pend P N c ops ((i, undef) :: D) ρ M E :=
  Pend.consX hk (fun a w x y => .inr ⟨by rw [wanted_un hj x hb _ rfl], rfl⟩) n
end
end Go.V
end

section
namespace Go.V
open Go.RowKit Go.S
section
variable {P : Program} {N : Nat} {c : Cx} {ops : Array Oper} {Q Q1 : Exit → Act → World → Prop} {rest : List Oper} {o : Oper} {ρ : Env} {M M' M1 M0 : Mo} {E E1 F A : Ow} {v u : Value} {X S T R : Type}
  {d : Nat} {od : Option Nat} {ty : TypeId} {pos : String} {after : Array Edge} {gd : Option (Nat × Bool)} {x y : Operand} {t t' e tb : TypeId} {f : FuncId} {args : List Value} {k k' : IntKind} {m n : Int}
theorem flatMap_take {α : Type} [Dat α] (l : List α) (n : Nat) : (l.flatMap Dat.enc).take (n * Dat.sz α) = (l.take n).flatMap Dat.enc := by
  induction l generalizing n with
  | nil => simp
  | cons x r ih =>
    cases n with
    | zero => simp
    | succ n =>
      simp only [List.flatMap_cons, List.take_succ_cons]
      rw [List.take_append, Dat.len, ← ih n]
      congr 1
      · rw [List.take_of_length_le]; rw [Dat.len]; exact Nat.le_mul_of_pos_left _ (Nat.succ_pos n)
      · congr 1
        rw [Nat.succ_mul, Nat.add_sub_cancel]
/-- the first ones of a slice of one's own: it is one's own still -/
theorem VL.ownT {α : Type} [Dat α] {s : Sv α} (hu : P.underlying t = some (.slice e)) (hz : (P.info? e).map (·.size) = some (Dat.sz α)) (e0 : ρ.ev x = some s.val) (e1 : ρ.ev y = some (i64 n)) (h0 : 0 ≤ n) (h1 : n ≤ s.l.length) (hE : Foc E (s.own e) F) (hd : d < N)
    (kk : ∀ q : Sv α, q.l = s.l.take n.toNat → VL P N c ops Q rest ((d, q.val) :: ρ) M (Ow.star (q.own e) F)) : VL P N c ops Q (⟨some d, .slice t x none (some y) none, ty, pos, after, none⟩ :: rest) ρ M E := fun a w xx yy => by
  have hlc : s.l.length ≤ s.c := by
    obtain ⟨⟨hp, ee, m, eE, _⟩, _⟩ := yy
    obtain ⟨a1, b1, _, _, ⟨q1, _⟩, _⟩ := hE ee eE
    exact q1
  refine VL.q (q_cut (lo' := none) (hi' := some n) (mx' := none) 0 n.toNat s.c hu hz e0 rfl (by simp [optv, e1]) rfl rfl (by simp; omega) (by simp) (fun h => by cases h) (Nat.zero_le _) (by omega) (Nat.le_refl _) (by omega)) hd (VL.mono (fun _ h => h) (fun z hz => by
    obtain ⟨a, b, d1, d2, ha, hb⟩ := hE z hz
    refine ⟨a, b, d1, d2, ?_, hb⟩
    obtain ⟨q1, q2, q3⟩ := ha
    refine ⟨by simp [Sv.sub]; omega, by simpa [Sv.sub] using q2, ?_⟩
    rcases q3 with ⟨w1, w2⟩ | ⟨g, cur, w1, w2, w3, w4⟩
    · exact .inl ⟨by simp [Sv.sub, w1], by simp [Sv.sub, w2]⟩
    · refine .inr ⟨g, cur, ?_, w2, by simpa [Sv.sub] using w3, ?_⟩
      · simp [Sv.sub, w1, Addr.add]
      · simp only [Sv.sub, List.drop_zero, Nat.sub_zero, List.length_take]
        rw [show min n.toNat s.l.length = n.toNat by omega, ← flatMap_take, ← w4, List.take_take]
        congr 1
        exact (Nat.min_eq_left (Nat.mul_le_mul (by omega) (Nat.le_refl _))).symm) (kk (s.sub 0 n.toNat s.c) (by simp [Sv.sub]))) a w xx yy
/-- a slice of some elements, one's own -/
theorem VL.litO {α : Type} [Dat α] {n : Nat} {parts : Array (Nat × Operand)} {xs : List Operand} {vs : List Value} (zs : List α) (hu : P.underlying t = some (.slice e)) (hz : ((P.info? e).map fun i => (i.size, i.zero.isSome)) = some (Dat.sz α, true)) (hpos : 0 < Dat.sz α)
    (hp : parts = ((xs.zipIdx 0).map fun x => (x.2, x.1)).toArray) (hv : ρ.evs xs = some vs) (hc : vs.map (fun v => v.cells.toList) = zs.map Dat.enc) (hn : zs.length = n) (hs : n * Dat.sz α ≤ 16777216) (hd : d < N)
    (k : ∀ s : Sv α, s.l = zs → VL P N c ops Q rest ((d, s.val) :: ρ) M (Ow.star (s.own e) E)) (h0 : 0 < n) : VL P N c ops Q (⟨some d, .buildSlice t n parts, ty, pos, after, none⟩ :: rest) ρ M E := by
  cases hi : P.info? e with
  | none => rw [hi] at hz; cases hz
  | some ie =>
    rw [hi] at hz
    obtain ⟨hsz, hzz⟩ : ie.size = Dat.sz α ∧ ie.zero.isSome = true := by simpa using hz
    obtain ⟨z, hz1⟩ := Option.isSome_iff_exists.1 hzz
    refine VL.newO (S := Sv α) (val := Sv.val) (φ := fun s => s.l = zs) (A := fun s => s.own e) (fun a w g => ?_) hd k
    have hlen : vs.length = n := by rw [← hn]; simpa using congrArg List.length hc
    have hcs : ∀ v ∈ vs, v.cells.size = ie.size := fun v hv => by
      have : v.cells.toList ∈ zs.map Dat.enc := by rw [← hc]; exact List.mem_map.2 ⟨v, hv, rfl⟩
      obtain ⟨q, _, hq⟩ := List.mem_map.1 this
      rw [← Array.length_toList, ← hq, Dat.len, hsz]
    have hfill := Great.fill_whole (s := ie.size) (by omega) vs ((Array.range (n * ie.size)).map (z.cells[· % z.cells.size]!)) hcs (by simp [hlen])
    have hflat : (vs.flatMap fun v => v.cells.toList) = zs.flatMap Dat.enc := by rw [List.flatMap_def, hc, ← List.flatMap_def]
    rw [hflat] at hfill
    have hr := run_buildSlice (P := P) w t e n (parts.map fun (i, x) => (i, a.eval x)) _ ie z hu hi hz1 (by rw [hsz]; omega) (by rw [hsz]; exact Nat.pos_iff_ne_zero.1 (Nat.mul_pos h0 hpos)) (by rw [map_ops g hv parts hp]; exact hfill)
    have hle : n ≤ n * Dat.sz α := Nat.le_mul_of_pos_right _ hpos
    refine ⟨⟨some ⟨w.heap.size, 0, none⟩, n, zs⟩, _, .cells (zs.flatMap Dat.enc).toArray e, ?_, rfl, Gr.alloc w _, heap_alloc_new w _, ?_⟩
    · simp only [execOp, Sem.run_bind, hr, Result.andThen_ok, Sem.run_pure, Sv.val, hn]
    · refine ⟨by simp [hn], by unfold maxLen; simp only; omega, .inr ⟨_, _, rfl, Hp.one_self _ _, ?_, ?_⟩⟩
      · simp only [List.size_toArray]; rw [enc_len, hn]
      · simp only
        rw [List.take_of_length_le (by rw [enc_len]; exact Nat.le_refl _)]
end
end Go.V
end

section
/- A number's digits, plainly. -/
namespace Go.S
open Go
def decF : Nat → Nat → List UInt8
  | 0, _ => []
  | f + 1, u => if u < 10 then [UInt8.ofNat (48 + u)] else decF f (u / 10) ++ [UInt8.ofNat (48 + u % 10)]
/-- a number in digits -/
def itoaS (n : Int) : List UInt8 := if n < 0 then 45 :: decF 20 n.natAbs else decF 20 n.toNat
theorem decF_eq : ∀ (f u : Nat), u < 10 ^ (f + 1) → decF (f + 1) u = Lib.decDigits u
  | 0, u, h => by
    rw [Lib.decDigits, decF, if_pos (by simpa using h), dif_pos (by simpa using h)]
  | f + 1, u, h => by
    rw [Lib.decDigits, decF]
    by_cases h10 : u < 10
    · simp [h10]
    · simp only [h10, if_false, dif_neg, not_false_eq_true]
      rw [decF_eq f (u / 10) (by rw [Nat.pow_succ] at h; omega)]
theorem itoaS_eq {n : Int} (h : I64 n) : itoaS n = Lib.itoa n := by
  obtain ⟨h1, h2⟩ := h
  unfold itoaS Lib.itoa
  rw [decF_eq 19 n.natAbs (by omega), decF_eq 19 n.toNat (by omega)]
end Go.S
end

section
namespace Go.V
open Go.RowKit Go.S
/-- a block that is as it was laid -/
def GBlk (g : Nat) (cs : Array Value) : Mo := ⟨fun h => ∃ t f, h g = some (.cells cs t f), fun k ⟨t, f, e⟩ => ⟨t, f, k _ _ e⟩⟩
theorem GBlk.var {P : Program} {g : Nat} {cs : Array Value} {h : Hp} {w : World} {name : String} (hg : P.globalNamed name = some g) (m : (GBlk g cs).on h) (l : h.le (wh w)) : w.var? P name = some cs := by
  obtain ⟨t, f, e⟩ := m
  have := l _ _ e
  unfold wh at this
  simp [World.var?, hg, this]
theorem GBlk.of_var {P : Program} {g : Nat} {cs : Array Value} {w : World} {name : String} (hg : P.globalNamed name = some g) (h : w.var? P name = some cs) : (GBlk g cs).on (wh w) := by
  unfold World.var? at h
  rw [hg] at h
  simp only [Option.bind_some] at h
  split at h
  · next c t f hc =>
    cases h
    exact ⟨t, f, hc⟩
  · cases h
theorem Gr.grown (w : World) (k : Nat) (os : Array Obj) : Gr w (Go.Sort.grow (w.drewN k) os) := by
  refine ⟨rfl, rfl, rfl, by simp [Go.Sort.grow, World.drewN], fun b hb => ?_⟩
  simp only [Go.Sort.grow, World.drewN]
  rw [Array.getElem?_append_left hb]
/-- an integers' table out of what is laid -/
theorem tab_laid {P : Program} {W : World} {name : String} {k : IntKind} {zs : List Int} {L : List (String × DataW Unit)} {g : Nat} {t e : TypeId} {n : Nat}
    (hg : P.globalNamed name = some g) (hty : (P.globals[g]?).map (·.type) = some t) (ht : P.underlying t = some (.array n e)) (he : P.underlying e = some (.int k)) (hce : P.cellsOf e = 1) (hct : P.cellsOf t = n)
    (hf : (L.filter fun x => x.2.handleName?.isNone).filter (fun x => x.1 == name) = [(name, Lib.tabData k zs)]) (h : laidMetH P L W) : (GBlk g (zs.map fun z => Value.int k z).toArray).on (wh W) := by
  have h1 := (laidMetH_iff.1 h).1.filter (fun x => x.1 == name)
  rw [hf] at h1
  exact GBlk.of_var hg (Lib.tabIs_of_head hg hty ht he hce hct h1)
end Go.V
end

section
namespace Go.S
/-- the number at an error's end -/
def endNo : Err → Option Int
  | .nil => none
  | .no n => some n
  | .fault _ _ e => endNo e
end Go.S
namespace Go.V
open Go.RowKit Go.S
section
variable {P : Program} {N : Nat} {c : Cx} {ops : Array Oper} {Q Q1 : Exit → Act → World → Prop} {rest : List Oper} {o : Oper} {ρ : Env} {M M' M1 M0 : Mo} {E E1 F A : Ow} {v u : Value} {X S T R : Type}
  {d : Nat} {od : Option Nat} {ty : TypeId} {pos : String} {after : Array Edge} {gd : Option (Nat × Bool)} {x y : Operand} {t t' e tb : TypeId} {f : FuncId} {args : List Value} {k k' : IntKind} {m n : Int}
def Er.dep : Er → Nat
  | .fault _ _ _ e => e.dep + 1
  | _ => 0
/-- a method of what an interface holds -/
structure Meth (P : Program) (v : Value) (name : String) (f : FuncId) (rv : Value) : Prop where
  run : ∀ w : World, (callMethod v name #[]).run P w = (callFunc f #[rv]).run P w
theorem Meth.of {tv : TypeId} {name : String} {rv : Value} (h : ∀ w, (Go.method (P.types.size + Made.depth) tv v name).run P w = .ok (f, rv) w) : Meth P (.iface tv v) name f rv := ⟨fun w => by
  simp only [callMethod, Sem.run_bind, Go.program, Sem.run, go_sem] at h ⊢
  simp [h]⟩
theorem q_inv {φ : X → Prop} {val : X → Value} {M2 : X → Mo} {E2 : X → Ow} {name : String} {rv r : Value} (hx : ρ.ev x = some u) (hm : Meth P u name f rv) (h : Ct P f [rv] M1 Ow.emp val φ M2 E2) [i : InR M E M1] (hv : ∀ y, φ y → val y = r) :
    Qt P N c ⟨od, .call { callee := .invoke x name, args := [].toArray, argTypes := #[] }, ty, pos, after, gd⟩ r ρ M E := fun a w g s => by
  unfold Oper.quietAt
  have he : (execOp a.eval ⟨od, .call { callee := .invoke x name, args := [].toArray, argTypes := #[] }, ty, pos, after, gd⟩).run P w = .ok (.enter f #[rv]) w := by
    simp only [execOp, resolve, g.ev hx, invoke]
    simp [hm.run, h.entry]
  rw [he]
  exact ⟨rfl, h.gr i.out s hv⟩
/-- .. that the model has in place -/
theorem q_invX {fn : Func} {ex : Array Value → Sem Value} {name : String} {rv r : Value} (hx : ρ.ev x = some u) (hm : Meth P u name f rv) (hf : P.funcs[f]? = some fn) (hname : (fn.name == "runtime.NumGoroutine") = false) (hb : fn.body.isNone = true) (hn : Extern.findNext fn = none) (he : Extern.find fn = some ex) (h : ∀ w : World, (ex #[rv]).run P w = .ok r w) :
    Qt P N c ⟨od, .call { callee := .invoke x name, args := [].toArray, argTypes := #[] }, ty, pos, after, gd⟩ r ρ M E := Qt.of_run fun a w g s => by
  have hc := run_callFunc_extern hf hname hb hn he (args := #[rv]) (w := w)
  simp only [execOp, resolve, g.ev hx, invoke]
  simp [hm.run, hc, h]
/-- nil, and an error -/
theorem q_eqnl {T : TypeId} {ms : Array (String × TypeId)} {u : Value} (hi : P.underlying t = some (.interface ms)) (e1 : ρ.ev x = some .nilIface) (e2 : ρ.ev y = some (.iface T u)) :
    Qt P N c ⟨od, .binOp .eql t x y t', ty, pos, after, gd⟩ (.bool false) ρ M E := q_bin e1 e2 (fun w => by unfold eqGuard; simp [go_sem]) fun w => run_eql_iface_nil_left w T u hi
theorem q_ta {xT : TypeId} (e1 : ρ.ev x = some v) (h : ∀ w : World, (Instr.typeAssert v xT t true).run P w = .ok u w) : Qt P N c ⟨od, .typeAssert x xT t true, ty, pos, after, gd⟩ u ρ M E := Qt.of_run fun a w g _ => by
  simp only [execOp, g.ev e1, Sem.run_bind, h w, Result.andThen_ok, Sem.run_pure]
theorem guard_ifs (op : BinOp) (T1 T2 : TypeId) (u v : Value) (w : World) : (eqGuard op t x y (.iface T1 u) (.iface T2 v)).run P w = .ok () w := by
  unfold eqGuard
  cases op <;> simp [go_sem] <;> rfl
theorem run_eqinno (w : World) (d : Nat) (a b : Int) {ti tn : TypeId} {ms : Array (String × TypeId)} {i : TypeInfo} (hi : P.underlying ti = some (.interface ms)) (hn : P.underlying tn = some (.int .i64)) (h1 : P.info? tn = some i) (h2 : i.comparable = true) :
    (Op.equalIn (d + 2) ti (.iface tn (i64 a)) (.iface tn (i64 b))).run P w = .ok (decide (a = b)) w := by
  have e : (a == b) = decide (a = b) := by by_cases q : a = b <;> simp [q]
  simp [Op.equalIn, run_underlying hi, run_underlying hn, typeInfo, h1, h2, e]
theorem run_eqno (w : World) (a b : Int) {ti tn : TypeId} {ms : Array (String × TypeId)} (hi : P.underlying ti = some (.interface ms)) (hn : P.underlying tn = some (.int .i64)) (hc : (P.info? tn).map (·.comparable) = some true) :
    (binOp .eql ti (.iface tn (i64 a)) (.iface tn (i64 b))).run P w = .ok (.bool (decide (a = b))) w := by
  obtain ⟨i, h1, h2⟩ := Option.map_eq_some_iff.1 hc
  simp only [binOp]
  simp [Op.equal, Op.maxDepth, run_eqinno w 9998 a b hi hn h1 h2]
/-- two errors that are numbers -/
theorem q_eqno {tn : TypeId} {ms : Array (String × TypeId)} {a b : Int} (hi : P.underlying t = some (.interface ms)) (hn : P.underlying tn = some (.int .i64)) (hc : (P.info? tn).map (·.comparable) = some true) (e1 : ρ.ev x = some (.iface tn (i64 a))) (e2 : ρ.ev y = some (.iface tn (i64 b))) :
    Qt P N c ⟨od, .binOp .eql t x y t', ty, pos, after, gd⟩ (.bool (decide (a = b))) ρ M E := q_bin e1 e2 (guard_ifs _ _ _ _ _) fun w => run_eqno w a b hi hn hc
/-- .. of different types -/
theorem q_eqdt {t1 t2 : TypeId} {ms : Array (String × TypeId)} {a b : Value} (hi : P.underlying t = some (.interface ms)) (hne : t1 ≠ t2) (e1 : ρ.ev x = some (.iface t1 a)) (e2 : ρ.ev y = some (.iface t2 b)) :
    Qt P N c ⟨od, .binOp .eql t x y t', ty, pos, after, gd⟩ (.bool false) ρ M E := q_bin e1 e2 (guard_ifs _ _ _ _ _) fun w => run_eql_iface_types t1 t2 a b hi hne w
/-- a call that an interface leads to, and what it says -/
def Says (P : Program) (v : Value) (name : String) (M1 : Mo) (r : Value) : Prop := ∃ f rv, Meth P v name f rv ∧ Ct P f [rv] M1 Ow.emp (X := Unit) (fun _ => r) (fun _ => True) (fun _ => Mo.tt) (fun _ => Ow.emp)
theorem q_say {name : String} {r : Value} (hx : ρ.ev x = some u) (h : Says P u name M1 r) [i : InR M E M1] : Qt P N c ⟨od, .call { callee := .invoke x name, args := [].toArray, argTypes := #[] }, ty, pos, after, gd⟩ r ρ M E := by
  obtain ⟨f, rv, h1, h2⟩ := h
  exact q_inv hx h1 h2 (fun _ _ => rfl)
theorem St.turned {w w1 w' : World} {h z : Hp} {t : Nat} {T : TypeId} {u v : Value} (hb : w.heap[t]? = some (.cells #[u] T (0, 0))) (hz : z t = some (.cells #[u] T (0, 0))) (hoff : h.off z) (l : h.le (wh w)) (g : Gr w w1) (e : w' = w1.setCell ⟨t, 0, none⟩ v) : St ⟨w, h, fun i => z i ≠ none⟩ Mo.tt (Blk t [v] T) w' := by
  subst e
  have hbn : h t = none := (hoff t).resolve_right (by rw [hz]; simp)
  have htl := (Array.getElem?_eq_some_iff.1 hb).1
  have h1 : w1.heap[t]? = some (.cells #[u] T (0, 0)) := by rw [g.block t htl]; exact hb
  have hnew := one_setCell (u := v) h1
  have hold : ∀ i, i ≠ t → (w1.setCell ⟨t, 0, none⟩ v).heap[i]? = w1.heap[i]? := fun i hi => Below.heap_setCell w1 ⟨t, 0, none⟩ v i hi
  have hB : Below 0 w1 (w1.setCell ⟨t, 0, none⟩ v) := (Below.refl 0 w1).setCell (Nat.zero_le _) v
  refine ⟨⟨h, Hp.one t (.cells #[v] T (0, 0)), trivial, Hp.one_self _ _, fun i => ?_, fun i p hp => ?_, fun i p hp => ?_, Hp.le.refl h, fun i hi => .inl hi, fun i hi => .inl ?_⟩, fun i hi hd => ?_, hB.os.trans g.os, hB.tape.trans g.tape, hB.output.trans g.output, Nat.le_trans g.size hB.size⟩
  · by_cases hib : i = t
    · subst hib; exact .inl hbn
    · right; unfold Hp.one; rw [if_neg hib]
  · have hib : i ≠ t := fun q => by subst q; rw [hbn] at hp; cases hp
    unfold wh
    rw [hold i hib]
    have := l i p hp
    unfold wh at this
    rw [g.block i (Array.getElem?_eq_some_iff.1 this).1]
    exact this
  · have := Hp.one_ne (by rw [hp]; simp)
    subst this
    rw [Hp.one_self] at hp
    cases hp
    exact hnew
  · have := Hp.one_ne hi
    subst this
    show z i ≠ none
    rw [hz]; simp
  · have hit : i ≠ t := by
      rintro rfl
      exact hd (show z i ≠ none by rw [hz]; simp)
    rw [hold i hit]
    exact g.block i hi
end
end Go.V
end

section
set_option linter.unusedVariables false
namespace Go.V
open Go.RowKit Go.ChangeShapes Go.WideShapes
/-- a law's run, in the kit's words -/
theorem Ct.law {P : Program} {f : FuncId} {args : List Value} {M : Mo} {v : Value} {φ : Unit → Prop} {M2 : Unit → Mo} {E2 : Unit → Ow} (h : Ct P f args M Ow.emp (fun _ => v) φ M2 E2) {w : World} (hM : M.on (wh w)) :
    Calls P f args.toArray w fun en w' => en = .returned v ∧ Gr w w' :=
  (h.calls w (wh w) Hp.nil hM trivial (Hp.nil_off _) (fun _ _ e => e) (fun b o q => by cases q)).mono fun en w' ⟨r, e1, z, e2, e3, e4⟩ => ⟨by rw [e1, e2], e4.os, e4.tape, e4.output, e4.size, fun b hb => e4.frame b hb (by simp [Hp.nil])⟩
section
variable {H : Type} {enc : TypeId × Value → H} {P : Program} {W W' : World}
theorem trodAll_stays (hl : laidOutB P = true) {sp' : Nat → Bool} : ∀ {ts : List TypeId} {vs : List Value} {ds : List (DataW H)} {ps : List MemPlace}, ts.all (fun t => P.readableRec t && decide (t < P.types.size)) = true →
    DataW.TrodAll enc P W 0 (fun _ => true) true ts vs ds ps → (∀ p ∈ ps, W.sameAt W' p) → (∀ p ∈ ps, sp' p.block = true) → DataW.TrodAll enc P W' 0 sp' true ts vs ds ps
  | [], [], [], _, _, h, _, _ => h
  | t :: ts, v :: vs, d :: ds, _, ha, ⟨p, q, h1, h2, rfl⟩, hs, hb => by
    simp only [List.all_cons, Bool.and_eq_true, decide_eq_true_eq] at ha
    exact ⟨p, q, WideElems.Trod_stays hl ha.1.1 ha.1.2 h1 (fun x hx => hs x (List.mem_append_left _ hx)) (fun x hx => hb x (List.mem_append_left _ hx)),
      trodAll_stays hl ha.2 h2 (fun x hx => hs x (List.mem_append_right _ hx)) (fun x hx => hb x (List.mem_append_right _ hx)), rfl⟩
  | [], _ :: _, _, _, _, h, _, _ => by simp [DataW.TrodAll] at h
  | [], [], _ :: _, _, _, h, _, _ => by simp [DataW.TrodAll] at h
  | _ :: _, [], _, _, _, h, _, _ => by simp [DataW.TrodAll] at h
  | _ :: _, _ :: _, [], _, _, h, _, _ => by simp [DataW.TrodAll] at h
theorem Gr.below (h : Gr W W') : Below W.heap.size W W' := ⟨h.os, h.tape, h.output, h.size, h.block⟩
/-- a law that answers true and leaves all as it was -/
theorem law_post {f : Func} {s : ChangeSpec} {args : Array Value} {ds gs : List (DataW H)} {before : List MemPlace} {tb : TypeId} {fresh handsOn : Bool}
    (hl : laidOutB P = true) (hp : f.params.toList.all (fun t => P.readableRec t && decide (t < P.types.size)) = true) (hr : f.resultTypes = #[tb]) (htb : P.underlying tb = some .bool) (hv : s.vars = [])
    (hW : DataW.Whole enc P f.params.toList s.vars false W args.toList ds gs before) (hg : Gr W W') (hs : s.fn H ds = ⟨[.lit (.bool true)], ds, []⟩) : s.post enc P f false fresh handsOn false W args (.bool true) W' := by
  have hW' := hW
  obtain ⟨p, q, hA, hV, rfl, hfz, hnd⟩ := hW
  rw [hv] at hV
  obtain ⟨rfl, rfl⟩ : gs = [] ∧ q = [] := by
    cases gs
    · exact ⟨rfl, hV⟩
    · simp [DataW.TrodVars] at hV
  have hb : ∀ x ∈ p, x.block < W.heap.size := fun x hx => by simpa using hW'.lt x (List.mem_append_left _ hx)
  refine ⟨ds, [], _, [], p, [], hW', ?_, ?_, ?_, hg.below.frame _, fun h => by cases h⟩
  · rw [List.append_nil, hs, hr]
    exact trodAll_mk1 (shut_bool htb true)
  · rw [List.append_nil, hs]
    exact trodAll_stays hl hp hA (fun x hx => hg.below.same (hb x hx)) (fun x hx => by simpa using hb x hx)
  · rw [List.append_nil, hs, hv]
    rfl
theorem add_block (a : Addr) (i : Nat) : (a.add i).block = a.block := by unfold Addr.add; split <;> rfl
theorem add_off (a : Addr) (i : Nat) : (a.add i).off = a.off + i := by unfold Addr.add; split <;> simp_all
theorem op_str {t : TypeId} {v : Value} {r : Reach} {b0 : Nat} (ht : P.underlying t = some .string) (hv : Value.okWide P W r b0 t v) : ∃ s : Str, v = str s := by
  obtain ⟨s, rfl⟩ := okWide_string ht hv
  exact ⟨s.data.toList, rfl⟩
theorem op_strs {t e : TypeId} {v : Value} {r : Reach} {b0 b1 : Nat} {sp : Nat → Bool} {hd : Bool} {d : DataW H} {p : List MemPlace} (ht : P.underlying t = some (.slice e)) (he : P.underlying e = some .string) (hc : P.cellsOf e = 1)
    (hv : Value.okWide P W r b0 t v) (h : DataW.Trod enc P W b1 sp hd t v d p) : ∃ s : Sv Str, v = s.val ∧ s.ok.on (wh W) := by
  obtain ⟨a0, len, cap, rfl⟩ := okWide_slice ht hv
  obtain ⟨fuel, hf⟩ := h
  rcases open_strings ht he hc hf with ⟨hcs, hx⟩ | ⟨a, len', cap', ss, hcs, _, hl, hm, hz, hx, hcell, hsz⟩
  · simp [Value.cells] at hcs
    obtain ⟨rfl, rfl, rfl⟩ := hcs
    exact ⟨⟨none, 0, []⟩, rfl, by simp, by simp [maxLen], by simp, by simp, by simp⟩
  · simp [Value.cells] at hcs
    obtain ⟨rfl, rfl, rfl⟩ := hcs
    have hlen : len ≤ ss.length := by rw [hz]; split <;> omega
    refine ⟨⟨some a, cap, (ss.take len).map fun s => s.data.toList⟩, ?_, ?_, hm, ?_, ?_, fun _ _ => trivial⟩
    · simp [Sv.val, Nat.min_eq_left hlen]
    · simp [Nat.min_eq_left hlen]; exact hl
    · intro hne
      have h0 : 0 < ss.length := by
        rcases Nat.eq_zero_or_pos ss.length with h | h
        · exact absurd (by simp [List.length_eq_zero_iff.1 h]) hne
        · exact h
      have := hcell 0 h0
      unfold World.cell? at this
      split at this
      · split at this
        · cases this
        · next hsp =>
          simp [Addr.add] at hsp
          cases a
          simp_all [Sv.b, Sv.o]
      · cases this
    · intro i x hx2 j u hj
      rw [List.getElem?_map, Option.map_eq_some_iff] at hx2
      obtain ⟨y, hy, rfl⟩ := hx2
      rw [List.getElem?_take] at hy
      split at hy
      · next hi =>
        have hi2 := (List.getElem?_eq_some_iff.1 hy).1
        have h1 := hcell i hi2
        obtain ⟨rfl, rfl⟩ : j = 0 ∧ u = str y.data.toList := by
          cases j with
          | zero => exact ⟨rfl, (Option.some.inj hj).symm⟩
          | succ j => simp [Dat.enc] at hj
        rw [List.getD_eq_getElem?_getD, hy] at h1
        unfold World.cell? at h1
        show Hp.cell (wh W) a.block (a.off + i * 1 + 0) = _
        unfold Hp.cell wh
        rw [add_block, add_off] at h1
        simp only [Nat.mul_one, Nat.add_zero]
        split at h1
        · next c hb =>
          rw [hb]
          split at h1
          · cases h1
          · simpa using h1
        · cases h1
      · cases hy
end
end Go.V
end

section
set_option linter.unusedVariables false
namespace Go.V
open Go.RowKit Go.ChangeShapes Go.WideShapes
instance : Dat Bool := ⟨1, fun b => [.bool b], fun _ => rfl, fun _ _ h => by cases List.mem_singleton.1 h; rfl, fun _ => Mo.tt⟩
/-- what numbers that were read keep to -/
class Rg (α : Type) where
  rg : α → Prop
instance : Rg Int := ⟨Go.S.I64⟩
instance : Rg Bool := ⟨fun _ => True⟩
instance : Rg UInt8 := ⟨fun _ => True⟩
instance : Rg Str := ⟨fun _ => True⟩
instance {α : Type} [Rg α] : Rg (Sv α) := ⟨fun s => ∀ z ∈ s.l, Rg.rg z⟩
section
variable {P : Program}
/-- whatever can be read of a type is such data, with all that it leads to -/
def Opn (P : Program) (t : TypeId) (α : Type) [Dat α] [Rg α] : Prop := ∀ {H : Type} {enc : TypeId × Value → H} {W : World} {b0 : Nat} {sp : Nat → Bool} {hd : Bool} {fuel : Nat} {cs : List Value} {x : DataW H × List MemPlace},
  DataW.trod enc P W b0 sp hd fuel t cs = some x → ∃ z : α, cs = Dat.enc z ∧ (Dat.deep z).on (wh W) ∧ Rg.rg z
theorem Opn.i64 {t : TypeId} (ht : P.underlying t = some (.int .i64)) : Opn P t Int := fun h => by
  obtain ⟨n, rfl, _, hw⟩ := DataW.trod_int ht h
  refine ⟨n, rfl, trivial, ?_⟩
  have hb : -9223372036854775808 ≤ n ∧ n ≤ 9223372036854775807 := by simpa [Lit.wf, IntKind.min, IntKind.max, IntKind.signed, IntKind.bits] using hw
  exact hb
theorem Opn.bool {t : TypeId} (ht : P.underlying t = some .bool) : Opn P t Bool := fun h => by
  obtain ⟨n, rfl, _⟩ := DataW.trod_bool ht h
  exact ⟨n, rfl, trivial, trivial⟩
theorem Opn.u8 {t : TypeId} (ht : P.underlying t = some (.int .u8)) : Opn P t UInt8 := fun h => by
  obtain ⟨n, rfl, _, hw⟩ := DataW.trod_int ht h
  have hb : 0 ≤ n ∧ n ≤ 255 := by simpa [Lit.wf, IntKind.min, IntKind.max, IntKind.signed, IntKind.bits] using hw
  refine ⟨UInt8.ofNat n.toNat, ?_, trivial, trivial⟩
  show [Value.int .u8 n] = [.int .u8 ((UInt8.ofNat n.toNat).toNat : Int)]
  rw [← u8_z hb rfl]
theorem Opn.str {t : TypeId} (ht : P.underlying t = some .string) : Opn P t Str := fun h => by
  obtain ⟨s, rfl, _, _⟩ := DataW.trod_string ht h
  exact ⟨s.data.toList, rfl, trivial, trivial⟩
theorem pick_list {α : Type} {Q : Nat → α → Prop} : ∀ (n : Nat), (∀ i, i < n → ∃ z, Q i z) → ∃ l : List α, l.length = n ∧ ∀ i z, l[i]? = some z → Q i z
  | 0, _ => ⟨[], rfl, fun i z h => by simp at h⟩
  | n + 1, h => by
    obtain ⟨l, hl, hq⟩ := pick_list n fun i hi => h i (by omega)
    obtain ⟨z, hz⟩ := h n (by omega)
    refine ⟨l ++ [z], by simp [hl], fun i y hy => ?_⟩
    rw [List.getElem?_append] at hy
    split at hy
    · exact hq i y hy
    · have : i = n := by
        have := (List.getElem?_eq_some_iff.1 hy).1
        simp at this; omega
      subst this
      rw [hl] at hy
      simp at hy
      subst hy
      exact hz
theorem cells_at {W : World} {b0 n : Nat} {a : Addr} {cs : List Value} (h : W.cells? b0 a n = some cs) (hn : 0 < n) : a.spot = none ∧ (wh W).at a.block a.off cs := by
  unfold World.cells? at h
  split at h
  · have hl := mapM_some_length h
    rw [List.length_range] at hl
    have hg : ∀ i, i < n → W.cell? (a.add i) = cs[i]? := fun i hi => mapM_some_get h i i (by simp [hi])
    have key : ∀ (c : Addr) (v : Value), W.cell? c = some v → c.spot = none ∧ (wh W).cell c.block c.off = some v := fun c v hc => by
      unfold World.cell? at hc
      unfold Hp.cell wh
      split at hc
      · next hb =>
        split at hc
        · cases hc
        · next hsp => exact ⟨by simpa using hsp, by rw [hb]; simpa using hc⟩
      · cases hc
    refine ⟨?_, fun j v hj => ?_⟩
    · obtain ⟨v, hv⟩ : ∃ v, cs[0]? = some v := ⟨_, List.getElem?_eq_getElem (by omega)⟩
      have := (key _ v ((hg 0 hn).trans hv)).1
      unfold Addr.add at this
      split at this <;> simp_all
    · have hjn : j < n := by have := (List.getElem?_eq_some_iff.1 hj).1; omega
      have := (key _ v ((hg j hjn).trans hj)).2
      rwa [add_block, add_off] at this
  · cases h
theorem Opn.sv {t e : TypeId} {α : Type} [Dat α] [Rg α] (ht : P.underlying t = some (.slice e)) (hc : P.cellsOf e = Dat.sz α) (hpos : 0 < Dat.sz α) (he : Opn P e α) : Opn P t (Sv α) := fun {H enc W b0 sp hd fuel cs x} h => by
  rcases DataW.trod_slice ht h with ⟨rfl, _⟩ | ⟨a, len, cap, elems, rest, n, _, rfl, _, hb, hl, hm, hlen, hel, _⟩
  · exact ⟨⟨none, 0, []⟩, rfl, ⟨Nat.le_refl _, by simp [maxLen], fun h => absurd rfl h, fun _ _ h => by simp at h, fun _ h => by cases h⟩, fun _ h => (by cases h)⟩
  · have each : ∀ i, i < len → ∃ z : α, W.cells? b0 (a.add (i * Dat.sz α)) (Dat.sz α) = some (Dat.enc z) ∧ (Dat.deep z).on (wh W) ∧ Rg.rg z := fun i hi => by
      have h1 := hel i hi
      rw [List.getElem?_eq_getElem (by omega), hc] at h1
      cases h2 : W.cells? b0 (a.add (i * Dat.sz α)) (Dat.sz α) with
      | none => rw [h2] at h1; cases h1
      | some cs' =>
        rw [h2] at h1
        obtain ⟨z, rfl, hz⟩ := he h1
        exact ⟨z, rfl, hz⟩
    obtain ⟨l, h1, h2⟩ := pick_list len each
    refine ⟨⟨some a, cap, l⟩, by rw [← h1]; rfl, ⟨by simpa [h1] using hl, hm, fun hne => ?_, fun i z hz => ?_, fun z hz => ?_⟩, fun z hz => ?_⟩
    · simp only at hne
      obtain ⟨z, hz⟩ : ∃ z, l[0]? = some z := ⟨_, List.getElem?_eq_getElem (List.length_pos_iff.2 hne)⟩
      have := (cells_at (h2 0 z hz).1 hpos).1
      simp only [Nat.zero_mul] at this
      cases a
      simp [Addr.add] at this
      simp_all [Sv.b, Sv.o]
    · have := (cells_at (h2 i z hz).1 hpos).2
      rw [add_block, add_off] at this
      exact this
    · obtain ⟨i, hi, rfl⟩ := List.mem_iff_getElem.1 hz
      exact (h2 i l[i] (List.getElem?_eq_getElem hi)).2.1
    · obtain ⟨i, hi, rfl⟩ := List.mem_iff_getElem.1 hz
      exact (h2 i l[i] (List.getElem?_eq_getElem hi)).2.2
theorem trod_fields {H : Type} {enc : TypeId × Value → H} {W : World} {b0 : Nat} {sp : Nat → Bool} {hd : Bool} {fuel : Nat} {cs : List Value} {x : DataW H × List MemPlace} {t : TypeId} {fs : Array Field} (ht : P.underlying t = some (.struct fs)) (h : DataW.trod enc P W b0 sp hd fuel t cs = some x) :
    cs.length = P.cellsOf t ∧ ∀ (i : Nat) (f : Field), fs[i]? = some f → ∃ (n : Nat) (y : DataW H × List MemPlace), DataW.trod enc P W b0 sp hd n f.type ((cs.drop f.offset).take (P.cellsOf f.type)) = some y := by
  obtain ⟨xs, n, _, _, hl, hx, hf⟩ := DataW.trod_struct ht h
  refine ⟨hl, fun i f hi => ⟨n, ?_⟩⟩
  have h1 := hf i f hi
  have hi' := (Array.getElem?_eq_some_iff.1 hi).1
  rw [List.getElem?_eq_getElem (by omega)] at h1
  exact ⟨_, h1⟩
/-- a field -/
theorem Opn.fld {H : Type} {enc : TypeId × Value → H} {W : World} {b0 : Nat} {sp : Nat → Bool} {hd : Bool} {cs cs' : List Value} {t : TypeId} {α : Type} [Dat α] [Rg α] (ho : Opn P t α) {off k : Nat} (hk : P.cellsOf t = k) (h : ∃ (n : Nat) (y : DataW H × List MemPlace), DataW.trod enc P W b0 sp hd n t ((cs.drop off).take (P.cellsOf t)) = some y) (hc : (cs.drop off).take k = cs') :
    ∃ z : α, cs' = Dat.enc z ∧ (Dat.deep z).on (wh W) ∧ Rg.rg z := by
  subst hk
  subst hc
  obtain ⟨n, y, h⟩ := h
  exact ho h
/-- an argument, out of what is read of it -/
theorem Opn.arg {t : TypeId} {α : Type} [Dat α] [Rg α] (ho : Opn P t α) {H : Type} {enc : TypeId × Value → H} {W : World} {b0 : Nat} {sp : Nat → Bool} {hd : Bool} {v : Value} {d : DataW H} {p : List MemPlace} (h : DataW.Trod enc P W b0 sp hd t v d p) : ∃ z : α, v.cells.toList = Dat.enc z ∧ (Dat.deep z).on (wh W) ∧ Rg.rg z := by
  obtain ⟨f, h⟩ := h
  exact ho h
theorem cells_agg {cs : List Value} {v : Value} {c : Array Value} (hv : v = .agg c) (h : v.cells.toList = cs) : v = .agg cs.toArray := by
  subst hv
  subst h
  simp [Value.cells]
theorem okw_struct {W : World} {r : Reach} {b0 : Nat} {t : TypeId} {fs : Array Field} {v : Value} (ht : P.underlying t = some (.struct fs)) (h : Value.okWide P W r b0 t v) : ∃ c, v = .agg c := by
  unfold Value.okWide at h
  rw [ht] at h
  obtain ⟨c, hc, _⟩ := h
  exact ⟨c, hc⟩
theorem okw_slice {W : World} {r : Reach} {b0 : Nat} {t e : TypeId} {v : Value} {α : Type} [Dat α] {z : Sv α} (ht : P.underlying t = some (.slice e)) (h : Value.okWide P W r b0 t v) (hc : v.cells.toList = Dat.enc z) : v = z.val := by
  obtain ⟨a0, len, cap, rfl⟩ := okWide_slice ht h
  have : [Value.slice a0 len cap] = [z.val] := hc
  exact List.head_eq_of_cons_eq this
end
end Go.V
end

section
set_option linter.unusedVariables false
namespace Go.V
open Go.RowKit
theorem handle_laid {P : Program} {W : World} {name : String} {nm : List UInt8} {u0 ty0 : TypeId} {g : Nat} {d : DataW Unit} {v : Value} {L : List (String × DataW Unit)} (hg : P.globalNamed name = some g) (hm : L.find? (fun x => x.1 == name) = some (name, d)) (hn : d.handleName? = some nm) (hfn : d.funcsIn? = none)
    (hu : (P.cutTypes.find? (·.1 == "internal/reflectlite.rtype")).map (·.2) = some u0) (hone : ((List.range P.types.size).filter fun t => P.rowNamed t nm) = [ty0]) (hv : typeHandle P ty0 = v) (h : laidMetH P L W) : (GBlk g #[.iface u0 (.agg #[v])]).on (wh W) := by
  have hL : (name, d) ∈ L.filter fun x => x.2.handleName?.isSome := List.mem_filter.2 ⟨List.mem_of_find?_eq_some hm, by simp [hn]⟩
  have h' := (laidMetH_iff.1 h).2 _ hL
  simp only [hfn] at h'
  obtain ⟨nm', u, ty, e1, e2, e3, e4, e5⟩ := h'
  rw [hn] at e1
  obtain rfl := Option.some.inj e1
  obtain rfl := Option.some.inj (hu.symm.trans e2)
  have hm : ty ∈ (List.range P.types.size).filter fun t => P.rowNamed t nm := List.mem_filter.2 ⟨List.mem_range.2 e3, e4⟩
  rw [hone] at hm
  obtain rfl := List.mem_singleton.1 hm
  rw [hv] at e5
  exact GBlk.of_var hg e5
theorem laidMet_on {P : Program} {w0 : World} {laid : List (String × DataW Unit)} (args : Array Value) (hf : w0.layFits P laid [] = true) (hi : w0.layIfaces P laid (w0.layVars P laid) = true) :
    laidMet P laid ((w0.layVars P laid).forCall (fun _ _ => 0) ⟨#[], args, []⟩).memory := by
  have e1 : (laid.filter fun x => (laid.map (·.1)).contains x.1) = laid := List.filter_eq_self.2 fun x hx => List.contains_iff_mem.2 (List.mem_map.2 ⟨x, hx, rfl⟩)
  have e2 : (laid.filter fun x => !(laid.map (·.1)).contains x.1) = [] := List.filter_eq_nil_iff.2 fun x hx => by rw [List.contains_iff_mem.2 (List.mem_map.2 ⟨x, hx, rfl⟩)]; simp
  have h : laidMet P laid (w0.layVars P laid) := laidMet_layVars (w0 := w0) (laid.map (·.1)) [] (by rw [e1]) (by rw [e1]; exact hf) (by rw [e1]; exact hi) (by rw [e2]; exact LaidIn.none)
  exact h.of_heap (by simp [World.memory, World.forCall, Input.heap])
/-- a world that holds what is asked, its handle laid ahead -/
noncomputable def heldW (P : Program) (os : Os) (g : Nat) (v : Value) : World :=
  { World.holding P os ⟨#[], #[], []⟩ with heap := (World.holding P os ⟨#[], #[], []⟩).heap.modify g fun
      | .cells _ t frozen => .cells #[v] t frozen
      | o => o }
end Go.V
end

section
namespace Go.V
open Go.RowKit
section
variable {P : Program} {N : Nat} {c : Cx} {ops : Array Oper} {Q : Exit → Act → World → Prop} {ρ : Env} {M : Mo} {E : Ow} {D : List (Nat × Value)} {k : Nat}
theorem VL.backX {n : Nat} {listed listed' : Array Bool} {D' : List (Nat × Value)} (hp : Pend P N c ops D' ρ M E) (hD : strike ops k D = D') (hL : listed.setIfInBounds k true = listed') (h : VG P N c ops Q n D' listed' ρ M E) :
    VL P N c ops (toR P N c ops fun a w => (∀ p ∈ strike ops k D, YI P ops p a w) ∧ wpG P ops Q n (strike ops k D) (listed.setIfInBounds k true) a w) [] ρ M E := by
  subst hD
  subst hL
  exact VL.nil fun a w x y => ⟨rfl, hp a w x y, h a w x y (hp a w x y)⟩
end
end Go.V
end

section
set_option linter.unusedVariables false
set_option linter.unusedSimpArgs false
set_option linter.unusedSectionVars false
/-- texts with another between them -/
def Go.S.joinS (l : List (List UInt8)) (sep : List UInt8) : List UInt8 := Go.Lib.join l sep
namespace Go.V
open Go.RowKit Go.S
section
variable {P : Program} {N : Nat} {c : Cx} {ops : Array Oper} {Q Q1 : Exit → Act → World → Prop} {rest : List Oper} {o : Oper} {ρ : Env} {M M' M1 M0 : Mo} {E E1 F A : Ow} {v u : Value} {X S T R : Type}
  {d : Nat} {od : Option Nat} {ty : TypeId} {pos : String} {after : Array Edge} {gd : Option (Nat × Bool)} {x y : Operand} {t t' e tb : TypeId} {f : FuncId} {args : List Value} {k k' : IntKind} {m n : Int} {α : Type} [Dat α]
/-! ### elements of several cells: clear, copy -/
theorem flatMap_drop {α : Type} [Dat α] (l : List α) (n : Nat) : (l.flatMap Dat.enc).drop (n * Dat.sz α) = (l.drop n).flatMap Dat.enc := by
  induction l generalizing n with
  | nil => simp
  | cons x r ih =>
    cases n with
    | zero => simp
    | succ n =>
      simp only [List.flatMap_cons, List.drop_succ_cons]
      rw [List.drop_append, Dat.len, ← ih n]
      have h1 : (Dat.enc x).drop ((n + 1) * Dat.sz α) = [] := List.drop_of_length_le (by rw [Dat.len]; exact Nat.le_mul_of_pos_left _ (Nat.succ_pos n))
      rw [h1, List.nil_append]
      congr 1
      rw [Nat.succ_mul, Nat.add_sub_cancel]
theorem run_copy_rowK (w : World) (dT sT ty elem : TypeId) (g o dLen dCap : Nat) (a : Addr) (sLen sCap : Nat) (cur : Array Value) (t : TypeId) (cs : List Value) (k : Nat)
    (hu : P.underlying dT = some (.slice elem)) (hs : (P.info? elem).map (·.size) = some k)
    (hg : w.heap[g]? = some (.cells cur t (0, 0))) (hn : cs.length = Nat.min sLen dLen * k)
    (hsrc : ∀ j v, cs[j]? = some v → w.cell? (a.add j) = some v) (hfit : o + cs.length ≤ cur.size) (h1 : ∀ v ∈ cs, v.oneCell' = true) :
    (Builtin.copy_ #[dT, sT] ty #[.slice (some ⟨g, o, none⟩) dLen dCap, .slice (some a) sLen sCap]).run P w =
      .ok (goInt (Nat.min sLen dLen)) (w.setRow g (cur.toList.take o ++ cs ++ cur.toList.drop (o + cs.length)).toArray) := by
  have hl := run_loadCells_list (P := P) w a cs hsrc
  have hst := run_storeCells_at P g o t cs 0 cur w hg (by simpa using hfit) h1
  cases hq : P.info? elem with
  | none => simp [hq] at hs
  | some i =>
    have hi : i.size = k := by simpa [hq] using hs
    simp [Builtin.copy_, run_underlying hu, Builtin.lenOf, Builtin.firstCells, sizeOf, typeInfo, hq, hi, ← hn, hl, hst]
theorem run_clear_rowK (w : World) (t ty e : TypeId) (z : Value) (k : Nat) (hu : P.underlying t = some (.slice e)) (hv : ∀ w, (zeroValue e).run P w = .ok z w) (hk : z.cells.size = k) (h1 : ∀ v ∈ z.cells.toList, v.oneCell' = true)
    (g o n c : Nat) (cur : Array Value) (T : TypeId) (hn : 0 < n) (hg : w.heap[g]? = some (.cells cur T (0, 0))) (hfit : o + n * k ≤ cur.size) :
    ∃ cs : List Value, cs.length = n * k ∧ (Builtin.clear_ #[t] ty #[.slice (some ⟨g, o, none⟩) n c]).run P w = .ok (.tuple #[]) (w.setRow g (cur.toList.take o ++ cs ++ cur.toList.drop (o + cs.length)).toArray) := by
  have hlen : (Builtin.zeroCells z.cells n).toList.length = n * k := by simp [Builtin.zeroCells, hk]
  refine ⟨(Builtin.zeroCells z.cells n).toList, hlen, ?_⟩
  have hone : ∀ v ∈ (Builtin.zeroCells z.cells n).toList, v.oneCell' = true := by
    intro v hv
    simp only [Builtin.zeroCells, Array.toList_map, List.mem_map, Array.toList_range, List.mem_range] at hv
    obtain ⟨i, hi, rfl⟩ := hv
    have hk0 : 0 < z.cells.size := by
      rcases Nat.eq_zero_or_pos z.cells.size with q | q
      · rw [q, Nat.mul_zero] at hi; omega
      · exact q
    have hm := Nat.mod_lt i hk0
    rw [getElem!_pos z.cells (i % z.cells.size) hm]
    exact h1 _ (Array.mem_toList_iff.2 (Array.getElem_mem hm))
  have hst := run_storeCells_at P g o T _ 0 cur w hg (by rw [hlen]; simpa using hfit) hone
  obtain ⟨n, rfl⟩ : ∃ j, n = j + 1 := ⟨n - 1, by omega⟩
  simp only [Nat.add_zero] at hst
  simp [Builtin.clear_, run_underlying hu, hv, hst]
/-- an operation that turns own blocks, whose answer is dropped -/
theorem VL.bigN {op : Op} {A2 : Ow} (hE : Foc E A F)
    (H : ∀ a w h z, Agr N ρ a → h.off z → M.on h → A z → h.le (wh w) → z.le (wh w) → ∃ u w', (execOp a.eval ⟨none, op, ty, pos, after, none⟩).run P w = .ok (.value u) w' ∧ St ⟨w, h, fun b => z b ≠ none⟩ Mo.tt A2 w')
    (k : VL P N c ops Q rest ρ M (Ow.star A2 F)) : VL P N c ops Q (⟨none, op, ty, pos, after, none⟩ :: rest) ρ M E := fun a w g s =>
  wpList_plain rfl fun _ hK => by
    have s0 := s
    obtain ⟨⟨hp, e, m, ee, dd, l, kk, h0, hr, er⟩, _⟩ := s
    obtain ⟨x, y, dxy, j, hx, hy⟩ := hE e ee
    have dx : hp.off x := fun b => (dd b).imp id fun z => by rw [j] at z; exact (Hp.join_none.1 z).1
    obtain ⟨u, w', hr', s'⟩ := H a w hp x g dx m hx l (fun b o z => kk b o (by rw [j]; exact Hp.le_join_left x y b o z))
    unfold Oper.wp
    rw [hr']
    simp only [Oper.upon]
    have s2 := St.call s0 m dd l kk h0 hr er dxy j hy (fun b => Iff.rfl) s'
    exact hK _ _ (k _ _ ⟨g.size, g.defers, g.look⟩ (s2.mono (fun _ z => z.2) fun _ z => z))
/-- the last ones of a slice of one's own are cleared: the first ones are one's own still -/
theorem VL.clr {s : Sv α} {i : Nat} {xs : List Operand} (z : Value) (hu : P.underlying t = some (.slice e)) (hv : ∀ w, (zeroValue e).run P w = .ok z w) (hk : z.cells.size = Dat.sz α) (h1' : z.cells.toList.all (fun v => v.oneCell') = true)
    (ha : ρ.evs xs = some [(s.sub i s.l.length s.c).val]) (hi : i ≤ s.l.length) (hE : Foc E (s.own e) F) (hd : d < N)
    (kk : ∀ q : Sv α, q.l = s.l.take i → q.val = .slice s.a i s.c → VL P N c ops Q rest ((d, .tuple #[]) :: ρ) M (Ow.star (q.own e) F)) :
    VL P N c ops Q (⟨some d, .call { callee := .builtin .clear, args := xs.toArray, argTypes := #[t] }, ty, pos, after, none⟩ :: rest) ρ M E := by
  have h1 : ∀ v ∈ z.cells.toList, v.oneCell' = true := fun v hv => List.all_eq_true.1 h1' v hv
  have hsub : (s.sub i s.l.length s.c).l.length = s.l.length - i := by simp [Sv.sub]
  refine VL.big (X := Unit) (φ := fun _ => True) (val := fun _ => .tuple #[]) (M2 := fun _ => Mo.tt) (A2 := fun _ => (⟨s.a, s.c, s.l.take i⟩ : Sv α).own e) hE (fun ac w h z' g hoff m hA l kk' => ?_) hd fun _ _ => VL.strip (kk ⟨s.a, s.c, s.l.take i⟩ rfl ?_)
  · obtain ⟨hlc, hcm, hcase⟩ := hA
    by_cases h0 : s.l.length - i = 0
    · have hil : i = s.l.length := by omega
      have hrun : (Builtin.clear_ #[t] ty #[(s.sub i s.l.length s.c).val]).run P w = .ok (.tuple #[]) w := by
        simp only [Sv.val, hsub, h0]
        cases (s.sub i s.l.length s.c).a <;> simp [Builtin.clear_, run_underlying hu]
      refine ⟨_, w, ?_, (), trivial, rfl, ?_⟩
      · simp only [execOp, resolve, List.map_toArray, g.evs ha, Sem.run_bind, Sem.run_pure, Result.andThen_ok, invoke, builtin, hrun]
      · have e1 : s.l.take i = s.l := by rw [hil, List.take_length]
        rw [e1]
        refine ⟨⟨h, z', trivial, ⟨hlc, hcm, hcase⟩, hoff, l, kk', Hp.le.refl h, fun b hb => .inl hb, fun b hb => .inl hb⟩, fun b _ _ => rfl, rfl, rfl, rfl, Nat.le_refl _⟩
    · rcases hcase with ⟨hl0, _⟩ | ⟨b, cur, hsa, hg, hcs, ht⟩
      · rw [hl0] at h0; simp at h0
      · have hw : w.heap[b]? = some (.cells cur e (0, 0)) := kk' _ _ hg
        have hsa' : (s.sub i s.l.length s.c).a = some ⟨b, i * Dat.sz α, none⟩ := by
          unfold Sv.sub
          simp only
          split
          · rename_i q
            omega
          · rw [hsa]; simp [add_none]
        have hle : i * Dat.sz α + (s.l.length - i) * Dat.sz α = s.l.length * Dat.sz α := by rw [← Nat.add_mul]; congr 1; omega
        have hle2 : s.l.length * Dat.sz α ≤ s.c * Dat.sz α := Nat.mul_le_mul_right _ hlc
        obtain ⟨cs, hcl, hrun⟩ := run_clear_rowK (P := P) w t ty e z (Dat.sz α) hu hv hk h1 b (i * Dat.sz α) (s.l.length - i) ((s.sub i s.l.length s.c).c) cur e (by omega) hw (by rw [hcs]; omega)
        refine ⟨_, w.setRow b (cur.toList.take (i * Dat.sz α) ++ cs ++ cur.toList.drop (i * Dat.sz α + cs.length)).toArray, ?_, (), trivial, rfl, St.turn (A := Sv.own _ e) hg hoff trivial l ⟨?_, hcm, .inr ⟨b, _, hsa, Hp.one_self _ _, ?_, ?_⟩⟩ (by simp [World.setRow]) (setRow_heap w b cur _ e _ hw) (fun i hi => setRow_other w b i _ hi) rfl rfl rfl⟩
        · have hval : (s.sub i s.l.length s.c).val = .slice (some ⟨b, i * Dat.sz α, none⟩) (s.l.length - i) (s.sub i s.l.length s.c).c := by unfold Sv.val; rw [hsa', hsub]
          simp only [execOp, resolve, List.map_toArray, g.evs ha, Sem.run_bind, Sem.run_pure, Result.andThen_ok, invoke, builtin, hval, hrun]
        · simp only [List.length_take]; omega
        · simp only [List.size_toArray, List.length_append, List.length_take, List.length_drop, Array.length_toList, hcs]
          omega
        · simp only [List.length_take]
          rw [show min i s.l.length = i by omega, ← flatMap_take, ← ht]
          rw [List.append_assoc, List.take_append_of_le_length (by have q : i * Dat.sz α ≤ s.c * Dat.sz α := Nat.mul_le_mul_right _ (by omega); rw [List.length_take, Array.length_toList, hcs]; omega), List.take_take, List.take_take]
          congr 1
          omega
  · simp only [Sv.val, List.length_take]
    congr 1
    omega
/-- the last ones of a slice of one's own are cleared: the first ones are one's own still -/
theorem VL.clrN {s : Sv α} {i : Nat} {xs : List Operand} (z : Value) (hu : P.underlying t = some (.slice e)) (hv : ∀ w, (zeroValue e).run P w = .ok z w) (hk : z.cells.size = Dat.sz α) (h1' : z.cells.toList.all (fun v => v.oneCell') = true)
    (ha : ρ.evs xs = some [(s.sub i s.l.length s.c).val]) (hi : i ≤ s.l.length) (hE : Foc E (s.own e) F)
    (kk : ∀ q : Sv α, q.l = s.l.take i → q.val = .slice s.a i s.c → VL P N c ops Q rest ρ M (Ow.star (q.own e) F)) :
    VL P N c ops Q (⟨none, .call { callee := .builtin .clear, args := xs.toArray, argTypes := #[t] }, ty, pos, after, none⟩ :: rest) ρ M E := by
  have h1 : ∀ v ∈ z.cells.toList, v.oneCell' = true := fun v hv => List.all_eq_true.1 h1' v hv
  have hsub : (s.sub i s.l.length s.c).l.length = s.l.length - i := by simp [Sv.sub]
  refine VL.bigN (A2 := (⟨s.a, s.c, s.l.take i⟩ : Sv α).own e) hE (fun ac w h z' g hoff m hA l kk' => ?_) (kk ⟨s.a, s.c, s.l.take i⟩ rfl ?_)
  · obtain ⟨hlc, hcm, hcase⟩ := hA
    by_cases h0 : s.l.length - i = 0
    · have hil : i = s.l.length := by omega
      have hrun : (Builtin.clear_ #[t] ty #[(s.sub i s.l.length s.c).val]).run P w = .ok (.tuple #[]) w := by
        simp only [Sv.val, hsub, h0]
        cases (s.sub i s.l.length s.c).a <;> simp [Builtin.clear_, run_underlying hu]
      refine ⟨.tuple #[], w, ?_, ?_⟩
      · simp only [execOp, resolve, List.map_toArray, g.evs ha, Sem.run_bind, Sem.run_pure, Result.andThen_ok, invoke, builtin, hrun]
      · have e1 : s.l.take i = s.l := by rw [hil, List.take_length]
        rw [e1]
        refine ⟨⟨h, z', trivial, ⟨hlc, hcm, hcase⟩, hoff, l, kk', Hp.le.refl h, fun b hb => .inl hb, fun b hb => .inl hb⟩, fun b _ _ => rfl, rfl, rfl, rfl, Nat.le_refl _⟩
    · rcases hcase with ⟨hl0, _⟩ | ⟨b, cur, hsa, hg, hcs, ht⟩
      · rw [hl0] at h0; simp at h0
      · have hw : w.heap[b]? = some (.cells cur e (0, 0)) := kk' _ _ hg
        have hsa' : (s.sub i s.l.length s.c).a = some ⟨b, i * Dat.sz α, none⟩ := by
          unfold Sv.sub
          simp only
          split
          · rename_i q
            omega
          · rw [hsa]; simp [add_none]
        have hle : i * Dat.sz α + (s.l.length - i) * Dat.sz α = s.l.length * Dat.sz α := by rw [← Nat.add_mul]; congr 1; omega
        have hle2 : s.l.length * Dat.sz α ≤ s.c * Dat.sz α := Nat.mul_le_mul_right _ hlc
        obtain ⟨cs, hcl, hrun⟩ := run_clear_rowK (P := P) w t ty e z (Dat.sz α) hu hv hk h1 b (i * Dat.sz α) (s.l.length - i) ((s.sub i s.l.length s.c).c) cur e (by omega) hw (by rw [hcs]; omega)
        refine ⟨.tuple #[], w.setRow b (cur.toList.take (i * Dat.sz α) ++ cs ++ cur.toList.drop (i * Dat.sz α + cs.length)).toArray, ?_, St.turn (A := Sv.own _ e) hg hoff trivial l ⟨?_, hcm, .inr ⟨b, _, hsa, Hp.one_self _ _, ?_, ?_⟩⟩ (by simp [World.setRow]) (setRow_heap w b cur _ e _ hw) (fun i hi => setRow_other w b i _ hi) rfl rfl rfl⟩
        · have hval : (s.sub i s.l.length s.c).val = .slice (some ⟨b, i * Dat.sz α, none⟩) (s.l.length - i) (s.sub i s.l.length s.c).c := by unfold Sv.val; rw [hsa', hsub]
          simp only [execOp, resolve, List.map_toArray, g.evs ha, Sem.run_bind, Sem.run_pure, Result.andThen_ok, invoke, builtin, hval, hrun]
        · simp only [List.length_take]; omega
        · simp only [List.size_toArray, List.length_append, List.length_take, List.length_drop, Array.length_toList, hcs]
          omega
        · simp only [List.length_take]
          rw [show min i s.l.length = i by omega, ← flatMap_take, ← ht]
          rw [List.append_assoc, List.take_append_of_le_length (by have q : i * Dat.sz α ≤ s.c * Dat.sz α := Nat.mul_le_mul_right _ (by omega); rw [List.length_take, Array.length_toList, hcs]; omega), List.take_take, List.take_take]
          congr 1
          omega
  · simp only [Sv.val, List.length_take]
    congr 1
    omega
/-- the first ones of a slice by its value -/
theorem q_cutO {s q : Sv α} (hu : P.underlying t = some (.slice e)) (hz : (P.info? e).map (·.size) = some (Dat.sz α)) (e0 : ρ.ev x = some s.val) (e1 : ρ.ev y = some (i64 n)) (h0 : 0 ≤ n) (h1 : n ≤ s.l.length) (hc : s.l.length ≤ s.c) (hq : q.val = .slice s.a n.toNat s.c) :
    Qt P N c ⟨od, .slice t x none (some y) none, ty, pos, after, gd⟩ q.val ρ M E := by
  have := q_cut (P := P) (N := N) (c := c) (M := M) (E := E) (od := od) (ty := ty) (pos := pos) (after := after) (gd := gd) (lo := none) (hi := some y) (mx := none) (lo' := none) (hi' := some n) (mx' := none) 0 n.toNat s.c hu hz e0 rfl (by simp [optv, e1]) rfl rfl (by simp; omega) (by simp) (fun h => by cases h) (Nat.zero_le _) (by omega) (Nat.le_refl _) (by omega)
  rw [hq]
  have e2 : (s.sub 0 n.toNat s.c).val = .slice s.a n.toNat s.c := by
    simp only [Sv.val, Sv.sub, List.drop_zero, Nat.sub_zero, List.length_take]
    rw [show min n.toNat s.l.length = n.toNat by omega]
    split
    · rfl
    · rw [Nat.zero_mul]; cases s.a <;> simp [Addr.add] <;> rfl
  rwa [e2] at this
/-- the last ones of a slice, by value -/
theorem q_subv {s : Sv α} (hu : P.underlying t = some (.slice e)) (hz : (P.info? e).map (·.size) = some (Dat.sz α)) (e0 : ρ.ev x = some s.val) (e1 : ρ.ev y = some (i64 n)) (h0 : 0 ≤ n) (h1 : n ≤ s.l.length) (hc : s.l.length ≤ s.c) :
    Qt P N c ⟨od, .slice t x (some y) none none, ty, pos, after, gd⟩ (s.sub n.toNat s.l.length s.c).val ρ M E :=
  q_cut (lo := some y) (hi := none) (mx := none) (lo' := some n) (hi' := none) (mx' := none) n.toNat s.l.length s.c hu hz e0 (by simp [optv, e1]) rfl rfl (by simp; omega) rfl (by simp) (fun h => by cases h) (by omega) hc (Nat.le_refl _) (Nat.le_refl _)
/-- what is one's own fits -/
theorem VL.fits {s : Sv α} (hE : Foc E (s.own e) F) (kk : s.l.length ≤ s.c → VL P N c ops Q rest ρ M E) : VL P N c ops Q rest ρ M E := fun a w xx yy => kk (by
  obtain ⟨⟨hp, ee, m, eE, _⟩, _⟩ := yy
  obtain ⟨a1, b1, _, _, ⟨q1, _⟩, _⟩ := hE ee eE
  exact q1) a w xx yy
/-! ### parts of slices in drawn regions, with what they are later on -/
theorem VD.partK {k : Nat} {rr : List (Nat × Bool)} {D : List (Nat × Value)} {s : Sv α} {lo hi mx : Option Operand} {lo' hi' mx' : Option Int} (hk : ops[k]? = some ⟨some d, .slice t x lo hi mx, ty, pos, after, none⟩) (l r : Nat) (hu : P.underlying t = some (.slice e)) (hz : (P.info? e).map (·.size) = some (Dat.sz α)) (e0 : ρ.ev x = some s.val)
    (e1 : optv ρ lo = some lo') (e2 : optv ρ hi = some hi') (e3 : optv ρ mx = some mx') [hs : InM M s.ok] (hl : lo'.getD 0 = (l : Int)) (hr : hi'.getD s.l.length = (r : Int)) (hm : mx' = none ∨ mx' = some (r : Int)) (hmx : mx'.isSome = true → hi'.isSome = true) (h1 : l ≤ r) (h4 : r ≤ s.l.length) (hd : d < N)
    (kk : ∀ (q : Sv α), q.l = (s.l.drop l).take (r - l) → (∀ {ρ' : Env} {M' : Mo} {E' : Ow}, ρ'.ev x = some s.val → optv ρ' lo = some lo' → optv ρ' hi = some hi' → optv ρ' mx = some mx' → Qt P N c ⟨some d, .slice t x lo hi mx, ty, pos, after, none⟩ q.val ρ' M' E') → VD P N c ops Q rr (addD ops k q.val D) ((d, q.val) :: ρ) (q.ok.and M) E) : VD P N c ops Q ((k, true) :: rr) D ρ M E :=
  VD.factM (φ := s.l.length ≤ s.c) (fun h m => (hs.out h m).1) fun hc => by
    obtain ⟨m, m1, m2, m3⟩ := cut_aux lo' hi' mx' l r hl hr hm h4 hc
    exact VD.q hk (q_cut l r m hu hz e0 e1 e2 e3 hl hr m1 hmx h1 m2 m3 h4) hd (VD.addM (s.sub l r m).ok (fun h q => Sv.sub_ok h1 h4 m2 m3 (hs.out h q)) (kk _ rfl fun e0 e1 e2 e3 => q_cut l r m hu hz e0 e1 e2 e3 hl hr m1 hmx h1 m2 m3 h4))
theorem VD.stoK {k' : Nat} {rr : List (Nat × Bool)} {D : List (Nat × Value)} {s : Sv α} {n : Int} (hk : ops[k']? = some ⟨some d, .slice t x none (some y) none, ty, pos, after, none⟩) (hu : P.underlying t = some (.slice e)) (hz : (P.info? e).map (·.size) = some (Dat.sz α)) (e0 : ρ.ev x = some s.val) (e1 : ρ.ev y = some (i64 n)) [hs : InM M s.ok] (h0 : 0 ≤ n) (h1 : n ≤ s.l.length) (hd : d < N)
    (kk : ∀ (q : Sv α), q.l = s.l.take n.toNat → (∀ {ρ' : Env} {M' : Mo} {E' : Ow}, ρ'.ev x = some s.val → ρ'.ev y = some (i64 n) → Qt P N c ⟨some d, .slice t x none (some y) none, ty, pos, after, none⟩ q.val ρ' M' E') → VD P N c ops Q rr (addD ops k' q.val D) ((d, q.val) :: ρ) (q.ok.and M) E) : VD P N c ops Q ((k', true) :: rr) D ρ M E :=
  VD.partK (lo' := none) (hi' := some n) (mx' := none) hk 0 n.toNat hu hz e0 rfl (by simp [optv, e1]) rfl rfl (by simp; omega) (.inl rfl) (fun _ => rfl) (by omega) (by omega) hd fun q hq h => kk q (by rw [hq]; simp) fun a b => h a rfl (by simp [optv, b]) rfl
theorem VD.sfromK {k' : Nat} {rr : List (Nat × Bool)} {D : List (Nat × Value)} {s : Sv α} {n : Int} (hk : ops[k']? = some ⟨some d, .slice t x (some y) none none, ty, pos, after, none⟩) (hu : P.underlying t = some (.slice e)) (hz : (P.info? e).map (·.size) = some (Dat.sz α)) (e0 : ρ.ev x = some s.val) (e1 : ρ.ev y = some (i64 n)) [hs : InM M s.ok] (h0 : 0 ≤ n) (h1 : n ≤ s.l.length) (hd : d < N)
    (kk : ∀ (q : Sv α), q.l = s.l.drop n.toNat → (∀ {ρ' : Env} {M' : Mo} {E' : Ow}, ρ'.ev x = some s.val → ρ'.ev y = some (i64 n) → Qt P N c ⟨some d, .slice t x (some y) none none, ty, pos, after, none⟩ q.val ρ' M' E') → VD P N c ops Q rr (addD ops k' q.val D) ((d, q.val) :: ρ) (q.ok.and M) E) : VD P N c ops Q ((k', true) :: rr) D ρ M E :=
  VD.partK (lo' := some n) (hi' := none) (mx' := none) hk n.toNat s.l.length hu hz e0 (by simp [optv, e1]) rfl rfl (by simp; omega) rfl (.inl rfl) (fun h => by cases h) (by omega) (by omega) hd fun q hq h => kk q (by rw [hq, List.take_of_length_le (by simp)]) fun a b => h a (by simp [optv, b]) rfl rfl
theorem VD.smidK {k' : Nat} {rr : List (Nat × Bool)} {D : List (Nat × Value)} {s : Sv α} {z : Operand} {m n : Int} (hk : ops[k']? = some ⟨some d, .slice t x (some y) (some z) none, ty, pos, after, none⟩) (hu : P.underlying t = some (.slice e)) (hz : (P.info? e).map (·.size) = some (Dat.sz α)) (e0 : ρ.ev x = some s.val) (e1 : ρ.ev y = some (i64 m)) (e2 : ρ.ev z = some (i64 n)) [hs : InM M s.ok] (h0 : 0 ≤ m) (h1 : m ≤ n) (h2 : n ≤ s.l.length) (hd : d < N)
    (kk : ∀ (q : Sv α), q.l = (s.l.drop m.toNat).take (n.toNat - m.toNat) → (∀ {ρ' : Env} {M' : Mo} {E' : Ow}, ρ'.ev x = some s.val → ρ'.ev y = some (i64 m) → ρ'.ev z = some (i64 n) → Qt P N c ⟨some d, .slice t x (some y) (some z) none, ty, pos, after, none⟩ q.val ρ' M' E') → VD P N c ops Q rr (addD ops k' q.val D) ((d, q.val) :: ρ) (q.ok.and M) E) : VD P N c ops Q ((k', true) :: rr) D ρ M E :=
  VD.partK (lo' := some m) (hi' := some n) (mx' := none) hk m.toNat n.toNat hu hz e0 (by simp [optv, e1]) (by simp [optv, e2]) rfl (by simp; omega) (by simp; omega) (.inl rfl) (fun h => by cases h) (by omega) (by omega) hd fun q hq h => kk q hq fun a b c' => h a (by simp [optv, b]) (by simp [optv, c']) rfl
end
end Go.V
end

section
set_option linter.unusedVariables false
set_option linter.unusedSimpArgs false
set_option linter.unusedSectionVars false
namespace Go.V
open Go.RowKit Go.S
section
variable {P : Program} {N : Nat} {c : Cx} {ops : Array Oper} {Q Q1 : Exit → Act → World → Prop} {rest : List Oper} {o : Oper} {ρ : Env} {M M' M1 M0 : Mo} {E E1 F A : Ow} {v u : Value} {X S T R : Type}
  {d : Nat} {od : Option Nat} {ty : TypeId} {pos : String} {after : Array Edge} {gd : Option (Nat × Bool)} {x y : Operand} {t t' e tb : TypeId} {f : FuncId} {args : List Value} {k k' : IntKind} {m n : Int} {α : Type} [Dat α]
/-- a part of a slice, by its value alone -/
theorem q_cutV {a0 : Option Addr} {L C K : Nat} {lo hi : Option Operand} {lo' hi' : Option Int} (l r : Nat) (hu : P.underlying t = some (.slice e)) (hz : (P.info? e).map (·.size) = some K) (e0 : ρ.ev x = some (.slice a0 L C))
    (e1 : optv ρ lo = some lo') (e2 : optv ρ hi = some hi') (hl : lo'.getD 0 = (l : Int)) (hr : hi'.getD L = (r : Int)) (h1 : l ≤ r) (h2 : r ≤ C) :
    Qt P N c ⟨od, .slice t x lo hi none, ty, pos, after, gd⟩ (sliced a0 l r C K) ρ M E := Qt.of_run fun a w g _ => by
  have key : ∀ (q : Option Operand) (q' : Option Int), optv ρ q = some q' → q.map a.eval = q'.map (fun n => Value.int .i64 n) := fun q q' hq => by
    cases q with
    | none => simp only [optv] at hq; cases hq; rfl
    | some z =>
      simp only [optv] at hq
      split at hq
      · rename_i n hz; cases hq; simp [g.ev hz]
      · cases hq
  cases hj : P.info? e with
  | none => rw [hj] at hz; cases hz
  | some j =>
    rw [hj] at hz
    have hzz : j.size = K := by simpa using hz
    have hel : P.elem t = e := by simp [Program.elem, hu]
    have hu' : P.underlying t = some (.slice (P.elem t)) := by rw [hel]; exact hu
    have hs : (sizeOf (P.elem t)).run P w = .ok K w := by rw [hel]; simp [sizeOf, typeInfo, hj, hzz, go_sem]
    have hb : (Instr.sliceBounds true L C (lo'.map fun n => Value.int .i64 n) (hi'.map fun n => Value.int .i64 n) none).run P w = .ok (l, r, C) w := by
      cases hi' with
      | none =>
        simp only [Option.getD_none] at hr
        have hr' : r = L := by omega
        subst hr'
        cases lo' with
        | none => simp only [Option.getD_none] at hl; have : l = 0 := by omega
                  subst this; simp [Instr.sliceBounds, go_sem]
        | some q => simp only [Option.getD_some] at hl; subst hl; simp [Instr.sliceBounds, run_sliceBound, go_sem, h1]
      | some p =>
        simp only [Option.getD_some] at hr; subst hr
        have hle : (r : Int) ≤ C := by omega
        cases lo' with
        | none => simp only [Option.getD_none] at hl; have : l = 0 := by omega
                  subst this; simp [Instr.sliceBounds, run_sliceBound, go_sem, hle, h2]
        | some q => simp only [Option.getD_some] at hl; subst hl; simp [Instr.sliceBounds, run_sliceBound, go_sem, h1, h2]
    have hrun : (Instr.slice t (.slice a0 L C) (lo'.map fun n => Value.int .i64 n) (hi'.map fun n => Value.int .i64 n) none).run P w = .ok (sliced a0 l r C K) w := by
      rw [run_slice_any w t a0 L C hu' _ _ _, hb]
      simp only [Result.andThen_ok, hs]
    simp only [execOp, g.ev e0, key _ _ e1, key _ _ e2, Option.map_none, Sem.run_bind, run_sliceAt_slice w t _ _ _ _ hu', hrun, Result.andThen_ok, Sem.run_pure]
theorem q_fromV {b o L C K : Nat} {i : Int} {V : Value} (hu : P.underlying t = some (.slice e)) (hz : (P.info? e).map (·.size) = some K) (e0 : ρ.ev x = some (.slice (some ⟨b, o, none⟩) L C)) (e1 : ρ.ev y = some (i64 i)) (h0 : 0 ≤ i) (h1 : i ≤ L) (h2 : L ≤ C) (h3 : i < C) (hV : .slice (some ⟨b, o + i.toNat * K, none⟩) (L - i.toNat) (C - i.toNat) = V) :
    Qt P N c ⟨od, .slice t x (some y) none none, ty, pos, after, gd⟩ V ρ M E := by
  have := q_cutV (P := P) (N := N) (c := c) (M := M) (E := E) (od := od) (ty := ty) (pos := pos) (after := after) (gd := gd) (lo := some y) (hi := none) (lo' := some i) (hi' := none) (K := K) i.toNat L hu hz e0 (by simp [optv, e1]) rfl (by simp; omega) rfl (by omega) h2
  rw [← hV]
  rwa [show sliced (some ⟨b, o, none⟩) i.toNat L C K = .slice (some ⟨b, o + i.toNat * K, none⟩) (L - i.toNat) (C - i.toNat) by unfold sliced; rw [if_neg (by omega)]; simp [add_none]] at this
theorem q_toV {a0 : Option Addr} {L C K : Nat} {i : Int} (hu : P.underlying t = some (.slice e)) (hz : (P.info? e).map (·.size) = some K) (e0 : ρ.ev x = some (.slice a0 L C)) (e1 : ρ.ev y = some (i64 i)) (h0 : 0 ≤ i) (h1 : i ≤ C) :
    Qt P N c ⟨od, .slice t x none (some y) none, ty, pos, after, gd⟩ (.slice a0 i.toNat C) ρ M E := by
  have := q_cutV (P := P) (N := N) (c := c) (M := M) (E := E) (od := od) (ty := ty) (pos := pos) (after := after) (gd := gd) (lo := none) (hi := some y) (lo' := none) (hi' := some i) (K := K) 0 i.toNat hu hz e0 rfl (by simp [optv, e1]) rfl (by simp; omega) (by omega) (by omega)
  rwa [show sliced a0 0 i.toNat C K = .slice a0 i.toNat C by
    unfold sliced
    split
    · rfl
    · rw [Nat.zero_mul]; cases a0 <;> simp [Addr.add]] at this
theorem q_capV {a0 : Option Addr} {L C : Nat} {xs : List Operand} (ht : P.underlying t = some (.slice e)) (h : ρ.evs xs = some [.slice a0 L C]) : Qt P N c ⟨od, .call { callee := .builtin .cap, args := xs.toArray, argTypes := #[t] }, ty, pos, after, gd⟩ (i64 (C : Int)) ρ M E := Qt.of_run fun a w g _ => by
  have e := g.evs h
  simp only [execOp, resolve, List.map_toArray, e, Sem.run_bind, Sem.run_pure, Result.andThen_ok, invoke, builtin]
  simp [Builtin.cap_, run_underlying ht, goInt]
theorem run_copy_noneK (w : World) (dT sT ty elem : TypeId) (d a : Option Addr) (dLen dCap sLen sCap : Nat) (hu : P.underlying dT = some (.slice elem)) (hs : ((P.info? elem).map (·.size)).isSome = true) (hn : Nat.min sLen dLen = 0) :
    (Builtin.copy_ #[dT, sT] ty #[.slice d dLen dCap, .slice a sLen sCap]).run P w = .ok (goInt 0) w := by
  cases hq : P.info? elem with
  | none => simp [hq] at hs
  | some i =>
    have hl : ∀ (x : Addr), (loadCells x 0).run P w = .ok #[] w := fun x => by simpa using run_loadCells_list (P := P) w x [] (by simp)
    cases d <;> cases a <;> simp [Builtin.copy_, run_underlying hu, Builtin.lenOf, Builtin.firstCells, sizeOf, typeInfo, hq, hn, storeCells, hl]
/-- copy into an own block -/
theorem VL.copyB {b T o n cp sc m K : Nat} {cs src : List Value} {sa : Option Addr} {xs : List Operand} (hu : P.underlying t = some (.slice e)) (hz : (P.info? e).map (·.size) = some K) (hE : Foc E (Blk b cs T) F)
    (ha : ρ.evs xs = some [.slice (some ⟨b, o, none⟩) n cp, .slice sa m sc]) (hlen : src.length = Nat.min m n * K)
    (hs : ∀ h z, h.off z → M.on h → Blk b cs T z → src ≠ [] → ∃ sb so, sa = some ⟨sb, so, none⟩ ∧ (h.join z).at sb so src) (h1 : ∀ v ∈ src, v.oneCell' = true) (hfit : o + src.length ≤ cs.length) (hd : d < N)
    (kk : VL P N c ops Q rest ((d, i64 (Nat.min m n : Nat)) :: ρ) M (Ow.star (Blk b (cs.take o ++ src ++ cs.drop (o + src.length)) T) F)) :
    VL P N c ops Q (⟨some d, .call { callee := .builtin .copy, args := xs.toArray, argTypes := #[t, t'] }, ty, pos, after, none⟩ :: rest) ρ M E := by
  refine VL.big (X := Unit) (φ := fun _ => True) (val := fun _ => i64 (Nat.min m n : Nat)) (M2 := fun _ => Mo.tt) (A2 := fun _ => Blk b (cs.take o ++ src ++ cs.drop (o + src.length)) T) hE (fun ac w h z g hoff hm hA l kk' => ?_) hd fun _ _ => VL.strip kk
  have hw : w.heap[b]? = some (.cells cs.toArray T (0, 0)) := kk' _ _ hA
  by_cases h0 : src = []
  · by_cases hmn : Nat.min m n = 0
    · have hrun := run_copy_noneK (P := P) w t t' ty e (some ⟨b, o, none⟩) sa n cp m sc hu (by rw [hz]; rfl) hmn
      refine ⟨_, w, ?_, (), trivial, rfl, ?_⟩
      · simp only [execOp, resolve, List.map_toArray, g.evs ha, Sem.run_bind, Sem.run_pure, Result.andThen_ok, invoke, builtin, hrun, goInt, hmn]; rfl
      · rw [h0]
        simp only [List.append_nil, List.length_nil, Nat.add_zero, List.take_append_drop]
        exact ⟨⟨h, z, trivial, hA, hoff, l, kk', Hp.le.refl h, fun b hb => .inl hb, fun b hb => .inl hb⟩, fun b _ _ => rfl, rfl, rfl, rfl, Nat.le_refl _⟩
    · have hrun : (Builtin.copy_ #[t, t'] ty #[.slice (some ⟨b, o, none⟩) n cp, .slice sa m sc]).run P w = .ok (goInt (Nat.min m n)) w := by
        have hk : K = 0 := by
          rw [h0, List.length_nil] at hlen
          rcases Nat.mul_eq_zero.1 hlen.symm with q | q
          · exact absurd q hmn
          · exact q
        cases hq : P.info? e with
        | none => rw [hq] at hz; cases hz
        | some i =>
          have hi : i.size = 0 := by rw [hq] at hz; simpa [hk] using hz
          have hl : ∀ (x : Addr), (loadCells x 0).run P w = .ok #[] w := fun x => by simpa using run_loadCells_list (P := P) w x [] (by simp)
          cases sa <;> simp [Builtin.copy_, run_underlying hu, Builtin.lenOf, Builtin.firstCells, sizeOf, typeInfo, hq, hi, storeCells, hl]
      refine ⟨_, w, ?_, (), trivial, rfl, ?_⟩
      · simp only [execOp, resolve, List.map_toArray, g.evs ha, Sem.run_bind, Sem.run_pure, Result.andThen_ok, invoke, builtin, hrun, goInt]
      · rw [h0]
        simp only [List.append_nil, List.length_nil, Nat.add_zero, List.take_append_drop]
        exact ⟨⟨h, z, trivial, hA, hoff, l, kk', Hp.le.refl h, fun b hb => .inl hb, fun b hb => .inl hb⟩, fun b _ _ => rfl, rfl, rfl, rfl, Nat.le_refl _⟩
  · obtain ⟨sb, so, hsa, hat⟩ := hs h z hoff hm hA h0
    have hrun := run_copy_rowK (P := P) w t t' ty e b o n cp ⟨sb, so, none⟩ m sc cs.toArray T src K hu hz hw hlen (fun j v hj => by
      rw [add_none]
      exact cell_of_le (Hp.join_le l kk') (hat j v hj)) (by simpa using hfit) h1
    rw [hsa] at ha
    refine ⟨_, _, ?_, (), trivial, rfl, St.turn (A := Blk b _ T) hA hoff trivial l (by unfold Blk Hp.one; rw [if_pos rfl]) (by simp [World.setRow]) (setRow_heap w b _ _ T _ hw) (fun i hi => setRow_other w b i _ hi) rfl rfl rfl⟩
    simp only [execOp, resolve, List.map_toArray, g.evs ha, Sem.run_bind, Sem.run_pure, Result.andThen_ok, invoke, builtin, hrun, goInt]
/-- a slice of one's own that has elements, as its block -/
theorem VL.open {s : Sv α} (hE : Foc E (s.own e) F) (hl : s.c ≠ 0) (kk : ∀ (b : Nat) (cs : List Value), s.a = some ⟨b, 0, none⟩ → cs.length = s.c * Dat.sz α → cs.take (s.l.length * Dat.sz α) = s.l.flatMap Dat.enc → s.l.length ≤ s.c → s.c ≤ maxLen → VL P N c ops Q rest ρ M (Ow.star (Blk b cs e) F)) : VL P N c ops Q rest ρ M E := fun a w g s0 => by
  obtain ⟨⟨hp, ee, m, eE, dd, l, k, r1, r2, r3⟩, f1, f2, f3, f4, f5⟩ := id s0
  obtain ⟨p, q, d1, j1, ⟨q1, q2, q3⟩, hq⟩ := hE ee eE
  rcases q3 with ⟨w1, w2⟩ | ⟨b, cur, w1, w2, w3, w4⟩
  · exact absurd w2 hl
  · exact kk b cur.toList w1 (by rw [Array.length_toList, w3]) w4 q1 q2 a w g ⟨⟨hp, ee, m, ⟨p, q, d1, j1, by unfold Blk; rw [Array.toArray_toList]; exact w2, hq⟩, dd, l, k, r1, r2, r3⟩, f1, f2, f3, f4, f5⟩
theorem q_extE {xs : List Operand} {ts : Array TypeId} {f : FuncId} {vs : List Value} (ha : ρ.evs xs = some vs) (h : ∀ a w, Agr N ρ a → St c M E w → (callFunc f vs.toArray).run P w = .ok (.value v) w) : Qt P N c ⟨od, .call { callee := .value (.func f), args := xs.toArray, argTypes := ts }, ty, pos, after, gd⟩ v ρ M E := Qt.of_run fun a w g s => by
  have h' := h a w g s
  have e := g.evs ha
  subst e
  simp [execOp, resolve, Act.eval, Deferred.ofValue, invoke, h']
/-- slices.overlaps at two own slices in two blocks -/
theorem q_overlaps {fn : Func} {xs : List Operand} {ts : Array TypeId} {tS tR Te T2 : TypeId} {s : Sv α} {b o lb cb K : Nat} {cs : List Value} (hf : P.funcs[f]? = some fn) (hname : (fn.name == "runtime.NumGoroutine") = false) (hb : fn.body.isNone = true) (hn : Extern.findNext fn = none) (he : Extern.find fn = some (Extern.SlicesOverlaps.overlaps #[tS, tS] #[tR]))
    (ht : P.underlying tS = some (.slice e)) (hz : (P.info? e).map (·.size) = some K) (ha : ρ.evs xs = some [s.val, .slice (some ⟨b, o, none⟩) lb cb]) (hE : Foc E (Blk b cs T2) F) [hs : HasO F s Te] (hc : cs ≠ []) (hsl : s.l ≠ []) :
    Qt P N c ⟨od, .call { callee := .value (.func f), args := xs.toArray, argTypes := ts }, ty, pos, after, gd⟩ (.bool false) ρ M E := q_extE ha fun a w g st => by
  obtain ⟨⟨hp, ee, m, eE, dd, l, k, _⟩, _⟩ := st
  obtain ⟨p, q, d1, j1, hB, hF⟩ := hE ee eE
  have hown := hs.out q hF
  obtain ⟨q1, q2, q3⟩ := hown
  rcases q3 with ⟨w1, w2⟩ | ⟨g2, cur, w1, w2, w3, w4⟩
  · exact absurd w1 hsl
  · have hwb : w.heap[b]? = some (.cells cs.toArray T2 (0, 0)) := k _ _ (by rw [j1]; exact Hp.le_join_left p q _ _ hB)
    have hwg : w.heap[g2]? = some (.cells cur Te (0, 0)) := k _ _ (by rw [j1]; exact Hp.le_join_right d1 _ _ w2)
    have hne : g2 ≠ b := fun q' => by
      subst q'
      rcases d1 g2 with z | z
      · unfold Blk at hB; rw [z] at hB; cases hB
      · rw [z] at w2; cases w2
    have hov := Lib.run_overlaps_apart (P := P) w tS tR e ht K (fun w => by
      cases hj : P.info? e with
      | none => rw [hj] at hz; cases hz
      | some j => rw [hj] at hz; have : j.size = K := by simpa using hz
                  simp [sizeOf, typeInfo, hj, this]) ⟨g2, 0, none⟩ ⟨b, o, none⟩ s.l.length s.c lb cb hne Te T2 cur.size cs.toArray.size (by simp [World.shape?, hwg]) (by simp [World.shape?, hwb]) (by simpa using hc) (by simp [World.frozen?, hwg]) (by simp [World.frozen?, hwg])
    have ev : s.val = .slice (some ⟨g2, 0, none⟩) s.l.length s.c := by unfold Sv.val; rw [w1]
    rw [ev, run_callFunc_extern hf hname hb hn he]
    show ((Extern.SlicesOverlaps.overlaps #[tS, tS] #[tR] #[.slice (some ⟨g2, 0, none⟩) s.l.length s.c, .slice (some ⟨b, o, none⟩) lb cb]).run P w).andThen _ = _
    rw [hov]
    rfl
theorem drew_heap (w : World) : w.drew.heap = w.heap := rfl
theorem drew_cell (w : World) (a : Addr) : w.drew.cell? a = w.cell? a := rfl
/-- the first ones of a slice, and zeros, where there is no room: a new block -/
theorem VL.appZg {s : Sv α} {xs : List Operand} {k1 kn : IntKind} {tn : TypeId} {bt L kq : Nat} (hu : P.underlying t = some (.slice e)) (htn : P.underlying tn = some (.int kn)) (hi : ((P.info? e).map fun i => (i.size, i.bytes, (i.zero.map fun z => z.cells.size))) = some (Dat.sz α, bt, some (Dat.sz α))) (hpos : 0 < Dat.sz α)
    (ha : ρ.evs xs = some [.slice s.a L s.c, .int k1 (kq : Int)]) [hs : InM M s.ok] (hne : s.l ≠ []) (hL : L ≤ s.l.length) (hg : s.c < L + kq) (h0 : 0 < kq) (hm : L + kq ≤ 4294967296) (hb : bt ≤ 32768) (hd : d < N)
    (kk : ∀ (g : Nat) (cs : List Value) (cp : Nat), cs.length = cp * Dat.sz α → L + kq ≤ cp → cp ≤ maxLen → cs.take (L * Dat.sz α) = (s.l.take L).flatMap Dat.enc → VL P N c ops Q rest ((d, .slice (some ⟨g, 0, none⟩) (L + kq) cp) :: ρ) M (Ow.star (Blk g cs e) E)) :
    VL P N c ops Q (⟨some d, .call { callee := .builtin .append, args := xs.toArray, argTypes := #[t, tn] }, ty, pos, after, none⟩ :: rest) ρ M E := by
  cases hj : P.info? e with
  | none => rw [hj] at hi; cases hi
  | some i =>
    rw [hj] at hi
    simp only [Option.map_some, Option.some.injEq, Prod.mk.injEq] at hi
    obtain ⟨h1, h2, h3⟩ := hi
    cases hz : i.zero with
    | none => rw [hz] at h3; cases h3
    | some zv =>
      rw [hz] at h3
      have hzs : zv.cells.size = Dat.sz α := by simpa using h3
      refine VL.big (X := Nat × List Value × Nat) (φ := fun q => q.2.1.length = q.2.2 * Dat.sz α ∧ L + kq ≤ q.2.2 ∧ q.2.2 ≤ maxLen ∧ q.2.1.take (L * Dat.sz α) = (s.l.take L).flatMap Dat.enc) (val := fun q => .slice (some ⟨q.1, 0, none⟩) (L + kq) q.2.2) (M2 := fun _ => Mo.tt) (A2 := fun q => Blk q.1 q.2.1 e) (Foc.none (E := E)) (fun a w h z g _ m _ l _ => ?_) hd fun q hq => VL.strip (kk q.1 q.2.1 q.2.2 hq.1 hq.2.1 hq.2.2.1 hq.2.2.2)
      have hok := hs.out h m
      have hsa := hok.2.2.1 hne
      have hbnd : (L + kq) * i.bytes ≤ 4294967296 * 32768 := Nat.mul_le_mul hm (by omega)
      have hbnd2 : kq * i.bytes ≤ 4294967296 * 32768 := Nat.mul_le_mul (by omega) (by omega)
      have hlen : ((s.l.take L).flatMap Dat.enc).length = L * Dat.sz α := by rw [enc_len, List.length_take, Nat.min_eq_left hL]
      have hold : (Builtin.firstCells i.size L (.slice s.a L s.c)).run P w.drew = .ok ((s.l.take L).flatMap Dat.enc).toArray w.drew := by
        rw [hsa, h1]
        refine run_firstCells_some w.drew _ L ⟨s.b, s.o, none⟩ L s.c _ hlen fun j v hjv => ?_
        rw [add_none, drew_cell]
        have hat := at_all (h := h) (b := s.b) (o := s.o) (l := s.l) (fun j x hx => Sv.ok_get hok hx) hpos
        rw [← flatMap_take, List.getElem?_take] at hjv
        split at hjv
        · exact cell_of_le l (hat j v hjv)
        · cases hjv
      have hr := Lib.run_append_grow_zeros (P := P) w t tn ty e i zv k1 kn hu htn hj hz s.a L s.c _ hold kq h0 (by omega) hg (by omega) (by omega) (growslice_fits hg (by omega))
      have hge := grownCap_ge w (L + kq) s.c e
      have hle := grownCap_le_maxLen w (L + kq) s.c e (by unfold maxLen; omega)
      refine ⟨_, w.drew.alloc (.cells (((s.l.take L).flatMap Dat.enc).toArray ++ Builtin.zeroCells zv.cells kq ++ Builtin.zeroCells zv.cells (grownCap w (L + kq) s.c e - (L + kq))) e), ?_, (w.heap.size, (((s.l.take L).flatMap Dat.enc).toArray ++ Builtin.zeroCells zv.cells kq ++ Builtin.zeroCells zv.cells (grownCap w (L + kq) s.c e - (L + kq))).toList, grownCap w (L + kq) s.c e), ⟨?_, hge, hle, ?_⟩, rfl, St.newO (A := Blk _ _ e) ?_ trivial l ((Gr.drew w).trans (Gr.alloc w.drew _)) (heap_alloc_new w.drew _)⟩
      · simp only [execOp, resolve, List.map_toArray, g.evs ha, Sem.run_bind, Sem.run_pure, Result.andThen_ok, invoke, builtin, hr]
      · simp only [Array.length_toList, Array.size_append, size_zeroCells, hzs, List.size_toArray, hlen]
        rw [← Nat.add_mul, ← Nat.add_mul]
        congr 1
        omega
      · simp only [Array.toList_append]
        rw [List.append_assoc, List.take_append_of_le_length (by simp [hlen]), List.take_of_length_le (by simp [hlen])]
      · unfold Blk
        rw [Array.toArray_toList]
        exact Hp.one_self _ _
theorem split4 {β : Type} (cs : List β) (a v s : Nat) (h : a + v + s ≤ cs.length) : ∃ A B C R, cs = A ++ (B ++ (C ++ R)) ∧ A.length = a ∧ B.length = v ∧ C.length = s ∧ A = cs.take a := by
  refine ⟨cs.take a, (cs.drop a).take v, ((cs.drop a).drop v).take s, ((cs.drop a).drop v).drop s, ?_, ?_, ?_, ?_, rfl⟩
  · simp only [List.take_append_drop]
  all_goals simp only [List.length_take, List.length_drop]; omega
theorem seg_app {β : Type} (A B C : List β) : ∀ a b : Nat, a = A.length → b = B.length → (A ++ (B ++ C)).take a = A ∧ (A ++ (B ++ C)).drop (a + b) = C := by
  rintro a b rfl rfl
  refine ⟨List.take_left, ?_⟩
  rw [← List.append_assoc, show A.length + B.length = (A ++ B).length by simp, List.drop_left]
/-- first V, then S -/
theorem ins_cells1 {cs A V S : List Value} (h1 : cs.take A.length = A) (hf : A.length + V.length + S.length ≤ cs.length) :
    let cs1 := cs.take A.length ++ V ++ cs.drop (A.length + V.length)
    let cs2 := cs1.take (A.length + V.length) ++ S ++ cs1.drop (A.length + V.length + S.length)
    cs1.length = cs.length ∧ cs2.length = cs.length ∧ cs2.take (A ++ V ++ S).length = A ++ V ++ S := by
  obtain ⟨A', B, C, R, rfl, ha, hb, hc, hA⟩ := split4 cs A.length V.length S.length hf
  rw [h1] at hA
  subst hA
  have e1 : (A' ++ (B ++ (C ++ R))).drop (A'.length + V.length) = C ++ R := (seg_app A' B (C ++ R) _ _ rfl hb.symm).2
  intro cs1 cs2
  have q1 : cs1 = A' ++ V ++ (C ++ R) := by show _ ++ V ++ _ = _; rw [h1, e1]
  have q2 : cs2 = A' ++ V ++ S ++ R := by
    show cs1.take _ ++ S ++ cs1.drop _ = _
    rw [q1, show A'.length + V.length = (A' ++ V).length by simp, List.take_left]
    congr 1
    exact (seg_app (A' ++ V) C R _ _ rfl hc.symm).2
  refine ⟨?_, ?_, ?_⟩
  · rw [q1]; simp [hb]
  · rw [q2]; simp [hb, hc]
  · rw [q2, List.take_left]
/-- first S, then V -/
theorem ins_cells2 {cs A V S : List Value} (h1 : cs.take A.length = A) (hf : A.length + V.length + S.length ≤ cs.length) :
    let cs1 := cs.take (A.length + V.length) ++ S ++ cs.drop (A.length + V.length + S.length)
    let cs2 := cs1.take A.length ++ V ++ cs1.drop (A.length + V.length)
    cs1.length = cs.length ∧ cs2.length = cs.length ∧ cs2.take (A ++ V ++ S).length = A ++ V ++ S := by
  obtain ⟨A', B, C, R, rfl, ha, hb, hc, hA⟩ := split4 cs A.length V.length S.length hf
  rw [h1] at hA
  subst hA
  have e0 : A' ++ (B ++ (C ++ R)) = (A' ++ B) ++ (C ++ R) := by rw [List.append_assoc]
  have e1 : (A' ++ (B ++ (C ++ R))).take (A'.length + V.length) = A' ++ B := by rw [e0]; exact (seg_app (A' ++ B) C R _ _ (by simp [hb]) rfl).1
  have e2 : (A' ++ (B ++ (C ++ R))).drop (A'.length + V.length + S.length) = R := by rw [e0]; exact (seg_app (A' ++ B) C R _ _ (by simp [hb]) hc.symm).2
  intro cs1 cs2
  have q1 : cs1 = A' ++ (B ++ (S ++ R)) := by show _ ++ S ++ _ = _; rw [e1, e2]; simp
  have q2 : cs2 = A' ++ V ++ S ++ R := by
    show cs1.take _ ++ V ++ cs1.drop _ = _
    rw [q1, List.take_left, (seg_app A' B (S ++ R) _ _ rfl hb.symm).2]
    simp
  refine ⟨?_, ?_, ?_⟩
  · rw [q1]; simp [hc]
  · rw [q2]; simp [hb, hc]
  · rw [q2, List.take_left]
theorem own_blk {b cp L : Nat} {cs : List Value} {l' : List α} (hcl : cs.length = cp * Dat.sz α) (ht : cs.take (l'.length * Dat.sz α) = l'.flatMap Dat.enc) (hl : l'.length = L) (hLc : L ≤ cp) (hcm : cp ≤ maxLen) :
    (Value.slice (some ⟨b, 0, none⟩) L cp = (⟨some ⟨b, 0, none⟩, cp, l'⟩ : Sv α).val) ∧ ∀ z, Ow.star (Blk b cs e) F z → (⟨some ⟨b, 0, none⟩, cp, l'⟩ : Sv α).own e z := by
  refine ⟨by simp [Sv.val, hl], fun z ⟨x, y, d, j, hx, hy⟩ => ?_⟩
  subst j
  refine ⟨by simp only [hl]; exact hLc, hcm, .inr ⟨b, cs.toArray, rfl, Hp.le_join_left x y _ _ hx, by simp [hcl], by simpa using ht⟩⟩
/-- what can be read of a slice, from a place on -/
theorem ok_srcK {r : Sv α} (hpos : 0 < Dat.sz α) [i : InM M r.ok] (hne : r.l ≠ []) (k : Nat) {B : Ow} : ∀ h z, h.off z → M.on h → B z → (r.l.drop k).flatMap Dat.enc ≠ [] → ∃ sb so, (some (⟨r.b, r.o + k * Dat.sz α, none⟩ : Addr)) = some ⟨sb, so, none⟩ ∧ (h.join z).at sb so ((r.l.drop k).flatMap Dat.enc) := fun h z off m _ _ => by
  have hok := i.out h m
  refine ⟨_, _, rfl, Hp.at.up (Hp.le_join_left h z) fun j v hj => ?_⟩
  have hat := at_all (h := h) (b := r.b) (o := r.o) (l := r.l) (fun j x hx => Sv.ok_get hok hx) hpos
  have := hat (k * Dat.sz α + j) v (by rw [← flatMap_drop, List.getElem?_drop] at hj; exact hj)
  rwa [← Nat.add_assoc] at this
theorem ok_src0 {r : Sv α} (hpos : 0 < Dat.sz α) [i : InM M r.ok] (hne : r.l ≠ []) {B : Ow} : ∀ h z, h.off z → M.on h → B z → r.l.flatMap Dat.enc ≠ [] → ∃ sb so, (some (⟨r.b, r.o + 0 * Dat.sz α, none⟩ : Addr)) = some ⟨sb, so, none⟩ ∧ (h.join z).at sb so (r.l.flatMap Dat.enc) := by
  have := ok_srcK (M := M) hpos hne 0 (B := B)
  rwa [List.drop_zero] at this
/-- what can be read of a block whose first cells are some elements -/
theorem blk_src {b n k : Nat} {cs : List Value} {l : List α} {T : TypeId} (ht : cs.take (n * Dat.sz α) = l.flatMap Dat.enc) (hn : n = l.length) : ∀ (h z : Hp), h.off z → M.on h → Blk b cs T z → (l.drop k).flatMap Dat.enc ≠ [] → ∃ sb so, (some (⟨b, k * Dat.sz α, none⟩ : Addr)) = some ⟨sb, so, none⟩ ∧ (h.join z).at sb so ((l.drop k).flatMap Dat.enc) := fun h z off m hB _ => by
  refine ⟨_, _, rfl, Hp.at.up (Hp.le_join_right off) fun j v hj => ?_⟩
  have := Hp.at_blk hB (k * Dat.sz α + j) v (by
    rw [← flatMap_drop, ← ht, List.getElem?_drop, List.getElem?_take] at hj
    split at hj
    · exact hj
    · cases hj)
  simpa using this
theorem enc_one1 (l : List α) : ∀ v ∈ l.flatMap Dat.enc, v.oneCell' = true := fun v hv => by
  obtain ⟨x, _, hx⟩ := List.mem_flatMap.1 hv
  exact Dat.one x v hx
/-- a field of a struct that is a value -/
theorem q_fld {cs : Array Value} {fs : Array Field} {fl : Field} {i : Nat} (hu : P.underlying t = some (.struct fs)) (hf : fs[i]? = some fl) (h1 : OneCell P fl.type) (e1 : ρ.ev x = some (.agg cs)) (hv : cs[fl.offset]? = some v) : Qt P N c ⟨od, .field t x i, ty, pos, after, gd⟩ v ρ M E := Qt.of_run fun a w g _ => by
  have hr : (Instr.field t (.agg cs) i).run P w = .ok v w := by
    simp only [Instr.field, Sem.run_bind, run_underlying hu, Result.andThen_ok, hf]
    simp [part, asAgg, h1 w, hv]
  simp only [execOp, g.ev e1, Sem.run_bind, hr, Result.andThen_ok, Sem.run_pure]
theorem q_flds {cs vs : Array Value} {fs : Array Field} {fl : Field} {i n : Nat} (hu : P.underlying t = some (.struct fs)) (hf : fs[i]? = some fl) (h1 : AggOf P fl.type n) (e1 : ρ.ev x = some (.agg cs)) (hv : cs.extract fl.offset (fl.offset + n) = vs) : Qt P N c ⟨od, .field t x i, ty, pos, after, gd⟩ (.agg vs) ρ M E := Qt.of_run fun a w g _ => by
  have hr : (Instr.field t (.agg cs) i).run P w = .ok (.agg vs) w := by
    simp only [Instr.field, Sem.run_bind, run_underlying hu, Result.andThen_ok, hf]
    simp [part, asAgg, (h1 w).1, (h1 w).2, hv]
  simp only [execOp, g.ev e1, Sem.run_bind, hr, Result.andThen_ok, Sem.run_pure]
end
end Go.V
end

section
/- Texts in their order, plainly. -/
namespace Go.S
open Go
/-- a text put among texts that rise -/
def insS (x : List UInt8) : List (List UInt8) → List (List UInt8)
  | [] => [x]
  | y :: r => if Op.bytesLess y x = true then y :: insS x r else x :: y :: r
/-- texts in their order -/
def sortS : List (List UInt8) → List (List UInt8)
  | [] => []
  | x :: r => insS x (sortS r)
theorem insS_perm (x : List UInt8) : ∀ l, (insS x l).Perm (x :: l)
  | [] => List.Perm.refl _
  | y :: r => by
    unfold insS
    split
    · exact ((insS_perm x r).cons y).trans (List.Perm.swap x y r)
    · exact List.Perm.refl _
theorem sortS_perm : ∀ l, (sortS l).Perm l
  | [] => List.Perm.refl _
  | x :: r => (insS_perm x _).trans ((sortS_perm r).cons x)
theorem insS_sorted (x : List UInt8) : ∀ l : List (List UInt8), l.Pairwise (· ≤ ·) → (insS x l).Pairwise (· ≤ ·)
  | [], _ => by simp [insS]
  | y :: r, h => by
    unfold insS
    have h1 := List.pairwise_cons.1 h
    split
    · next hb =>
      rw [Go.Proofs.bytesLess_eq, decide_eq_true_eq] at hb
      refine List.pairwise_cons.2 ⟨fun z hz => ?_, insS_sorted x r h1.2⟩
      rcases List.mem_cons.1 ((insS_perm x r).mem_iff.1 hz) with q | q
      · rw [q]; exact List.le_of_lt hb
      · exact h1.1 z q
    · next hb =>
      rw [Go.Proofs.bytesLess_eq, decide_eq_true_eq] at hb
      have hxy : x ≤ y := List.not_lt.1 hb
      refine List.pairwise_cons.2 ⟨fun z hz => ?_, h⟩
      rcases List.mem_cons.1 hz with q | q
      · rw [q]; exact hxy
      · exact List.le_trans hxy (h1.1 z q)
theorem sortS_sorted : ∀ l : List (List UInt8), (sortS l).Pairwise (· ≤ ·)
  | [] => List.Pairwise.nil
  | x :: r => insS_sorted x _ (sortS_sorted r)
theorem sortS_eq (l : List (List UInt8)) : sortS l = l.mergeSort (fun x y => decide (x ≤ y)) := by
  have tr : ∀ a b c : List UInt8, decide (a ≤ b) = true → decide (b ≤ c) = true → decide (a ≤ c) = true := fun a b c h1 h2 => by simp only [decide_eq_true_eq] at *; exact List.le_trans h1 h2
  have to : ∀ a b : List UInt8, (decide (a ≤ b) || decide (b ≤ a)) = true := fun a b => by simp only [Bool.or_eq_true, decide_eq_true_eq]; exact List.le_total a b
  refine List.Perm.eq_of_pairwise (le := fun a b => decide (a ≤ b) = true) (fun a b _ _ h1 h2 => ?_) ((sortS_sorted l).imp fun h => decide_eq_true h) (List.pairwise_mergeSort tr to l) ((sortS_perm l).trans (List.mergeSort_perm l _).symm)
  simp only [decide_eq_true_eq] at h1 h2
  exact List.le_antisymm h1 h2
def cstep (acc : List (List UInt8)) (z : List UInt8) : List (List UInt8) := if acc.getLast? = some z then acc else acc ++ [z]
/-- runs of one text, as one -/
def compactS (l : List (List UInt8)) : List (List UInt8) := l.foldl cstep []
theorem compact_upto (l : List (List UInt8)) : ∀ m, m ≤ l.length → Lib.compactUpTo l.toArray m = (l.take m).foldl cstep [] ∧ (Lib.compactUpTo l.toArray m).getLast? = if m = 0 then none else l[m - 1]?
  | 0, _ => by simp [Lib.compactUpTo]
  | m + 1, h => by
    obtain ⟨h1, h2⟩ := compact_upto l m (by omega)
    have hm : m < l.length := by omega
    have hg : l.toArray[m]! = l[m] := by simp [hm]
    rw [Lib.compactUpTo_succ, List.take_add_one, List.getElem?_eq_getElem hm, List.foldl_append, ← h1]
    simp only [Option.toList, List.foldl_cons, List.foldl_nil, cstep, h2, hg]
    by_cases h0 : m = 0
    · subst h0
      simp [Lib.keeps]
    · have hp : m - 1 < l.length := by omega
      have hg2 : l.toArray[m - 1]! = l[m - 1] := by simp [hp]
      simp only [if_neg h0, List.getElem?_eq_getElem hp, Option.some.injEq]
      by_cases he : l[m - 1] = l[m]
      · have hk : Lib.keeps l.toArray m = false := Lib.keeps_neg (by omega) (by rw [hg, hg2, he])
        simp only [hk, if_pos he, Bool.false_eq_true, if_false, List.append_nil, h2, if_neg h0, List.getElem?_eq_getElem hp]
        simp [he, hm]
      · have hk : Lib.keeps l.toArray m = true := Lib.keeps_pos (by rw [hg, hg2]; exact fun e => he e.symm)
        simp only [hk, if_neg he, if_true]
        simp [hm]
theorem compactS_eq (l : List (List UInt8)) : compactS l = Lib.compact l := by
  have := (compact_upto l l.length (Nat.le_refl _)).1
  rw [List.take_length] at this
  exact this.symm
theorem compact_len (l : List (List UInt8)) : (compactS l).length ≤ l.length := by
  unfold compactS
  suffices h : ∀ (acc : List (List UInt8)) (l : List (List UInt8)), (l.foldl cstep acc).length ≤ acc.length + l.length by simpa using h [] l
  intro acc l
  induction l generalizing acc with
  | nil => simp
  | cons x r ih =>
    refine Nat.le_trans (ih (cstep acc x)) ?_
    have : (cstep acc x).length ≤ acc.length + 1 := by unfold cstep; split <;> simp
    simp only [List.length_cons]; omega
theorem cstep_sorted (acc : List (List UInt8)) (z : List UInt8) (h : acc.Pairwise (· < ·)) (hz : ∀ y ∈ acc, y ≤ z) : (cstep acc z).Pairwise (· < ·) ∧ ∀ y, y ∈ cstep acc z ↔ y ∈ acc ∨ y = z := by
  unfold cstep
  split
  · next he =>
    refine ⟨h, fun y => ⟨.inl, fun q => q.elim id fun q => ?_⟩⟩
    rw [q]; exact List.mem_of_getLast? he
  · next hne =>
    refine ⟨List.pairwise_append.2 ⟨h, List.pairwise_singleton _ _, fun a ha c hc => ?_⟩, fun y => by simp⟩
    rw [List.mem_singleton.1 hc]
    have hle := hz a ha
    by_cases hlt : a < z
    · exact hlt
    · have hza : z = a := List.le_antisymm (List.not_lt.1 hlt) hle
      subst hza
      -- the last one is at least as great as z, and not z: no
      exfalso
      have hnil : acc ≠ [] := fun q => by rw [q] at ha; cases ha
      have hl : acc.getLast? = some (acc.getLast hnil) := List.getLast?_eq_some_getLast hnil
      have hm := List.getLast_mem hnil
      have hle2 := hz _ hm
      rw [hl] at hne
      have hcat : acc = acc.dropLast ++ [acc.getLast hnil] := (List.dropLast_concat_getLast hnil).symm
      rw [hcat] at ha h
      rcases List.mem_append.1 ha with q | q
      · have hq := (List.pairwise_append.1 h).2.2 z q _ (List.mem_singleton_self _)
        exact absurd hle2 (List.not_le.2 hq)
      · exact hne (congrArg some (List.mem_singleton.1 q).symm)
theorem compact_sorted : ∀ (l acc : List (List UInt8)), acc.Pairwise (· < ·) → (∀ y ∈ acc, ∀ z ∈ l, y ≤ z) → l.Pairwise (· ≤ ·) → (l.foldl cstep acc).Pairwise (· < ·) ∧ ∀ y, y ∈ l.foldl cstep acc ↔ y ∈ acc ∨ y ∈ l
  | [], acc, h, _, _ => ⟨h, fun y => by simp⟩
  | z :: r, acc, h, h1, h2 => by
    have hs := cstep_sorted acc z h (fun y hy => h1 y hy z (List.mem_cons_self ..))
    have hp := List.pairwise_cons.1 h2
    have ih := compact_sorted r (cstep acc z) hs.1 (fun y hy w hw => by
      rcases (hs.2 y).1 hy with q | q
      · exact h1 y q w (List.mem_cons_of_mem _ hw)
      · rw [q]; exact hp.1 w hw) hp.2
    refine ⟨ih.1, fun y => ?_⟩
    rw [List.foldl_cons, ih.2 y, hs.2 y, List.mem_cons]
    constructor
    · rintro ((q | q) | q)
      · exact .inl q
      · exact .inr (.inl q)
      · exact .inr (.inr q)
    · rintro (q | q | q)
      · exact .inl (.inl q)
      · exact .inl (.inr q)
      · exact .inr q
/-- texts in their order, each once -/
def keysS (l : List (List UInt8)) : List (List UInt8) := compactS (sortS l)
theorem keysS_lt (l : List (List UInt8)) : (keysS l).Pairwise (· < ·) := (compact_sorted (sortS l) [] List.Pairwise.nil (fun y h => by cases h) (sortS_sorted l)).1
theorem keysS_mem (l : List (List UInt8)) (y : List UInt8) : y ∈ keysS l ↔ y ∈ l := by
  have := (compact_sorted (sortS l) [] List.Pairwise.nil (fun y h => by cases h) (sortS_sorted l)).2 y
  rw [show keysS l = (sortS l).foldl cstep [] from rfl, this]
  simp [(sortS_perm l).mem_iff]
theorem keysS_len (l : List (List UInt8)) : (keysS l).length ≤ l.length := by
  have h1 := compact_len (sortS l)
  rw [(sortS_perm l).length_eq] at h1
  exact h1
theorem keysS_of {l ss : List (List UInt8)} (hn : ss.Nodup) (hm : ∀ y, y ∈ ss ↔ y ∈ l) : ss.mergeSort (fun x y => decide (x ≤ y)) = keysS l := by
  rw [← sortS_eq]
  have hk : (keysS l).Nodup := (keysS_lt l).imp (fun {a b} (h : a < b) (e : a = b) => List.lt_irrefl b (e ▸ h))
  refine List.Perm.eq_of_pairwise (le := fun a b => decide (a ≤ b) = true) (fun a b _ _ h1 h2 => ?_) ((sortS_sorted ss).imp fun h => decide_eq_true h) ((keysS_lt l).imp fun h => decide_eq_true (List.le_of_lt h)) ((sortS_perm ss).trans ((List.perm_ext_iff_of_nodup hn hk).2 fun y => (hm y).trans (keysS_mem l y).symm))
  simp only [decide_eq_true_eq] at h1 h2
  exact List.le_antisymm h1 h2
end Go.S
end

section
set_option linter.unusedVariables false
set_option linter.unusedSimpArgs false
set_option linter.unusedSectionVars false
namespace Go.V
open Go.RowKit Go.S Go.Sort
theorem putCells_toList {enc : Str → Value} (d : List Str) (cur : Array Value) (h : d.length ≤ cur.size) : (putCells enc 0 d.toArray cur).toList = d.map enc ++ cur.toList.drop d.length := by
  apply List.ext_getElem?
  intro j
  unfold putCells
  rw [Array.getElem?_toList, Array.getElem?_mapIdx]
  by_cases hj : j < d.length
  · have hc : j < cur.size := by omega
    rw [List.getElem?_append_left (by simpa using hj)]
    simp [hc, hj]
  · rw [List.getElem?_append_right (by simp; omega)]
    simp only [List.length_map, List.getElem?_drop, Array.getElem?_toList, List.size_toArray]
    rw [show d.length + (j - d.length) = j by omega]
    cases hc : cur[j]? with
    | none => rfl
    | some x => simp; omega
/-- slices.Sort of a slice of one's own, out of the library's contract -/
theorem Ct.sort {P : Program} {f : FuncId} (he : ∀ (xs : Array Value) (w : World), (callFunc f xs).run P w = .ok (.enter f xs) w)
    (hc : ∀ (blk off cap : Nat) (ss : List (List UInt8)) (w : World), Holds Go.Proofs.encStr w blk off ss.toArray → blk < w.heap.size → ss.length < 4611686018427387904 →
      Calls P f #[.slice (some ⟨blk, off, none⟩) ss.length cap] w fun e w' => e = .returned (.tuple #[]) ∧ ∃ n os, w' = grow (putRow Go.Proofs.encStr (Sort.ahead w n) blk off (ss.mergeSort fun x y => decide (x ≤ y)).toArray) os)
    (hn : ∀ (p : Option Addr) (cap : Nat) (w : World), Calls P f #[.slice p 0 cap] w fun e w' => e = .returned (.tuple #[]) ∧ w' = w)
    (s : Sv Str) (T : TypeId) (hb : s.l.length ≤ 4294967296) :
    Ct P f [s.val] Mo.tt (s.own T) (X := Sv Str) (fun _ => .tuple #[]) (fun q => q.l = sortS s.l ∧ q.val = s.val) (fun _ => Mo.tt) (fun q => q.own T) :=
  ⟨he, fun w hp z m hA d l k => by
    have hA0 := hA
    obtain ⟨hlc, hcm, ⟨hl0, hc0⟩ | ⟨b, cur, hsa, hg, hcs, ht⟩⟩ := hA
    · have e1 : s.val = .slice s.a 0 s.c := by unfold Sv.val; rw [hl0]; rfl
      rw [e1]
      refine (hn s.a s.c w).mono fun e w' ⟨h1, h2⟩ => ⟨_, h1, s, rfl, ⟨by rw [hl0]; rfl, e1⟩, ?_⟩
      subst h2
      exact ⟨⟨hp, z, trivial, hA0, d, l, k, Hp.le.refl hp, fun b hb => .inl hb, fun b hb => .inl hb⟩, fun b _ _ => rfl, rfl, rfl, rfl, Nat.le_refl _⟩
    · have hw : w.heap[b]? = some (.cells cur T (0, 0)) := k _ _ hg
      have hsz : Dat.sz Str = 1 := rfl
      rw [hsz, Nat.mul_one] at hcs ht
      have hfl : s.l.flatMap Dat.enc = s.l.map Go.Proofs.encStr := by
        rw [List.map_eq_flatMap]; rfl
      rw [hfl] at ht
      have hH : Holds Go.Proofs.encStr w b 0 s.l.toArray := fun j hj => by
        have hj' : j < s.l.length := by simpa using hj
        have h1 : cur[j]? = some (Go.Proofs.encStr s.l[j]) := by
          have := congrArg (fun l => l[j]?) ht
          simp only [List.getElem?_take, if_pos hj', List.getElem?_map, List.getElem?_eq_getElem hj', Option.map_some] at this
          rw [← Array.getElem?_toList]; exact this
        refine ⟨?_, by simp [World.frozen?, hw]⟩
        simp only [World.cell?, hw, Nat.zero_add, h1]
        simp [hj']
      have hlt := (Array.getElem?_eq_some_iff.1 hw).1
      have e1 : s.val = .slice (some ⟨b, 0, none⟩) s.l.length s.c := by unfold Sv.val; rw [hsa]
      rw [e1]
      have hlen : (sortS s.l).length = s.l.length := (sortS_perm s.l).length_eq
      refine (hc b 0 s.c s.l w hH hlt (by omega)).mono fun e w' ⟨h1, n, os, h2⟩ => ⟨_, h1, ⟨s.a, s.c, sortS s.l⟩, rfl, ⟨rfl, by unfold Sv.val; rw [hlen, hsa]⟩, ?_⟩
      rw [← sortS_eq] at h2
      have hw1 : (putRow Go.Proofs.encStr (Sort.ahead w n) b 0 (sortS s.l).toArray).heap[b]? = some (.cells (putCells Go.Proofs.encStr 0 (sortS s.l).toArray cur) T (0, 0)) := by
        unfold putRow mapBlock
        simp only [Array.getElem?_modify, if_true]
        show (w.heap[b]?).map _ = _
        rw [hw]; rfl
      have ho1 : ∀ i, i ≠ b → (putRow Go.Proofs.encStr (Sort.ahead w n) b 0 (sortS s.l).toArray).heap[i]? = w.heap[i]? := fun i hi => by
        unfold putRow mapBlock
        simp only [Array.getElem?_modify, if_neg (Ne.symm hi)]
        rfl
      have hs1 : (putRow Go.Proofs.encStr (Sort.ahead w n) b 0 (sortS s.l).toArray).heap.size = w.heap.size := by rw [size_putRow]; rfl
      have hst : St ⟨w, hp, fun i => z i ≠ none⟩ Mo.tt ((⟨s.a, s.c, sortS s.l⟩ : Sv Str).own T) (putRow Go.Proofs.encStr (Sort.ahead w n) b 0 (sortS s.l).toArray) := by
        refine St.turn (A := Sv.own _ T) hg d trivial l ⟨by rw [hlen]; exact hlc, hcm, .inr ⟨b, _, hsa, Hp.one_self _ _, ?_, ?_⟩⟩ hs1 hw1 ho1 rfl rfl rfl
        · rw [hsz, Nat.mul_one]; simp [putCells, hcs]
        · rw [hsz, Nat.mul_one, putCells_toList (sortS s.l) cur (by rw [hlen, hcs]; exact hlc), hlen]
          rw [List.take_append_of_le_length (by simp [hlen]), List.take_of_length_le (by simp [hlen])]
          rw [List.map_eq_flatMap]; rfl
      rw [h2]
      refine hst.grow ⟨rfl, rfl, rfl, ?_, fun k hk => ?_⟩
      · simp [grow]
      · unfold grow; exact Array.getElem?_append_left hk⟩
/-- slices.Compact of a slice of one's own, out of the library's contract -/
theorem Ct.compact {P : Program} {f : FuncId} (he : ∀ (xs : Array Value) (w : World), (callFunc f xs).run P w = .ok (.enter f xs) w)
    (hc : ∀ (blk off cap : Nat) (ss : List (List UInt8)) (w : World), Holds Go.Proofs.encStr w blk off ss.toArray → ss.length ≤ 9223372036854775807 → ss.length ≤ cap →
      Calls P f #[.slice (some ⟨blk, off, none⟩) ss.length cap] w fun e w' => e = .returned (.slice (some ⟨blk, off, none⟩) (Lib.compact ss).length cap) ∧ ∃ q, w' = putRow Go.Proofs.encStr (Sort.ahead w q) blk off (Lib.compact ss ++ List.replicate (ss.length - (Lib.compact ss).length) []).toArray)
    (hn : ∀ (p : Option Addr) (cap : Nat) (w : World), Calls P f #[.slice p 0 cap] w fun e w' => e = .returned (.slice p 0 cap) ∧ w' = w)
    (s : Sv Str) (T : TypeId) (hb : s.l.length ≤ 4294967296) :
    Ct P f [s.val] Mo.tt (s.own T) (X := Sv Str) (fun q => q.val) (fun q => q.l = compactS s.l) (fun _ => Mo.tt) (fun q => q.own T) :=
  ⟨he, fun w hp z m hA d l k => by
    have hA0 := hA
    obtain ⟨hlc, hcm, ⟨hl0, hc0⟩ | ⟨b, cur, hsa, hg, hcs, ht⟩⟩ := hA
    · have e1 : s.val = .slice s.a 0 s.c := by unfold Sv.val; rw [hl0]; rfl
      rw [e1]
      refine (hn s.a s.c w).mono fun e w' ⟨h1, h2⟩ => ⟨_, h1, s, e1.symm, by show s.l = compactS s.l; rw [hl0]; rfl, ?_⟩
      subst h2
      exact ⟨⟨hp, z, trivial, hA0, d, l, k, Hp.le.refl hp, fun b hb => .inl hb, fun b hb => .inl hb⟩, fun b _ _ => rfl, rfl, rfl, rfl, Nat.le_refl _⟩
    · have hw : w.heap[b]? = some (.cells cur T (0, 0)) := k _ _ hg
      have hsz : Dat.sz Str = 1 := rfl
      rw [hsz, Nat.mul_one] at hcs ht
      have hfl : ∀ l : List Str, l.flatMap Dat.enc = l.map Go.Proofs.encStr := fun l => by
        rw [List.map_eq_flatMap]; rfl
      rw [hfl] at ht
      have hH : Holds Go.Proofs.encStr w b 0 s.l.toArray := fun j hj => by
        have hj' : j < s.l.length := by simpa using hj
        have h1 : cur[j]? = some (Go.Proofs.encStr s.l[j]) := by
          have := congrArg (fun l => l[j]?) ht
          simp only [List.getElem?_take, if_pos hj', List.getElem?_map, List.getElem?_eq_getElem hj', Option.map_some] at this
          rw [← Array.getElem?_toList]; exact this
        refine ⟨?_, by simp [World.frozen?, hw]⟩
        simp only [World.cell?, hw, Nat.zero_add, h1]
        simp [hj']
      have e1 : s.val = .slice (some ⟨b, 0, none⟩) s.l.length s.c := by unfold Sv.val; rw [hsa]
      rw [e1]
      have hle := compact_len s.l
      refine (hc b 0 s.c s.l w hH (by omega) hlc).mono fun e w' ⟨h1, n, h2⟩ => ⟨_, h1, ⟨s.a, s.c, compactS s.l⟩, by unfold Sv.val; rw [compactS_eq, hsa], rfl, ?_⟩
      rw [← compactS_eq] at h2
      have hlen : (compactS s.l ++ List.replicate (s.l.length - (compactS s.l).length) []).length = s.l.length := by simp; omega
      generalize hD : compactS s.l ++ List.replicate (s.l.length - (compactS s.l).length) [] = D at h2 hlen
      have hw1 : (putRow Go.Proofs.encStr (Sort.ahead w n) b 0 D.toArray).heap[b]? = some (.cells (putCells Go.Proofs.encStr 0 D.toArray cur) T (0, 0)) := by
        unfold putRow mapBlock
        simp only [Array.getElem?_modify, if_true]
        show (w.heap[b]?).map _ = _
        rw [hw]; rfl
      have ho1 : ∀ i, i ≠ b → (putRow Go.Proofs.encStr (Sort.ahead w n) b 0 D.toArray).heap[i]? = w.heap[i]? := fun i hi => by
        unfold putRow mapBlock
        simp only [Array.getElem?_modify, if_neg (Ne.symm hi)]
        rfl
      have hs1 : (putRow Go.Proofs.encStr (Sort.ahead w n) b 0 D.toArray).heap.size = w.heap.size := by rw [size_putRow]; rfl
      rw [h2]
      refine St.turn (A := Sv.own _ T) hg d trivial l ⟨Nat.le_trans hle hlc, hcm, .inr ⟨b, _, hsa, Hp.one_self _ _, ?_, ?_⟩⟩ hs1 hw1 ho1 rfl rfl rfl
      · rw [hsz, Nat.mul_one]; simp [putCells, hcs]
      · rw [hsz, Nat.mul_one, putCells_toList D cur (by rw [hlen, hcs]; exact hlc), hfl, ← hD, List.map_append, List.append_assoc]
        rw [List.take_append_of_le_length (by simp), List.take_of_length_le (by simp)]⟩
end Go.V
end

section
set_option linter.unusedVariables false
set_option linter.unusedSimpArgs false
set_option linter.unusedSectionVars false
namespace Go.V
open Go.RowKit Go.S Go.Sort Go.Maps
open Go.WideElems (Fit rg)
/-- an own map from texts, whose keys are those of l -/
def MpK (P : Program) (k e : TypeId) (b : Nat) (l : List Str) : Ow := fun z => ∃ es clock, z b = some (.map es clock) ∧ Fit (H := Unit) P k (plainElem P e) es clock ∧ es.size ≤ l.length ∧ ∀ x : Str, has (H := Unit) (.map ((es.toList.map (rg P k (plainElem P e))).foldr DataW.insert [])) (.string x) = true ↔ x ∈ l
theorem MpK.owns {P : Program} {k e : TypeId} {b : Nat} {l : List Str} {z : Hp} {w : World} (h : MpK P k e b l z) (lz : z.le (wh w)) : ∃ D : DataW Unit, w.ownsMap P k (plainElem P e) b l.length D ∧ ∀ x : Str, has D (.string x) = true ↔ x ∈ l := by
  obtain ⟨es, clock, h1, h2, h3, h4⟩ := h
  exact ⟨_, ⟨es, clock, lz _ _ h1, h2, h3, rfl⟩, h4⟩
section
variable {P : Program} {N : Nat} {c : Cx} {ops : Array Oper} {Q Q1 : Exit → Act → World → Prop} {rest : List Oper} {o : Oper} {ρ : Env} {M M' M1 M0 : Mo} {E E1 F A : Ow} {v u : Value} {X S T R : Type}
  {d : Nat} {od : Option Nat} {ty : TypeId} {pos : String} {after : Array Edge} {gd : Option (Nat × Bool)} {x y m' : Operand} {t t' e k : TypeId} {f : FuncId}
theorem VL.mkmap (hd : d < N) (kk : ∀ b : Nat, VL P N c ops Q rest ((d, .map (some b)) :: ρ) M (Ow.star (MpK P k e b []) E)) : VL P N c ops Q (⟨some d, .makeMap t none, ty, pos, after, none⟩ :: rest) ρ M E :=
  VL.newO (S := Nat) (val := fun b => .map (some b)) (φ := fun _ => True) (A := fun b => MpK P k e b []) (fun a w g => by
    refine ⟨w.heap.size, w.alloc (.map #[] 0), .map #[] 0, ?_, trivial, Gr.alloc w _, heap_alloc_new w _, ?_⟩
    · simp only [execOp, Option.map_none, Sem.run_bind, run_makeMap, Result.andThen_ok, Sem.run_pure]
    · obtain ⟨es, clock, h1, h2, h3, h4⟩ := World.ownsMap_made (H := Unit) w P k (plainElem P e)
      have h5 := heap_alloc_new w (.map #[] 0)
      rw [h5] at h1
      cases h1
      exact ⟨#[], 0, Hp.one_self _ _, h2, Nat.le_refl _, fun x => by simp [has]⟩) hd fun b _ => kk b
theorem St.turnG {w w' : World} {h z : Hp} {b : Nat} {o o' : Obj} (hz : z b = some o) (hoff : h.off z) (hm : M.on h) (l : h.le (wh w)) (hA : A (Hp.one b o')) (hs : w.heap.size ≤ w'.heap.size) (hb : w'.heap[b]? = some o') (ho : ∀ i, i < w.heap.size → i ≠ b → w'.heap[i]? = w.heap[i]?) (e1 : w'.os = w.os) (e2 : w'.tape = w.tape) (e3 : w'.output = w.output) :
    St ⟨w, h, fun i => z i ≠ none⟩ M A w' := by
  have hbn : h b = none := (hoff b).resolve_right (by rw [hz]; simp)
  refine ⟨⟨h, Hp.one b o', hm, hA, fun i => ?_, fun i p hp => ?_, fun i p hp => ?_, Hp.le.refl h, fun i hi => .inl hi, fun i hi => .inl ?_⟩, fun i hi hd => ho i hi ?_, e1, e2, e3, hs⟩
  · by_cases hib : i = b
    · subst hib; exact .inl hbn
    · right; unfold Hp.one; rw [if_neg hib]
  · have hib : i ≠ b := fun q => by rw [q, hbn] at hp; cases hp
    have hlt := (Array.getElem?_eq_some_iff.1 (l i p hp)).1
    show w'.heap[i]? = _
    rw [ho i hlt hib]
    exact l i p hp
  · unfold Hp.one at hp
    split at hp
    · next q => subst q; cases hp; exact hb
    · cases hp
  · have : i = b := by
      unfold Hp.one at hi
      split at hi
      · assumption
      · exact absurd rfl hi
    subst this; show z i ≠ none; rw [hz]; simp
  · intro q; subst q; exact hd (by show z i ≠ none; rw [hz]; simp)
/-- 'm[s] = true' -/
theorem VL.mapset {b : Nat} {l : List Str} {s : Str} (hk : P.underlying k = some .string) (he : P.underlying e = some .bool) (ht : P.underlying t = some (.map k e)) (hE : Foc E (MpK P k e b l) F)
    (e0 : ρ.ev m' = some (.map (some b))) (e1 : ρ.ev x = some (str s)) (e2 : ρ.ev y = some (.bool true)) (hl : l.length ≤ 4294967296 ∧ s.length ≤ 4294967296)
    (kk : VL P N c ops Q rest ρ M (Ow.star (MpK P k e b (s :: l)) F)) : VL P N c ops Q (⟨none, .mapUpdate t m' x y, ty, pos, after, none⟩ :: rest) ρ M E := by
  refine VL.bigS (A2 := MpK P k e b (s :: l)) hE (fun a w h z g hoff hm hA lh lz => ?_) kk
  obtain ⟨D, hown, hD⟩ := hA.owns lz
  obtain ⟨es0, clock0, hz0, _⟩ := hA
  obtain ⟨w', hrun, hown', hg⟩ := hown.update (string_keyed hk) ht (by unfold maxLen; omega) (Go.WideMaps.keyOf_string_mk (s := ⟨⟨s⟩⟩) hk (by show s.length ≤ maxLen; unfold maxLen; omega)) (plainElem_bool he true)
  obtain ⟨es, clock, h1, h2, h3, h4⟩ := hown'
  have hm2 : IsMap D := by obtain ⟨_, _, _, _, _, q⟩ := hown; exact ⟨_, q⟩
  refine ⟨w', ?_, St.turnG (A := MpK P k e b (s :: l)) hz0 hoff trivial lh ⟨es, clock, Hp.one_self _ _, h2, by simpa using h3, fun y => ?_⟩ hg.size h1 (fun i hi hib => hg.block i hi (fun q => hib (Option.some.inj q))) hg.os hg.tape hg.output⟩
  · simp only [execOp, g.ev e0, g.ev e1, g.ev e2, Sem.run_bind, hrun, Result.andThen_ok, Sem.run_pure]
  · rw [← h4]
    by_cases hy : y = s
    · subst hy
      exact ⟨fun _ => List.mem_cons_self .., fun _ => has_put_same (k := .string y) hm2 (show Go.WideAt.IsKeyLit (.string y) from True.intro) _⟩
    · rw [has_put_other (by simpa using hy), hD y]
      simp [hy]
/-- maps.Keys, out of the library's contract -/
theorem Ct.mapKeys {it T b : Nat} (he : ∀ (xs : Array Value) (w : World), (callFunc f xs).run P w = .ok (.enter f xs) w)
    (hc : ∀ (mb : Option Nat) (W : World), Calls P f #[.map mb] W fun e w' => e = .returned (.func (.func it) #[] #[.pointer (some ⟨W.heap.size, 0, none⟩)]) ∧ w' = W.alloc (.cells #[.map mb] T)) :
    Ct P f [.map (some b)] Mo.tt Ow.emp (X := Nat) (fun B => .func (.func it) #[] #[ptr B 0]) (fun _ => True) (fun _ => Mo.tt) (fun B => Blk B [.map (some b)] T) :=
  ⟨he, fun w hp z m _ d l k => (hc (some b) w).mono fun e w' ⟨h1, h2⟩ => ⟨_, h1, w.heap.size, rfl, trivial, by
    subst h2
    exact St.newO (A := Blk w.heap.size [.map (some b)] T) (Hp.one_self _ _) trivial l (Gr.alloc w _) (heap_alloc_new w _)⟩⟩
/-- slices.Sorted of a map's keys, out of the library's contract -/
theorem Ct.sortedKeys {it T b B : Nat} {l : List Str} (he : ∀ (xs : Array Value) (w : World), (callFunc f xs).run P w = .ok (.enter f xs) w) (hk : P.underlying k = some .string)
    (hc : ∀ (D0 : DataW Unit) (nn : Nat) (W : World), B < W.heap.size → W.cell? ⟨B, 0, none⟩ = some (.map (some b)) → W.ownsMap P k (plainElem P e) b nn D0 → Maps.size D0 ≤ maxLen → Maps.size D0 * 16 ≤ 140737488355328 →
      Calls P f #[.func (.func it) #[] #[.pointer (some ⟨B, 0, none⟩)]] W fun en w' => ∃ (v : Value) (ss : List (List UInt8)), en = .returned v ∧ ss.Perm (strKeys D0) ∧ w'.ownsRow W.heap.size k 1 v ss.length ((ss.mergeSort (fun x y => decide (x ≤ y))).map Go.Proofs.encStr) ∧ (v = .slice none 0 0 ↔ ss = []) ∧ Below W.heap.size W w')
    (hb : l.length ≤ 4294967296) :
    Ct P f [.func (.func it) #[] #[ptr B 0]] Mo.tt (Ow.star (Blk B [.map (some b)] T) (MpK P k e b l)) (X := Sv Str) (fun q => q.val) (fun q => q.l = keysS l) (fun _ => Mo.tt) (fun q => q.own k) :=
  ⟨he, fun w hp z m hA d lh lz => by
    obtain ⟨z1, z2, doff, rfl, hB, hM⟩ := hA
    have lz2 : z2.le (wh w) := (Hp.le_join_right doff).trans lz
    have hBw : w.heap[B]? = some (.cells #[.map (some b)] T (0, 0)) := lz _ _ (Hp.le_join_left z1 z2 _ _ hB)
    obtain ⟨D, hown, hD⟩ := hM.owns lz2
    obtain ⟨es, hDe, hpw, hko⟩ := hown.entries (string_keyed hk)
    have hsz : Maps.size D ≤ l.length := by
      obtain ⟨es', clock, _, _, h3, h4⟩ := hown
      rw [h4]
      show (List.foldr DataW.insert [] (es'.toList.map (rg P k (plainElem P e)))).length ≤ _
      rw [length_sorted]
      simpa using h3
    refine (hc D l.length w (Array.getElem?_eq_some_iff.1 hBw).1 (by simp [World.cell?, hBw]) hown (by unfold maxLen; omega) (by omega)).mono fun en w' ⟨v, ss, h1, h2, h3, h4, h5⟩ => ?_
    have hcol : ∀ x, x ∈ ss ↔ x ∈ l := fun x => by
      rw [h2.mem_iff, ← hD x]
      obtain ⟨es2, hD2, hko2⟩ := hown.keysOf
      subst hD2
      rw [has_eq, List.any_eq_true]
      show x ∈ es2.map (fun p => strOf p.1) ↔ _
      rw [List.mem_map]
      constructor
      · rintro ⟨p, hp', rfl⟩
        obtain ⟨v', hv'⟩ := hko2 p hp'
        obtain ⟨a, _, ha, _⟩ := Maps.keyOf_str hk hv'
        exact ⟨p, hp', by rw [ha]; simp [Lit.sameKey, strOf]⟩
      · rintro ⟨p, hp', hs⟩
        obtain ⟨v', hv'⟩ := hko2 p hp'
        obtain ⟨a, _, ha, _⟩ := Maps.keyOf_str hk hv'
        rw [ha] at hs
        exact ⟨p, hp', by rw [ha]; simpa [Lit.sameKey, strOf] using hs⟩
    have hnd : ss.Nodup := by
      refine h2.nodup_iff.2 ?_
      obtain ⟨es2, hD2, hko2⟩ := hown.keysOf
      rw [hDe] at hD2
      obtain rfl : es = es2 := by simpa using hD2
      rw [hDe]
      show (es.map fun p => strOf p.1).Nodup
      refine List.pairwise_map.2 (hpw.imp_of_mem fun {p q} hp' hq' hne e' => hne ?_)
      obtain ⟨v1, hv1⟩ := hko2 p hp'
      obtain ⟨a, _, ha, _⟩ := Maps.keyOf_str hk hv1
      obtain ⟨v2, hv2⟩ := hko2 q hq'
      obtain ⟨b', _, hb', _⟩ := Maps.keyOf_str hk hv2
      rw [ha, hb'] at e' ⊢
      exact congrArg _ e'
    have hkeys := keysS_of hnd hcol
    rw [hkeys] at h3
    have hlk : (keysS l).length = ss.length := by rw [← hkeys]; exact (List.mergeSort_perm ss _).length_eq
    have hsz1 : Dat.sz Str = 1 := rfl
    have hfl : ∀ l : List Str, l.flatMap Dat.enc = l.map Go.Proofs.encStr := fun l => by rw [List.map_eq_flatMap]; rfl
    obtain ⟨r1, ⟨rfl, r2⟩ | ⟨g, cap, cur, rfl, r2, r3, r4, r5, r6, r7⟩⟩ := h3
    · refine ⟨_, h1, ⟨none, 0, []⟩, rfl, ?_, ?_⟩
      · show [] = keysS l
        exact (List.length_eq_zero_iff.1 (hlk.trans r2)).symm
      · have hgr := Gr.of_below h5
        refine ⟨⟨hp, Hp.nil, trivial, ⟨Nat.le_refl _, by simp [maxLen], .inl ⟨rfl, rfl⟩⟩, Hp.nil_off _, lh.trans hgr.le, (fun b p q => by cases q), Hp.le.refl hp, (fun b q => .inl q), (fun b q => absurd rfl q)⟩, fun b hb _ => hgr.block b hb, hgr.os, hgr.tape, hgr.output, hgr.size⟩
    · refine ⟨_, h1, ⟨some ⟨g, 0, none⟩, cap, keysS l⟩, by show Value.slice _ ss.length _ = Value.slice _ (keysS l).length _; rw [hlk], rfl, ?_⟩
      have hgr := Gr.of_below h5
      refine ⟨⟨hp, Hp.one g (.cells cur k (0, 0)), trivial, ⟨by rw [hlk]; exact r4, r5, .inr ⟨g, cur, rfl, Hp.one_self _ _, by rw [hsz1, r6], by rw [hsz1, hlk, hfl]; exact r7⟩⟩, fun i => ?_, lh.trans hgr.le, fun i p hp' => ?_, Hp.le.refl hp, fun i hi => .inl hi, fun i hi => .inr ?_⟩, fun i hi _ => hgr.block i hi, hgr.os, hgr.tape, hgr.output, hgr.size⟩
      · by_cases hig : i = g
        · left
          cases hq : hp i with
          | none => rfl
          | some o =>
            have := (Array.getElem?_eq_some_iff.1 (lh i o hq)).1
            omega
        · right; unfold Hp.one; rw [if_neg hig]
      · unfold Hp.one at hp'
        split at hp'
        · next q => subst q; cases hp'; exact r3
        · cases hp'
      · have : i = g := by
          unfold Hp.one at hi
          split at hi
          · assumption
          · exact absurd rfl hi
        subst this; exact r2⟩
theorem run_append_ty {e' : TypeId} (ht : P.underlying t = some (.slice e)) (ht' : P.underlying t' = some (.slice e')) (a1 a2 : Option Addr) (n1 c1 n2 c2 : Nat) (w : World) : (Builtin.append_ #[t, t'] ty #[.slice a1 n1 c1, .slice a2 n2 c2]).run P w = (Builtin.append_ #[t, t] ty #[.slice a1 n1 c1, .slice a2 n2 c2]).run P w := by
  simp [Builtin.append_, run_underlying ht, run_underlying ht']
/-- append of a slice of another type -/
theorem VL.app2 {α : Type} [Dat α] {s r : Sv α} {xs : List Operand} {bt : Nat} {e' : TypeId} (hu : P.underlying t = some (.slice e)) (hu' : P.underlying t' = some (.slice e')) (hi : ((P.info? e).map fun i => (i.size, i.bytes, (i.zero.map fun z => z.cells.size))) = some (Dat.sz α, bt, some (Dat.sz α))) (hpos : 0 < Dat.sz α)
    (ha : ρ.evs xs = some [s.val, r.val]) (hE : Foc E (s.own e) F) [hr : InM M r.ok] (hlen : s.l.length + r.l.length ≤ 9007199254740992) (hb : (s.l.length + r.l.length) * bt ≤ 140737488355328) (hd : d < N)
    (k : ∀ s' : Sv α, s'.l = s.l ++ r.l → VL P N c ops Q rest ((d, s'.val) :: ρ) M (Ow.star (s'.own e) F)) :
    VL P N c ops Q (⟨some d, .call { callee := .builtin .append, args := xs.toArray, argTypes := #[t, t'] }, ty, pos, after, none⟩ :: rest) ρ M E := by
  cases hj : P.info? e with
  | none => rw [hj] at hi; cases hi
  | some j =>
    rw [hj] at hi
    simp only [Option.map_some, Option.some.injEq, Prod.mk.injEq] at hi
    obtain ⟨h1, h2, h3⟩ := hi
    cases hz : j.zero with
    | none => rw [hz] at h3; cases h3
    | some zv =>
      rw [hz] at h3
      have h3' : zv.cells.size = j.size := by rw [h1]; simpa using h3
      refine VL.big (X := Sv α) (φ := fun s' => s'.l = s.l ++ r.l) (val := Sv.val) (M2 := fun _ => Mo.tt) (A2 := fun s' => s'.own e) hE (fun a w h z g hoff m hA l kk => ?_) hd fun s' hs' => VL.strip (k s' hs')
      obtain ⟨s', w', q1, q2, q3⟩ := run_app (P := P) (ts := ty) hu hj hz h1 h3' hpos hoff l kk hA (r.ok.up (Hp.le_join_left h z) (hr.out h m)) hlen (by rw [h2]; exact hb)
      have q1 := (run_append_ty (ty := ty) hu hu' s.a r.a s.l.length s.c r.l.length r.c w).trans q1
      refine ⟨s'.val, w', ?_, s', q2, rfl, q3⟩
      simp only [execOp, resolve, List.map_toArray, g.evs ha, Sem.run_bind, Sem.run_pure, Result.andThen_ok, invoke, builtin]
      unfold Sv.val
      simp only [q1, Sem.run_pure, Result.andThen_ok]
      rfl
end
end Go.V
end

section
set_option linter.unusedVariables false
namespace Go.S.Sh
open Go
noncomputable def unicode_utf8_RuneCountInString (s_0 : Str) : Option Int :=
 none

noncomputable def unicode_utf8_decodeRuneInStringSlow (s_0 : Str) : Option (Int × Int) :=
 if (s_0.length : Int) < 1 then (some (65533, 0))
 else ((at_ s_0 0).bind (fun z18_1 =>
 none))

noncomputable def unicode_utf8_DecodeRuneInString (s_0 : Str) : Option (Int × Int) :=
 jn (fun (x10_1 : Bool) =>
 if x10_1 = true then ((at_ s_0 0).bind (fun z12_4 =>
 some ((z12_4.toNat : Int), 1)))
 else ((Sh.unicode_utf8_decodeRuneInStringSlow s_0).bind (fun y16_5 =>
 some (y16_5.1, y16_5.2)))) (fun k2 => if s_0 = [] then (k2 false)
 else ((at_ s_0 0).bind (fun z8_3 =>
 k2 (decide ((z8_3.toNat : Int) < 128)))))

noncomputable def strings_explode (s_0 : Str) (n_1 : Int) : Option (List Str) :=
 (Sh.unicode_utf8_RuneCountInString s_0).bind (fun y11_1 =>
 jn (fun (n1_2 : Int) =>
 gd ((0 : Int) ≤ n1_2 ∧ n1_2 ≤ 4294967296) (
 lt (List.replicate n1_2.toNat []) (fun y21_7 =>
 iter (fun ((s0_8, a6_9, i7_10) : Str × List Str × Int) =>
 gd (I64 (n1_2 - 1)) (
 if i7_10 < (n1_2 - 1) then ((Sh.unicode_utf8_DecodeRuneInString s0_8).bind (fun y30_11 =>
 gd ((0 : Int) ≤ y30_11.2 ∧ y30_11.2 ≤ (s0_8.length : Int)) (
 lt (s0_8.take y30_11.2.toNat) (fun y37_12 =>
 (at_ a6_9 i7_10).bind (fun z38_13 =>
 lt (a6_9.set i7_10.toNat y37_12) (fun ys6_15 =>
 gd ((0 : Int) ≤ y30_11.2 ∧ y30_11.2 ≤ (s0_8.length : Int)) (
 lt (s0_8.drop y30_11.2.toNat) (fun y41_16 =>
 gd (I64 (i7_10 + 1)) (
 go (y41_16, ys6_15, (i7_10 + 1)))))))))))
 else (up (if 0 < n1_2 then (gd (I64 (n1_2 - 1)) (
 (at_ a6_9 (n1_2 - 1)).bind (fun z48_17 =>
 lt (a6_9.set (n1_2 - 1).toNat s0_8) (fun ys5_19 =>
 some ys5_19))))
 else (some a6_9))))) (s_0, y21_7, 0)))) (fun k3 => jn (fun (x18_4 : Bool) =>
 if x18_4 = true then (k3 y11_1)
 else (k3 n_1)) (fun k5 => if n_1 < 0 then (k5 true)
 else (k5 (decide (y11_1 < n_1))))))

noncomputable def internal_stringslite_IndexByte (s_0 : Str) (c_1 : Int) : Option Int :=
 some (ixB s_0 c_1)

noncomputable def internal_stringslite_Index (s_0 : Str) (substr_1 : Str) : Option Int :=
 jn (fun (x16_1 : Bool) =>
 if x16_1 = true then (some 0)
 else (if (substr_1.length : Int) = 1 then ((at_ substr_1 0).bind (fun z29_3 =>
 (Sh.internal_stringslite_IndexByte s_0 (z29_3.toNat : Int)).bind (fun y30_4 =>
 some y30_4)))
 else (if (s_0.length : Int) ≤ (substr_1.length : Int) then (some (-1))
 else (none)))) (fun k2 => if (substr_1.length : Int) = 0 then (k2 true)
 else (k2 (decide (substr_1 = s_0))))

noncomputable def strings_Index (s_0 : Str) (substr_1 : Str) : Option Int :=
 (Sh.internal_stringslite_Index s_0 substr_1).bind (fun y7_1 =>
 some y7_1)

noncomputable def strings_Count (s_0 : Str) (substr_1 : Str) : Option Int :=
 if (substr_1.length : Int) = 0 then ((Sh.unicode_utf8_RuneCountInString s_0).bind (fun y11_1 =>
 gd (I64 (y11_1 + 1)) (
 some (y11_1 + 1))))
 else (if (substr_1.length : Int) = 1 then ((at_ substr_1 0).bind (fun z18_2 =>
 some (cntB s_0 (z18_2.toNat : Int))))
 else (iter (fun ((s0_3, n5_4) : Str × Int) =>
 (Sh.strings_Index s0_3 substr_1).bind (fun y22_5 =>
 if y22_5 = (-1) then (up (some n5_4))
 else (gd (I64 (n5_4 + 1)) (
 gd (I64 (y22_5 + (substr_1.length : Int))) (
 gd ((0 : Int) ≤ (y22_5 + (substr_1.length : Int)) ∧ (y22_5 + (substr_1.length : Int)) ≤ (s0_3.length : Int)) (
 lt (s0_3.drop (y22_5 + (substr_1.length : Int)).toNat) (fun y33_6 =>
 go (y33_6, (n5_4 + 1))))))))) (s_0, 0)))

noncomputable def strings_genSplit (s_0 : Str) (sep_1 : Str) (sepSave_2 : Int) (n_3 : Int) : Option (List Str) :=
 if n_3 = 0 then (some [])
 else (if sep_1 = [] then ((Sh.strings_explode s_0 n_3).bind (fun y18_1 =>
 some y18_1))
 else (jn (fun (n3_2 : Int) =>
 gd (I64 ((s_0.length : Int) + 1)) (
 gd ((0 : Int) ≤ (min n3_2 ((s_0.length : Int) + 1)) ∧ (min n3_2 ((s_0.length : Int) + 1)) ≤ 4294967296) (
 lt (List.replicate (min n3_2 ((s_0.length : Int) + 1)).toNat []) (fun y31_6 =>
 gd (I64 ((min n3_2 ((s_0.length : Int) + 1)) - 1)) (
 jn (fun ((s0_7, a9_8, i10_9) : Str × List Str × Int) =>
 (at_ a9_8 i10_9).bind (fun z61_20 =>
 lt (a9_8.set i10_9.toNat s0_7) (fun ys4_22 =>
 gd (I64 (i10_9 + 1)) (
 gd ((0 : Int) ≤ (i10_9 + 1) ∧ (i10_9 + 1) ≤ (ys4_22.length : Int)) (
 lt (ys4_22.take (i10_9 + 1).toNat) (fun y65_24 =>
 some y65_24)))))) (fun k10 => iter (fun ((s0_11, a9_12, i10_13) : Str × List Str × Int) =>
 if i10_13 < ((min n3_2 ((s_0.length : Int) + 1)) - 1) then ((Sh.strings_Index s0_11 sep_1).bind (fun y39_14 =>
 if y39_14 < 0 then (up (k10 (s0_11, a9_12, i10_13)))
 else (gd (I64 (y39_14 + sepSave_2)) (
 gd ((0 : Int) ≤ (y39_14 + sepSave_2) ∧ (y39_14 + sepSave_2) ≤ (s0_11.length : Int)) (
 lt (s0_11.take (y39_14 + sepSave_2).toNat) (fun y48_15 =>
 (at_ a9_12 i10_13).bind (fun z49_16 =>
 lt (a9_12.set i10_13.toNat y48_15) (fun ys8_18 =>
 gd (I64 (y39_14 + (sep_1.length : Int))) (
 gd ((0 : Int) ≤ (y39_14 + (sep_1.length : Int)) ∧ (y39_14 + (sep_1.length : Int)) ≤ (s0_11.length : Int)) (
 lt (s0_11.drop (y39_14 + (sep_1.length : Int)).toNat) (fun y55_19 =>
 gd (I64 (i10_13 + 1)) (
 go (y55_19, ys8_18, (i10_13 + 1))))))))))))))
 else (up (k10 (s0_11, a9_12, i10_13)))) (s_0, y31_6, 0))))))) (fun k3 => if n_3 < 0 then ((Sh.strings_Count s_0 sep_1).bind (fun y23_4 =>
 gd (I64 (y23_4 + 1)) (
 k3 (y23_4 + 1))))
 else (k3 n_3))))

noncomputable def strings_Split (s_0 : Str) (sep_1 : Str) : Option (List Str) :=
 (Sh.strings_genSplit s_0 sep_1 0 (-1)).bind (fun y7_1 =>
 some y7_1)

noncomputable def path_good (c_0 : Int) : Option Bool :=
 jn (fun (_ : Unit) =>
 if 97 ≤ c_0 then (if c_0 ≤ 122 then (some true)
 else (if 48 ≤ c_0 then (some (decide (c_0 ≤ 57)))
 else (some false)))
 else (if 48 ≤ c_0 then (some (decide (c_0 ≤ 57)))
 else (some false))) (fun k1 => jn (fun (_ : Unit) =>
 some true) (fun k2 => if c_0 = 46 then (k2 ())
 else (if c_0 = 45 then (k2 ())
 else (if c_0 = 95 then (k2 ())
 else (k1 ())))))

noncomputable def path_part (s_0 : Str) : Option Bool :=
 jn (fun (x14_1 : Bool) =>
 if x14_1 = true then (some false)
 else (gd (s_0.length ≤ 4294967296) (
 lt s_0 (fun y16_4 =>
 iter (fun (x18_5 : Int) =>
 if x18_5 < (y16_4.length : Int) then ((at_ y16_4 x18_5).bind (fun z20_6 =>
 (Sh.path_good (z20_6.toNat : Int)).bind (fun y23_7 =>
 if (!y23_7) = true then (up (some false))
 else (gd (I64 (x18_5 + 1)) (
 go (x18_5 + 1))))))
 else (up (some true))) 0)))) (fun k2 => if s_0 = [] then (k2 true)
 else (if s_0 = [46] then (k2 true)
 else (k2 (decide (s_0 = [46, 46])))))

noncomputable def path_Check (p_0 : Str) : Option Int :=
 if 64 < (p_0.length : Int) then (some 4)
 else ((Sh.strings_Split p_0 [47]).bind (fun y9_1 =>
 iter (fun (x11_2 : Int) =>
 if x11_2 < (y9_1.length : Int) then ((at_ y9_1 x11_2).bind (fun z13_3 =>
 (Sh.path_part z13_3).bind (fun y16_4 =>
 if (!y16_4) = true then (up (some 5))
 else (gd (I64 (x11_2 + 1)) (
 go (x11_2 + 1))))))
 else (up (some 0))) 0))

noncomputable def object_mode (m_0 : Int) : Option Bool :=
 jn (fun (_ : Unit) =>
 some true) (fun k1 => if m_0 = 1 then (k1 ())
 else (if m_0 = 2 then (k1 ())
 else (some false)))

noncomputable def cmp_isNaN_string (x_0 : Str) : Option Bool :=
 some (!decide (x_0 = x_0))

noncomputable def cmp_Compare_string (x_0 : Str) (y_1 : Str) : Option Int :=
 (Sh.cmp_isNaN_string x_0).bind (fun y8_1 =>
 (Sh.cmp_isNaN_string y_1).bind (fun y10_2 =>
 if y8_1 = true then (if y10_2 = true then (some 0)
 else (some (-1)))
 else (if y10_2 = true then (some 1)
 else (if (Op.bytesLess x_0 y_1) = true then (some (-1))
 else (if (!(Op.bytesLess x_0 y_1 || decide (x_0 = y_1))) = true then (some 1)
 else (some 0))))))

noncomputable def path_Compare (a_0 : Str) (b_1 : Str) : Option Int :=
 (Sh.cmp_Compare_string a_0 b_1).bind (fun y7_1 =>
 some y7_1)

noncomputable def internal_stringslite_HasPrefix (s_0 : Str) (prefix_1 : Str) : Option Bool :=
 if (prefix_1.length : Int) ≤ (s_0.length : Int) then (gd ((0 : Int) ≤ (prefix_1.length : Int) ∧ (prefix_1.length : Int) ≤ (s_0.length : Int)) (
 lt (s_0.take (prefix_1.length : Int).toNat) (fun y14_1 =>
 some (decide (y14_1 = prefix_1)))))
 else (some false)

noncomputable def strings_HasPrefix (s_0 : Str) (prefix_1 : Str) : Option Bool :=
 (Sh.internal_stringslite_HasPrefix s_0 prefix_1).bind (fun y7_1 =>
 some y7_1)

noncomputable def path_Under (p_0 : Str) (dir_1 : Str) : Option Bool :=
 if dir_1 = [] then (some (!decide (p_0 = [])))
 else (gd (I64 ((dir_1.length : Int) + 1)) (
 if ((dir_1.length : Int) + 1) < (p_0.length : Int) then (gd (dir_1.length + [47].length ≤ 9223372036854775807) (
 lt (dir_1 ++ [47]) (fun y18_1 =>
 (Sh.strings_HasPrefix p_0 y18_1).bind (fun y19_2 =>
 some y19_2))))
 else (some false)))

noncomputable def path_Clash (a_0 : Str) (b_1 : Str) : Option Bool :=
 if a_0 = [] then (some false)
 else (if b_1 = [] then (some false)
 else ((Sh.path_Under a_0 b_1).bind (fun y14_1 =>
 if y14_1 = true then (some true)
 else ((Sh.path_Under b_1 a_0).bind (fun y18_2 =>
 some y18_2)))))

noncomputable def object_item_1 (y_0 : ObjectItem) (a_1 : ObjectItem) : Option Bool :=
 (Sh.path_Clash y_0.path a_1.path).bind (fun y8_2 =>
 some y8_2)

noncomputable def slices_IndexFunc_object_Item_object_Item (s_0 : List ObjectItem) (f_1_0 : ObjectItem) : Option Int :=
 iter (fun (x8_1 : Int) =>
 if x8_1 < (s_0.length : Int) then ((at_ s_0 x8_1).bind (fun z14_2 =>
 (Sh.object_item_1 z14_2 f_1_0).bind (fun y16_3 =>
 if y16_3 = true then (up (some x8_1))
 else (gd (I64 (x8_1 + 1)) (
 go (x8_1 + 1))))))
 else (up (some (-1)))) 0

noncomputable def slices_ContainsFunc_object_Item_object_Item (s_0 : List ObjectItem) (f_1_0 : ObjectItem) : Option Bool :=
 (Sh.slices_IndexFunc_object_Item_object_Item s_0 f_1_0).bind (fun y7_1 =>
 some (decide (0 ≤ y7_1)))

noncomputable def object_item (l_0 : List ObjectItem) (i_1 : Int) : Option Int :=
 (at_ l_0 i_1).bind (fun z9_1 =>
 (Sh.path_Check z9_1.path).bind (fun y13_3 =>
 if y13_3 = 0 then (jn (fun (x17_4 : Bool) =>
 if x17_4 = true then (some 1)
 else (jn (fun (x27_7 : Bool) =>
 if x27_7 = true then (some 6)
 else (gd ((0 : Int) ≤ i_1 ∧ i_1 ≤ (l_0.length : Int)) (
 lt (l_0.take i_1.toNat) (fun y45_12 =>
 (Sh.slices_ContainsFunc_object_Item_object_Item y45_12 z9_1).bind (fun y47_13 =>
 if y47_13 = true then (some 11)
 else (some 0)))))) (fun k8 => if 0 < i_1 then (gd (I64 (i_1 - 1)) (
 (at_ l_0 (i_1 - 1)).bind (fun z34_9 =>
 (Sh.path_Compare z34_9.path z9_1.path).bind (fun y39_10 =>
 k8 (decide (0 ≤ y39_10))))))
 else (k8 false)))) (fun k5 => (Sh.object_mode z9_1.mode).bind (fun y20_6 =>
 if (!y20_6) = true then (k5 true)
 else (k5 (decide (z9_1.blob < 1))))))
 else (some y13_3)))

noncomputable def object_tree (o_0 : ObjectObjectP) : Option Err :=
 if 64 < (o_0.items.length : Int) then (some (Err.no 4))
 else (iter (fun (x13_2 : Int) =>
 if x13_2 < (o_0.items.length : Int) then ((Sh.object_item o_0.items x13_2).bind (fun y19_3 =>
 if y19_3 = 0 then (gd (I64 (x13_2 + 1)) (
 go (x13_2 + 1)))
 else (up (some (Err.fault [105, 116, 101, 109] x13_2 (Err.no y19_3))))))
 else (up (some Err.nil))) 0)

noncomputable def object_commit_1 (n_0 : Int) : Option Bool :=
 some (decide (n_0 < 1))

noncomputable def slices_IndexFunc_int_int (s_0 : List Int) : Option Int :=
 iter (fun (x8_1 : Int) =>
 if x8_1 < (s_0.length : Int) then ((at_ s_0 x8_1).bind (fun z14_2 =>
 (Sh.object_commit_1 z14_2).bind (fun y16_3 =>
 if y16_3 = true then (up (some x8_1))
 else (gd (I64 (x8_1 + 1)) (
 go (x8_1 + 1))))))
 else (up (some (-1)))) 0

noncomputable def slices_ContainsFunc_int_int (s_0 : List Int) : Option Bool :=
 (Sh.slices_IndexFunc_int_int s_0).bind (fun y7_1 =>
 some (decide (0 ≤ y7_1)))

noncomputable def object_commit (o_0 : ObjectObjectP) : Option Err :=
 jn (fun (x6_2 : Bool) =>
 if x6_2 = true then (some (Err.no 1))
 else (jn (fun (x25_5 : Bool) =>
 if x25_5 = true then (some (Err.no 6))
 else (if 256 < (o_0.text.length : Int) then (some (Err.no 4))
 else (some Err.nil))) (fun k6 => if (o_0.parents.length : Int) = 2 then ((at_ o_0.parents 0).bind (fun z31_7 =>
 (at_ o_0.parents 1).bind (fun z34_8 =>
 k6 (decide (z31_7 = z34_8)))))
 else (k6 false)))) (fun k3 => if o_0.tree < 1 then (k3 true)
 else (if 2 < (o_0.parents.length : Int) then (k3 true)
 else ((Sh.slices_ContainsFunc_int_int o_0.parents).bind (fun y17_4 =>
 if y17_4 = true then (k3 true)
 else (k3 (decide (o_0.time < 0)))))))

noncomputable def object_wrong (o_0 : ObjectObjectP) : Option Err :=
 if o_0.kind = 1 then (if 4096 < (o_0.data.length : Int) then (some (Err.no 4))
 else (some Err.nil))
 else (if o_0.kind = 2 then ((Sh.object_tree o_0).bind (fun y15_2 =>
 some y15_2))
 else (if o_0.kind = 3 then ((Sh.object_commit o_0).bind (fun y19_3 =>
 some y19_3))
 else (some (Err.no 1))))

noncomputable def object_fault (kind_0 : Int) (err_1 : Err) : Option Err :=
 some (Err.fault [111, 98, 106, 101, 99, 116] (min (max kind_0 0) 255) err_1)

noncomputable def object_Check (o_0 : ObjectObjectP) : Option Err :=
 (Sh.object_wrong o_0).bind (fun y5_2 =>
 if y5_2.isNil = true then (some Err.nil)
 else ((Sh.object_fault o_0.kind y5_2).bind (fun y11_3 =>
 some y11_3)))

noncomputable def codec_Enc_Int (e_0 : CodecEncP) (l_1 : List Int) : Option CodecEncP :=
 iter (fun ((x9_1, c0_2) : Int × List UInt8) =>
 if x9_1 < (l_1.length : Int) then ((at_ l_1 x9_1).bind (fun z11_3 =>
 iter (fun ((v6_4, c0_5) : Int × List UInt8) =>
 if 128 ≤ v6_4 then (gd ((0 : Int) ≤ (bOr .u8 (IntKind.wrap .u8 (bAnd .u64 v6_4 127)) 128) ∧ (bOr .u8 (IntKind.wrap .u8 (bAnd .u64 v6_4 127)) 128) ≤ 255) (
 lt (UInt8.ofNat (bOr .u8 (IntKind.wrap .u8 (bAnd .u64 v6_4 127)) 128).toNat) (fun u31_7 =>
 lt [u31_7] (fun y31_8 =>
 gd (c0_5.length + y31_8.length ≤ 4294967296) (
 lt (c0_5 ++ y31_8) (fun y32_10 =>
 go ((sHr .u64 v6_4 7), y32_10)))))))
 else (up (gd ((0 : Int) ≤ (IntKind.wrap .u8 v6_4) ∧ (IntKind.wrap .u8 v6_4) ≤ 255) (
 lt (UInt8.ofNat (IntKind.wrap .u8 v6_4).toNat) (fun u44_12 =>
 lt [u44_12] (fun y44_13 =>
 gd (c0_5.length + y44_13.length ≤ 4294967296) (
 lt (c0_5 ++ y44_13) (fun y45_15 =>
 gd (I64 (x9_1 + 1)) (
 go ((x9_1 + 1), y45_15)))))))))) ((bXor .u64 (sHl .u64 (IntKind.wrap .u64 z11_3) 1) (IntKind.wrap .u64 (sHr .i64 z11_3 63))), c0_2)))
 else (up (some ⟨c0_2⟩))) (0, e_0.b)

noncomputable def codec_Enc_Text (e_0 : CodecEncP) (l_1 : List Str) : Option CodecEncP :=
 iter (fun ((x8_1, c0_2) : Int × List UInt8) =>
 if x8_1 < (l_1.length : Int) then ((at_ l_1 x8_1).bind (fun z10_3 =>
 lt [(z10_3.length : Int)] (fun y15_5 =>
 (Sh.codec_Enc_Int (⟨c0_2⟩ : CodecEncP) y15_5).bind (fun y16_6 =>
 gd (y16_6.b.length + z10_3.length ≤ 4294967296) (
 lt (y16_6.b ++ z10_3) (fun y23_8 =>
 gd (I64 (x8_1 + 1)) (
 go ((x8_1 + 1), y23_8))))))))
 else (up (some ⟨c0_2⟩))) (0, e_0.b)

noncomputable def slices_Clone_byte_byte (s_0 : List UInt8) : Option (List UInt8) :=
 lt ([] : List UInt8) (fun y5_2 =>
 gd (y5_2.length + s_0.length ≤ 4294967296) (
 lt (y5_2 ++ s_0) (fun y7_4 =>
 some y7_4)))

noncomputable def slices_Clip_byte_byte (s_0 : List UInt8) : Option (List UInt8) :=
 gd ((0 : Int) ≤ (s_0.length : Int) ∧ (s_0.length : Int) ≤ (s_0.length : Int)) (
 lt (s_0.take (s_0.length : Int).toNat) (fun y8_2 =>
 some y8_2))

noncomputable def codec_Enc_Bytes (e_0 : CodecEncP) : Option (List UInt8) :=
 (Sh.slices_Clone_byte_byte e_0.b).bind (fun y7_1 =>
 (Sh.slices_Clip_byte_byte y7_1).bind (fun y8_2 =>
 some y8_2))

noncomputable def seal_Sum (parts_0 : List (List UInt8)) : Option Int :=
 iter (fun ((sum3_1, x11_2) : Int × Int) =>
 if x11_2 < (parts_0.length : Int) then ((at_ parts_0 x11_2).bind (fun z13_3 =>
 iter (fun ((sum3_4, x17_5) : Int × Int) =>
 if x17_5 < (z13_3.length : Int) then ((at_ z13_3 x17_5).bind (fun z19_6 =>
 iter (fun ((sum3_7, x25_8) : Int × Int) =>
 if x25_8 < 8 then (if (bAnd .u32 sum3_7 1) = 1 then (gd (I64 (x25_8 + 1)) (
 go ((bXor .u32 (sHr .u32 sum3_7 1) 3988292384), (x25_8 + 1))))
 else (gd (I64 (x25_8 + 1)) (
 go ((sHr .u32 sum3_7 1), (x25_8 + 1)))))
 else (up (gd (I64 (x17_5 + 1)) (
 go (sum3_7, (x17_5 + 1)))))) ((bXor .u32 sum3_4 (IntKind.wrap .u32 (z19_6.toNat : Int))), 0)))
 else (up (gd (I64 (x11_2 + 1)) (
 go (sum3_4, (x11_2 + 1)))))) (sum3_1, 0)))
 else (up (some (bNot .u32 sum3_1)))) (4294967295, 0)

noncomputable def slices_Grow_byte_byte (n_1 : Int) : Option (List UInt8) :=
 if n_1 < 0 then (none)
 else (gd (I64 (0 - 0)) (
 gd (I64 (n_1 - (0 - 0))) (
 if 0 < (n_1 - (0 - 0)) then (gd ((0 : Int) < (n_1 - (0 - 0)) ∧ (n_1 - (0 - 0)) ≤ 4294967296) (
 lt (List.replicate (n_1 - (0 - 0)).toNat (0 : UInt8)) (fun y22_2 =>
 lt ([] : List UInt8) (fun y25_4 =>
 some y25_4))))
 else (some []))))

noncomputable def slices_Concat_byte_byte (slices_0 : List (List UInt8)) : Option (List UInt8) :=
 iter (fun ((size3_1, x11_2) : Int × Int) =>
 if x11_2 < (slices_0.length : Int) then ((at_ slices_0 x11_2).bind (fun z13_3 =>
 gd (I64 (size3_1 + (z13_3.length : Int))) (
 if (size3_1 + (z13_3.length : Int)) < 0 then (none)
 else (gd (I64 (x11_2 + 1)) (
 go ((size3_1 + (z13_3.length : Int)), (x11_2 + 1)))))))
 else (up ((Sh.slices_Grow_byte_byte size3_1).bind (fun y24_4 =>
 iter (fun ((newslice6_5, x27_6) : List UInt8 × Int) =>
 if x27_6 < (slices_0.length : Int) then ((at_ slices_0 x27_6).bind (fun z29_7 =>
 gd (newslice6_5.length + z29_7.length ≤ 4294967296) (
 lt (newslice6_5 ++ z29_7) (fun y33_9 =>
 gd (I64 (x27_6 + 1)) (
 go (y33_9, (x27_6 + 1)))))))
 else (up (some newslice6_5))) (y24_4, 0))))) (0, 0)

noncomputable def seal_Put (b_0 : List UInt8) : Option (List UInt8) :=
 lt [b_0] (fun y5_2 =>
 (Sh.seal_Sum y5_2).bind (fun y6_3 =>
 gd ((0 : Int) ≤ (IntKind.wrap .u8 y6_3) ∧ (IntKind.wrap .u8 y6_3) ≤ 255) (
 lt (UInt8.ofNat (IntKind.wrap .u8 y6_3).toNat) (fun u19_5 =>
 gd ((0 : Int) ≤ (IntKind.wrap .u8 (sHr .u32 y6_3 8)) ∧ (IntKind.wrap .u8 (sHr .u32 y6_3 8)) ≤ 255) (
 lt (UInt8.ofNat (IntKind.wrap .u8 (sHr .u32 y6_3 8)).toNat) (fun u19_6 =>
 gd ((0 : Int) ≤ (IntKind.wrap .u8 (sHr .u32 y6_3 16)) ∧ (IntKind.wrap .u8 (sHr .u32 y6_3 16)) ≤ 255) (
 lt (UInt8.ofNat (IntKind.wrap .u8 (sHr .u32 y6_3 16)).toNat) (fun u19_7 =>
 gd ((0 : Int) ≤ (IntKind.wrap .u8 (sHr .u32 y6_3 24)) ∧ (IntKind.wrap .u8 (sHr .u32 y6_3 24)) ≤ 255) (
 lt (UInt8.ofNat (IntKind.wrap .u8 (sHr .u32 y6_3 24)).toNat) (fun u19_8 =>
 lt [u19_5, u19_6, u19_7, u19_8] (fun y19_9 =>
 lt [b_0, y19_9] (fun y20_11 =>
 (Sh.slices_Concat_byte_byte y20_11).bind (fun y21_12 =>
 some y21_12)))))))))))))

noncomputable def object_Encode (o_0 : ObjectObjectP) : Option (List UInt8 × Err) :=
 (Sh.object_Check o_0).bind (fun y9_2 =>
 if y9_2.isNil = true then (lt [o_0.kind] (fun y15_5 =>
 (Sh.codec_Enc_Int (⟨([] : List UInt8)⟩ : CodecEncP) y15_5).bind (fun y16_6 =>
 jn (fun (c0_7 : List UInt8) =>
 (Sh.codec_Enc_Bytes (⟨c0_7⟩ : CodecEncP)).bind (fun y71_35 =>
 (Sh.seal_Put y71_35).bind (fun y72_36 =>
 some (y72_36, Err.nil)))) (fun k8 => if o_0.kind = 1 then (lt [o_0.data] (fun y24_10 =>
 (Sh.codec_Enc_Text y16_6 y24_10).bind (fun y25_11 =>
 k8 y25_11.b)))
 else (if o_0.kind = 2 then (lt [(o_0.items.length : Int)] (fun y31_13 =>
 (Sh.codec_Enc_Int y16_6 y31_13).bind (fun y32_14 =>
 iter (fun ((x36_15, c0_16) : Int × List UInt8) =>
 if x36_15 < (o_0.items.length : Int) then ((at_ o_0.items x36_15).bind (fun z38_17 =>
 lt [z38_17.path] (fun y42_20 =>
 (Sh.codec_Enc_Text (⟨c0_16⟩ : CodecEncP) y42_20).bind (fun y43_21 =>
 lt [z38_17.mode, z38_17.blob] (fun y48_23 =>
 (Sh.codec_Enc_Int y43_21 y48_23).bind (fun y49_24 =>
 gd (I64 (x36_15 + 1)) (
 go ((x36_15 + 1), y49_24.b))))))))
 else (up (k8 c0_16))) (0, y32_14.b))))
 else (if o_0.kind = 3 then (lt [o_0.tree, (o_0.parents.length : Int)] (fun y58_26 =>
 (Sh.codec_Enc_Int y16_6 y58_26).bind (fun y59_27 =>
 (Sh.codec_Enc_Int y59_27 o_0.parents).bind (fun y62_28 =>
 lt [o_0.time] (fun y65_30 =>
 (Sh.codec_Enc_Int y62_28 y65_30).bind (fun y66_31 =>
 lt [o_0.text] (fun y69_33 =>
 (Sh.codec_Enc_Text y66_31 y69_33).bind (fun y70_34 =>
 k8 y70_34.b))))))))
 else (k8 y16_6.b)))))))
 else (some ([], y9_2)))

noncomputable def bytes_Equal (a_0 : List UInt8) (b_1 : List UInt8) : Option Bool :=
 some (decide (a_0 = b_1))

noncomputable def seal_Open (b_0 : List UInt8) : Option (List UInt8 × Err) :=
 if (b_0.length : Int) < 4 then (some ([], (Err.fault [115, 117, 109] (b_0.length : Int) (Err.no 3))))
 else (gd (I64 ((b_0.length : Int) - 4)) (
 gd ((0 : Int) ≤ ((b_0.length : Int) - 4) ∧ ((b_0.length : Int) - 4) ≤ (b_0.length : Int)) (
 lt (b_0.take ((b_0.length : Int) - 4).toNat) (fun y18_3 =>
 (Sh.seal_Put y18_3).bind (fun y20_4 =>
 (Sh.bytes_Equal y20_4 b_0).bind (fun y22_5 =>
 if (!y22_5) = true then (some ([], (Err.fault [115, 117, 109] (b_0.length : Int) (Err.no 12))))
 else ((Sh.slices_Clone_byte_byte y18_3).bind (fun y31_7 =>
 (Sh.slices_Clip_byte_byte y31_7).bind (fun y32_8 =>
 some (y32_8, Err.nil))))))))))

noncomputable def codec_Of (b_0 : List UInt8) : Option CodecDecP :=
 (Sh.slices_Clone_byte_byte b_0).bind (fun y4_1 =>
 some ⟨y4_1, 0, Err.nil⟩)

noncomputable def codec_Dec_uint (d_0 : CodecDecP) : Option (Int × Int × CodecDecP) :=
 iter (fun ((v4_1, x7_2) : Int × Int) =>
 if x7_2 < 10 then (gd (I64 (d_0.at_ + x7_2)) (
 if (d_0.b.length : Int) ≤ (d_0.at_ + x7_2) then (up (some (0, 3, ⟨d_0.b, d_0.at_, d_0.err⟩)))
 else (gd (I64 (d_0.at_ + x7_2)) (
 (at_ d_0.b (d_0.at_ + x7_2)).bind (fun z32_3 =>
 jn (fun (_ : Unit) =>
 gd (I64 (7 * x7_2)) (
 gd ((0 : Int) ≤ (7 * x7_2)) (
 if (z32_3.toNat : Int) < 128 then (gd (I64 (x7_2 + 1)) (
 gd (I64 (d_0.at_ + (x7_2 + 1))) (
 up (some ((bOr .u64 v4_1 (sHl .u64 (IntKind.wrap .u64 (bAnd .u8 (z32_3.toNat : Int) 127)) (7 * x7_2))), 0, ⟨d_0.b, (d_0.at_ + (x7_2 + 1)), d_0.err⟩)))))
 else (gd (I64 (x7_2 + 1)) (
 go ((bOr .u64 v4_1 (sHl .u64 (IntKind.wrap .u64 (bAnd .u8 (z32_3.toNat : Int) 127)) (7 * x7_2))), (x7_2 + 1))))))) (fun k4 => if x7_2 = 9 then (if 1 < (z32_3.toNat : Int) then (up (some (0, 2, ⟨d_0.b, d_0.at_, d_0.err⟩)))
 else (if 0 < x7_2 then (if (z32_3.toNat : Int) = 0 then (up (some (0, 2, ⟨d_0.b, d_0.at_, d_0.err⟩)))
 else (k4 ()))
 else (k4 ())))
 else (if 0 < x7_2 then (if (z32_3.toNat : Int) = 0 then (up (some (0, 2, ⟨d_0.b, d_0.at_, d_0.err⟩)))
 else (k4 ()))
 else (k4 ()))))))))
 else (up (some (0, 2, ⟨d_0.b, d_0.at_, d_0.err⟩)))) (0, 0)

noncomputable def codec_Dec_fail (d_0 : CodecDecP) (at_1 : Int) (e_2 : Int) : Option CodecDecP :=
 some ⟨d_0.b, d_0.at_, (Err.fault [98, 121, 116, 101] at_1 (Err.no e_2))⟩

noncomputable def codec_Dec_Int (d_0 : CodecDecP) : Option (Int × CodecDecP) :=
 if d_0.err.isNil = true then ((Sh.codec_Dec_uint d_0).bind (fun y17_1 =>
 if y17_1.2.1 = 0 then (some ((bXor .i64 (IntKind.wrap .i64 (sHr .u64 y17_1.1 1)) (IntKind.wrap .i64 (0 - (IntKind.wrap .i64 (bAnd .u64 y17_1.1 1))))), ⟨y17_1.2.2.b, y17_1.2.2.at_, y17_1.2.2.err⟩))
 else ((Sh.codec_Dec_fail y17_1.2.2 d_0.at_ y17_1.2.1).bind (fun y25_2 =>
 some (0, ⟨y25_2.b, y25_2.at_, y25_2.err⟩)))))
 else (some (0, ⟨d_0.b, d_0.at_, d_0.err⟩))

noncomputable def codec_Dec_Text (d_0 : CodecDecP) : Option (Str × CodecDecP) :=
 (Sh.codec_Dec_Int d_0).bind (fun y11_1 =>
 if y11_1.2.err.isNil = true then (if y11_1.1 < 0 then ((Sh.codec_Dec_fail y11_1.2 d_0.at_ 2).bind (fun y23_2 =>
 some ([], ⟨y23_2.b, y23_2.at_, y23_2.err⟩)))
 else (gd (I64 ((y11_1.2.b.length : Int) - y11_1.2.at_)) (
 if ((y11_1.2.b.length : Int) - y11_1.2.at_) < y11_1.1 then ((Sh.codec_Dec_fail y11_1.2 d_0.at_ 3).bind (fun y39_3 =>
 some ([], ⟨y39_3.b, y39_3.at_, y39_3.err⟩)))
 else (gd (I64 (y11_1.2.at_ + y11_1.1)) (
 gd ((0 : Int) ≤ y11_1.2.at_ ∧ y11_1.2.at_ ≤ (y11_1.2.at_ + y11_1.1) ∧ (y11_1.2.at_ + y11_1.1) ≤ (y11_1.2.b.length : Int)) (
 lt ((y11_1.2.b.drop y11_1.2.at_.toNat).take ((y11_1.2.at_ + y11_1.1).toNat - y11_1.2.at_.toNat)) (fun y54_5 =>
 gd (I64 (y11_1.2.at_ + y11_1.1)) (
 some (y54_5, ⟨y11_1.2.b, (y11_1.2.at_ + y11_1.1), y11_1.2.err⟩)))))))))
 else (some ([], ⟨y11_1.2.b, y11_1.2.at_, y11_1.2.err⟩)))

noncomputable def object_reader_many (r_0 : ObjectReader) (r_0_dec : CodecDecP) : Option (Int × CodecDecP × ObjectReader) :=
 (Sh.codec_Dec_Int r_0_dec).bind (fun y8_1 =>
 jn (fun (x14_2 : Bool) =>
 if x14_2 = true then (some (0, ⟨y8_1.2.b, y8_1.2.at_, y8_1.2.err⟩, ⟨true⟩))
 else (some (y8_1.1, ⟨y8_1.2.b, y8_1.2.at_, y8_1.2.err⟩, ⟨r_0.bad⟩))) (fun k3 => if y8_1.1 < 0 then (k3 true)
 else (k3 (decide (64 < y8_1.1)))))

noncomputable def slices_Clip_object_Item_object_Item (s_0 : List ObjectItem) : Option (List ObjectItem) :=
 gd ((0 : Int) ≤ (s_0.length : Int) ∧ (s_0.length : Int) ≤ (s_0.length : Int)) (
 lt (s_0.take (s_0.length : Int).toNat) (fun y8_2 =>
 some y8_2))

noncomputable def object_reader_items (r_0 : ObjectReader) (r_0_dec : CodecDecP) : Option (List ObjectItem × CodecDecP × ObjectReader) :=
 (Sh.object_reader_many r_0 r_0_dec).bind (fun y5_1 =>
 iter (fun ((out3_2, x6_3, c0_4, c1_5, c2_6) : List ObjectItem × Int × List UInt8 × Int × Err) =>
 if x6_3 < y5_1.1 then ((Sh.codec_Dec_Text (⟨c0_4, c1_5, c2_6⟩ : CodecDecP)).bind (fun y13_7 =>
 (Sh.codec_Dec_Int y13_7.2).bind (fun y18_8 =>
 (Sh.codec_Dec_Int y18_8.2).bind (fun y23_9 =>
 lt [⟨y13_7.1, y18_8.1, y23_9.1⟩] (fun y25_11 =>
 gd (out3_2.length + y25_11.length ≤ 4294967296) (
 lt (out3_2 ++ y25_11) (fun y26_13 =>
 gd (I64 (x6_3 + 1)) (
 go (y26_13, (x6_3 + 1), y23_9.2.b, y23_9.2.at_, y23_9.2.err)))))))))
 else (up ((Sh.slices_Clip_object_Item_object_Item out3_2).bind (fun y29_14 =>
 some (y29_14, ⟨c0_4, c1_5, c2_6⟩, ⟨y5_1.2.2.bad⟩))))) ([], 0, y5_1.2.1.b, y5_1.2.1.at_, y5_1.2.1.err))

noncomputable def slices_Clip_int_int (s_0 : List Int) : Option (List Int) :=
 gd ((0 : Int) ≤ (s_0.length : Int) ∧ (s_0.length : Int) ≤ (s_0.length : Int)) (
 lt (s_0.take (s_0.length : Int).toNat) (fun y8_2 =>
 some y8_2))

noncomputable def object_reader_numbers (r_0 : ObjectReader) (r_0_dec : CodecDecP) : Option (List Int × CodecDecP × ObjectReader) :=
 (Sh.object_reader_many r_0 r_0_dec).bind (fun y5_1 =>
 iter (fun ((out3_2, x6_3, c0_4, c1_5, c2_6) : List Int × Int × List UInt8 × Int × Err) =>
 if x6_3 < y5_1.1 then ((Sh.codec_Dec_Int (⟨c0_4, c1_5, c2_6⟩ : CodecDecP)).bind (fun y13_7 =>
 lt [y13_7.1] (fun y14_9 =>
 gd (out3_2.length + y14_9.length ≤ 4294967296) (
 lt (out3_2 ++ y14_9) (fun y15_11 =>
 gd (I64 (x6_3 + 1)) (
 go (y15_11, (x6_3 + 1), y13_7.2.b, y13_7.2.at_, y13_7.2.err)))))))
 else (up ((Sh.slices_Clip_int_int out3_2).bind (fun y18_12 =>
 some (y18_12, ⟨c0_4, c1_5, c2_6⟩, ⟨y5_1.2.2.bad⟩))))) ([], 0, y5_1.2.1.b, y5_1.2.1.at_, y5_1.2.1.err))

noncomputable def object_reader_object (r_0 : ObjectReader) (r_0_dec : CodecDecP) : Option (ObjectObjectP × CodecDecP × ObjectReader) :=
 (Sh.codec_Dec_Int r_0_dec).bind (fun y8_2 =>
 if y8_2.1 = 1 then ((Sh.codec_Dec_Text y8_2.2).bind (fun y18_4 =>
 gd (y18_4.1.length ≤ 4294967296) (
 lt y18_4.1 (fun y19_6 =>
 some (⟨y8_2.1, y19_6, [], 0, [], 0, []⟩, ⟨y18_4.2.b, y18_4.2.at_, y18_4.2.err⟩, ⟨r_0.bad⟩)))))
 else (if y8_2.1 = 2 then ((Sh.object_reader_items r_0 y8_2.2).bind (fun y24_7 =>
 some (⟨y8_2.1, [], y24_7.1, 0, [], 0, []⟩, ⟨y24_7.2.1.b, y24_7.2.1.at_, y24_7.2.1.err⟩, ⟨y24_7.2.2.bad⟩)))
 else (if y8_2.1 = 3 then ((Sh.codec_Dec_Int y8_2.2).bind (fun y32_8 =>
 (Sh.object_reader_numbers r_0 y32_8.2).bind (fun y35_9 =>
 (Sh.codec_Dec_Int y35_9.2.1).bind (fun y41_10 =>
 (Sh.codec_Dec_Text y41_10.2).bind (fun y46_11 =>
 some (⟨y8_2.1, [], [], y32_8.1, y35_9.1, y41_10.1, y46_11.1⟩, ⟨y46_11.2.b, y46_11.2.at_, y46_11.2.err⟩, ⟨y35_9.2.2.bad⟩))))))
 else (some (⟨y8_2.1, [], [], 0, [], 0, []⟩, ⟨y8_2.2.b, y8_2.2.at_, y8_2.2.err⟩, ⟨r_0.bad⟩)))))

noncomputable def codec_Dec_Err (d_0 : CodecDecP) : Option Err :=
 some d_0.err

noncomputable def codec_Dec_Left (d_0 : CodecDecP) : Option Int :=
 if d_0.err.isNil = true then (gd (I64 ((d_0.b.length : Int) - d_0.at_)) (
 some ((d_0.b.length : Int) - d_0.at_)))
 else (some 0)

noncomputable def object_Decode (b_0 : List UInt8) : Option (ObjectObjectP × Err) :=
 (Sh.seal_Open b_0).bind (fun y12_2 =>
 if y12_2.2.isNil = true then ((Sh.codec_Of y12_2.1).bind (fun y20_3 =>
 (Sh.object_reader_object (⟨false⟩ : ObjectReader) y20_3).bind (fun y24_5 =>
 if y24_5.2.2.bad = true then ((Sh.object_fault 0 (Err.no 2)).bind (fun y31_7 =>
 some (⟨0, [], [], 0, [], 0, []⟩, y31_7)))
 else ((Sh.codec_Dec_Err y24_5.2.1).bind (fun y36_8 =>
 if y36_8.isNil = true then ((Sh.codec_Dec_Left y24_5.2.1).bind (fun y45_9 =>
 if 0 < y45_9 then ((Sh.object_fault 0 (Err.no 2)).bind (fun y49_10 =>
 some (⟨0, [], [], 0, [], 0, []⟩, y49_10)))
 else ((Sh.object_Encode y24_5.1).bind (fun y52_11 =>
 if y52_11.2.isNil = true then ((Sh.bytes_Equal y52_11.1 b_0).bind (fun y61_12 =>
 if (!y61_12) = true then ((Sh.object_fault 0 (Err.no 2)).bind (fun y65_13 =>
 some (⟨0, [], [], 0, [], 0, []⟩, y65_13)))
 else (some (⟨y24_5.1.kind, y24_5.1.data, y24_5.1.items, y24_5.1.tree, y24_5.1.parents, y24_5.1.time, y24_5.1.text⟩, Err.nil))))
 else (some (⟨0, [], [], 0, [], 0, []⟩, y52_11.2))))))
 else (some (⟨0, [], [], 0, [], 0, []⟩, y36_8)))))))
 else (some (⟨0, [], [], 0, [], 0, []⟩, y12_2.2)))

noncomputable def slices_Equal_object_Item_object_Item (s1_0 : List ObjectItem) (s2_1 : List ObjectItem) : Option Bool :=
 if (s1_0.length : Int) = (s2_1.length : Int) then (iter (fun (x13_1 : Int) =>
 if x13_1 < (s1_0.length : Int) then ((at_ s1_0 x13_1).bind (fun z18_2 =>
 (at_ s2_1 x13_1).bind (fun z22_3 =>
 if z18_2.path = z22_3.path ∧ z18_2.mode = z22_3.mode ∧ z18_2.blob = z22_3.blob then (gd (I64 (x13_1 + 1)) (
 go (x13_1 + 1)))
 else (up (some false)))))
 else (up (some true))) 0)
 else (some false)

noncomputable def slices_Equal_int_int (s1_0 : List Int) (s2_1 : List Int) : Option Bool :=
 if (s1_0.length : Int) = (s2_1.length : Int) then (iter (fun (x13_1 : Int) =>
 if x13_1 < (s1_0.length : Int) then ((at_ s1_0 x13_1).bind (fun z18_2 =>
 (at_ s2_1 x13_1).bind (fun z22_3 =>
 if z18_2 = z22_3 then (gd (I64 (x13_1 + 1)) (
 go (x13_1 + 1)))
 else (up (some false)))))
 else (up (some true))) 0)
 else (some false)

noncomputable def object_Same (a_0 : ObjectObjectP) (b_1 : ObjectObjectP) : Option Bool :=
 if a_0.kind = b_1.kind then (if a_0.kind = 1 then ((Sh.bytes_Equal a_0.data b_1.data).bind (fun y18_3 =>
 some y18_3))
 else (if a_0.kind = 2 then ((Sh.slices_Equal_object_Item_object_Item a_0.items b_1.items).bind (fun y25_4 =>
 some y25_4))
 else (if a_0.kind = 3 then (if a_0.tree = b_1.tree then ((Sh.slices_Equal_int_int a_0.parents b_1.parents).bind (fun y38_5 =>
 if y38_5 = true then (if a_0.time = b_1.time then (some (decide (a_0.text = b_1.text)))
 else (some false))
 else (some false)))
 else (some false))
 else (some true))))
 else (some false)

noncomputable def rectolaw7_known  : Option Bool :=
 lt [⟨[97], 1, 3⟩] (fun y9_2 =>
 (Sh.object_Encode (⟨2, [], y9_2, 0, [], 0, []⟩ : ObjectObjectP)).bind (fun y13_4 =>
 (Sh.object_Decode y13_4.1).bind (fun y18_5 =>
 (Sh.object_Encode (⟨0, [], [], 0, [], 0, []⟩ : ObjectObjectP)).bind (fun y23_7 =>
 if y13_4.2.isNil = true then (if y18_5.2.isNil = true then (if y23_7.2.isNil = true then (some false)
 else ((Sh.object_Same y18_5.1 (⟨2, [], y9_2, 0, [], 0, []⟩ : ObjectObjectP)).bind (fun y39_8 =>
 if y39_8 = true then ((Sh.object_Check (⟨2, [], y9_2, 0, [], 0, []⟩ : ObjectObjectP)).bind (fun y43_9 =>
 if y43_9.isNil = true then ((Sh.object_Same (⟨2, [], y9_2, 0, [], 0, []⟩ : ObjectObjectP) (⟨2, [], [], 0, [], 0, []⟩ : ObjectObjectP)).bind (fun y49_10 =>
 some (!y49_10)))
 else (some false)))
 else (some false))))
 else (some false))
 else (some false)))))

noncomputable def rectoref3_At (word_0 : Str) (at_1 : Int) (e_2 : Int) : Option Rectoref3WrongP :=
 lt [⟨word_0, at_1⟩] (fun y10_3 =>
 some ⟨y10_3, e_2⟩)

noncomputable def api_Errno_Error (e_0 : Int) : Option Str :=
 if e_0 = 0 then (some [111, 107])
 else (if e_0 = 1 then (some [97, 114, 103])
 else (if e_0 = 2 then (some [102, 111, 114, 109])
 else (if e_0 = 3 then (some [115, 104, 111, 114, 116])
 else (if e_0 = 4 then (some [108, 111, 110, 103])
 else (if e_0 = 5 then (some [110, 97, 109, 101])
 else (if e_0 = 6 then (some [116, 119, 105, 99, 101])
 else (if e_0 = 7 then (some [115, 116, 97, 116, 101])
 else (if e_0 = 8 then (some [100, 105, 114, 116, 121])
 else (if e_0 = 9 then (some [99, 111, 110, 102, 108, 105, 99, 116])
 else (if e_0 = 10 then (some [115, 97, 109, 101])
 else (if e_0 = 11 then (some [119, 97, 121])
 else (if e_0 = 12 then (some [115, 117, 109])
 else (if e_0 = 13 then (some [100, 111, 119, 110])
 else (if e_0 = 14 then (some [113, 117, 111, 116, 97])
 else (some [101, 114, 114, 111, 114])))))))))))))))

noncomputable def internal_strconv_small (i_0 : Int) : Option Str :=
 if i_0 < 10 then (gd (I64 (i_0 + 1)) (
 gd ((0 : Int) ≤ i_0 ∧ i_0 ≤ (i_0 + 1) ∧ (i_0 + 1) ≤ ([48, 49, 50, 51, 52, 53, 54, 55, 56, 57, 97, 98, 99, 100, 101, 102, 103, 104, 105, 106, 107, 108, 109, 110, 111, 112, 113, 114, 115, 116, 117, 118, 119, 120, 121, 122].length : Int)) (
 lt (([48, 49, 50, 51, 52, 53, 54, 55, 56, 57, 97, 98, 99, 100, 101, 102, 103, 104, 105, 106, 107, 108, 109, 110, 111, 112, 113, 114, 115, 116, 117, 118, 119, 120, 121, 122].drop i_0.toNat).take ((i_0 + 1).toNat - i_0.toNat)) (fun y8_1 =>
 some y8_1))))
 else (gd (I64 (i_0 * 2)) (
 gd (I64 (i_0 * 2)) (
 gd (I64 ((i_0 * 2) + 2)) (
 gd ((0 : Int) ≤ (i_0 * 2) ∧ (i_0 * 2) ≤ ((i_0 * 2) + 2) ∧ ((i_0 * 2) + 2) ≤ ([48, 48, 48, 49, 48, 50, 48, 51, 48, 52, 48, 53, 48, 54, 48, 55, 48, 56, 48, 57, 49, 48, 49, 49, 49, 50, 49, 51, 49, 52, 49, 53, 49, 54, 49, 55, 49, 56, 49, 57, 50, 48, 50, 49, 50, 50, 50, 51, 50, 52, 50, 53, 50, 54, 50, 55, 50, 56, 50, 57, 51, 48, 51, 49, 51, 50, 51, 51, 51, 52, 51, 53, 51, 54, 51, 55, 51, 56, 51, 57, 52, 48, 52, 49, 52, 50, 52, 51, 52, 52, 52, 53, 52, 54, 52, 55, 52, 56, 52, 57, 53, 48, 53, 49, 53, 50, 53, 51, 53, 52, 53, 53, 53, 54, 53, 55, 53, 56, 53, 57, 54, 48, 54, 49, 54, 50, 54, 51, 54, 52, 54, 53, 54, 54, 54, 55, 54, 56, 54, 57, 55, 48, 55, 49, 55, 50, 55, 51, 55, 52, 55, 53, 55, 54, 55, 55, 55, 56, 55, 57, 56, 48, 56, 49, 56, 50, 56, 51, 56, 52, 56, 53, 56, 54, 56, 55, 56, 56, 56, 57, 57, 48, 57, 49, 57, 50, 57, 51, 57, 52, 57, 53, 57, 54, 57, 55, 57, 56, 57, 57].length : Int)) (
 lt (([48, 48, 48, 49, 48, 50, 48, 51, 48, 52, 48, 53, 48, 54, 48, 55, 48, 56, 48, 57, 49, 48, 49, 49, 49, 50, 49, 51, 49, 52, 49, 53, 49, 54, 49, 55, 49, 56, 49, 57, 50, 48, 50, 49, 50, 50, 50, 51, 50, 52, 50, 53, 50, 54, 50, 55, 50, 56, 50, 57, 51, 48, 51, 49, 51, 50, 51, 51, 51, 52, 51, 53, 51, 54, 51, 55, 51, 56, 51, 57, 52, 48, 52, 49, 52, 50, 52, 51, 52, 52, 52, 53, 52, 54, 52, 55, 52, 56, 52, 57, 53, 48, 53, 49, 53, 50, 53, 51, 53, 52, 53, 53, 53, 54, 53, 55, 53, 56, 53, 57, 54, 48, 54, 49, 54, 50, 54, 51, 54, 52, 54, 53, 54, 54, 54, 55, 54, 56, 54, 57, 55, 48, 55, 49, 55, 50, 55, 51, 55, 52, 55, 53, 55, 54, 55, 55, 55, 56, 55, 57, 56, 48, 56, 49, 56, 50, 56, 51, 56, 52, 56, 53, 56, 54, 56, 55, 56, 56, 56, 57, 57, 48, 57, 49, 57, 50, 57, 51, 57, 52, 57, 53, 57, 54, 57, 55, 57, 56, 57, 57].drop (i_0 * 2).toNat).take (((i_0 * 2) + 2).toNat - (i_0 * 2).toNat)) (fun y14_2 =>
 some y14_2))))))

noncomputable def internal_strconv_FormatInt (i_0 : Int) (base_1 : Int) : Option Str :=
 if base_1 = 10 then (jn (fun (x17_1 : Bool) =>
 if x17_1 = true then ((Sh.internal_strconv_small i_0).bind (fun y19_3 =>
 some y19_3))
 else (none)) (fun k2 => if 0 ≤ i_0 then (k2 (decide (i_0 < 100)))
 else (k2 false)))
 else (none)

noncomputable def internal_strconv_Itoa (i_0 : Int) : Option Str :=
 (Sh.internal_strconv_FormatInt i_0 10).bind (fun y4_1 =>
 some y4_1)

noncomputable def strconv_Itoa (i_0 : Int) : Option Str :=
 (Sh.internal_strconv_Itoa i_0).bind (fun y4_1 =>
 some y4_1)

noncomputable def api_Fault_Error (f_0 : ApiFaultP) (E : Option Str) : Option Str :=
 if f_0.err.isNil = true then (gd (f_0.part.length + [32].length ≤ 9223372036854775807) (
 lt (f_0.part ++ [32]) (fun y12_1 =>
 (Sh.strconv_Itoa f_0.at_).bind (fun y17_2 =>
 gd (y12_1.length + y17_2.length ≤ 9223372036854775807) (
 lt (y12_1 ++ y17_2) (fun y18_3 =>
 some y18_3))))))
 else (gd (f_0.part.length + [32].length ≤ 9223372036854775807) (
 lt (f_0.part ++ [32]) (fun y23_4 =>
 (Sh.strconv_Itoa f_0.at_).bind (fun y28_5 =>
 gd (y23_4.length + y28_5.length ≤ 9223372036854775807) (
 lt (y23_4 ++ y28_5) (fun y29_6 =>
 gd (y29_6.length + [58, 32].length ≤ 9223372036854775807) (
 lt (y29_6 ++ [58, 32]) (fun y30_7 =>
 (E).bind (fun y35_8 =>
 gd (y30_7.length + y35_8.length ≤ 9223372036854775807) (
 lt (y30_7 ++ y35_8) (fun y36_9 =>
 some y36_9)))))))))))

/-- the words of an error -/
noncomputable def erText : Err → Option Str
  | .nil => none
  | .no n => Sh.api_Errno_Error n
  | .fault p a e => Sh.api_Fault_Error ⟨p, a, e⟩ (erText e)

noncomputable def rectoref3_Decimal_r (n_0 : Int) : Option Str :=
 if n_0 < 0 then (if n_0 = (-9223372036854775808) then (some [45, 57, 50, 50, 51, 51, 55, 50, 48, 51, 54, 56, 53, 52, 55, 55, 53, 56, 48, 56])
 else (gd (I64 (0 - n_0)) (
 none)))
 else (gd ((0 : Int) ≤ n_0 ∧ (10 : Int) ≠ 0) (
 gd (I64 (48 + (n_0 % 10))) (
 gd (0 ≤ (48 + (n_0 % 10)) ∧ (48 + (n_0 % 10)) ≤ 255) (
 gd ((0 : Int) ≤ (48 + (n_0 % 10)) ∧ (48 + (n_0 % 10)) ≤ 255) (
 lt (UInt8.ofNat (48 + (n_0 % 10)).toNat) (fun u16_2 =>
 lt [u16_2] (fun y16_3 =>
 iter (fun ((n0_4, s3_5) : Int × Str) =>
 if 10 ≤ n0_4 then (gd (((0 : Int) ≤ n0_4 ∧ (10 : Int) ≠ 0) ∧ I64 (n0_4 / 10)) (
 gd ((0 : Int) ≤ (n0_4 / 10) ∧ (10 : Int) ≠ 0) (
 gd (I64 (48 + ((n0_4 / 10) % 10))) (
 gd (0 ≤ (48 + ((n0_4 / 10) % 10)) ∧ (48 + ((n0_4 / 10) % 10)) ≤ 255) (
 gd ((0 : Int) ≤ (48 + ((n0_4 / 10) % 10)) ∧ (48 + ((n0_4 / 10) % 10)) ≤ 255) (
 lt (UInt8.ofNat (48 + ((n0_4 / 10) % 10)).toNat) (fun u26_7 =>
 lt [u26_7] (fun y26_8 =>
 gd (y26_8.length + s3_5.length ≤ 9223372036854775807) (
 lt (y26_8 ++ s3_5) (fun y29_9 =>
 go ((n0_4 / 10), y29_9)))))))))))
 else (up (some s3_5))) (n_0, y16_3))))))))

noncomputable def rectoref3_Decimal (n_0 : Int) : Option Str :=
 if n_0 < 0 then (if n_0 = (-9223372036854775808) then (some [45, 57, 50, 50, 51, 51, 55, 50, 48, 51, 54, 56, 53, 52, 55, 55, 53, 56, 48, 56])
 else (gd (I64 (0 - n_0)) (
 (Sh.rectoref3_Decimal_r (0 - n_0)).bind (fun y10_1 =>
 gd ([45].length + y10_1.length ≤ 9223372036854775807) (
 lt ([45] ++ y10_1) (fun y11_2 =>
 some y11_2))))))
 else (gd ((0 : Int) ≤ n_0 ∧ (10 : Int) ≠ 0) (
 gd (I64 (48 + (n_0 % 10))) (
 gd (0 ≤ (48 + (n_0 % 10)) ∧ (48 + (n_0 % 10)) ≤ 255) (
 gd ((0 : Int) ≤ (48 + (n_0 % 10)) ∧ (48 + (n_0 % 10)) ≤ 255) (
 lt (UInt8.ofNat (48 + (n_0 % 10)).toNat) (fun u16_4 =>
 lt [u16_4] (fun y16_5 =>
 iter (fun ((n0_6, s3_7) : Int × Str) =>
 if 10 ≤ n0_6 then (gd (((0 : Int) ≤ n0_6 ∧ (10 : Int) ≠ 0) ∧ I64 (n0_6 / 10)) (
 gd ((0 : Int) ≤ (n0_6 / 10) ∧ (10 : Int) ≠ 0) (
 gd (I64 (48 + ((n0_6 / 10) % 10))) (
 gd (0 ≤ (48 + ((n0_6 / 10) % 10)) ∧ (48 + ((n0_6 / 10) % 10)) ≤ 255) (
 gd ((0 : Int) ≤ (48 + ((n0_6 / 10) % 10)) ∧ (48 + ((n0_6 / 10) % 10)) ≤ 255) (
 lt (UInt8.ofNat (48 + ((n0_6 / 10) % 10)).toNat) (fun u26_9 =>
 lt [u26_9] (fun y26_10 =>
 gd (y26_10.length + s3_7.length ≤ 9223372036854775807) (
 lt (y26_10 ++ s3_7) (fun y29_11 =>
 go ((n0_6 / 10), y29_11)))))))))))
 else (up (some s3_7))) (n_0, y16_5))))))))

noncomputable def rectoref3_Word (e_0 : Int) : Option Str :=
 lt [[111, 107], [97, 114, 103], [102, 111, 114, 109], [115, 104, 111, 114, 116], [108, 111, 110, 103], [110, 97, 109, 101], [116, 119, 105, 99, 101], [115, 116, 97, 116, 101], [100, 105, 114, 116, 121], [99, 111, 110, 102, 108, 105, 99, 116], [115, 97, 109, 101], [119, 97, 121], [115, 117, 109], [100, 111, 119, 110], [113, 117, 111, 116, 97]] (fun y4_2 =>
 jn (fun (x12_3 : Bool) =>
 if x12_3 = true then (some [101, 114, 114, 111, 114])
 else ((at_ y4_2 e_0).bind (fun z15_5 =>
 some z15_5))) (fun k4 => if e_0 < 0 then (k4 true)
 else (k4 (decide ((y4_2.length : Int) ≤ e_0)))))

noncomputable def rectoref3_Words (w_0 : Rectoref3WrongP) : Option Str :=
 iter (fun ((s3_2, i4_3) : Str × Int) =>
 if i4_3 < (w_0.parts.length : Int) then ((at_ w_0.parts i4_3).bind (fun z16_4 =>
 gd (s3_2.length + z16_4.word.length ≤ 9223372036854775807) (
 lt (s3_2 ++ z16_4.word) (fun y19_5 =>
 gd (y19_5.length + [32].length ≤ 9223372036854775807) (
 lt (y19_5 ++ [32]) (fun y20_6 =>
 (at_ w_0.parts i4_3).bind (fun z24_7 =>
 (Sh.rectoref3_Decimal z24_7.at_).bind (fun y27_8 =>
 gd (y20_6.length + y27_8.length ≤ 9223372036854775807) (
 lt (y20_6 ++ y27_8) (fun y28_9 =>
 gd (y28_9.length + [58, 32].length ≤ 9223372036854775807) (
 lt (y28_9 ++ [58, 32]) (fun y29_10 =>
 gd (I64 (i4_3 + 1)) (
 go (y29_10, (i4_3 + 1)))))))))))))))
 else (up ((Sh.rectoref3_Word w_0.err).bind (fun y33_11 =>
 gd (s3_2.length + y33_11.length ≤ 9223372036854775807) (
 lt (s3_2 ++ y33_11) (fun y34_12 =>
 some y34_12)))))) ([], 0)

noncomputable def rectolaw2_Tells (err_0 : Err) (w_1 : Rectoref3WrongP) : Option Bool :=
 if w_1.err = 0 then (some (decide (err_0.isNil = true)))
 else (jn (fun (x27_2 : Bool) =>
 if x27_2 = true then (some false)
 else (if (w_1.parts.length : Int) = 0 then (some true)
 else ((match err_0 with
 | .fault ep7 ea7 ez7 => ((at_ w_1.parts 0).bind (fun z46_8 =>
 if ep7 = z46_8.word then ((at_ w_1.parts 0).bind (fun z57_9 =>
 some (decide (ea7 = z57_9.at_))))
 else (some false)))
 | _ => none)))) (fun k3 => if err_0.isNil = true then (k3 true)
 else ((Sh.erText err_0).bind (fun y15_4 =>
 (Sh.rectoref3_Words w_1).bind (fun y17_5 =>
 if y15_4 = y17_5 then (k3 (!decide (endNo err_0 = some w_1.err)))
 else (k3 true))))))

noncomputable def rectolaw7_ObjectLimits (bytes_0 : Int) (items_1 : Int) (text_2 : Int) : Option Bool :=
 (Sh.rectolaw7_known).bind (fun y13_1 =>
 if (!y13_1) = true then (some false)
 else (jn (fun (x36_2 : Bool) =>
 if x36_2 = true then (some true)
 else (iter (fun ((i8_5, c2_6) : Int × List ObjectItem) =>
 if i8_5 < items_1 then (gd (((0 : Int) ≤ i8_5 ∧ (10 : Int) ≠ 0) ∧ I64 (i8_5 / 10)) (
 gd (I64 (97 + (i8_5 / 10))) (
 gd (0 ≤ (97 + (i8_5 / 10)) ∧ (97 + (i8_5 / 10)) ≤ 255) (
 gd ((0 : Int) ≤ i8_5 ∧ (10 : Int) ≠ 0) (
 gd (I64 (48 + (i8_5 % 10))) (
 gd (0 ≤ (48 + (i8_5 % 10)) ∧ (48 + (i8_5 % 10)) ≤ 255) (
 gd ((0 : Int) ≤ (97 + (i8_5 / 10)) ∧ (97 + (i8_5 / 10)) ≤ 255) (
 lt (UInt8.ofNat (97 + (i8_5 / 10)).toNat) (fun u53_8 =>
 gd ((0 : Int) ≤ (48 + (i8_5 % 10)) ∧ (48 + (i8_5 % 10)) ≤ 255) (
 lt (UInt8.ofNat (48 + (i8_5 % 10)).toNat) (fun u53_9 =>
 lt [u53_8, u53_9] (fun y53_10 =>
 gd ([102].length + y53_10.length ≤ 9223372036854775807) (
 lt ([102] ++ y53_10) (fun y55_11 =>
 lt [⟨y55_11, 1, 1⟩] (fun y57_13 =>
 gd (c2_6.length + y57_13.length ≤ 4294967296) (
 lt (c2_6 ++ y57_13) (fun y58_15 =>
 gd (I64 (i8_5 + 1)) (
 go ((i8_5 + 1), y58_15)))))))))))))))))))
 else (up (gd ((0 : Int) ≤ bytes_0 ∧ bytes_0 ≤ 4294967296) (
 lt (List.replicate bytes_0.toNat (0 : UInt8)) (fun y61_16 =>
 gd ((0 : Int) ≤ text_2 ∧ text_2 ≤ 4294967296) (
 lt (List.replicate text_2.toNat (0 : UInt8)) (fun y65_17 =>
 lt [⟨1, y61_16, [], 0, [], 0, []⟩, ⟨2, [], c2_6, 0, [], 0, []⟩, ⟨3, [], [], 1, [], 0, y65_17⟩] (fun y68_21 =>
 lt [(decide (4096 < bytes_0)), (decide (64 < items_1)), (decide (256 < text_2))] (fun y75_23 =>
 iter (fun (i11_24 : Int) =>
 if i11_24 < 3 then (jn (fun ((c0_26, c1_27) : List Rectoref3Part × Int) =>
 (at_ y68_21 i11_24).bind (fun z90_31 =>
 (Sh.object_Check z90_31).bind (fun y92_32 =>
 (Sh.rectolaw2_Tells y92_32 (⟨c0_26, c1_27⟩ : Rectoref3WrongP)).bind (fun y94_33 =>
 if (!y94_33) = true then (up (some false))
 else (gd (I64 (i11_24 + 1)) (
 go (i11_24 + 1))))))) (fun k28 => (at_ y75_23 i11_24).bind (fun z83_29 =>
 if z83_29 = true then (gd (I64 (i11_24 + 1)) (
 (Sh.rectoref3_At [111, 98, 106, 101, 99, 116] (i11_24 + 1) 4).bind (fun y87_30 =>
 k28 (y87_30.parts, y87_30.err))))
 else (k28 (([] : List Rectoref3Part), 0)))))
 else (up (some true))) 0))))))))) (0, ([] : List ObjectItem)))) (fun k3 => if bytes_0 < 4090 then (k3 true)
 else (if 4100 < bytes_0 then (k3 true)
 else (if items_1 < 60 then (k3 true)
 else (if 68 < items_1 then (k3 true)
 else (if text_2 < 250 then (k3 true)
 else (k3 (decide (260 < text_2))))))))))

end Go.S.Sh
end

section
/-
  DERIVED: THE SHELF's CONTRACTS AT THIS DUMP, IN PLAIN WORDS (tools/lay-plain.mjs out of 'TryzShelf.lean', which tools/lay-shelf.mjs wrote): THE SAME DECLARATIONS UNDER THE SAME NAMES: 'import', 'namespace', 'open', 'def', 'theorem' AND NOTHING ELSE: no command of the shelf's: FOR A HAND-IN. Each laying: the table of numbers ('.._ren') and one theorem, a field a fact of the dump's own or the kernel's comparison; each contract: ONE APPLICATION.
-/
namespace Go.Proofs
open Go.Shelf
def Tryz.lays156_ren : Go.Shelf.Ren := ⟨fun | 156 => 92 | 165 => 164 | 166 => 165 | 169 => 166 | 240 => 210 | 241 => 211 | 276 => 248 | 277 => 249 | n => n, fun | 31 => 42 | 9 => 9 | 3 => 3 | 4 => 4 | 0 => 0 | 20 => 20 | 72 => 224 | 76 => 66 | 70 => 222 | 37 => 23 | 75 => 38 | 127 => 279 | 164 => 188 | 5 => 5 | 80 => 96 | n => n, fun | n => n⟩
theorem Tryz.lays156 : Go.Proofs.Lays.n156 Tryz.prog Tryz.lays156_ren := {
  mixed := by kernel_rfl
  f156 := Tryz.func92.trans (congrArg some (by kernel_rfl))
  f165 := Tryz.func164.trans (congrArg some (by kernel_rfl))
  f166 := Tryz.func165.trans (congrArg some (by kernel_rfl))
  f169 := Tryz.func166.trans (congrArg some (by kernel_rfl))
  f240 := Tryz.func210.trans (congrArg some (by kernel_rfl))
  f241 := Tryz.func211.trans (congrArg some (by kernel_rfl))
  f276 := Tryz.func248.trans (congrArg some (by kernel_rfl))
  f277 := Tryz.func249.trans (congrArg some (by kernel_rfl))
  t0 := Tryz.underlying0
  a0 := Tryz.isAgg0
  z0 := Tryz.sizeOf0
  v0 := Tryz.zeroValue0
  t3 := Tryz.underlying3
  a3 := Tryz.isAgg3
  z3 := Tryz.sizeOf3
  v3 := Tryz.zeroValue3
  t4 := Tryz.underlying4
  a4 := Tryz.isAgg4
  z4 := Tryz.sizeOf4
  v4 := Tryz.zeroValue4
  t9 := Tryz.underlying9
  a9 := Tryz.isAgg9
  z9 := Tryz.sizeOf9
  v9 := Tryz.zeroValue9
  t20 := Tryz.underlying20
  a20 := Tryz.isAgg20
  z20 := Tryz.sizeOf20
  v20 := Tryz.zeroValue20
  t31 := Tryz.underlying42
  a31 := Tryz.isAgg42
  z31 := Tryz.sizeOf42
  v31 := Tryz.zeroValue42
  t37 := Tryz.underlying23
  a37 := Tryz.isAgg23
  z37 := Tryz.sizeOf23
  v37 := Tryz.zeroValue23
  t70 := Tryz.underlying222
  a70 := Tryz.isAgg222
  z70 := Tryz.sizeOf222
  v70 := Tryz.zeroValue222
  t72 := Tryz.underlying224
  a72 := Tryz.isAgg224
  z72 := Tryz.sizeOf224
  v72 := Tryz.zeroValue224
  t75 := Tryz.underlying38
  a75 := Tryz.isAgg38
  z75 := Tryz.sizeOf38
  v75 := Tryz.zeroValue38
  t76 := Tryz.underlying66
  a76 := Tryz.isAgg66
  z76 := Tryz.sizeOf66
  v76 := Tryz.zeroValue66
  t127 := Tryz.underlying279
  a127 := Tryz.isAgg279
  z127 := Tryz.sizeOf279
  v127 := Tryz.zeroValue279
  t164 := Tryz.underlying188
  a164 := Tryz.isAgg188
  z164 := Tryz.sizeOf188
  v164 := Tryz.zeroValue188 }
theorem Tryz.Builder_Extra_156 : Builder.Extra Tryz.prog Tryz.lays156_ren := {
  sizeBuilder := by kernel_rfl
  liesBuilder := by kernel_rfl
  t5 := Tryz.underlying5
  a5 := Tryz.isAgg5
  z5 := Tryz.sizeOf5
  v5 := Tryz.zeroValue5
  infoByte := by kernel_rfl
  cellsByte := by kernel_rfl
  sizeByte := by kernel_rfl
  neB5 := by decide }
open Go.RowKit in
/-- No element: the empty string; the world is as it was. (Whatever the slice's address and capacity: a nil slice too.) (LAID: no walk: one application.) -/
theorem Tryz.strings_Join_none (a : Option Addr) (c : Nat) (sep : ByteArray) (w : World) :
    Calls Tryz.prog 92 #[.slice a 0 c, .string sep] w fun e w' => e = .returned (.string ⟨#[]⟩) ∧ w' = w := Any.strings_Join_none Tryz.lays156 Tryz.Builder_Extra_156 a c sep w
open Go.RowKit in
/-- strings.Join: "Join concatenates the elements of its first argument to create a single string. The separator string sep is placed between elements in the resulting string.": HOWEVER MANY ELEMENTS. Below the heap's end the world is as it was. (LAID: no walk: one application.) -/
theorem Tryz.strings_Join (bk o c : Nat) (xs : List ByteArray) (sep : ByteArray) (w : World) (hcells : ∀ (j : Nat) x, xs[j]? = some x → w.cell? ⟨bk, o + j, none⟩ = some (.string x)) (hbk : bk < w.heap.size) (hN : xs.length ≤ 140737488355328) (hcap : xs.length ≤ c) (hlen : (Lib.join (xs.map (·.data.toList)) sep.data.toList).length ≤ 140737488355328) :
    Calls Tryz.prog 92 #[.slice (some ⟨bk, o, none⟩) xs.length c, .string sep] w fun e w' => e = .returned (.string ⟨(Lib.join (xs.map (·.data.toList)) sep.data.toList).toArray⟩) ∧ Below w.heap.size w w' := Any.strings_Join Tryz.lays156 Tryz.Builder_Extra_156 bk o c xs sep w hcells hbk hN hcap hlen
def Tryz.laysM171_ren : Go.Shelf.Ren := ⟨fun | 171 => 91 | 243 => 163 | 246 => 209 | 283 => 244 | 284 => 245 | 285 => 246 | 286 => 247 | 129 => 204 | 317 => 274 | 318 => 275 | 319 => 276 | 320 => 277 | 337 => 288 | 338 => 289 | n => n, fun | 3 => 3 | 9 => 9 | 2 => 2 | 4 => 4 | 171 => 305 | 0 => 0 | 53 => 239 | 37 => 23 | 5 => 5 | 173 => 307 | 212 => 327 | 51 => 240 | 20 => 20 | 213 => 328 | 46 => 57 | 232 => 340 | 233 => 341 | n => n, fun | 17 => 2 | 18 => 5 | 19 => 6 | n => n⟩
theorem Tryz.laysM171 : Go.Proofs.LaysM.n171 Tryz.prog Tryz.laysM171_ren := {
  mixed := by kernel_rfl
  f129 := Tryz.func204.trans (congrArg some (by kernel_rfl))
  f171 := Tryz.func91.trans (congrArg some (by kernel_rfl))
  f243 := Tryz.func163.trans (congrArg some (by kernel_rfl))
  f246 := Tryz.func209.trans (congrArg some (by kernel_rfl))
  f283 := Tryz.func244.trans (congrArg some (by kernel_rfl))
  f284 := Tryz.func245.trans (congrArg some (by kernel_rfl))
  f285 := Tryz.func246.trans (congrArg some (by kernel_rfl))
  f286 := Tryz.func247.trans (congrArg some (by kernel_rfl))
  f317 := Tryz.func274.trans (congrArg some (by kernel_rfl))
  f318 := Tryz.func275.trans (congrArg some (by kernel_rfl))
  f319 := Tryz.func276.trans (congrArg some (by kernel_rfl))
  f320 := Tryz.func277.trans (congrArg some (by kernel_rfl))
  f337 := Tryz.func288.trans (congrArg some (by kernel_rfl))
  f338 := Tryz.func289.trans (congrArg some (by kernel_rfl))
  t0 := Tryz.underlying0
  a0 := Tryz.isAgg0
  z0 := Tryz.sizeOf0
  v0 := Tryz.zeroValue0
  t2 := Tryz.underlying2
  a2 := Tryz.isAgg2
  z2 := Tryz.sizeOf2
  v2 := Tryz.zeroValue2
  t3 := Tryz.underlying3
  a3 := Tryz.isAgg3
  z3 := Tryz.sizeOf3
  v3 := Tryz.zeroValue3
  t4 := Tryz.underlying4
  a4 := Tryz.isAgg4
  z4 := Tryz.sizeOf4
  v4 := Tryz.zeroValue4
  t5 := Tryz.underlying5
  a5 := Tryz.isAgg5
  z5 := Tryz.sizeOf5
  v5 := Tryz.zeroValue5
  t9 := Tryz.underlying9
  a9 := Tryz.isAgg9
  z9 := Tryz.sizeOf9
  v9 := Tryz.zeroValue9
  t20 := Tryz.underlying20
  a20 := Tryz.isAgg20
  z20 := Tryz.sizeOf20
  v20 := Tryz.zeroValue20
  t37 := Tryz.underlying23
  a37 := Tryz.isAgg23
  z37 := Tryz.sizeOf23
  v37 := Tryz.zeroValue23
  t46 := Tryz.underlying57
  a46 := Tryz.isAgg57
  z46 := Tryz.sizeOf57
  v46 := Tryz.zeroValue57
  t51 := Tryz.underlying240
  a51 := Tryz.isAgg240
  z51 := Tryz.sizeOf240
  v51 := Tryz.zeroValue240
  t53 := Tryz.underlying239
  a53 := Tryz.isAgg239
  z53 := Tryz.sizeOf239
  v53 := Tryz.zeroValue239
  t171 := Tryz.underlying305
  a171 := Tryz.isAgg305
  z171 := Tryz.sizeOf305
  v171 := Tryz.zeroValue305
  t173 := Tryz.underlying307
  a173 := Tryz.isAgg307
  z173 := Tryz.sizeOf307
  v173 := Tryz.zeroValue307
  t212 := Tryz.underlying327
  a212 := Tryz.isAgg327
  z212 := Tryz.sizeOf327
  v212 := Tryz.zeroValue327
  t213 := Tryz.underlying328
  a213 := Tryz.isAgg328
  z213 := Tryz.sizeOf328
  t232 := Tryz.underlying340
  a232 := Tryz.isAgg340
  z232 := Tryz.sizeOf340
  v232 := Tryz.zeroValue340
  t233 := Tryz.underlying341
  a233 := Tryz.isAgg341
  z233 := Tryz.sizeOf341
  v233 := Tryz.zeroValue341
  g17 := by kernel_rfl
  g18 := by kernel_rfl
  g19 := by kernel_rfl
  i0 := by kernel_rfl
  i2 := by kernel_rfl
  i3 := by kernel_rfl
  i4 := by kernel_rfl
  i5 := by kernel_rfl
  i9 := by kernel_rfl
  i20 := by kernel_rfl
  i37 := by kernel_rfl
  i46 := by kernel_rfl
  i51 := by kernel_rfl
  i53 := by kernel_rfl
  i171 := by kernel_rfl
  i173 := by kernel_rfl
  i212 := by kernel_rfl
  i232 := by kernel_rfl
  i233 := by kernel_rfl
  m17 := by kernel_rfl
  m18 := by kernel_rfl
  m19 := by kernel_rfl }
open Go.RowKit Go.Sort Go.Lib in
/-- strconv.Itoa: "Itoa is equivalent to FormatInt(int64(i), 10).": i's DECIMAL NUMERAL ('Lib.itoa': a '-' where i is negative, then the digits), FOR EVERY int. The world behind the call: the world before it, new blocks behind the heap (the library's 'var a [24]byte'), draws. (LAID: no walk: one application.) -/
theorem Tryz.strconv_Itoa (n : Int) (h0 : -9223372036854775808 ≤ n) (h1 : n ≤ 9223372036854775807) (w : World) (htab : Lib.TabIs Tryz.prog w "internal/strconv.uint64pow10" .u64 Lib.pow10Tab) :
    Calls Tryz.prog 91 #[.int .i64 n] w fun e w' => e = .returned (.string ⟨(Lib.itoa n).toArray⟩) ∧ ∃ k os, w' = grow (w.drewN k) os := Any.strconv_Itoa Tryz.laysM171 n h0 h1 w htab
def Tryz.lays190_ren : Go.Shelf.Ren := ⟨fun | 190 => 65 | 125 => 145 | 258 => 144 | 128 => 203 | 129 => 204 | 302 => 194 | 303 => 195 | 304 => 196 | 305 => 197 | 306 => 198 | 307 => 199 | 308 => 200 | 309 => 201 | 310 => 202 | 333 => 236 | 329 => 237 | 330 => 238 | 334 => 239 | 335 => 240 | 336 => 233 | 344 => 264 | n => n, fun | 31 => 42 | 9 => 9 | 3 => 3 | 46 => 57 | 0 => 0 | 51 => 240 | 53 => 239 | 4 => 4 | 183 => 270 | 182 => 269 | 131 => 128 | 5 => 5 | 218 => 297 | 222 => 301 | 228 => 317 | 229 => 318 | n => n, fun | n => n⟩
theorem Tryz.lays190 : Go.Proofs.Lays.n190 Tryz.prog Tryz.lays190_ren := {
  mixed := by kernel_rfl
  f125 := Tryz.func145.trans (congrArg some (by kernel_rfl))
  f128 := Tryz.func203.trans (congrArg some (by kernel_rfl))
  f129 := Tryz.func204.trans (congrArg some (by kernel_rfl))
  f190 := Tryz.func65.trans (congrArg some (by kernel_rfl))
  f258 := Tryz.func144.trans (congrArg some (by kernel_rfl))
  f302 := Tryz.func194.trans (congrArg some (by kernel_rfl))
  f303 := Tryz.func195.trans (congrArg some (by kernel_rfl))
  f304 := Tryz.func196.trans (congrArg some (by kernel_rfl))
  f305 := Tryz.func197.trans (congrArg some (by kernel_rfl))
  f306 := Tryz.func198.trans (congrArg some (by kernel_rfl))
  f307 := Tryz.func199.trans (congrArg some (by kernel_rfl))
  f308 := Tryz.func200.trans (congrArg some (by kernel_rfl))
  f309 := Tryz.func201.trans (congrArg some (by kernel_rfl))
  f310 := Tryz.func202.trans (congrArg some (by kernel_rfl))
  f329 := Tryz.func237.trans (congrArg some (by kernel_rfl))
  f330 := Tryz.func238.trans (congrArg some (by kernel_rfl))
  f333 := Tryz.func236.trans (congrArg some (by kernel_rfl))
  f334 := Tryz.func239.trans (congrArg some (by kernel_rfl))
  f335 := Tryz.func240.trans (congrArg some (by kernel_rfl))
  f336 := Tryz.func233.trans (congrArg some (by kernel_rfl))
  f344 := Tryz.func264.trans (congrArg some (by kernel_rfl))
  t0 := Tryz.underlying0
  a0 := Tryz.isAgg0
  z0 := Tryz.sizeOf0
  v0 := Tryz.zeroValue0
  t3 := Tryz.underlying3
  a3 := Tryz.isAgg3
  z3 := Tryz.sizeOf3
  v3 := Tryz.zeroValue3
  t4 := Tryz.underlying4
  a4 := Tryz.isAgg4
  z4 := Tryz.sizeOf4
  v4 := Tryz.zeroValue4
  t5 := Tryz.underlying5
  a5 := Tryz.isAgg5
  z5 := Tryz.sizeOf5
  v5 := Tryz.zeroValue5
  t9 := Tryz.underlying9
  a9 := Tryz.isAgg9
  z9 := Tryz.sizeOf9
  v9 := Tryz.zeroValue9
  t31 := Tryz.underlying42
  a31 := Tryz.isAgg42
  z31 := Tryz.sizeOf42
  v31 := Tryz.zeroValue42
  t46 := Tryz.underlying57
  a46 := Tryz.isAgg57
  z46 := Tryz.sizeOf57
  v46 := Tryz.zeroValue57
  t51 := Tryz.underlying240
  a51 := Tryz.isAgg240
  z51 := Tryz.sizeOf240
  v51 := Tryz.zeroValue240
  t53 := Tryz.underlying239
  a53 := Tryz.isAgg239
  z53 := Tryz.sizeOf239
  v53 := Tryz.zeroValue239
  t131 := Tryz.underlying128
  a131 := Tryz.isAgg128
  z131 := Tryz.sizeOf128
  v131 := Tryz.zeroValue128
  t182 := Tryz.underlying269
  a182 := Tryz.isAgg269
  z182 := Tryz.sizeOf269
  v182 := Tryz.zeroValue269
  t183 := Tryz.underlying270
  a183 := Tryz.isAgg270
  z183 := Tryz.sizeOf270
  v183 := Tryz.zeroValue270
  t218 := Tryz.underlying297
  a218 := Tryz.isAgg297
  z218 := Tryz.sizeOf297
  v218 := Tryz.zeroValue297
  t222 := Tryz.underlying301
  a222 := Tryz.isAgg301
  z222 := Tryz.sizeOf301
  v222 := Tryz.zeroValue301
  t228 := Tryz.underlying317
  a228 := Tryz.isAgg317
  z228 := Tryz.sizeOf317
  v228 := Tryz.zeroValue317
  t229 := Tryz.underlying318
  a229 := Tryz.isAgg318
  z229 := Tryz.sizeOf318
  v229 := Tryz.zeroValue318 }
open Go.Sort Go.RowKit in
theorem Tryz.slices_Sort_string (blk off cap : Nat) (ss : List (List UInt8)) (w : World) (hH : Holds encStr w blk off ss.toArray) (hblk : blk < w.heap.size) (hsz : ss.length < 4611686018427387904) :
    Calls Tryz.prog 65 #[.slice (some ⟨blk, off, none⟩) ss.length cap] w fun e w' =>
      e = .returned (.tuple #[]) ∧ ∃ n os, w' = grow (putRow encStr (Sort.ahead w n) blk off (ss.mergeSort fun x y => decide (x ≤ y)).toArray) os := Any.slices_Sort_string Tryz.lays190 blk off cap ss w hH hblk hsz
def Tryz.lays194_ren : Go.Shelf.Ren := ⟨fun | 194 => 67 | n => n, fun | 31 => 42 | 9 => 9 | 3 => 3 | 4 => 4 | 0 => 0 | n => n, fun | n => n⟩
theorem Tryz.lays194 : Go.Proofs.Lays.n194 Tryz.prog Tryz.lays194_ren := {
  mixed := by kernel_rfl
  f194 := Tryz.func67.trans (congrArg some (by kernel_rfl))
  t0 := Tryz.underlying0
  a0 := Tryz.isAgg0
  z0 := Tryz.sizeOf0
  v0 := Tryz.zeroValue0
  t3 := Tryz.underlying3
  a3 := Tryz.isAgg3
  z3 := Tryz.sizeOf3
  v3 := Tryz.zeroValue3
  t4 := Tryz.underlying4
  a4 := Tryz.isAgg4
  z4 := Tryz.sizeOf4
  v4 := Tryz.zeroValue4
  t9 := Tryz.underlying9
  a9 := Tryz.isAgg9
  z9 := Tryz.sizeOf9
  v9 := Tryz.zeroValue9
  t31 := Tryz.underlying42
  a31 := Tryz.isAgg42
  z31 := Tryz.sizeOf42
  v31 := Tryz.zeroValue42 }
open Go.RowKit Go.Lib Go.Sort in
/-- slices.Compact at []string, over an array: the library's two loops are walked. (LAID: no walk: one application.) -/
theorem Tryz.slices_Compact_string_arr (blk off cap : Nat) (d : Array (List UInt8)) (w : World) (hH : Holds encStr w blk off d) (hsz : d.size ≤ 9223372036854775807) (hcap : d.size ≤ cap) :
    Calls Tryz.prog 67 #[.slice (some ⟨blk, off, none⟩) d.size cap] w fun e w' => e = .returned (.slice (some ⟨blk, off, none⟩) (compactUpTo d d.size).length cap) ∧ ∃ q, w' = putRow encStr (Sort.ahead w q) blk off (compactUpTo d d.size ++ List.replicate (d.size - (compactUpTo d d.size).length) []).toArray := Any.slices_Compact_string_arr Tryz.lays194 blk off cap d w hH hsz hcap
open Go.RowKit Go.Lib Go.Sort in
/-- slices.Compact at []string: "Compact replaces consecutive runs of equal elements with a single copy. This is like the uniq command found on Unix. Compact modifies the contents of the slice s and returns the modified slice, which may have a smaller length. Compact zeroes the elements between the new length and the original length. The result preserves the nilness of s.": IT RETURNS THE SLICE CUT TO 'Lib.compact zs'; ITS CELLS HOLD 'Lib.compact zs', THEN ZERO VALUES up to the old length; all else is as it was, but for the count of draws. IN THE WORDS OF slices.Sort's CONTRACT ('Holds', 'putRow'): so the everyday 'slices.Sort(xs); xs = slices.Compact(xs)' goes from the one contract to the other. It asks 'zs.length ≤ cap' (every slice's: the reslicing 's[:k]' looks at it). Length 0, nil: '.._empty'. (LAID: no walk: one application.) -/
theorem Tryz.slices_Compact_string (blk off cap : Nat) (zs : List (List UInt8)) (w : World) (hH : Holds encStr w blk off zs.toArray) (hsz : zs.length ≤ 9223372036854775807) (hcap : zs.length ≤ cap) :
    Calls Tryz.prog 67 #[.slice (some ⟨blk, off, none⟩) zs.length cap] w fun e w' => e = .returned (.slice (some ⟨blk, off, none⟩) (Lib.compact zs).length cap) ∧ ∃ q, w' = putRow encStr (Sort.ahead w q) blk off (Lib.compact zs ++ List.replicate (zs.length - (Lib.compact zs).length) []).toArray := Any.slices_Compact_string Tryz.lays194 blk off cap zs w hH hsz hcap
open Go.RowKit Go.Lib Go.Sort in
/-- The same at a slice of length 0, a nil one too: it comes back as it is. (LAID: no walk: one application.) -/
theorem Tryz.slices_Compact_string_empty (a : Option Addr) (cap : Nat) (w : World) :
    Calls Tryz.prog 67 #[.slice a 0 cap] w fun e w' => e = .returned (.slice a 0 cap) ∧ w' = w := Any.slices_Compact_string_empty Tryz.lays194 a cap w
open Go.RowKit Go.Sort in
/-- .. and plain. (LAID: no walk: one application.) -/
theorem Tryz.slices_Sort_string_none (p : Option Addr) (cap : Nat) (w : World) :
    Calls Tryz.prog 65 #[.slice p 0 cap] w fun e w' => e = .returned (.tuple #[]) ∧ w' = w := Any.slices_Sort_string_none Tryz.lays190 p cap w
end Go.Proofs
end

section
namespace Go.V
open Go.RowKit
open Go.S hiding Str
instance : ErNo := ⟨99, 100⟩
/-- the variables as they were laid -/
@[reducible] def Gl : Mo := (GBlk 0 #[.iface 248 (.agg #[.pointer (some ⟨7, 38, none⟩)])])
instance : Dat IndexEntry := ⟨6, fun x => [str x.path, i64 x.stage, i64 x.mode, str x.data, i64 x.time, i64 x.size], fun _ => rfl, fun _ u h => by simp only [List.mem_cons, List.not_mem_nil, or_false] at h; rcases h with rfl | rfl | rfl | rfl | rfl | rfl <;> first | rfl | exact Er.one _, fun _ => Mo.tt⟩
instance : Flat IndexEntry := ⟨fun _ => rfl⟩
instance : Dat ObjectItem := ⟨3, fun x => [str x.path, i64 x.mode, i64 x.blob], fun _ => rfl, fun _ u h => by simp only [List.mem_cons, List.not_mem_nil, or_false] at h; rcases h with rfl | rfl | rfl <;> first | rfl | exact Er.one _, fun _ => Mo.tt⟩
instance : Flat ObjectItem := ⟨fun _ => rfl⟩
structure ObjectObject where
  kind : Int
  data : Sv UInt8
  items : Sv ObjectItem
  tree : Int
  parents : Sv Int
  time : Int
  text : Str
@[reducible] def ObjectObject.m (x : ObjectObject) : Mo := (x.data.ok.and (x.items.ok.and x.parents.ok))
def ObjectObject.pl (x : ObjectObject) : ObjectObjectP := ⟨x.kind, x.data.l, x.items.l, x.tree, x.parents.l, x.time, x.text⟩
instance : Dat ObjectObject := ⟨7, fun x => [i64 x.kind, x.data.val, x.items.val, i64 x.tree, x.parents.val, i64 x.time, str x.text], fun _ => rfl, fun _ u h => by simp only [List.mem_cons, List.not_mem_nil, or_false] at h; rcases h with rfl | rfl | rfl | rfl | rfl | rfl | rfl <;> first | rfl | exact Er.one _, ObjectObject.m⟩
structure CodecEnc where
  b : Sv UInt8
@[reducible] def CodecEnc.m (x : CodecEnc) : Mo := x.b.ok
def CodecEnc.pl (x : CodecEnc) : CodecEncP := ⟨x.b.l⟩
instance : Dat CodecEnc := ⟨1, fun x => [x.b.val], fun _ => rfl, fun _ u h => by simp only [List.mem_cons, List.not_mem_nil, or_false] at h; rcases h with rfl <;> first | rfl | exact Er.one _, CodecEnc.m⟩
structure CodecDec where
  b : Sv UInt8
  at_ : Int
  err : Er
@[reducible] def CodecDec.m (x : CodecDec) : Mo := (x.b.ok.and x.err.ok)
def CodecDec.pl (x : CodecDec) : CodecDecP := ⟨x.b.l, x.at_, x.err.pl⟩
instance : Dat CodecDec := ⟨3, fun x => [x.b.val, i64 x.at_, x.err.val], fun _ => rfl, fun _ u h => by simp only [List.mem_cons, List.not_mem_nil, or_false] at h; rcases h with rfl | rfl | rfl <;> first | rfl | exact Er.one _, CodecDec.m⟩
instance : Dat Rectoref3Part := ⟨2, fun x => [str x.word, i64 x.at_], fun _ => rfl, fun _ u h => by simp only [List.mem_cons, List.not_mem_nil, or_false] at h; rcases h with rfl | rfl <;> first | rfl | exact Er.one _, fun _ => Mo.tt⟩
instance : Flat Rectoref3Part := ⟨fun _ => rfl⟩
structure Rectoref3Wrong where
  parts : Sv Rectoref3Part
  err : Int
@[reducible] def Rectoref3Wrong.m (x : Rectoref3Wrong) : Mo := x.parts.ok
def Rectoref3Wrong.pl (x : Rectoref3Wrong) : Rectoref3WrongP := ⟨x.parts.l, x.err⟩
instance : Dat Rectoref3Wrong := ⟨2, fun x => [x.parts.val, i64 x.err], fun _ => rfl, fun _ u h => by simp only [List.mem_cons, List.not_mem_nil, or_false] at h; rcases h with rfl | rfl <;> first | rfl | exact Er.one _, Rectoref3Wrong.m⟩
structure ApiFault where
  part : Str
  at_ : Int
  err : Er
@[reducible] def ApiFault.m (x : ApiFault) : Mo := x.err.ok
def ApiFault.pl (x : ApiFault) : ApiFaultP := ⟨x.part, x.at_, x.err.pl⟩
instance : Dat ApiFault := ⟨3, fun x => [str x.part, i64 x.at_, x.err.val], fun _ => rfl, fun _ u h => by simp only [List.mem_cons, List.not_mem_nil, or_false] at h; rcases h with rfl | rfl | rfl <;> first | rfl | exact Er.one _, ApiFault.m⟩
end Go.V
end
