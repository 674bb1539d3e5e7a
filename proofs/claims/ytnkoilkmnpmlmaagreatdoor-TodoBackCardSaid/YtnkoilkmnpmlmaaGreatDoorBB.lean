/- Part of the proofs of: Any steps in words and back, and whether they can be done on any commits, and the first that can not: as the document has it, for any steps and any graph. -/
import Derived.Laws.StructEq
import Derived.Laws.Tables
import Derived.Laws.Cover2
import Derived.Lib.ConvBytes
import Derived.Lib.Bytealg
import Derived.Lib.AppendZeros
import Derived.Lib.ItoaNum
import Derived.Lib.LaidTab
import Derived.LaidSub
import Derived.Sort.Grow
import Derived.Deep.Draws
import Derived.Stop.Asserts
import Derived.LaidEql
import Derived.OneCell
import Derived.Below
import Derived.Shelf.LaysM
import Derived.Shelf.Strconv.Itoa3
import Derived.Test.YtnkoilkmnpmlmaaGreatDoorProg
import Derived.Test.YtnkoilkmnpmlmaaGreatDoorBA
set_option linter.unusedVariables false
set_option linter.unusedSimpArgs false
set_option linter.unusedSectionVars false
section
namespace Go.V
open Go.RowKit Go.S
section
variable {P : Program} {N : Nat} {c : Cx} {ops : Array Oper} {Q Q1 : Exit → Act → World → Prop} {rest : List Oper} {o : Oper} {ρ : Env} {M M' M1 M0 : Mo} {E E1 F A : Ow} {v u : Value} {X S T R : Type}
  {d : Nat} {od : Option Nat} {ty : TypeId} {pos : String} {after : Array Edge} {gd : Option (Nat × Bool)} {x y : Operand} {t t' e tb : TypeId} {f : FuncId} {args : List Value} {k k' : IntKind} {m n : Int}
theorem q_steql {xs ys : Array Value} {b : Bool} (hg : P.eqGuardType P.depth t = false) (h : ∀ w, (Op.equalIn 10000 t (.agg xs) (.agg ys)).run P w = .ok b w) (e1 : ρ.ev x = some (.agg xs)) (e2 : ρ.ev y = some (.agg ys)) : Qt P N c ⟨od, .binOp .eql t x y t', ty, pos, after, gd⟩ (.bool b) ρ M E := q_bin e1 e2 (fun w => run_eqGuard_agg w .eql t x y xs ys hg) fun w => by
  rw [run_eql_struct, h w]; rfl
theorem q_stneq {xs ys : Array Value} {b : Bool} (hg : P.eqGuardType P.depth t = false) (h : ∀ w, (Op.equalIn 10000 t (.agg xs) (.agg ys)).run P w = .ok b w) (e1 : ρ.ev x = some (.agg xs)) (e2 : ρ.ev y = some (.agg ys)) : Qt P N c ⟨od, .binOp .neq t x y t', ty, pos, after, gd⟩ (.bool (!b)) ρ M E := q_bin e1 e2 (fun w => run_eqGuard_agg w .neq t x y xs ys hg) fun w => by
  rw [run_neq_struct, h w]; rfl
theorem q_slss {s s' : List UInt8} (e1 : ρ.ev x = some (str s)) (e2 : ρ.ev y = some (str s')) : Qt P N c ⟨od, .binOp .lss t x y t', ty, pos, after, gd⟩ (.bool (Op.bytesLess s s')) ρ M E := q_bin e1 e2 (guard_str _ _ _) fun w => by
  simp [binOp, Op.stringOp, go_sem]
theorem q_sgeq {s s' : List UInt8} (e1 : ρ.ev x = some (str s)) (e2 : ρ.ev y = some (str s')) : Qt P N c ⟨od, .binOp .geq t x y t', ty, pos, after, gd⟩ (.bool (!Op.bytesLess s s')) ρ M E := q_bin e1 e2 (guard_str _ _ _) fun w => by
  simp [binOp, Op.stringOp, go_sem]
theorem q_sgtr {s s' : List UInt8} (e1 : ρ.ev x = some (str s)) (e2 : ρ.ev y = some (str s')) : Qt P N c ⟨od, .binOp .gtr t x y t', ty, pos, after, gd⟩ (.bool (!(Op.bytesLess s s' || decide (s = s')))) ρ M E := q_bin e1 e2 (guard_str _ _ _) fun w => by
  have h : (s == s') = decide (s = s') := beq_dec _ _
  simp [binOp, Op.stringOp, go_sem, h]
theorem q_sleq {s s' : List UInt8} (e1 : ρ.ev x = some (str s)) (e2 : ρ.ev y = some (str s')) : Qt P N c ⟨od, .binOp .leq t x y t', ty, pos, after, gd⟩ (.bool (Op.bytesLess s s' || decide (s = s'))) ρ M E := q_bin e1 e2 (guard_str _ _ _) fun w => by
  have h : (s == s') = decide (s = s') := beq_dec _ _
  simp [binOp, Op.stringOp, go_sem, h]
end
end Go.V
end

section
namespace Go.S
open Go
/-- the first place of a byte in a text; how often it is there -/
noncomputable def ixB (s : List UInt8) (c : Int) : Int := Lib.indexByte s c.toNat.toUInt8
noncomputable def cntB (s : List UInt8) (c : Int) : Int := (Lib.countByte s c.toNat.toUInt8 : Nat)
end Go.S
namespace Go.V
open Go.RowKit Go.S
section
variable {P : Program} {N : Nat} {c : Cx} {ops : Array Oper} {Q Q1 : Exit → Act → World → Prop} {rest : List Oper} {o : Oper} {ρ : Env} {M M' M1 M0 : Mo} {E E1 F A : Ow} {v u : Value} {X S T R : Type}
  {d : Nat} {od : Option Nat} {ty : TypeId} {pos : String} {after : Array Edge} {gd : Option (Nat × Bool)} {x y : Operand} {t t' e tb : TypeId} {f : FuncId} {args : List Value} {k k' : IntKind} {m n : Int}
/-- a text's bytes in a row of their own, which is never turned -/
theorem VL.s2b {s : Str} {u : TypeDesc} (hs : P.underlying t = some u) (hu : P.underlying t' = some (.slice e)) (he : P.underlying e = some (.int .u8)) (e1 : ρ.ev x = some (str s)) (hlen : s.length ≤ 4294967296) (hd : d < N)
    (kk : ∀ q : Sv UInt8, q.l = s → VL P N c ops Q rest ((d, q.val) :: ρ) (q.ok.and M) E) : VL P N c ops Q (⟨some d, .convert t t' x, ty, pos, after, none⟩ :: rest) ρ M E := by
  refine VL.newM (S := Sv UInt8) (val := Sv.val) (φ := fun q => q.l = s) (M2 := fun q => q.ok) (fun a w h g m l => ?_) hd kk
  have hr := Lib.run_convert_string_bytes (P := P) w t t' e ⟨⟨s⟩⟩ hs hu he
  have hsz : (⟨⟨s⟩⟩ : ByteArray).size = s.length := rfl
  have hmax : s.length ≤ maxLen := by unfold maxLen; omega
  rw [hsz] at hr
  refine ⟨⟨some ⟨w.heap.size, 0, none⟩, grownCap w s.length 0 e, s⟩, Lib.bytesWorld w e ⟨⟨s⟩⟩, .cells (Lib.bytesCells w e ⟨⟨s⟩⟩) e ((Lib.bytesCells w e ⟨⟨s⟩⟩).size, (Lib.bytesCells w e ⟨⟨s⟩⟩).size + 1), ?_, rfl, ⟨?_, ?_, ?_, by rw [Lib.bytesWorld_size]; omega, fun j hj => Lib.bytesWorld_at_old w e _ j hj⟩, Lib.bytesWorld_at_new w e _, ?_⟩
  · simp only [execOp, g.ev e1, Sem.run_bind, hr, Result.andThen_ok, Sem.run_pure]; rfl
  · simp [Lib.bytesWorld, World.freeze, World.alloc, World.drew, -World.alloc_eq, -World.drew_eq]
  · simp [Lib.bytesWorld, World.freeze, World.alloc, World.drew, -World.alloc_eq, -World.drew_eq]
  · simp [Lib.bytesWorld, World.freeze, World.alloc, World.drew, -World.alloc_eq, -World.drew_eq]
  · have hblk : (h.join (Hp.one w.heap.size (.cells (Lib.bytesCells w e ⟨⟨s⟩⟩) e ((Lib.bytesCells w e ⟨⟨s⟩⟩).size, (Lib.bytesCells w e ⟨⟨s⟩⟩).size + 1)))) w.heap.size = some (.cells (Lib.bytesCells w e ⟨⟨s⟩⟩) e ((Lib.bytesCells w e ⟨⟨s⟩⟩).size, (Lib.bytesCells w e ⟨⟨s⟩⟩).size + 1)) := by
      have hh : h w.heap.size = none := by
        cases hb : h w.heap.size with
        | none => rfl
        | some p => have := (Array.getElem?_eq_some_iff.1 (l _ p hb)).1; omega
      unfold Hp.join
      rw [hh, Hp.one_self]
    refine ⟨grownCap_ge _ _ _ _, grownCap_le_maxLen _ _ _ _ hmax, fun _ => by simp [Sv.b, Sv.o], fun i z hz => ?_, fun _ _ => trivial⟩
    intro j v hj
    have hd1 : Dat.sz UInt8 = 1 := rfl
    have hj0 : j = 0 := by
      cases j with
      | zero => rfl
      | succ j => simp [Dat.enc] at hj
    subst hj0
    have hv : v = .int .u8 z.toNat := by simp [Dat.enc] at hj; exact hj.symm
    subst hv
    have hi := (List.getElem?_eq_some_iff.1 hz).1
    simp only at hz hi
    have hzz := (List.getElem?_eq_some_iff.1 hz).2
    have hcell : (Lib.bytesCells w e ⟨⟨s⟩⟩)[i]? = some (.int .u8 z.toNat) := by
      simp only [Lib.bytesCells, Array.getElem?_append]
      simp [hi, hzz]
    show (h.join _).cell w.heap.size (0 + i * 1 + 0) = _
    unfold Hp.cell
    rw [hblk]
    simpa using hcell
/-- a function of the library's that the model has in place -/
theorem q_extern {fn : Func} {ex : Array Value → Sem Value} {xs : List Operand} {vs : List Value} {ts : Array TypeId} (hf : P.funcs[f]? = some fn) (hname : (fn.name == "runtime.NumGoroutine") = false) (hb : fn.body.isNone = true) (hn : Extern.findNext fn = none) (he : Extern.find fn = some ex) (ha : ρ.evs xs = some vs) (h : ∀ w : World, (ex vs.toArray).run P w = .ok v w) :
    Qt P N c ⟨od, .call { callee := .value (.func f), args := xs.toArray, argTypes := ts }, ty, pos, after, gd⟩ v ρ M E := q_ext ha fun w => by
  rw [run_callFunc_extern hf hname hb hn he, h w]; rfl
theorem x_ixS {P : Program} (s : Str) (c : Int) (w : World) : (Extern.BytealgIndexByte.indexByte #[str s, .int .u8 c]).run P w = .ok (i64 (ixB s c)) w := Lib.run_indexByteString ⟨⟨s⟩⟩ c w
theorem x_cntS {P : Program} (s : Str) (c : Int) (w : World) : (Extern.BytealgCount.count #[str s, .int .u8 c]).run P w = .ok (i64 (cntB s c)) w := Lib.run_countString ⟨⟨s⟩⟩ c w
theorem x_cmpS {P : Program} (s r : Str) (w : World) : (Extern.BytealgCompare.compare #[str s, str r]).run P w = .ok (i64 (Lib.compareBytes s r)) w := Lib.run_compareString ⟨⟨s⟩⟩ ⟨⟨r⟩⟩ w
/-- a function, with what it has caught -/
theorem q_mkfn {g : FuncId} {xs : List Operand} {vs : List Value} (ha : ρ.evs xs = some vs) : Qt P N c ⟨od, .makeFunc (.func g) #[] xs.toArray, ty, pos, after, gd⟩ (.func (.func g) #[] vs.toArray) ρ M E := Qt.of_run fun a w h _ => by
  have e := h.evs ha
  subst e
  simp [execOp, Instr.makeFunc]
theorem gOp_of_VLg {K : Act → World → Prop} {a : Act} {w : World} {i : Nat} {op : Op} (hk : ops[i]? = some ⟨od, op, ty, pos, after, gd⟩) (hw : Region.wanted (⟨od, op, ty, pos, after, gd⟩ : Oper) (yielded ops a.tmps) = true) (h : wpList P ops (fun e a w => e = .normal ∧ K a w) [⟨od, op, ty, pos, after, gd⟩] a w) : gOp P ops i K a w := by
  unfold gOp
  simp only [hk]
  unfold wpList at h
  rw [if_pos hw] at h
  rw [if_pos hw]
  rcases h with h | ⟨_, a', w', h, _⟩
  · unfold Oper.wp at h
    generalize (execOp a.eval ⟨od, op, ty, pos, after, gd⟩).run P w = rr at *
    cases rr with
    | ok n w' =>
      cases n <;> simp only [Oper.upon, gUpon] at h ⊢
      case value u => exact h.2
      case skip => exact h.2
      case defer dd => exact h.2
      case enter f args =>
        refine h.mono fun e w'' he => ?_
        cases e with
        | returned v => exact ⟨v, rfl, he.2⟩
        | panicked ch => cases he.1
        | outgrown => obtain ⟨_, _, h, _⟩ := he; cases h
      case row row args => exact Rows.mono h fun v w'' he => he.2
    | halt x w' =>
      cases x <;> simp only [Oper.upon] at h
      case panic => cases h.1
  · cases h
/-- an operation of any kind, with a guard that holds, the only one that can come up now -/
theorem VD.oneG {r : List (Nat × Bool)} {D : List (Nat × Value)} {R : List (Nat × Value) → Act → World → Prop} {op : Op} {i j s : Nat} {b : Bool} (hk : ops[i]? = some ⟨od, op, ty, pos, after, some (j, b)⟩) (hj : (ops[j]?).bind (·.dst) = some s) (hb : ρ.get s = some (.bool b))
    (h : VL P N c ops (toR P N c ops fun a w => (∀ p ∈ strike ops i D, YI P ops p a w) ∧ wpD P ops R r (strike ops i D) a w) [⟨od, op, ty, pos, after, some (j, b)⟩] ρ M E) : VDR P N c ops R ((i, false) :: r) D ρ M E := fun a w x y =>
  ⟨_, hk, fun w1 g => gOp_of_VLg hk (by rw [wanted_of hj x hb _ rfl]; simp) (h a w1 x (y.grow g))⟩
/-- .. whose guard does not hold -/
theorem VD.oneN {r : List (Nat × Bool)} {D D' : List (Nat × Value)} {R : List (Nat × Value) → Act → World → Prop} {op : Op} {i j s : Nat} {b b' : Bool} (hk : ops[i]? = some ⟨some d, op, ty, pos, after, some (j, b)⟩) (hj : (ops[j]?).bind (·.dst) = some s) (hb : ρ.get s = some (.bool b')) (hw : (b' == b) = false) (hd : d < N)
    (hD : strike ops i D = D') (hp : Pend P N c ops D' ((d, undef) :: ρ) M E) (h : VDR P N c ops R r D' ((d, undef) :: ρ) M E) : VDR P N c ops R ((i, false) :: r) D ρ M E := fun a w x y => by
  subst hD
  refine ⟨_, hk, fun w1 g => ?_⟩
  have hn : Region.wanted (⟨some d, op, ty, pos, after, some (j, b)⟩ : Oper) (yielded ops a.tmps) = false := by rw [wanted_of hj x hb _ rfl, hw]
  unfold gOp
  simp only [hk]
  rw [if_neg (by rw [hn]; decide)]
  exact ⟨hp _ _ (x.put hd undef) (y.grow g), h _ _ (x.put hd undef) (y.grow g)⟩
/-- nothing of a slice of one's own: it is grown from there -/
theorem VL.own0 {α : Type} [Dat α] {s : Sv α} (hu : P.underlying t = some (.slice e)) (hz : (P.info? e).map (·.size) = some (Dat.sz α)) (e0 : ρ.ev x = some s.val) (e1 : ρ.ev y = some (i64 0)) (hE : Foc E (s.own e) F) (hd : d < N)
    (kk : ∀ q : Sv α, q.l = [] → VL P N c ops Q rest ((d, q.val) :: ρ) M (Ow.star (q.own e) F)) : VL P N c ops Q (⟨some d, .slice t x none (some y) none, ty, pos, after, none⟩ :: rest) ρ M E :=
  VL.q (q_cut (lo' := none) (hi' := some 0) (mx' := none) 0 0 s.c hu hz e0 rfl (by simp [optv, e1]) rfl rfl rfl (by simp) (fun h => by cases h) (Nat.le_refl _) (Nat.zero_le _) (Nat.le_refl _) (Nat.zero_le _)) hd (VL.mono (fun _ h => h) (fun z hz => by
    obtain ⟨a, b, d1, d2, ha, hb⟩ := hE z hz
    refine ⟨a, b, d1, d2, ?_, hb⟩
    obtain ⟨q1, q2, q3⟩ := ha
    refine ⟨Nat.zero_le _, by simpa [Sv.sub] using q2, ?_⟩
    rcases q3 with ⟨w1, w2⟩ | ⟨g, cur, w1, w2, w3, _⟩
    · exact .inl ⟨rfl, by simp [Sv.sub, w2]⟩
    · refine .inr ⟨g, cur, ?_, w2, by simpa [Sv.sub] using w3, by simp [Sv.sub]⟩
      simp [Sv.sub, w1, Addr.add]) (kk (s.sub 0 0 s.c) rfl))
/-- zeros behind nil: a new slice of one's own -/
theorem VL.appZ {α : Type} [Dat α] {xs : List Operand} {k1 kn : IntKind} {tn : TypeId} {z : α} {bt : Nat} (hu : P.underlying t = some (.slice e)) (htn : P.underlying tn = some (.int kn)) (hi : ((P.info? e).map fun i => (i.size, i.bytes, i.zero.map fun z => z.cells.toList)) = some (Dat.sz α, bt, some (Dat.enc z))) (hpos : 0 < Dat.sz α)
    (ha : ρ.evs xs = some [.slice none 0 0, .int k1 n]) (h0 : 0 < n) (hm : n ≤ 4294967296) (hb : bt ≤ 32768) (hd : d < N)
    (k : ∀ s : Sv α, s.l = List.replicate n.toNat z → VL P N c ops Q rest ((d, s.val) :: ρ) M (Ow.star (s.own e) E)) : VL P N c ops Q (⟨some d, .call { callee := .builtin .append, args := xs.toArray, argTypes := #[t, tn] }, ty, pos, after, none⟩ :: rest) ρ M E := by
  cases hj : P.info? e with
  | none => rw [hj] at hi; cases hi
  | some i =>
    rw [hj] at hi
    simp only [Option.map_some, Option.some.injEq, Prod.mk.injEq] at hi
    obtain ⟨h1, h2, h3⟩ := hi
    cases hz : i.zero with
    | none => rw [hz] at h3; cases h3
    | some zv =>
      rw [hz] at h3
      have h3' : zv.cells.toList = Dat.enc z := by simpa using h3
      have hzs : zv.cells.size = Dat.sz α := by rw [← Array.length_toList, h3', Dat.len]
      have hn : (n.toNat : Int) = n := by omega
      have hmul : n.toNat * i.bytes ≤ 4294967296 * 32768 := Nat.mul_le_mul (by omega) (by omega)
      refine VL.newO (S := Sv α) (val := Sv.val) (φ := fun s => s.l = List.replicate n.toNat z) (A := fun s => s.own e) (fun a w g => ?_) hd k
      have hr := Lib.run_append_nil_zeros (P := P) w t tn ty e i zv k1 kn hu htn hj hz n.toNat (by omega) (by omega) (by omega) (Nat.le_trans hmul (by decide))
      rw [hn] at hr
      have hge := grownCap_ge w n.toNat 0 e
      have hle := grownCap_le_maxLen w n.toNat 0 e (by unfold maxLen; omega)
      refine ⟨⟨some ⟨w.heap.size, 0, none⟩, grownCap w n.toNat 0 e, List.replicate n.toNat z⟩, _, .cells (Builtin.zeroCells zv.cells n.toNat ++ Builtin.zeroCells zv.cells (grownCap w n.toNat 0 e - n.toNat)) e, ?_, rfl, (Gr.drew w).trans (Gr.alloc w.drew _), heap_alloc_new w.drew _, ?_⟩
      · simp only [execOp, resolve, List.map_toArray, g.evs ha, Sem.run_bind, Sem.run_pure, Result.andThen_ok, invoke, builtin, hr, Sv.val, List.length_replicate]
      · refine ⟨by simpa using hge, hle, .inr ⟨_, _, rfl, Hp.one_self _ _, ?_, ?_⟩⟩
        · simp only [Array.size_append, size_zeroCells, hzs]
          rw [← Nat.add_mul]
          congr 1
          omega
        · have e1 : (List.replicate n.toNat z).length * Dat.sz α = (Builtin.zeroCells zv.cells n.toNat).toList.length := by rw [List.length_replicate, Array.length_toList, size_zeroCells, hzs]
          rw [Array.toList_append, e1, List.take_left]
          apply List.ext_getElem?
          intro j
          by_cases hlt : j < n.toNat * Dat.sz α
          · have hmod : j % Dat.sz α < Dat.sz α := Nat.mod_lt _ hpos
            have hdiv : j / Dat.sz α < n.toNat := (Nat.div_lt_iff_lt_mul hpos).2 hlt
            have hjj : j / Dat.sz α * Dat.sz α + j % Dat.sz α = j := by rw [Nat.mul_comm]; exact Nat.div_add_mod j _
            have hx : (List.replicate n.toNat z)[j / Dat.sz α]? = some z := by simp [hdiv]
            obtain ⟨q, hq⟩ : ∃ q, (Dat.enc z)[j % Dat.sz α]? = some q := ⟨_, List.getElem?_eq_getElem (by rw [Dat.len]; exact hmod)⟩
            have := flatMap_get (α := α) Dat.len _ _ _ hx _ _ hq
            rw [hjj] at this
            rw [this]
            have hlt' : j < n.toNat * zv.cells.size := by rw [hzs]; exact hlt
            simp only [Builtin.zeroCells, Array.toList_map, List.getElem?_map, Array.toList_range, List.getElem?_range hlt', Option.map_some]
            rw [← h3'] at hq
            rw [Array.getElem?_toList] at hq
            simp [getElem!_def, hzs, hq]
          · rw [List.getElem?_eq_none (by rw [Array.length_toList, size_zeroCells, hzs]; omega), List.getElem?_eq_none (by rw [enc_len, List.length_replicate]; omega)]
theorem VD.oneU {r : List (Nat × Bool)} {D D' : List (Nat × Value)} {R : List (Nat × Value) → Act → World → Prop} {op : Op} {i j s : Nat} {b : Bool} (hk : ops[i]? = some ⟨some d, op, ty, pos, after, some (j, b)⟩) (hj : (ops[j]?).bind (·.dst) = some s) (hb : ρ.get s = some undef) (hd : d < N)
    (hD : strike ops i D = D') (hp : Pend P N c ops D' ((d, undef) :: ρ) M E) (h : VDR P N c ops R r D' ((d, undef) :: ρ) M E) : VDR P N c ops R ((i, false) :: r) D ρ M E := fun a w x y => by
  subst hD
  refine ⟨_, hk, fun w1 g => ?_⟩
  have hn : Region.wanted (⟨some d, op, ty, pos, after, some (j, b)⟩ : Oper) (yielded ops a.tmps) = false := by rw [wanted_un hj x hb _ rfl]
  unfold gOp
  simp only [hk]
  rw [if_neg (by rw [hn]; decide)]
  exact ⟨hp _ _ (x.put hd undef) (y.grow g), h _ _ (x.put hd undef) (y.grow g)⟩
theorem q_cap0 {xs : List Operand} (ht : P.underlying t = some (.slice e)) (h : ρ.evs xs = some [.slice none 0 0]) : Qt P N c ⟨od, .call { callee := .builtin .cap, args := xs.toArray, argTypes := #[t] }, ty, pos, after, gd⟩ (i64 0) ρ M E := Qt.of_run fun a w g _ => by
  simp only [execOp, resolve, List.map_toArray, g.evs h]
  simp [go_sem, invoke, builtin, Builtin.cap_, run_underlying ht, goInt]
theorem q_nil0 (α : Type) [Dat α] (hu : P.underlying t = some (.slice e)) (hz : (P.info? e).map (·.size) = some (Dat.sz α)) (e0 : ρ.ev x = some (.slice none 0 0)) (e1 : ρ.ev y = some (i64 0)) : Qt P N c ⟨od, .slice t x none (some y) none, ty, pos, after, gd⟩ (.slice none 0 0) ρ M E :=
  q_cut (s := (⟨none, 0, []⟩ : Sv α)) (lo' := none) (hi' := some 0) (mx' := none) 0 0 0 hu hz e0 rfl (by simp [optv, e1]) rfl rfl rfl rfl (fun _ => rfl) (Nat.le_refl _) (Nat.le_refl _) (Nat.le_refl _) (Nat.le_refl _)
theorem Er.one [ErNo] (z : Er) : z.val.oneCell' = true := by cases z <;> rfl
theorem wr_i32 (u : UInt8) : IntKind.i32.wrap (u.toNat : Int) = (u.toNat : Int) := IntWalk.i32_in _ (by have := u.toNat_lt; omega)
theorem q_min {m n : Int} {xs : List Operand} {ts : Array TypeId} (h : ρ.evs xs = some [i64 m, i64 n]) : Qt P N c ⟨od, .call { callee := .builtin .min, args := xs.toArray, argTypes := ts }, ty, pos, after, gd⟩ (i64 (min m n)) ρ M E := Qt.of_run fun a w g _ => by
  simp only [execOp, resolve, List.map_toArray, g.evs h]
  have hr : (Builtin.min_ ts ty #[i64 m, i64 n]).run P w = .ok (i64 (min m n)) w := by
    simp [Builtin.min_, Builtin.min2, go_sem]
    rw [Int.min_def]
    split <;> split <;> first | rfl | (congr 1; omega) | omega | (simp; omega)
  simp [go_sem, invoke, builtin, hr]
instance (priority := 700) UpdB.inn (A F G : Ow) (b : Nat) (cs : List Value) (T : TypeId) [i : UpdB A b cs T G] : UpdB (Ow.star A F) b cs T (Ow.star G F) := ⟨Foc.inn i.out⟩
theorem VL.reB (b : Nat) {cs cs' : List Value} {T : TypeId} [j : UpdB E b cs T F] (h : cs = cs') (k : VL P N c ops Q rest ρ M (Ow.star (Blk b cs' T) F)) : VL P N c ops Q rest ρ M E := by
  subst h
  exact VL.mono (fun _ x => x) (fun z hz => j.out z hz) k
theorem VD.reB {r : List (Nat × Bool)} {D : List (Nat × Value)} (b : Nat) {cs cs' : List Value} {T : TypeId} [j : UpdB E b cs T F] (h : cs = cs') (k : VD P N c ops Q r D ρ M (Ow.star (Blk b cs' T) F)) : VD P N c ops Q r D ρ M E := by
  subst h
  exact fun a w g st => k a w g (st.mono (fun _ x => x) (fun z hz => j.out z hz))
theorem VC.reB {p : Code} (b : Nat) {cs cs' : List Value} {T : TypeId} [j : UpdB E b cs T F] (h : cs = cs') (k : VC P N c Q p ρ M (Ow.star (Blk b cs' T) F)) : VC P N c Q p ρ M E := by
  subst h
  exact fun a w g st => k a w g (st.mono (fun _ x => x) (fun z hz => j.out z hz))
theorem VD.smid {α : Type} [Dat α] {k' : Nat} {rr : List (Nat × Bool)} {D : List (Nat × Value)} {s : Sv α} {z : Operand} {m n : Int} (hk : ops[k']? = some ⟨some d, .slice t x (some y) (some z) none, ty, pos, after, none⟩) (hu : P.underlying t = some (.slice e)) (hz : (P.info? e).map (·.size) = some (Dat.sz α)) (e0 : ρ.ev x = some s.val) (e1 : ρ.ev y = some (i64 m)) (e2 : ρ.ev z = some (i64 n)) [hs : InM M s.ok] (h0 : 0 ≤ m) (h1 : m ≤ n) (h2 : n ≤ s.l.length) (hd : d < N)
    (kk : ∀ (q : Sv α) (u : Value), q.l = (s.l.drop m.toNat).take (n.toNat - m.toNat) → VD P N c ops Q rr (addD ops k' u D) ((d, q.val) :: ρ) (q.ok.and M) E) : VD P N c ops Q ((k', true) :: rr) D ρ M E :=
  VD.part (lo' := some m) (hi' := some n) (mx' := none) hk m.toNat n.toNat hu hz e0 (by simp [optv, e1]) (by simp [optv, e2]) rfl (by simp; omega) (by simp; omega) (.inl rfl) (fun h => by cases h) (by omega) (by omega) hd fun q u hq => kk q u hq
theorem Pend.consX {D : List (Nat × Value)} {i : Nat} {op : Op} (hk : ops[i]? = some ⟨od, op, ty, pos, after, gd⟩) (h : ∀ a w, Agr N ρ a → St c M E w → YU P ops ⟨od, op, ty, pos, after, gd⟩ v a w) (n : Pend P N c ops D ρ M E) : Pend P N c ops ((i, v) :: D) ρ M E := fun a w x y p hp => by
  rcases List.mem_cons.1 hp with rfl | hp
  · intro o ho
    have ho' : ops[i]? = some o := ho
    rw [hk] at ho'
    cases ho'
    exact h a w x y
  · exact n a w x y p hp
theorem Pend.consG {D : List (Nat × Value)} {i j s : Nat} {b : Bool} {op : Op} (hk : ops[i]? = some ⟨od, op, ty, pos, after, some (j, b)⟩) (hj : (ops[j]?).bind (·.dst) = some s) (hb : ρ.get s = some (.bool b)) (h : Qt P N c ⟨od, op, ty, pos, after, some (j, b)⟩ v ρ M E) (n : Pend P N c ops D ρ M E) : Pend P N c ops ((i, v) :: D) ρ M E :=
  Pend.consX hk (fun a w x y => .inl ⟨by rw [wanted_of hj x hb _ rfl]; simp, fun w1 g => h a w1 x (y.grow g)⟩) n
theorem Pend.consN {D : List (Nat × Value)} {i j s : Nat} {b b' : Bool} {op : Op} (hk : ops[i]? = some ⟨od, op, ty, pos, after, some (j, b)⟩) (hj : (ops[j]?).bind (·.dst) = some s) (hb : ρ.get s = some (.bool b')) (hw : (b' == b) = false) (n : Pend P N c ops D ρ M E) : Pend P N c ops ((i, undef) :: D) ρ M E :=
  Pend.consX hk (fun a w x y => .inr ⟨by rw [wanted_of hj x hb _ rfl, hw], rfl⟩) n
theorem Pend.consU {D : List (Nat × Value)} {i j s : Nat} {b : Bool} {op : Op} (hk : ops[i]? = some ⟨od, op, ty, pos, after, some (j, b)⟩) (hj : (ops[j]?).bind (·.dst) = some s) (hb : ρ.get s = some undef) (n : Pend P N c ops D ρ M E) : Pend P N c ops ((i, undef) :: D) ρ M E :=
  Pend.consX hk (fun a w x y => .inr ⟨by rw [wanted_un hj x hb _ rfl], rfl⟩) n
end
end Go.V
end

section
namespace Go.V
open Go.RowKit Go.S
section
variable {P : Program} {N : Nat} {c : Cx} {ops : Array Oper} {Q Q1 : Exit → Act → World → Prop} {rest : List Oper} {o : Oper} {ρ : Env} {M M' M1 M0 : Mo} {E E1 F A : Ow} {v u : Value} {X S T R : Type}
  {d : Nat} {od : Option Nat} {ty : TypeId} {pos : String} {after : Array Edge} {gd : Option (Nat × Bool)} {x y : Operand} {t t' e tb : TypeId} {f : FuncId} {args : List Value} {k k' : IntKind} {m n : Int}
theorem flatMap_take {α : Type} [Dat α] (l : List α) (n : Nat) : (l.flatMap Dat.enc).take (n * Dat.sz α) = (l.take n).flatMap Dat.enc := by
  induction l generalizing n with
  | nil => simp
  | cons x r ih =>
    cases n with
    | zero => simp
    | succ n =>
      simp only [List.flatMap_cons, List.take_succ_cons]
      rw [List.take_append, Dat.len, ← ih n]
      congr 1
      · rw [List.take_of_length_le]; rw [Dat.len]; exact Nat.le_mul_of_pos_left _ (Nat.succ_pos n)
      · congr 1
        rw [Nat.succ_mul, Nat.add_sub_cancel]
/-- the first ones of a slice of one's own: it is one's own still -/
theorem VL.ownT {α : Type} [Dat α] {s : Sv α} (hu : P.underlying t = some (.slice e)) (hz : (P.info? e).map (·.size) = some (Dat.sz α)) (e0 : ρ.ev x = some s.val) (e1 : ρ.ev y = some (i64 n)) (h0 : 0 ≤ n) (h1 : n ≤ s.l.length) (hE : Foc E (s.own e) F) (hd : d < N)
    (kk : ∀ q : Sv α, q.l = s.l.take n.toNat → VL P N c ops Q rest ((d, q.val) :: ρ) M (Ow.star (q.own e) F)) : VL P N c ops Q (⟨some d, .slice t x none (some y) none, ty, pos, after, none⟩ :: rest) ρ M E := fun a w xx yy => by
  have hlc : s.l.length ≤ s.c := by
    obtain ⟨⟨hp, ee, m, eE, _⟩, _⟩ := yy
    obtain ⟨a1, b1, _, _, ⟨q1, _⟩, _⟩ := hE ee eE
    exact q1
  refine VL.q (q_cut (lo' := none) (hi' := some n) (mx' := none) 0 n.toNat s.c hu hz e0 rfl (by simp [optv, e1]) rfl rfl (by simp; omega) (by simp) (fun h => by cases h) (Nat.zero_le _) (by omega) (Nat.le_refl _) (by omega)) hd (VL.mono (fun _ h => h) (fun z hz => by
    obtain ⟨a, b, d1, d2, ha, hb⟩ := hE z hz
    refine ⟨a, b, d1, d2, ?_, hb⟩
    obtain ⟨q1, q2, q3⟩ := ha
    refine ⟨by simp [Sv.sub]; omega, by simpa [Sv.sub] using q2, ?_⟩
    rcases q3 with ⟨w1, w2⟩ | ⟨g, cur, w1, w2, w3, w4⟩
    · exact .inl ⟨by simp [Sv.sub, w1], by simp [Sv.sub, w2]⟩
    · refine .inr ⟨g, cur, ?_, w2, by simpa [Sv.sub] using w3, ?_⟩
      · simp [Sv.sub, w1, Addr.add]
      · simp only [Sv.sub, List.drop_zero, Nat.sub_zero, List.length_take]
        rw [show min n.toNat s.l.length = n.toNat by omega, ← flatMap_take, ← w4, List.take_take]
        congr 1
        exact (Nat.min_eq_left (Nat.mul_le_mul (by omega) (Nat.le_refl _))).symm) (kk (s.sub 0 n.toNat s.c) (by simp [Sv.sub]))) a w xx yy
/-- a slice of some elements, one's own -/
theorem VL.litO {α : Type} [Dat α] {n : Nat} {parts : Array (Nat × Operand)} {xs : List Operand} {vs : List Value} (zs : List α) (hu : P.underlying t = some (.slice e)) (hz : ((P.info? e).map fun i => (i.size, i.zero.isSome)) = some (Dat.sz α, true)) (hpos : 0 < Dat.sz α)
    (hp : parts = ((xs.zipIdx 0).map fun x => (x.2, x.1)).toArray) (hv : ρ.evs xs = some vs) (hc : vs.map (fun v => v.cells.toList) = zs.map Dat.enc) (hn : zs.length = n) (hs : n * Dat.sz α ≤ 16777216) (hd : d < N)
    (k : ∀ s : Sv α, s.l = zs → VL P N c ops Q rest ((d, s.val) :: ρ) M (Ow.star (s.own e) E)) (h0 : 0 < n) : VL P N c ops Q (⟨some d, .buildSlice t n parts, ty, pos, after, none⟩ :: rest) ρ M E := by
  cases hi : P.info? e with
  | none => rw [hi] at hz; cases hz
  | some ie =>
    rw [hi] at hz
    obtain ⟨hsz, hzz⟩ : ie.size = Dat.sz α ∧ ie.zero.isSome = true := by simpa using hz
    obtain ⟨z, hz1⟩ := Option.isSome_iff_exists.1 hzz
    refine VL.newO (S := Sv α) (val := Sv.val) (φ := fun s => s.l = zs) (A := fun s => s.own e) (fun a w g => ?_) hd k
    have hlen : vs.length = n := by rw [← hn]; simpa using congrArg List.length hc
    have hcs : ∀ v ∈ vs, v.cells.size = ie.size := fun v hv => by
      have : v.cells.toList ∈ zs.map Dat.enc := by rw [← hc]; exact List.mem_map.2 ⟨v, hv, rfl⟩
      obtain ⟨q, _, hq⟩ := List.mem_map.1 this
      rw [← Array.length_toList, ← hq, Dat.len, hsz]
    have hfill := Great.fill_whole (s := ie.size) (by omega) vs ((Array.range (n * ie.size)).map (z.cells[· % z.cells.size]!)) hcs (by simp [hlen])
    have hflat : (vs.flatMap fun v => v.cells.toList) = zs.flatMap Dat.enc := by rw [List.flatMap_def, hc, ← List.flatMap_def]
    rw [hflat] at hfill
    have hr := run_buildSlice (P := P) w t e n (parts.map fun (i, x) => (i, a.eval x)) _ ie z hu hi hz1 (by rw [hsz]; omega) (by rw [hsz]; exact Nat.pos_iff_ne_zero.1 (Nat.mul_pos h0 hpos)) (by rw [map_ops g hv parts hp]; exact hfill)
    have hle : n ≤ n * Dat.sz α := Nat.le_mul_of_pos_right _ hpos
    refine ⟨⟨some ⟨w.heap.size, 0, none⟩, n, zs⟩, _, .cells (zs.flatMap Dat.enc).toArray e, ?_, rfl, Gr.alloc w _, heap_alloc_new w _, ?_⟩
    · simp only [execOp, Sem.run_bind, hr, Result.andThen_ok, Sem.run_pure, Sv.val, hn]
    · refine ⟨by simp [hn], by unfold maxLen; simp only; omega, .inr ⟨_, _, rfl, Hp.one_self _ _, ?_, ?_⟩⟩
      · simp only [List.size_toArray]; rw [enc_len, hn]
      · simp only
        rw [List.take_of_length_le (by rw [enc_len]; exact Nat.le_refl _)]
end
end Go.V
end

section
/- A number's digits, plainly. -/
namespace Go.S
open Go
def decF : Nat → Nat → List UInt8
  | 0, _ => []
  | f + 1, u => if u < 10 then [UInt8.ofNat (48 + u)] else decF f (u / 10) ++ [UInt8.ofNat (48 + u % 10)]
/-- a number in digits -/
def itoaS (n : Int) : List UInt8 := if n < 0 then 45 :: decF 20 n.natAbs else decF 20 n.toNat
theorem decF_eq : ∀ (f u : Nat), u < 10 ^ (f + 1) → decF (f + 1) u = Lib.decDigits u
  | 0, u, h => by
    rw [Lib.decDigits, decF, if_pos (by simpa using h), dif_pos (by simpa using h)]
  | f + 1, u, h => by
    rw [Lib.decDigits, decF]
    by_cases h10 : u < 10
    · simp [h10]
    · simp only [h10, if_false, dif_neg, not_false_eq_true]
      rw [decF_eq f (u / 10) (by rw [Nat.pow_succ] at h; omega)]
theorem itoaS_eq {n : Int} (h : I64 n) : itoaS n = Lib.itoa n := by
  obtain ⟨h1, h2⟩ := h
  unfold itoaS Lib.itoa
  rw [decF_eq 19 n.natAbs (by omega), decF_eq 19 n.toNat (by omega)]
end Go.S
end

section
namespace Go.V
open Go.RowKit Go.S
/-- a block that is as it was laid -/
def GBlk (g : Nat) (cs : Array Value) : Mo := ⟨fun h => ∃ t f, h g = some (.cells cs t f), fun k ⟨t, f, e⟩ => ⟨t, f, k _ _ e⟩⟩
theorem GBlk.var {P : Program} {g : Nat} {cs : Array Value} {h : Hp} {w : World} {name : String} (hg : P.globalNamed name = some g) (m : (GBlk g cs).on h) (l : h.le (wh w)) : w.var? P name = some cs := by
  obtain ⟨t, f, e⟩ := m
  have := l _ _ e
  unfold wh at this
  simp [World.var?, hg, this]
theorem GBlk.of_var {P : Program} {g : Nat} {cs : Array Value} {w : World} {name : String} (hg : P.globalNamed name = some g) (h : w.var? P name = some cs) : (GBlk g cs).on (wh w) := by
  unfold World.var? at h
  rw [hg] at h
  simp only [Option.bind_some] at h
  split at h
  · next c t f hc =>
    cases h
    exact ⟨t, f, hc⟩
  · cases h
theorem Gr.grown (w : World) (k : Nat) (os : Array Obj) : Gr w (Go.Sort.grow (w.drewN k) os) := by
  refine ⟨rfl, rfl, rfl, by simp [Go.Sort.grow, World.drewN], fun b hb => ?_⟩
  simp only [Go.Sort.grow, World.drewN]
  rw [Array.getElem?_append_left hb]
/-- an integers' table out of what is laid -/
theorem tab_laid {P : Program} {W : World} {name : String} {k : IntKind} {zs : List Int} {L : List (String × DataW Unit)} {g : Nat} {t e : TypeId} {n : Nat}
    (hg : P.globalNamed name = some g) (hty : (P.globals[g]?).map (·.type) = some t) (ht : P.underlying t = some (.array n e)) (he : P.underlying e = some (.int k)) (hce : P.cellsOf e = 1) (hct : P.cellsOf t = n)
    (hf : (L.filter fun x => x.2.handleName?.isNone).filter (fun x => x.1 == name) = [(name, Lib.tabData k zs)]) (h : laidMetH P L W) : (GBlk g (zs.map fun z => Value.int k z).toArray).on (wh W) := by
  have h1 := (laidMetH_iff.1 h).1.filter (fun x => x.1 == name)
  rw [hf] at h1
  exact GBlk.of_var hg (Lib.tabIs_of_head hg hty ht he hce hct h1)
end Go.V
end

section
namespace Go.S
/-- the number at an error's end -/
def endNo : Err → Option Int
  | .nil => none
  | .no n => some n
  | .fault _ _ e => endNo e
end Go.S
namespace Go.V
open Go.RowKit Go.S
section
variable {P : Program} {N : Nat} {c : Cx} {ops : Array Oper} {Q Q1 : Exit → Act → World → Prop} {rest : List Oper} {o : Oper} {ρ : Env} {M M' M1 M0 : Mo} {E E1 F A : Ow} {v u : Value} {X S T R : Type}
  {d : Nat} {od : Option Nat} {ty : TypeId} {pos : String} {after : Array Edge} {gd : Option (Nat × Bool)} {x y : Operand} {t t' e tb : TypeId} {f : FuncId} {args : List Value} {k k' : IntKind} {m n : Int}
def Er.dep : Er → Nat
  | .fault _ _ _ e => e.dep + 1
  | _ => 0
/-- a method of what an interface holds -/
structure Meth (P : Program) (v : Value) (name : String) (f : FuncId) (rv : Value) : Prop where
  run : ∀ w : World, (callMethod v name #[]).run P w = (callFunc f #[rv]).run P w
theorem Meth.of {tv : TypeId} {name : String} {rv : Value} (h : ∀ w, (Go.method (P.types.size + Made.depth) tv v name).run P w = .ok (f, rv) w) : Meth P (.iface tv v) name f rv := ⟨fun w => by
  simp only [callMethod, Sem.run_bind, Go.program, Sem.run, go_sem] at h ⊢
  simp [h]⟩
theorem q_inv {φ : X → Prop} {val : X → Value} {M2 : X → Mo} {E2 : X → Ow} {name : String} {rv r : Value} (hx : ρ.ev x = some u) (hm : Meth P u name f rv) (h : Ct P f [rv] M1 Ow.emp val φ M2 E2) [i : InR M E M1] (hv : ∀ y, φ y → val y = r) :
    Qt P N c ⟨od, .call { callee := .invoke x name, args := [].toArray, argTypes := #[] }, ty, pos, after, gd⟩ r ρ M E := fun a w g s => by
  unfold Oper.quietAt
  have he : (execOp a.eval ⟨od, .call { callee := .invoke x name, args := [].toArray, argTypes := #[] }, ty, pos, after, gd⟩).run P w = .ok (.enter f #[rv]) w := by
    simp only [execOp, resolve, g.ev hx, invoke]
    simp [hm.run, h.entry]
  rw [he]
  exact ⟨rfl, h.gr i.out s hv⟩
/-- .. that the model has in place -/
theorem q_invX {fn : Func} {ex : Array Value → Sem Value} {name : String} {rv r : Value} (hx : ρ.ev x = some u) (hm : Meth P u name f rv) (hf : P.funcs[f]? = some fn) (hname : (fn.name == "runtime.NumGoroutine") = false) (hb : fn.body.isNone = true) (hn : Extern.findNext fn = none) (he : Extern.find fn = some ex) (h : ∀ w : World, (ex #[rv]).run P w = .ok r w) :
    Qt P N c ⟨od, .call { callee := .invoke x name, args := [].toArray, argTypes := #[] }, ty, pos, after, gd⟩ r ρ M E := Qt.of_run fun a w g s => by
  have hc := run_callFunc_extern hf hname hb hn he (args := #[rv]) (w := w)
  simp only [execOp, resolve, g.ev hx, invoke]
  simp [hm.run, hc, h]
/-- nil, and an error -/
theorem q_eqnl {T : TypeId} {ms : Array (String × TypeId)} {u : Value} (hi : P.underlying t = some (.interface ms)) (e1 : ρ.ev x = some .nilIface) (e2 : ρ.ev y = some (.iface T u)) :
    Qt P N c ⟨od, .binOp .eql t x y t', ty, pos, after, gd⟩ (.bool false) ρ M E := q_bin e1 e2 (fun w => by unfold eqGuard; simp [go_sem]) fun w => run_eql_iface_nil_left w T u hi
theorem q_ta {xT : TypeId} (e1 : ρ.ev x = some v) (h : ∀ w : World, (Instr.typeAssert v xT t true).run P w = .ok u w) : Qt P N c ⟨od, .typeAssert x xT t true, ty, pos, after, gd⟩ u ρ M E := Qt.of_run fun a w g _ => by
  simp only [execOp, g.ev e1, Sem.run_bind, h w, Result.andThen_ok, Sem.run_pure]
theorem guard_ifs (op : BinOp) (T1 T2 : TypeId) (u v : Value) (w : World) : (eqGuard op t x y (.iface T1 u) (.iface T2 v)).run P w = .ok () w := by
  unfold eqGuard
  cases op <;> simp [go_sem] <;> rfl
theorem run_eqinno (w : World) (d : Nat) (a b : Int) {ti tn : TypeId} {ms : Array (String × TypeId)} {i : TypeInfo} (hi : P.underlying ti = some (.interface ms)) (hn : P.underlying tn = some (.int .i64)) (h1 : P.info? tn = some i) (h2 : i.comparable = true) :
    (Op.equalIn (d + 2) ti (.iface tn (i64 a)) (.iface tn (i64 b))).run P w = .ok (decide (a = b)) w := by
  have e : (a == b) = decide (a = b) := by by_cases q : a = b <;> simp [q]
  simp [Op.equalIn, run_underlying hi, run_underlying hn, typeInfo, h1, h2, e]
theorem run_eqno (w : World) (a b : Int) {ti tn : TypeId} {ms : Array (String × TypeId)} (hi : P.underlying ti = some (.interface ms)) (hn : P.underlying tn = some (.int .i64)) (hc : (P.info? tn).map (·.comparable) = some true) :
    (binOp .eql ti (.iface tn (i64 a)) (.iface tn (i64 b))).run P w = .ok (.bool (decide (a = b))) w := by
  obtain ⟨i, h1, h2⟩ := Option.map_eq_some_iff.1 hc
  simp only [binOp]
  simp [Op.equal, Op.maxDepth, run_eqinno w 9998 a b hi hn h1 h2]
/-- two errors that are numbers -/
theorem q_eqno {tn : TypeId} {ms : Array (String × TypeId)} {a b : Int} (hi : P.underlying t = some (.interface ms)) (hn : P.underlying tn = some (.int .i64)) (hc : (P.info? tn).map (·.comparable) = some true) (e1 : ρ.ev x = some (.iface tn (i64 a))) (e2 : ρ.ev y = some (.iface tn (i64 b))) :
    Qt P N c ⟨od, .binOp .eql t x y t', ty, pos, after, gd⟩ (.bool (decide (a = b))) ρ M E := q_bin e1 e2 (guard_ifs _ _ _ _ _) fun w => run_eqno w a b hi hn hc
/-- .. of different types -/
theorem q_eqdt {t1 t2 : TypeId} {ms : Array (String × TypeId)} {a b : Value} (hi : P.underlying t = some (.interface ms)) (hne : t1 ≠ t2) (e1 : ρ.ev x = some (.iface t1 a)) (e2 : ρ.ev y = some (.iface t2 b)) :
    Qt P N c ⟨od, .binOp .eql t x y t', ty, pos, after, gd⟩ (.bool false) ρ M E := q_bin e1 e2 (guard_ifs _ _ _ _ _) fun w => run_eql_iface_types t1 t2 a b hi hne w
/-- a call that an interface leads to, and what it says -/
def Says (P : Program) (v : Value) (name : String) (M1 : Mo) (r : Value) : Prop := ∃ f rv, Meth P v name f rv ∧ Ct P f [rv] M1 Ow.emp (X := Unit) (fun _ => r) (fun _ => True) (fun _ => Mo.tt) (fun _ => Ow.emp)
theorem q_say {name : String} {r : Value} (hx : ρ.ev x = some u) (h : Says P u name M1 r) [i : InR M E M1] : Qt P N c ⟨od, .call { callee := .invoke x name, args := [].toArray, argTypes := #[] }, ty, pos, after, gd⟩ r ρ M E := by
  obtain ⟨f, rv, h1, h2⟩ := h
  exact q_inv hx h1 h2 (fun _ _ => rfl)
theorem St.turned {w w1 w' : World} {h z : Hp} {t : Nat} {T : TypeId} {u v : Value} (hb : w.heap[t]? = some (.cells #[u] T (0, 0))) (hz : z t = some (.cells #[u] T (0, 0))) (hoff : h.off z) (l : h.le (wh w)) (g : Gr w w1) (e : w' = w1.setCell ⟨t, 0, none⟩ v) : St ⟨w, h, fun i => z i ≠ none⟩ Mo.tt (Blk t [v] T) w' := by
  subst e
  have hbn : h t = none := (hoff t).resolve_right (by rw [hz]; simp)
  have htl := (Array.getElem?_eq_some_iff.1 hb).1
  have h1 : w1.heap[t]? = some (.cells #[u] T (0, 0)) := by rw [g.block t htl]; exact hb
  have hnew := one_setCell (u := v) h1
  have hold : ∀ i, i ≠ t → (w1.setCell ⟨t, 0, none⟩ v).heap[i]? = w1.heap[i]? := fun i hi => Below.heap_setCell w1 ⟨t, 0, none⟩ v i hi
  have hB : Below 0 w1 (w1.setCell ⟨t, 0, none⟩ v) := (Below.refl 0 w1).setCell (Nat.zero_le _) v
  refine ⟨⟨h, Hp.one t (.cells #[v] T (0, 0)), trivial, Hp.one_self _ _, fun i => ?_, fun i p hp => ?_, fun i p hp => ?_, Hp.le.refl h, fun i hi => .inl hi, fun i hi => .inl ?_⟩, fun i hi hd => ?_, hB.os.trans g.os, hB.tape.trans g.tape, hB.output.trans g.output, Nat.le_trans g.size hB.size⟩
  · by_cases hib : i = t
    · subst hib; exact .inl hbn
    · right; unfold Hp.one; rw [if_neg hib]
  · have hib : i ≠ t := fun q => by subst q; rw [hbn] at hp; cases hp
    unfold wh
    rw [hold i hib]
    have := l i p hp
    unfold wh at this
    rw [g.block i (Array.getElem?_eq_some_iff.1 this).1]
    exact this
  · have := Hp.one_ne (by rw [hp]; simp)
    subst this
    rw [Hp.one_self] at hp
    cases hp
    exact hnew
  · have := Hp.one_ne hi
    subst this
    show z i ≠ none
    rw [hz]; simp
  · have hit : i ≠ t := by
      rintro rfl
      exact hd (show z i ≠ none by rw [hz]; simp)
    rw [hold i hit]
    exact g.block i hi
end
end Go.V
end

section
set_option linter.unusedVariables false
namespace Go.S.Sh
open Go
noncomputable def unicode_utf8_RuneCountInString (s_0 : Str) : Option Int :=
 none

noncomputable def unicode_utf8_decodeRuneInStringSlow (a_0 : Str) : Option (Int × Int) :=
 if (a_0.length : Int) < 1 then (some (65533, 0))
 else ((at_ a_0 0).bind (fun z18_1 =>
 none))

noncomputable def unicode_utf8_DecodeRuneInString (s_0 : Str) : Option (Int × Int) :=
 jn (fun (x10_1 : Bool) =>
 if x10_1 = true then ((at_ s_0 0).bind (fun z12_4 =>
 some ((z12_4.toNat : Int), 1)))
 else ((Sh.unicode_utf8_decodeRuneInStringSlow s_0).bind (fun y16_5 =>
 some (y16_5.1, y16_5.2)))) (fun k2 => if s_0 = [] then (k2 false)
 else ((at_ s_0 0).bind (fun z8_3 =>
 k2 (decide ((z8_3.toNat : Int) < 128)))))

noncomputable def strings_explode (s_0 : Str) (n_1 : Int) : Option (List Str) :=
 (Sh.unicode_utf8_RuneCountInString s_0).bind (fun y11_1 =>
 jn (fun (n1_2 : Int) =>
 gd ((0 : Int) ≤ n1_2 ∧ n1_2 ≤ 4294967296) (
 lt (List.replicate n1_2.toNat []) (fun y21_7 =>
 iter (fun ((s0_8, a6_9, i7_10) : Str × List Str × Int) =>
 gd (I64 (n1_2 - 1)) (
 if i7_10 < (n1_2 - 1) then ((Sh.unicode_utf8_DecodeRuneInString s0_8).bind (fun y30_11 =>
 gd ((0 : Int) ≤ y30_11.2 ∧ y30_11.2 ≤ (s0_8.length : Int)) (
 lt (s0_8.take y30_11.2.toNat) (fun y37_12 =>
 (at_ a6_9 i7_10).bind (fun z38_13 =>
 lt (a6_9.set i7_10.toNat y37_12) (fun ys6_15 =>
 gd ((0 : Int) ≤ y30_11.2 ∧ y30_11.2 ≤ (s0_8.length : Int)) (
 lt (s0_8.drop y30_11.2.toNat) (fun y41_16 =>
 gd (I64 (i7_10 + 1)) (
 go (y41_16, ys6_15, (i7_10 + 1)))))))))))
 else (up (if 0 < n1_2 then (gd (I64 (n1_2 - 1)) (
 (at_ a6_9 (n1_2 - 1)).bind (fun z48_17 =>
 lt (a6_9.set (n1_2 - 1).toNat s0_8) (fun ys5_19 =>
 some ys5_19))))
 else (some a6_9))))) (s_0, y21_7, 0)))) (fun k3 => jn (fun (x18_4 : Bool) =>
 if x18_4 = true then (k3 y11_1)
 else (k3 n_1)) (fun k5 => if n_1 < 0 then (k5 true)
 else (k5 (decide (y11_1 < n_1))))))

noncomputable def internal_stringslite_IndexByte (s_0 : Str) (c_1 : Int) : Option Int :=
 some (ixB s_0 c_1)

noncomputable def internal_stringslite_Index (a_0 : Str) (a_1 : Str) : Option Int :=
 jn (fun (x16_1 : Bool) =>
 if x16_1 = true then (some 0)
 else (if (a_1.length : Int) = 1 then ((at_ a_1 0).bind (fun z29_3 =>
 (Sh.internal_stringslite_IndexByte a_0 (z29_3.toNat : Int)).bind (fun y30_4 =>
 some y30_4)))
 else (if (a_0.length : Int) ≤ (a_1.length : Int) then (some (-1))
 else (none)))) (fun k2 => if (a_1.length : Int) = 0 then (k2 true)
 else (k2 (decide (a_1 = a_0))))

noncomputable def strings_Index (s_0 : Str) (substr_1 : Str) : Option Int :=
 (Sh.internal_stringslite_Index s_0 substr_1).bind (fun y7_1 =>
 some y7_1)

noncomputable def strings_Count (s_0 : Str) (substr_1 : Str) : Option Int :=
 if (substr_1.length : Int) = 0 then ((Sh.unicode_utf8_RuneCountInString s_0).bind (fun y11_1 =>
 gd (I64 (y11_1 + 1)) (
 some (y11_1 + 1))))
 else (if (substr_1.length : Int) = 1 then ((at_ substr_1 0).bind (fun z18_2 =>
 some (cntB s_0 (z18_2.toNat : Int))))
 else (iter (fun ((s0_3, n5_4) : Str × Int) =>
 (Sh.strings_Index s0_3 substr_1).bind (fun y22_5 =>
 if y22_5 = (-1) then (up (some n5_4))
 else (gd (I64 (n5_4 + 1)) (
 gd (I64 (y22_5 + (substr_1.length : Int))) (
 gd ((0 : Int) ≤ (y22_5 + (substr_1.length : Int)) ∧ (y22_5 + (substr_1.length : Int)) ≤ (s0_3.length : Int)) (
 lt (s0_3.drop (y22_5 + (substr_1.length : Int)).toNat) (fun y33_6 =>
 go (y33_6, (n5_4 + 1))))))))) (s_0, 0)))

noncomputable def strings_genSplit (a_0 : Str) (a_1 : Str) (a_2 : Int) (a_3 : Int) : Option (List Str) :=
 if a_3 = 0 then (some [])
 else (if a_1 = [] then ((Sh.strings_explode a_0 a_3).bind (fun y18_1 =>
 some y18_1))
 else (jn (fun (x3_2 : Int) =>
 gd (I64 ((a_0.length : Int) + 1)) (
 gd ((0 : Int) ≤ (min x3_2 ((a_0.length : Int) + 1)) ∧ (min x3_2 ((a_0.length : Int) + 1)) ≤ 4294967296) (
 lt (List.replicate (min x3_2 ((a_0.length : Int) + 1)).toNat []) (fun y31_6 =>
 gd (I64 ((min x3_2 ((a_0.length : Int) + 1)) - 1)) (
 jn (fun ((x0_7, x9_8, x10_9) : Str × List Str × Int) =>
 (at_ x9_8 x10_9).bind (fun z61_20 =>
 lt (x9_8.set x10_9.toNat x0_7) (fun ys4_22 =>
 gd (I64 (x10_9 + 1)) (
 gd ((0 : Int) ≤ (x10_9 + 1) ∧ (x10_9 + 1) ≤ (ys4_22.length : Int)) (
 lt (ys4_22.take (x10_9 + 1).toNat) (fun y65_24 =>
 some y65_24)))))) (fun k10 => iter (fun ((x0_11, x9_12, x10_13) : Str × List Str × Int) =>
 if x10_13 < ((min x3_2 ((a_0.length : Int) + 1)) - 1) then ((Sh.strings_Index x0_11 a_1).bind (fun y39_14 =>
 if y39_14 < 0 then (up (k10 (x0_11, x9_12, x10_13)))
 else (gd (I64 (y39_14 + a_2)) (
 gd ((0 : Int) ≤ (y39_14 + a_2) ∧ (y39_14 + a_2) ≤ (x0_11.length : Int)) (
 lt (x0_11.take (y39_14 + a_2).toNat) (fun y48_15 =>
 (at_ x9_12 x10_13).bind (fun z49_16 =>
 lt (x9_12.set x10_13.toNat y48_15) (fun ys8_18 =>
 gd (I64 (y39_14 + (a_1.length : Int))) (
 gd ((0 : Int) ≤ (y39_14 + (a_1.length : Int)) ∧ (y39_14 + (a_1.length : Int)) ≤ (x0_11.length : Int)) (
 lt (x0_11.drop (y39_14 + (a_1.length : Int)).toNat) (fun y55_19 =>
 gd (I64 (x10_13 + 1)) (
 go (y55_19, ys8_18, (x10_13 + 1))))))))))))))
 else (up (k10 (x0_11, x9_12, x10_13)))) (a_0, y31_6, 0))))))) (fun k3 => if a_3 < 0 then ((Sh.strings_Count a_0 a_1).bind (fun y23_4 =>
 gd (I64 (y23_4 + 1)) (
 k3 (y23_4 + 1))))
 else (k3 a_3))))

noncomputable def strings_Split (s_0 : Str) (sep_1 : Str) : Option (List Str) :=
 (Sh.strings_genSplit s_0 sep_1 0 (-1)).bind (fun y7_1 =>
 some y7_1)

noncomputable def strings_trimLeftByte (s_0 : Str) (c_1 : Int) : Option Str :=
 iter (fun (s0_1 : Str) =>
 if 0 < (s0_1.length : Int) then ((at_ s0_1 0).bind (fun z10_2 =>
 if (z10_2.toNat : Int) = c_1 then (gd ((0 : Int) ≤ 1 ∧ 1 ≤ (s0_1.length : Int)) (
 lt (s0_1.drop (1 : Int).toNat) (fun y15_3 =>
 go y15_3)))
 else (up (some s0_1))))
 else (up (some s0_1))) s_0

noncomputable def strings_TrimLeft (s_0 : Str) (cutset_1 : Str) : Option Str :=
 jn (fun (x12_1 : Bool) =>
 if x12_1 = true then (some s_0)
 else (jn (fun (x21_3 : Bool) =>
 if x21_3 = true then ((at_ cutset_1 0).bind (fun z24_6 =>
 (Sh.strings_trimLeftByte s_0 (z24_6.toNat : Int)).bind (fun y25_7 =>
 some y25_7)))
 else (none)) (fun k4 => if (cutset_1.length : Int) = 1 then ((at_ cutset_1 0).bind (fun z19_5 =>
 k4 (decide ((z19_5.toNat : Int) < 128))))
 else (k4 false)))) (fun k2 => if s_0 = [] then (k2 true)
 else (k2 (decide (cutset_1 = []))))

noncomputable def todo_cut (s_0 : Str) : Option (Str × Str) :=
 (Sh.strings_Index s_0 [32]).bind (fun y6_1 =>
 if y6_1 < 0 then (some (s_0, []))
 else (gd ((0 : Int) ≤ y6_1 ∧ y6_1 ≤ (s_0.length : Int)) (
 lt (s_0.take y6_1.toNat) (fun y12_2 =>
 gd ((0 : Int) ≤ y6_1 ∧ y6_1 ≤ (s_0.length : Int)) (
 lt (s_0.drop y6_1.toNat) (fun y15_3 =>
 (Sh.strings_TrimLeft y15_3 [32]).bind (fun y16_4 =>
 some (y12_2, y16_4))))))))

noncomputable def strings_trimRightByte (s_0 : Str) (c_1 : Int) : Option Str :=
 iter (fun (s0_1 : Str) =>
 if 0 < (s0_1.length : Int) then (gd (I64 ((s0_1.length : Int) - 1)) (
 (at_ s0_1 ((s0_1.length : Int) - 1)).bind (fun z13_2 =>
 if (z13_2.toNat : Int) = c_1 then (gd (I64 ((s0_1.length : Int) - 1)) (
 gd ((0 : Int) ≤ ((s0_1.length : Int) - 1) ∧ ((s0_1.length : Int) - 1) ≤ (s0_1.length : Int)) (
 lt (s0_1.take ((s0_1.length : Int) - 1).toNat) (fun y21_3 =>
 go y21_3))))
 else (up (some s0_1)))))
 else (up (some s0_1))) s_0

noncomputable def strings_Trim (s_0 : Str) (cutset_1 : Str) : Option Str :=
 jn (fun (x12_1 : Bool) =>
 if x12_1 = true then (some s_0)
 else (jn (fun (x21_3 : Bool) =>
 if x21_3 = true then ((at_ cutset_1 0).bind (fun z24_6 =>
 (Sh.strings_trimRightByte s_0 (z24_6.toNat : Int)).bind (fun y25_7 =>
 (at_ cutset_1 0).bind (fun z27_8 =>
 (Sh.strings_trimLeftByte y25_7 (z27_8.toNat : Int)).bind (fun y28_9 =>
 some y28_9)))))
 else (none)) (fun k4 => if (cutset_1.length : Int) = 1 then ((at_ cutset_1 0).bind (fun z19_5 =>
 k4 (decide ((z19_5.toNat : Int) < 128))))
 else (k4 false)))) (fun k2 => if s_0 = [] then (k2 true)
 else (k2 (decide (cutset_1 = []))))

noncomputable def todo_verb (s_0 : Str) : Option (Bool × Bool) :=
 jn (fun (_ : Unit) =>
 some (true, false)) (fun k1 => jn (fun (_ : Unit) =>
 some (true, true)) (fun k2 => if s_0 = [115, 113, 117, 97, 115, 104] then (k2 ())
 else (if s_0 = [102, 105, 120, 117, 112] then (k2 ())
 else (if s_0 = [112, 105, 99, 107] then (k1 ())
 else (if s_0 = [114, 101, 119, 111, 114, 100] then (k1 ())
 else (if s_0 = [101, 100, 105, 116] then (k1 ())
 else (if s_0 = [100, 114, 111, 112] then (k1 ())
 else (some (false, false)))))))))

noncomputable def internal_stringslite_Cut (s_0 : Str) (sep_1 : Str) : Option (Str × Str × Bool) :=
 (Sh.internal_stringslite_Index s_0 sep_1).bind (fun y10_1 =>
 if 0 ≤ y10_1 then (gd ((0 : Int) ≤ y10_1 ∧ y10_1 ≤ (s_0.length : Int)) (
 lt (s_0.take y10_1.toNat) (fun y15_2 =>
 gd (I64 (y10_1 + (sep_1.length : Int))) (
 gd ((0 : Int) ≤ (y10_1 + (sep_1.length : Int)) ∧ (y10_1 + (sep_1.length : Int)) ≤ (s_0.length : Int)) (
 lt (s_0.drop (y10_1 + (sep_1.length : Int)).toNat) (fun y21_3 =>
 some (y15_2, y21_3, true)))))))
 else (some (s_0, [], false)))

noncomputable def strings_Cut (s_0 : Str) (sep_1 : Str) : Option (Str × Str × Bool) :=
 (Sh.internal_stringslite_Cut s_0 sep_1).bind (fun y9_1 =>
 some (y9_1.1, y9_1.2.1, y9_1.2.2))

noncomputable def todo_number (s_0 : Str) : Option (Int × Bool) :=
 jn (fun (x18_1 : Bool) =>
 if x18_1 = true then (some (0, false))
 else (gd (s_0.length ≤ 4294967296) (
 lt s_0 (fun y20_5 =>
 iter (fun ((n4_6, x22_7) : Int × Int) =>
 if x22_7 < (y20_5.length : Int) then ((at_ y20_5 x22_7).bind (fun z24_8 =>
 jn (fun (x31_9 : Bool) =>
 if x31_9 = true then (up (some (0, false)))
 else (gd (I64 (10 * n4_6)) (
 gd (0 ≤ (z24_8.toNat : Int) - 48 ∧ (z24_8.toNat : Int) - 48 ≤ 255) (
 gd (I64 ((10 * n4_6) + (IntKind.wrap .i64 ((z24_8.toNat : Int) - 48)))) (
 gd (I64 (x22_7 + 1)) (
 go (((10 * n4_6) + (IntKind.wrap .i64 ((z24_8.toNat : Int) - 48))), (x22_7 + 1)))))))) (fun k10 => if (z24_8.toNat : Int) < 48 then (k10 true)
 else (k10 (decide (57 < (z24_8.toNat : Int)))))))
 else (up (some (n4_6, (decide (n4_6 ≤ 1000000)))))) (0, 0))))) (fun k2 => if s_0 = [] then (k2 true)
 else (if 7 < (s_0.length : Int) then (k2 true)
 else ((at_ s_0 0).bind (fun z16_3 =>
 k2 (decide ((z16_3.toNat : Int) = 48))))))

noncomputable def todo_line (a_0 : Str) : Option (TodoStep × Int) :=
 (Sh.todo_cut a_0).bind (fun y15_2 =>
 (Sh.strings_Trim y15_2.2 [32]).bind (fun y19_3 =>
 if y19_3 = [] then (some (⟨[], 0, []⟩, 2))
 else ((Sh.todo_verb y15_2.1).bind (fun y24_4 =>
 if (!y24_4.1) = true then (some (⟨[], 0, []⟩, 5))
 else ((Sh.strings_Cut y15_2.2 [32]).bind (fun y32_5 =>
 (Sh.todo_number y32_5.1).bind (fun y38_6 =>
 if (!y38_6.2) = true then (some (⟨[], 0, []⟩, 1))
 else (jn (fun (x9_7 : Str) =>
 some (⟨y15_2.1, y38_6.1, x9_7⟩, 0)) (fun k8 => if y15_2.1 = [114, 101, 119, 111, 114, 100] then (jn (fun (x56_9 : Bool) =>
 if x56_9 = true then (some (⟨[], 0, []⟩, 2))
 else (if 256 < (y32_5.2.1.length : Int) then (some (⟨[], 0, []⟩, 4))
 else (k8 y32_5.2.1))) (fun k10 => if (!y32_5.2.2) = true then (k10 true)
 else (k10 (decide (y32_5.2.1 = [])))))
 else ((Sh.strings_Trim y32_5.2.1 [32]).bind (fun y46_11 =>
 if y46_11 = [] then (k8 [])
 else (some (⟨[], 0, []⟩, 2)))))))))))))

noncomputable def slices_Clip_todo_Step_todo_Step (s_0 : List TodoStep) : Option (List TodoStep) :=
 gd ((0 : Int) ≤ (s_0.length : Int) ∧ (s_0.length : Int) ≤ (s_0.length : Int)) (
 lt (s_0.take (s_0.length : Int).toNat) (fun y8_2 =>
 some y8_2))

noncomputable def todo_Parse (s_0 : Str) : Option (List TodoStep × Err) :=
 (Sh.strings_Split s_0 [10]).bind (fun y10_1 =>
 iter (fun ((out4_2, x12_3) : List TodoStep × Int) =>
 if x12_3 < (y10_1.length : Int) then ((at_ y10_1 x12_3).bind (fun z15_4 =>
 (Sh.strings_TrimLeft z15_4 [32]).bind (fun y18_5 =>
 if y18_5 = [] then (gd (I64 (x12_3 + 1)) (
 go (out4_2, (x12_3 + 1))))
 else ((at_ y18_5 0).bind (fun z23_6 =>
 if (z23_6.toNat : Int) = 35 then (gd (I64 (x12_3 + 1)) (
 go (out4_2, (x12_3 + 1))))
 else ((Sh.todo_line y18_5).bind (fun y28_7 =>
 if y28_7.2 = 0 then (if (out4_2.length : Int) = 32 then (up (some ([], (Err.fault [108, 105, 110, 101] 32 (Err.no 4)))))
 else (lt [⟨y28_7.1.verb, y28_7.1.commit, y28_7.1.text⟩] (fun y48_12 =>
 gd (out4_2.length + y48_12.length ≤ 4294967296) (
 lt (out4_2 ++ y48_12) (fun y49_14 =>
 gd (I64 (x12_3 + 1)) (
 go (y49_14, (x12_3 + 1))))))))
 else (up (some ([], (Err.fault [108, 105, 110, 101] x12_3 (Err.no y28_7.2))))))))))))
 else (up ((Sh.slices_Clip_todo_Step_todo_Step out4_2).bind (fun y52_15 =>
 some (y52_15, Err.nil))))) ([], 0))

noncomputable def slices_Clone_int_int (s_0 : List Int) : Option (List Int) :=
 lt ([] : List Int) (fun y5_2 =>
 gd (y5_2.length + s_0.length ≤ 4294967296) (
 lt (y5_2 ++ s_0) (fun y7_4 =>
 some y7_4)))

noncomputable def graph_Graph_seen (g_0 : List (List Int)) (c_1 : List Int) : Option (List Bool) :=
 gd (I64 ((g_0.length : Int) + 1)) (
 gd ((0 : Int) ≤ ((g_0.length : Int) + 1) ∧ ((g_0.length : Int) + 1) ≤ 4294967296) (
 lt (List.replicate ((g_0.length : Int) + 1).toNat false) (fun y11_2 =>
 (Sh.slices_Clone_int_int c_1).bind (fun y13_3 =>
 iter (fun ((out5_4, wait6_5) : List Bool × List Int) =>
 if 0 < (wait6_5.length : Int) then (gd (I64 ((wait6_5.length : Int) - 1)) (
 (at_ wait6_5 ((wait6_5.length : Int) - 1)).bind (fun z21_6 =>
 gd (I64 ((wait6_5.length : Int) - 1)) (
 gd ((0 : Int) ≤ ((wait6_5.length : Int) - 1) ∧ ((wait6_5.length : Int) - 1) ≤ (wait6_5.length : Int)) (
 lt (wait6_5.take ((wait6_5.length : Int) - 1).toNat) (fun y27_8 =>
 if z21_6 < 1 then (go (out5_4, y27_8))
 else (if (g_0.length : Int) < z21_6 then (go (out5_4, y27_8))
 else ((at_ out5_4 z21_6).bind (fun z39_9 =>
 if z39_9 = true then (go (out5_4, y27_8))
 else ((at_ out5_4 z21_6).bind (fun z44_10 =>
 lt (out5_4.set z21_6.toNat true) (fun ys3_12 =>
 gd (I64 (z21_6 - 1)) (
 (at_ g_0 (z21_6 - 1)).bind (fun z49_13 =>
 gd (y27_8.length + z49_13.length ≤ 4294967296) (
 lt (y27_8 ++ z49_13) (fun y51_15 =>
 go (ys3_12, y51_15)))))))))))))))))
 else (up (some out5_4))) (y11_2, y13_3)))))

noncomputable def slices_Clip_int_int (s_0 : List Int) : Option (List Int) :=
 gd ((0 : Int) ≤ (s_0.length : Int) ∧ (s_0.length : Int) ≤ (s_0.length : Int)) (
 lt (s_0.take (s_0.length : Int).toNat) (fun y8_2 =>
 some y8_2))

noncomputable def graph_row (l_0 : List Bool) : Option (List Int) :=
 iter (fun ((out3_1, x8_2) : List Int × Int) =>
 if x8_2 < (l_0.length : Int) then ((at_ l_0 x8_2).bind (fun z11_3 =>
 if z11_3 = true then (lt [x8_2] (fun y16_5 =>
 gd (out3_1.length + y16_5.length ≤ 4294967296) (
 lt (out3_1 ++ y16_5) (fun y17_7 =>
 gd (I64 (x8_2 + 1)) (
 go (y17_7, (x8_2 + 1)))))))
 else (gd (I64 (x8_2 + 1)) (
 go (out3_1, (x8_2 + 1))))))
 else (up ((Sh.slices_Clip_int_int out3_1).bind (fun y20_8 =>
 some y20_8)))) ([], 0)

noncomputable def graph_Graph_Only (g_0 : List (List Int)) (a_1 : Int) (b_2 : Int) : Option (List Int) :=
 lt [a_1] (fun y12_2 =>
 (Sh.graph_Graph_seen g_0 y12_2).bind (fun y13_3 =>
 lt [b_2] (fun y16_5 =>
 (Sh.graph_Graph_seen g_0 y16_5).bind (fun y17_6 =>
 iter (fun ((x7_7, x20_8) : List Bool × Int) =>
 if x20_8 < (y13_3.length : Int) then ((at_ x7_7 x20_8).bind (fun z27_9 =>
 if z27_9 = true then ((at_ y17_6 x20_8).bind (fun z32_10 =>
 (at_ x7_7 x20_8).bind (fun z36_11 =>
 lt (x7_7.set x20_8.toNat (!z32_10)) (fun ys14_13 =>
 gd (I64 (x20_8 + 1)) (
 go (ys14_13, (x20_8 + 1)))))))
 else ((at_ x7_7 x20_8).bind (fun z36_14 =>
 lt (x7_7.set x20_8.toNat false) (fun ys14_16 =>
 gd (I64 (x20_8 + 1)) (
 go (ys14_16, (x20_8 + 1))))))))
 else (up ((Sh.graph_row x7_7).bind (fun y39_17 =>
 some y39_17)))) (y13_3, 0)))))

noncomputable def todo_Plain (g_0 : List (List Int)) (onto_1 : Int) (from_2 : Int) : Option (List TodoStep) :=
 (Sh.graph_Graph_Only g_0 from_2 onto_1).bind (fun y13_1 =>
 iter (fun ((out7_2, x15_3) : List TodoStep × Int) =>
 if x15_3 < (y13_1.length : Int) then ((at_ y13_1 x15_3).bind (fun z17_4 =>
 gd (I64 (z17_4 - 1)) (
 (at_ g_0 (z17_4 - 1)).bind (fun z22_5 =>
 if (z22_5.length : Int) < 2 then (lt [⟨[112, 105, 99, 107], z17_4, []⟩] (fun y29_7 =>
 gd (out7_2.length + y29_7.length ≤ 4294967296) (
 lt (out7_2 ++ y29_7) (fun y30_9 =>
 gd (I64 (x15_3 + 1)) (
 go (y30_9, (x15_3 + 1)))))))
 else (gd (I64 (x15_3 + 1)) (
 go (out7_2, (x15_3 + 1))))))))
 else (up ((Sh.slices_Clip_todo_Step_todo_Step out7_2).bind (fun y33_10 =>
 some y33_10)))) ([], 0))

noncomputable def todo_Text (l_0 : List TodoStep) : Option Str :=
 iter (fun ((x8_2, acc_3) : Int × Str) =>
 if x8_2 < (l_0.length : Int) then ((at_ l_0 x8_2).bind (fun z10_4 =>
 gd (z10_4.verb.length + [32].length ≤ 9223372036854775807) (
 lt (z10_4.verb ++ [32]) (fun y14_6 =>
 gd (I64 z10_4.commit) (
 gd (y14_6.length + (itoaS z10_4.commit).length ≤ 9223372036854775807) (
 lt (y14_6 ++ (itoaS z10_4.commit)) (fun y18_7 =>
 gd (acc_3.length + y18_7.length ≤ 4294967296) (
 lt (acc_3 ++ y18_7) (fun acc19_8 =>
 if z10_4.verb = [114, 101, 119, 111, 114, 100] then (gd ([32].length + z10_4.text.length ≤ 9223372036854775807) (
 lt ([32] ++ z10_4.text) (fun y25_9 =>
 gd (acc19_8.length + y25_9.length ≤ 4294967296) (
 lt (acc19_8 ++ y25_9) (fun acc26_10 =>
 gd (acc26_10.length + [10].length ≤ 4294967296) (
 lt (acc26_10 ++ [10]) (fun acc27_11 =>
 gd (I64 (x8_2 + 1)) (
 go ((x8_2 + 1), acc27_11)))))))))
 else (gd (acc19_8.length + [10].length ≤ 4294967296) (
 lt (acc19_8 ++ [10]) (fun acc27_12 =>
 gd (I64 (x8_2 + 1)) (
 go ((x8_2 + 1), acc27_12))))))))))))))
 else (up (some acc_3))) (0, [])

noncomputable def todo_fault (at_0 : Int) (e_1 : Int) : Option Err :=
 some (Err.fault [115, 116, 101, 112] at_0 (Err.no e_1))

noncomputable def todo_step (s_0 : TodoStep) (g_1 : List (List Int)) (first_2 : Bool) : Option Int :=
 (Sh.todo_verb s_0.verb).bind (fun y12_2 =>
 if (!y12_2.1) = true then (some 5)
 else (jn (fun (x18_3 : Bool) =>
 if x18_3 = true then (some 1)
 else (jn (fun (x39_6 : Bool) =>
 if x39_6 = true then (some 7)
 else (some 0)) (fun k7 => if y12_2.2 = true then (k7 first_2)
 else (k7 false)))) (fun k4 => if s_0.commit < 1 then (k4 true)
 else (if (g_1.length : Int) < s_0.commit then (k4 true)
 else (gd (I64 (s_0.commit - 1)) (
 (at_ g_1 (s_0.commit - 1)).bind (fun z34_5 =>
 k4 (decide (1 < (z34_5.length : Int))))))))))

noncomputable def todo_Check (l_0 : List TodoStep) (g_1 : List (List Int)) : Option Err :=
 if 32 < (l_0.length : Int) then ((Sh.todo_fault 32 4).bind (fun y12_1 =>
 some y12_1))
 else (iter (fun ((first5_2, x15_3) : Bool × Int) =>
 if x15_3 < (l_0.length : Int) then ((at_ l_0 x15_3).bind (fun z18_4 =>
 (Sh.todo_step z18_4 g_1 first5_2).bind (fun y23_6 =>
 if y23_6 = 0 then (if first5_2 = true then (gd (I64 (x15_3 + 1)) (
 go ((decide (z18_4.verb = [100, 114, 111, 112])), (x15_3 + 1))))
 else (gd (I64 (x15_3 + 1)) (
 go (false, (x15_3 + 1)))))
 else ((Sh.todo_fault x15_3 y23_6).bind (fun y28_7 =>
 up (some y28_7))))))
 else (up (some Err.nil))) (true, 0))

noncomputable def rectolaw21_known  : Option Bool :=
 (Sh.todo_Parse [35, 32, 120, 10, 112, 105, 99, 107, 32, 51, 10, 10, 114, 101, 119, 111, 114, 100, 32, 52, 32, 110, 101, 119, 32, 119, 111, 114, 100, 115, 10]).bind (fun y8_1 =>
 (Sh.todo_Parse [112, 105, 99, 107, 32, 120]).bind (fun y12_2 =>
 lt [1] (fun y15_4 =>
 lt [2] (fun y16_6 =>
 lt [[], y15_4, y16_6] (fun y17_8 =>
 (Sh.todo_Plain y17_8 1 3).bind (fun y19_9 =>
 if y8_1.2.isNil = true then (if y12_2.2.isNil = true then (some false)
 else (if (y8_1.1.length : Int) = 2 then ((at_ y8_1.1 1).bind (fun z33_10 =>
 if z33_10.text = [110, 101, 119, 32, 119, 111, 114, 100, 115] then ((Sh.todo_Text y8_1.1).bind (fun y40_11 =>
 if y40_11 = [112, 105, 99, 107, 32, 51, 10, 114, 101, 119, 111, 114, 100, 32, 52, 32, 110, 101, 119, 32, 119, 111, 114, 100, 115, 10] then (if (y19_9.length : Int) = 2 then ((at_ y19_9 0).bind (fun z50_12 =>
 if z50_12.commit = 2 then ((Sh.todo_Check y19_9 y17_8).bind (fun y58_13 =>
 if y58_13.isNil = true then ((Sh.todo_Check y8_1.1 y17_8).bind (fun y64_14 =>
 some (!decide (y64_14.isNil = true))))
 else (some false)))
 else (some false)))
 else (some false))
 else (some false)))
 else (some false)))
 else (some false)))
 else (some false)))))))

noncomputable def rectoref17_Lines (s_0 : Str) : Option (List Str) :=
 lt [[]] (fun y5_2 =>
 iter (fun ((out3_3, i4_4) : List Str × Int) =>
 if i4_4 < (s_0.length : Int) then (jn (fun (out3_5 : List Str) =>
 gd (I64 (i4_4 + 1)) (
 go (out3_5, (i4_4 + 1)))) (fun k6 => (at_ s_0 i4_4).bind (fun z14_7 =>
 if (z14_7.toNat : Int) = 10 then (lt [[]] (fun y17_9 =>
 gd (out3_3.length + y17_9.length ≤ 4294967296) (
 lt (out3_3 ++ y17_9) (fun y18_11 =>
 k6 y18_11))))
 else (gd (I64 ((out3_3.length : Int) - 1)) (
 gd (I64 ((out3_3.length : Int) - 1)) (
 (at_ out3_3 ((out3_3.length : Int) - 1)).bind (fun z27_12 =>
 gd (I64 (i4_4 + 1)) (
 gd ((0 : Int) ≤ i4_4 ∧ i4_4 ≤ (i4_4 + 1) ∧ (i4_4 + 1) ≤ (s_0.length : Int)) (
 lt ((s_0.drop i4_4.toNat).take ((i4_4 + 1).toNat - i4_4.toNat)) (fun y33_13 =>
 gd (z27_12.length + y33_13.length ≤ 9223372036854775807) (
 lt (z27_12 ++ y33_13) (fun y34_14 =>
 (at_ out3_3 ((out3_3.length : Int) - 1)).bind (fun z35_15 =>
 lt (out3_3.set ((out3_3.length : Int) - 1).toNat y34_14) (fun ys17_17 =>
 k6 ys17_17))))))))))))))
 else (up (some out3_3))) (y5_2, 0))

noncomputable def rectoref17_word (s_0 : Str) : Option (Str × Str) :=
 jn (fun (i4_1 : Int) =>
 jn (fun (k5_5 : Int) =>
 gd ((0 : Int) ≤ i4_1 ∧ i4_1 ≤ k5_5 ∧ k5_5 ≤ (s_0.length : Int)) (
 lt ((s_0.drop i4_1.toNat).take (k5_5.toNat - i4_1.toNat)) (fun y34_9 =>
 gd ((0 : Int) ≤ k5_5 ∧ k5_5 ≤ (s_0.length : Int)) (
 lt (s_0.drop k5_5.toNat) (fun y37_10 =>
 some (y34_9, y37_10)))))) (fun k6 => iter (fun (k5_7 : Int) =>
 if k5_7 < (s_0.length : Int) then ((at_ s_0 k5_7).bind (fun z26_8 =>
 if (z26_8.toNat : Int) = 32 then (up (k6 k5_7))
 else (gd (I64 (k5_7 + 1)) (
 go (k5_7 + 1)))))
 else (up (k6 k5_7))) i4_1)) (fun k2 => iter (fun (i4_3 : Int) =>
 if i4_3 < (s_0.length : Int) then ((at_ s_0 i4_3).bind (fun z13_4 =>
 if (z13_4.toNat : Int) = 32 then (gd (I64 (i4_3 + 1)) (
 go (i4_3 + 1)))
 else (up (k2 i4_3))))
 else (up (k2 i4_3))) 0)

noncomputable def rectoref17_Verb (s_0 : Str) : Option Int :=
 lt [[112, 105, 99, 107], [114, 101, 119, 111, 114, 100], [101, 100, 105, 116], [115, 113, 117, 97, 115, 104], [102, 105, 120, 117, 112], [100, 114, 111, 112]] (fun y5_2 =>
 iter (fun (i4_3 : Int) =>
 if i4_3 < (y5_2.length : Int) then ((at_ y5_2 i4_3).bind (fun z14_4 =>
 if z14_4 = s_0 then (up (some i4_3))
 else (gd (I64 (i4_3 + 1)) (
 go (i4_3 + 1)))))
 else (up (some (-1)))) 0)

noncomputable def rectoref17_Number (s_0 : Str) : Option Int :=
 jn (fun (x22_1 : Bool) =>
 if x22_1 = true then (some (-1))
 else (iter (fun ((n3_4, i4_5) : Int × Int) =>
 if i4_5 < (s_0.length : Int) then (jn (fun (x38_6 : Bool) =>
 if x38_6 = true then (up (some (-1)))
 else (gd (I64 (10 * n3_4)) (
 (at_ s_0 i4_5).bind (fun z43_10 =>
 gd (0 ≤ (z43_10.toNat : Int) - 48 ∧ (z43_10.toNat : Int) - 48 ≤ 255) (
 gd (I64 ((10 * n3_4) + (IntKind.wrap .i64 ((z43_10.toNat : Int) - 48)))) (
 gd (I64 (i4_5 + 1)) (
 go (((10 * n3_4) + (IntKind.wrap .i64 ((z43_10.toNat : Int) - 48))), (i4_5 + 1))))))))) (fun k7 => (at_ s_0 i4_5).bind (fun z31_8 =>
 if (z31_8.toNat : Int) < 48 then (k7 true)
 else ((at_ s_0 i4_5).bind (fun z36_9 =>
 k7 (decide (57 < (z36_9.toNat : Int))))))))
 else (up (if 1000000 < n3_4 then (some (-1))
 else (some n3_4)))) (0, 0))) (fun k2 => if (s_0.length : Int) < 1 then (k2 true)
 else (if 7 < (s_0.length : Int) then (k2 true)
 else (if 1 < (s_0.length : Int) then ((at_ s_0 0).bind (fun z19_3 =>
 k2 (decide ((z19_3.toNat : Int) = 48))))
 else (k2 false))))

noncomputable def rectoref17_blank (s_0 : Str) : Option Bool :=
 (Sh.rectoref17_word s_0).bind (fun y7_1 =>
 some (decide (y7_1.1 = [])))

noncomputable def rectoref17_step (s_0 : Str) : Option (Rectoref17Step × Int) :=
 (Sh.rectoref17_word s_0).bind (fun y11_2 =>
 (Sh.rectoref17_word y11_2.2).bind (fun y16_3 =>
 if y16_3.1 = [] then (some (⟨[], 0, []⟩, 2))
 else ((Sh.rectoref17_Verb y11_2.1).bind (fun y23_4 =>
 if y23_4 < 0 then (some (⟨[], 0, []⟩, 5))
 else ((Sh.rectoref17_Number y16_3.1).bind (fun y27_5 =>
 if y27_5 < 1 then (some (⟨[], 0, []⟩, 1))
 else (if y11_2.1 = [114, 101, 119, 111, 114, 100] then (if (y16_3.2.length : Int) < 2 then (some (⟨[], 0, []⟩, 2))
 else (gd (I64 ((y16_3.2.length : Int) - 1)) (
 if 256 < ((y16_3.2.length : Int) - 1) then (some (⟨[], 0, []⟩, 4))
 else (gd ((0 : Int) ≤ 1 ∧ 1 ≤ (y16_3.2.length : Int)) (
 lt (y16_3.2.drop (1 : Int).toNat) (fun y52_7 =>
 some (⟨y11_2.1, y27_5, y52_7⟩, 0)))))))
 else ((Sh.rectoref17_blank y16_3.2).bind (fun y34_6 =>
 if (!y34_6) = true then (some (⟨[], 0, []⟩, 2))
 else (some (⟨y11_2.1, y27_5, []⟩, 0)))))))))))

noncomputable def rectoref3_At (word_0 : Str) (at_1 : Int) (e_2 : Int) : Option Rectoref3WrongP :=
 lt [⟨word_0, at_1⟩] (fun y10_3 =>
 some ⟨y10_3, e_2⟩)

noncomputable def rectoref17_Parse (s_0 : Str) : Option (List Rectoref17Step × Rectoref3WrongP) :=
 (Sh.rectoref17_Lines s_0).bind (fun y12_2 =>
 iter (fun ((out5_3, i6_4) : List Rectoref17Step × Int) =>
 if i6_4 < (y12_2.length : Int) then (jn (fun (out5_5 : List Rectoref17Step) =>
 gd (I64 (i6_4 + 1)) (
 go (out5_5, (i6_4 + 1)))) (fun k6 => (at_ y12_2 i6_4).bind (fun z22_7 =>
 (Sh.rectoref17_word z22_7).bind (fun y24_8 =>
 if y24_8.1 = [] then (k6 out5_3)
 else ((at_ y24_8.1 0).bind (fun z31_9 =>
 if (z31_9.toNat : Int) = 35 then (k6 out5_3)
 else ((at_ y12_2 i6_4).bind (fun z37_10 =>
 (Sh.rectoref17_step z37_10).bind (fun y39_11 =>
 if y39_11.2 = 0 then (if (out5_3.length : Int) = 32 then ((Sh.rectoref3_At [108, 105, 110, 101] 32 4).bind (fun y50_14 =>
 up (some ([], ⟨y50_14.parts, y50_14.err⟩))))
 else (lt [⟨y39_11.1.verb, y39_11.1.commit, y39_11.1.text⟩] (fun y53_16 =>
 gd (out5_3.length + y53_16.length ≤ 4294967296) (
 lt (out5_3 ++ y53_16) (fun y54_18 =>
 k6 y54_18)))))
 else ((Sh.rectoref3_At [108, 105, 110, 101] i6_4 y39_11.2).bind (fun y46_13 =>
 up (some ([], ⟨y46_13.parts, y46_13.err⟩)))))))))))))
 else (up (some (out5_3, ⟨[], 0⟩)))) ([], 0))

noncomputable def api_Errno_Error (e_0 : Int) : Option Str :=
 if e_0 = 0 then (some [111, 107])
 else (if e_0 = 1 then (some [97, 114, 103])
 else (if e_0 = 2 then (some [102, 111, 114, 109])
 else (if e_0 = 3 then (some [115, 104, 111, 114, 116])
 else (if e_0 = 4 then (some [108, 111, 110, 103])
 else (if e_0 = 5 then (some [110, 97, 109, 101])
 else (if e_0 = 6 then (some [116, 119, 105, 99, 101])
 else (if e_0 = 7 then (some [115, 116, 97, 116, 101])
 else (if e_0 = 8 then (some [100, 105, 114, 116, 121])
 else (if e_0 = 9 then (some [99, 111, 110, 102, 108, 105, 99, 116])
 else (if e_0 = 10 then (some [115, 97, 109, 101])
 else (if e_0 = 11 then (some [119, 97, 121])
 else (if e_0 = 12 then (some [115, 117, 109])
 else (if e_0 = 13 then (some [100, 111, 119, 110])
 else (if e_0 = 14 then (some [113, 117, 111, 116, 97])
 else (some [101, 114, 114, 111, 114])))))))))))))))

noncomputable def api_Fault_Error (f_0 : ApiFaultP) (E : Option Str) : Option Str :=
 if f_0.err.isNil = true then (gd (f_0.part.length + [32].length ≤ 9223372036854775807) (
 lt (f_0.part ++ [32]) (fun y12_1 =>
 gd (I64 f_0.at_) (
 gd (y12_1.length + (itoaS f_0.at_).length ≤ 9223372036854775807) (
 lt (y12_1 ++ (itoaS f_0.at_)) (fun y18_2 =>
 some y18_2))))))
 else (gd (f_0.part.length + [32].length ≤ 9223372036854775807) (
 lt (f_0.part ++ [32]) (fun y23_3 =>
 gd (I64 f_0.at_) (
 gd (y23_3.length + (itoaS f_0.at_).length ≤ 9223372036854775807) (
 lt (y23_3 ++ (itoaS f_0.at_)) (fun y29_4 =>
 gd (y29_4.length + [58, 32].length ≤ 9223372036854775807) (
 lt (y29_4 ++ [58, 32]) (fun y30_5 =>
 (E).bind (fun y35_6 =>
 gd (y30_5.length + y35_6.length ≤ 9223372036854775807) (
 lt (y30_5 ++ y35_6) (fun y36_7 =>
 some y36_7)))))))))))

/-- the words of an error -/
noncomputable def erText : Err → Option Str
  | .nil => none
  | .no n => Sh.api_Errno_Error n
  | .fault p a e => Sh.api_Fault_Error ⟨p, a, e⟩ (erText e)

noncomputable def rectoref3_Decimal_r (n_0 : Int) : Option Str :=
 if n_0 < 0 then (if n_0 = (-9223372036854775808) then (some [45, 57, 50, 50, 51, 51, 55, 50, 48, 51, 54, 56, 53, 52, 55, 55, 53, 56, 48, 56])
 else (gd (I64 (0 - n_0)) (
 none)))
 else (gd ((0 : Int) ≤ n_0 ∧ (10 : Int) ≠ 0) (
 gd (I64 (48 + (n_0 % 10))) (
 gd (0 ≤ (48 + (n_0 % 10)) ∧ (48 + (n_0 % 10)) ≤ 255) (
 gd ((0 : Int) ≤ (48 + (n_0 % 10)) ∧ (48 + (n_0 % 10)) ≤ 255) (
 lt (UInt8.ofNat (48 + (n_0 % 10)).toNat) (fun u16_2 =>
 lt [u16_2] (fun y16_3 =>
 iter (fun ((n0_4, s3_5) : Int × Str) =>
 if 10 ≤ n0_4 then (gd (((0 : Int) ≤ n0_4 ∧ (10 : Int) ≠ 0) ∧ I64 (n0_4 / 10)) (
 gd ((0 : Int) ≤ (n0_4 / 10) ∧ (10 : Int) ≠ 0) (
 gd (I64 (48 + ((n0_4 / 10) % 10))) (
 gd (0 ≤ (48 + ((n0_4 / 10) % 10)) ∧ (48 + ((n0_4 / 10) % 10)) ≤ 255) (
 gd ((0 : Int) ≤ (48 + ((n0_4 / 10) % 10)) ∧ (48 + ((n0_4 / 10) % 10)) ≤ 255) (
 lt (UInt8.ofNat (48 + ((n0_4 / 10) % 10)).toNat) (fun u26_7 =>
 lt [u26_7] (fun y26_8 =>
 gd (y26_8.length + s3_5.length ≤ 9223372036854775807) (
 lt (y26_8 ++ s3_5) (fun y29_9 =>
 go ((n0_4 / 10), y29_9)))))))))))
 else (up (some s3_5))) (n_0, y16_3))))))))

noncomputable def rectoref3_Decimal (n_0 : Int) : Option Str :=
 if n_0 < 0 then (if n_0 = (-9223372036854775808) then (some [45, 57, 50, 50, 51, 51, 55, 50, 48, 51, 54, 56, 53, 52, 55, 55, 53, 56, 48, 56])
 else (gd (I64 (0 - n_0)) (
 (Sh.rectoref3_Decimal_r (0 - n_0)).bind (fun y10_1 =>
 gd ([45].length + y10_1.length ≤ 9223372036854775807) (
 lt ([45] ++ y10_1) (fun y11_2 =>
 some y11_2))))))
 else (gd ((0 : Int) ≤ n_0 ∧ (10 : Int) ≠ 0) (
 gd (I64 (48 + (n_0 % 10))) (
 gd (0 ≤ (48 + (n_0 % 10)) ∧ (48 + (n_0 % 10)) ≤ 255) (
 gd ((0 : Int) ≤ (48 + (n_0 % 10)) ∧ (48 + (n_0 % 10)) ≤ 255) (
 lt (UInt8.ofNat (48 + (n_0 % 10)).toNat) (fun u16_4 =>
 lt [u16_4] (fun y16_5 =>
 iter (fun ((n0_6, s3_7) : Int × Str) =>
 if 10 ≤ n0_6 then (gd (((0 : Int) ≤ n0_6 ∧ (10 : Int) ≠ 0) ∧ I64 (n0_6 / 10)) (
 gd ((0 : Int) ≤ (n0_6 / 10) ∧ (10 : Int) ≠ 0) (
 gd (I64 (48 + ((n0_6 / 10) % 10))) (
 gd (0 ≤ (48 + ((n0_6 / 10) % 10)) ∧ (48 + ((n0_6 / 10) % 10)) ≤ 255) (
 gd ((0 : Int) ≤ (48 + ((n0_6 / 10) % 10)) ∧ (48 + ((n0_6 / 10) % 10)) ≤ 255) (
 lt (UInt8.ofNat (48 + ((n0_6 / 10) % 10)).toNat) (fun u26_9 =>
 lt [u26_9] (fun y26_10 =>
 gd (y26_10.length + s3_7.length ≤ 9223372036854775807) (
 lt (y26_10 ++ s3_7) (fun y29_11 =>
 go ((n0_6 / 10), y29_11)))))))))))
 else (up (some s3_7))) (n_0, y16_5))))))))

noncomputable def rectoref3_Word (e_0 : Int) : Option Str :=
 lt [[111, 107], [97, 114, 103], [102, 111, 114, 109], [115, 104, 111, 114, 116], [108, 111, 110, 103], [110, 97, 109, 101], [116, 119, 105, 99, 101], [115, 116, 97, 116, 101], [100, 105, 114, 116, 121], [99, 111, 110, 102, 108, 105, 99, 116], [115, 97, 109, 101], [119, 97, 121], [115, 117, 109], [100, 111, 119, 110], [113, 117, 111, 116, 97]] (fun y4_2 =>
 jn (fun (x12_3 : Bool) =>
 if x12_3 = true then (some [101, 114, 114, 111, 114])
 else ((at_ y4_2 e_0).bind (fun z15_5 =>
 some z15_5))) (fun k4 => if e_0 < 0 then (k4 true)
 else (k4 (decide ((y4_2.length : Int) ≤ e_0)))))

noncomputable def rectoref3_Words (w_0 : Rectoref3WrongP) : Option Str :=
 iter (fun ((s3_2, i4_3) : Str × Int) =>
 if i4_3 < (w_0.parts.length : Int) then ((at_ w_0.parts i4_3).bind (fun z16_4 =>
 gd (s3_2.length + z16_4.word.length ≤ 9223372036854775807) (
 lt (s3_2 ++ z16_4.word) (fun y19_5 =>
 gd (y19_5.length + [32].length ≤ 9223372036854775807) (
 lt (y19_5 ++ [32]) (fun y20_6 =>
 (at_ w_0.parts i4_3).bind (fun z24_7 =>
 (Sh.rectoref3_Decimal z24_7.at_).bind (fun y27_8 =>
 gd (y20_6.length + y27_8.length ≤ 9223372036854775807) (
 lt (y20_6 ++ y27_8) (fun y28_9 =>
 gd (y28_9.length + [58, 32].length ≤ 9223372036854775807) (
 lt (y28_9 ++ [58, 32]) (fun y29_10 =>
 gd (I64 (i4_3 + 1)) (
 go (y29_10, (i4_3 + 1)))))))))))))))
 else (up ((Sh.rectoref3_Word w_0.err).bind (fun y33_11 =>
 gd (s3_2.length + y33_11.length ≤ 9223372036854775807) (
 lt (s3_2 ++ y33_11) (fun y34_12 =>
 some y34_12)))))) ([], 0)

noncomputable def rectolaw2_Tells (err_0 : Err) (w_1 : Rectoref3WrongP) : Option Bool :=
 if w_1.err = 0 then (some (decide (err_0.isNil = true)))
 else (jn (fun (x27_2 : Bool) =>
 if x27_2 = true then (some false)
 else (if (w_1.parts.length : Int) = 0 then (some true)
 else ((match err_0 with
 | .fault ep7 ea7 ez7 => ((at_ w_1.parts 0).bind (fun z46_8 =>
 if ep7 = z46_8.word then ((at_ w_1.parts 0).bind (fun z57_9 =>
 some (decide (ea7 = z57_9.at_))))
 else (some false)))
 | _ => none)))) (fun k3 => if err_0.isNil = true then (k3 true)
 else ((Sh.erText err_0).bind (fun y15_4 =>
 (Sh.rectoref3_Words w_1).bind (fun y17_5 =>
 if y15_4 = y17_5 then (k3 (!decide (endNo err_0 = some w_1.err)))
 else (k3 true))))))

noncomputable def rectolaw21_Same (a_0 : List TodoStep) (b_1 : List Rectoref17Step) : Option Bool :=
 if (a_0.length : Int) = (b_1.length : Int) then (iter (fun (i5_1 : Int) =>
 if i5_1 < (a_0.length : Int) then (jn (fun (x53_2 : Bool) =>
 if x53_2 = true then (up (some false))
 else (gd (I64 (i5_1 + 1)) (
 go (i5_1 + 1)))) (fun k3 => (at_ a_0 i5_1).bind (fun z19_4 =>
 (at_ b_1 i5_1).bind (fun z24_5 =>
 if z19_4.verb = z24_5.verb then ((at_ a_0 i5_1).bind (fun z31_6 =>
 (at_ b_1 i5_1).bind (fun z36_7 =>
 if z31_6.commit = z36_7.commit then ((at_ a_0 i5_1).bind (fun z44_8 =>
 (at_ b_1 i5_1).bind (fun z49_9 =>
 k3 (!decide (z44_8.text = z49_9.text)))))
 else (k3 true))))
 else (k3 true)))))
 else (up (some true))) 0)
 else (some false)

noncomputable def rectolaw21_TodoTexts (s_0 : Str) : Option Bool :=
 (Sh.rectolaw21_known).bind (fun y7_1 =>
 if (!y7_1) = true then (some false)
 else (if 2000 < (s_0.length : Int) then (some true)
 else ((Sh.todo_Parse s_0).bind (fun y14_2 =>
 (Sh.rectoref17_Parse s_0).bind (fun y19_3 =>
 (Sh.rectolaw2_Tells y14_2.2 y19_3.2).bind (fun y24_5 =>
 if y24_5 = true then ((Sh.rectolaw21_Same y14_2.1 y19_3.1).bind (fun y28_6 =>
 some y28_6))
 else (some false)))))))

noncomputable def rectoref17_Check (a_0 : List (List Int)) : Option Int :=
 if 1024 < (a_0.length : Int) then (some 4)
 else (iter (fun (x3_1 : Int) =>
 if x3_1 < (a_0.length : Int) then (jn (fun (_ : Unit) =>
 gd (I64 (x3_1 + 1)) (
 go (x3_1 + 1))) (fun k2 => (at_ a_0 x3_1).bind (fun z16_3 =>
 if 2 < (z16_3.length : Int) then (up (some 1))
 else (iter (fun (x4_4 : Int) =>
 (at_ a_0 x3_1).bind (fun z23_5 =>
 if x4_4 < (z23_5.length : Int) then (jn (fun (x47_6 : Bool) =>
 if x47_6 = true then (up (up (some 1)))
 else (gd (I64 (x4_4 + 1)) (
 go (x4_4 + 1)))) (fun k7 => (at_ a_0 x3_1).bind (fun z31_8 =>
 (at_ z31_8 x4_4).bind (fun z34_9 =>
 if z34_9 < 1 then (k7 true)
 else ((at_ a_0 x3_1).bind (fun z40_10 =>
 (at_ z40_10 x4_4).bind (fun z43_11 =>
 k7 (decide (x3_1 < z43_11)))))))))
 else (up (jn (fun (x68_12 : Bool) =>
 if x68_12 = true then (up (some 6))
 else (k2 ())) (fun k13 => (at_ a_0 x3_1).bind (fun z50_14 =>
 if (z50_14.length : Int) = 2 then ((at_ a_0 x3_1).bind (fun z57_15 =>
 (at_ z57_15 0).bind (fun z59_16 =>
 (at_ a_0 x3_1).bind (fun z63_17 =>
 (at_ z63_17 1).bind (fun z65_18 =>
 k13 (decide (z59_16 = z65_18)))))))
 else (k13 false))))))) 0))))
 else (up (some 0))) 0)

noncomputable def rectolaw21_Of (l_0 : List TodoStep) : Option (List Rectoref17Step) :=
 iter (fun ((out3_1, i4_2) : List Rectoref17Step × Int) =>
 if i4_2 < (l_0.length : Int) then ((at_ l_0 i4_2).bind (fun z14_3 =>
 (at_ l_0 i4_2).bind (fun z19_4 =>
 (at_ l_0 i4_2).bind (fun z24_5 =>
 lt [⟨z14_3.verb, z19_4.commit, z24_5.text⟩] (fun y28_7 =>
 gd (out3_1.length + y28_7.length ≤ 4294967296) (
 lt (out3_1 ++ y28_7) (fun y29_9 =>
 gd (I64 (i4_2 + 1)) (
 go (y29_9, (i4_2 + 1))))))))))
 else (up (some out3_1))) ([], 0)

noncomputable def rectoref17_CheckTodo (a_0 : List Rectoref17Step) (a_1 : List (List Int)) : Option Rectoref3WrongP :=
 if 32 < (a_0.length : Int) then ((Sh.rectoref3_At [115, 116, 101, 112] 32 4).bind (fun y11_2 =>
 some ⟨y11_2.parts, y11_2.err⟩))
 else (iter (fun ((x5_3, x6_4) : Bool × Int) =>
 if x6_4 < (a_0.length : Int) then (jn (fun (x5_5 : Bool) =>
 gd (I64 (x6_4 + 1)) (
 go (x5_5, (x6_4 + 1)))) (fun k6 => (at_ a_0 x6_4).bind (fun z20_7 =>
 (Sh.rectoref17_Verb z20_7.verb).bind (fun y25_9 =>
 if y25_9 < 0 then ((Sh.rectoref3_At [115, 116, 101, 112] x6_4 5).bind (fun y28_10 =>
 up (some ⟨y28_10.parts, y28_10.err⟩)))
 else (jn (fun (x29_11 : Bool) =>
 if x29_11 = true then ((Sh.rectoref3_At [115, 116, 101, 112] x6_4 1).bind (fun y51_14 =>
 up (some ⟨y51_14.parts, y51_14.err⟩)))
 else (jn (fun (x52_15 : Bool) =>
 if x52_15 = true then ((Sh.rectoref3_At [115, 116, 101, 112] x6_4 7).bind (fun y65_17 =>
 up (some ⟨y65_17.parts, y65_17.err⟩)))
 else (if x5_3 = true then (k6 (decide (z20_7.verb = [100, 114, 111, 112])))
 else (k6 false))) (fun k16 => if x5_3 = true then (if z20_7.verb = [115, 113, 117, 97, 115, 104] then (k16 true)
 else (k16 (decide (z20_7.verb = [102, 105, 120, 117, 112]))))
 else (k16 false)))) (fun k12 => if z20_7.commit < 1 then (k12 true)
 else (if (a_1.length : Int) < z20_7.commit then (k12 true)
 else (gd (I64 (z20_7.commit - 1)) (
 (at_ a_1 (z20_7.commit - 1)).bind (fun z45_13 =>
 k12 (decide (1 < (z45_13.length : Int)))))))))))))
 else (up (some ⟨[], 0⟩))) (true, 0))

noncomputable def rectoref17_Text (l_0 : List Rectoref17Step) : Option Str :=
 iter (fun ((s3_1, i4_2) : Str × Int) =>
 if i4_2 < (l_0.length : Int) then ((at_ l_0 i4_2).bind (fun z14_3 =>
 gd (s3_1.length + z14_3.verb.length ≤ 9223372036854775807) (
 lt (s3_1 ++ z14_3.verb) (fun y17_4 =>
 gd (y17_4.length + [32].length ≤ 9223372036854775807) (
 lt (y17_4 ++ [32]) (fun y18_5 =>
 (at_ l_0 i4_2).bind (fun z21_6 =>
 (Sh.rectoref3_Decimal z21_6.commit).bind (fun y24_7 =>
 gd (y18_5.length + y24_7.length ≤ 9223372036854775807) (
 lt (y18_5 ++ y24_7) (fun y25_8 =>
 jn (fun (s3_9 : Str) =>
 gd (s3_9.length + [10].length ≤ 9223372036854775807) (
 lt (s3_9 ++ [10]) (fun y41_15 =>
 gd (I64 (i4_2 + 1)) (
 go (y41_15, (i4_2 + 1)))))) (fun k10 => (at_ l_0 i4_2).bind (fun z28_11 =>
 if z28_11.verb = [114, 101, 119, 111, 114, 100] then (gd (y25_8.length + [32].length ≤ 9223372036854775807) (
 lt (y25_8 ++ [32]) (fun y33_12 =>
 (at_ l_0 i4_2).bind (fun z36_13 =>
 gd (y33_12.length + z36_13.text.length ≤ 9223372036854775807) (
 lt (y33_12 ++ z36_13.text) (fun y39_14 =>
 k10 y39_14))))))
 else (k10 y25_8)))))))))))))
 else (up (some s3_1))) ([], 0)

noncomputable def rectolaw21_TodoBack (a_0 : List TodoStep) (a_1 : List (List Int)) : Option Bool :=
 (Sh.rectolaw21_known).bind (fun y11_1 =>
 if (!y11_1) = true then (some false)
 else (jn (fun (x25_2 : Bool) =>
 if x25_2 = true then (some true)
 else (iter (fun ((x5_5, x6_6) : Bool × Int) =>
 if x6_6 < (a_0.length : Int) then (jn (fun (x5_7 : Bool) =>
 gd (I64 (x6_6 + 1)) (
 go (x5_7, (x6_6 + 1)))) (fun k8 => (at_ a_0 x6_6).bind (fun z37_9 =>
 jn (fun (x48_11 : Bool) =>
 if x48_11 = true then (up (some true))
 else (jn (fun (x5_13 : Bool) =>
 if z37_9.verb = [114, 101, 119, 111, 114, 100] then (if x5_13 = true then (if z37_9.text = [] then (k8 false)
 else (if (z37_9.text.length : Int) ≤ 256 then ((Sh.rectoref17_Lines z37_9.text).bind (fun y84_16 =>
 k8 (decide ((y84_16.length : Int) = 1))))
 else (k8 false)))
 else (k8 false))
 else (k8 x5_13)) (fun k14 => if x5_5 = true then ((Sh.rectoref17_Verb z37_9.verb).bind (fun y53_15 =>
 if 0 ≤ y53_15 then (if 1 ≤ z37_9.commit then (k14 (decide (z37_9.commit ≤ 1000000)))
 else (k14 false))
 else (k14 false)))
 else (k14 false)))) (fun k12 => if 30 < (z37_9.verb.length : Int) then (k12 true)
 else (k12 (decide (300 < (z37_9.text.length : Int))))))))
 else (up (jn (fun (x104_17 : Bool) =>
 if x104_17 = true then (some false)
 else (if (!x5_5) = true then (some true)
 else ((Sh.todo_Text a_0).bind (fun y109_26 =>
 (Sh.todo_Parse y109_26).bind (fun y110_27 =>
 jn (fun (x121_28 : Bool) =>
 if x121_28 = true then (some false)
 else (iter (fun (x10_30 : Int) =>
 if x10_30 < (a_0.length : Int) then (jn (fun (x188_31 : Bool) =>
 if x188_31 = true then (up (some false))
 else (gd (I64 (x10_30 + 1)) (
 go (x10_30 + 1)))) (fun k32 => (at_ y110_27.1 x10_30).bind (fun z130_33 =>
 (at_ a_0 x10_30).bind (fun z135_34 =>
 if z130_33.verb = z135_34.verb then ((at_ y110_27.1 x10_30).bind (fun z142_35 =>
 (at_ a_0 x10_30).bind (fun z147_36 =>
 if z142_35.commit = z147_36.commit then ((at_ a_0 x10_30).bind (fun z155_37 =>
 if z155_37.verb = [114, 101, 119, 111, 114, 100] then ((at_ y110_27.1 x10_30).bind (fun z162_38 =>
 (at_ a_0 x10_30).bind (fun z167_39 =>
 if z162_38.text = z167_39.text then ((at_ a_0 x10_30).bind (fun z176_40 =>
 if z176_40.verb = [114, 101, 119, 111, 114, 100] then (k32 false)
 else ((at_ y110_27.1 x10_30).bind (fun z183_41 =>
 k32 (!decide (z183_41.text = []))))))
 else (k32 true))))
 else ((at_ a_0 x10_30).bind (fun z176_42 =>
 if z176_42.verb = [114, 101, 119, 111, 114, 100] then (k32 false)
 else ((at_ y110_27.1 x10_30).bind (fun z183_43 =>
 k32 (!decide (z183_43.text = []))))))))
 else (k32 true))))
 else (k32 true)))))
 else (up (some true))) 0)) (fun k29 => if y110_27.2.isNil = true then (k29 (!decide ((y110_27.1.length : Int) = (a_0.length : Int))))
 else (k29 true))))))) (fun k18 => (Sh.todo_Check a_0 a_1).bind (fun y90_19 =>
 (Sh.rectolaw21_Of a_0).bind (fun y92_20 =>
 (Sh.rectoref17_CheckTodo y92_20 a_1).bind (fun y94_21 =>
 (Sh.rectolaw2_Tells y90_19 y94_21).bind (fun y95_22 =>
 if (!y95_22) = true then (k18 true)
 else ((Sh.todo_Text a_0).bind (fun y99_23 =>
 (Sh.rectolaw21_Of a_0).bind (fun y101_24 =>
 (Sh.rectoref17_Text y101_24).bind (fun y102_25 =>
 k18 (!decide (y99_23 = y102_25)))))))))))))) ((decide ((a_0.length : Int) ≤ 32)), 0))) (fun k3 => if 40 < (a_0.length : Int) then (k3 true)
 else (if 60 < (a_1.length : Int) then (k3 true)
 else ((Sh.rectoref17_Check a_1).bind (fun y23_4 =>
 k3 (!decide (y23_4 = 0))))))))

end Go.S.Sh
end

section
/-
  DERIVED: THE SHELF's CONTRACTS AT THIS DUMP, IN PLAIN WORDS (tools/lay-plain.mjs out of 'TryzShelf.lean', which tools/lay-shelf.mjs wrote): THE SAME DECLARATIONS UNDER THE SAME NAMES: 'import', 'namespace', 'open', 'def', 'theorem' AND NOTHING ELSE: no command of the shelf's: FOR A HAND-IN. Each laying: the table of numbers ('.._ren') and one theorem, a field a fact of the dump's own or the kernel's comparison; each contract: ONE APPLICATION.
-/
namespace Go.Proofs
open Go.Shelf
def Tryz.laysM171_ren : Go.Shelf.Ren := ⟨fun | 171 => 61 | 243 => 121 | 246 => 169 | 283 => 195 | 284 => 196 | 285 => 197 | 286 => 198 | 129 => 218 | 317 => 217 | 318 => 219 | 319 => 220 | 320 => 221 | 337 => 235 | 338 => 236 | n => n, fun | 3 => 3 | 9 => 9 | 2 => 2 | 4 => 4 | 171 => 265 | 0 => 0 | 53 => 198 | 37 => 51 | 5 => 5 | 173 => 268 | 212 => 283 | 51 => 200 | 20 => 20 | 213 => 284 | 46 => 199 | 232 => 302 | 233 => 303 | n => n, fun | 17 => 4 | 18 => 5 | 19 => 6 | n => n⟩
theorem Tryz.laysM171 : Go.Proofs.LaysM.n171 Tryz.prog Tryz.laysM171_ren := {
  mixed := by kernel_rfl
  f129 := Tryz.func218.trans (congrArg some (by kernel_rfl))
  f171 := Tryz.func61.trans (congrArg some (by kernel_rfl))
  f243 := Tryz.func121.trans (congrArg some (by kernel_rfl))
  f246 := Tryz.func169.trans (congrArg some (by kernel_rfl))
  f283 := Tryz.func195.trans (congrArg some (by kernel_rfl))
  f284 := Tryz.func196.trans (congrArg some (by kernel_rfl))
  f285 := Tryz.func197.trans (congrArg some (by kernel_rfl))
  f286 := Tryz.func198.trans (congrArg some (by kernel_rfl))
  f317 := Tryz.func217.trans (congrArg some (by kernel_rfl))
  f318 := Tryz.func219.trans (congrArg some (by kernel_rfl))
  f319 := Tryz.func220.trans (congrArg some (by kernel_rfl))
  f320 := Tryz.func221.trans (congrArg some (by kernel_rfl))
  f337 := Tryz.func235.trans (congrArg some (by kernel_rfl))
  f338 := Tryz.func236.trans (congrArg some (by kernel_rfl))
  t0 := Tryz.underlying0
  a0 := Tryz.isAgg0
  z0 := Tryz.sizeOf0
  v0 := Tryz.zeroValue0
  t2 := Tryz.underlying2
  a2 := Tryz.isAgg2
  z2 := Tryz.sizeOf2
  v2 := Tryz.zeroValue2
  t3 := Tryz.underlying3
  a3 := Tryz.isAgg3
  z3 := Tryz.sizeOf3
  v3 := Tryz.zeroValue3
  t4 := Tryz.underlying4
  a4 := Tryz.isAgg4
  z4 := Tryz.sizeOf4
  v4 := Tryz.zeroValue4
  t5 := Tryz.underlying5
  a5 := Tryz.isAgg5
  z5 := Tryz.sizeOf5
  v5 := Tryz.zeroValue5
  t9 := Tryz.underlying9
  a9 := Tryz.isAgg9
  z9 := Tryz.sizeOf9
  v9 := Tryz.zeroValue9
  t20 := Tryz.underlying20
  a20 := Tryz.isAgg20
  z20 := Tryz.sizeOf20
  v20 := Tryz.zeroValue20
  t37 := Tryz.underlying51
  a37 := Tryz.isAgg51
  z37 := Tryz.sizeOf51
  v37 := Tryz.zeroValue51
  t46 := Tryz.underlying199
  a46 := Tryz.isAgg199
  z46 := Tryz.sizeOf199
  v46 := Tryz.zeroValue199
  t51 := Tryz.underlying200
  a51 := Tryz.isAgg200
  z51 := Tryz.sizeOf200
  v51 := Tryz.zeroValue200
  t53 := Tryz.underlying198
  a53 := Tryz.isAgg198
  z53 := Tryz.sizeOf198
  v53 := Tryz.zeroValue198
  t171 := Tryz.underlying265
  a171 := Tryz.isAgg265
  z171 := Tryz.sizeOf265
  v171 := Tryz.zeroValue265
  t173 := Tryz.underlying268
  a173 := Tryz.isAgg268
  z173 := Tryz.sizeOf268
  v173 := Tryz.zeroValue268
  t212 := Tryz.underlying283
  a212 := Tryz.isAgg283
  z212 := Tryz.sizeOf283
  v212 := Tryz.zeroValue283
  t213 := Tryz.underlying284
  a213 := Tryz.isAgg284
  z213 := Tryz.sizeOf284
  t232 := Tryz.underlying302
  a232 := Tryz.isAgg302
  z232 := Tryz.sizeOf302
  v232 := Tryz.zeroValue302
  t233 := Tryz.underlying303
  a233 := Tryz.isAgg303
  z233 := Tryz.sizeOf303
  v233 := Tryz.zeroValue303
  g17 := by kernel_rfl
  g18 := by kernel_rfl
  g19 := by kernel_rfl
  i0 := by kernel_rfl
  i2 := by kernel_rfl
  i3 := by kernel_rfl
  i4 := by kernel_rfl
  i5 := by kernel_rfl
  i9 := by kernel_rfl
  i20 := by kernel_rfl
  i37 := by kernel_rfl
  i46 := by kernel_rfl
  i51 := by kernel_rfl
  i53 := by kernel_rfl
  i171 := by kernel_rfl
  i173 := by kernel_rfl
  i212 := by kernel_rfl
  i232 := by kernel_rfl
  i233 := by kernel_rfl
  m17 := by kernel_rfl
  m18 := by kernel_rfl
  m19 := by kernel_rfl }
open Go.RowKit Go.Sort Go.Lib in
/-- strconv.Itoa: "Itoa is equivalent to FormatInt(int64(i), 10).": i's DECIMAL NUMERAL ('Lib.itoa': a '-' where i is negative, then the digits), FOR EVERY int. The world behind the call: the world before it, new blocks behind the heap (the library's 'var a [24]byte'), draws. (LAID: no walk: one application.) -/
theorem Tryz.strconv_Itoa (n : Int) (h0 : -9223372036854775808 ≤ n) (h1 : n ≤ 9223372036854775807) (w : World) (htab : Lib.TabIs Tryz.prog w "internal/strconv.uint64pow10" .u64 Lib.pow10Tab) :
    Calls Tryz.prog 61 #[.int .i64 n] w fun e w' => e = .returned (.string ⟨(Lib.itoa n).toArray⟩) ∧ ∃ k os, w' = grow (w.drewN k) os := Any.strconv_Itoa Tryz.laysM171 n h0 h1 w htab
end Go.Proofs
end

section
namespace Go.V
open Go.RowKit
open Go.S hiding Str
instance : ErNo := ⟨102, 105⟩
/-- the variables as they were laid -/
@[reducible] def Gl : Mo := ((GBlk 4 (Lib.pow10Tab.map fun z => Value.int .u64 z).toArray).and (GBlk 0 #[.iface 237 (.agg #[.pointer (some ⟨7, 25, none⟩)])]))
instance : Dat TodoStep := ⟨3, fun x => [str x.verb, i64 x.commit, str x.text], fun _ => rfl, fun _ u h => by simp only [List.mem_cons, List.not_mem_nil, or_false] at h; rcases h with rfl | rfl | rfl <;> first | rfl | exact Er.one _, fun _ => Mo.tt⟩
instance : Flat TodoStep := ⟨fun _ => rfl⟩
instance : Dat Rectoref3Part := ⟨2, fun x => [str x.word, i64 x.at_], fun _ => rfl, fun _ u h => by simp only [List.mem_cons, List.not_mem_nil, or_false] at h; rcases h with rfl | rfl <;> first | rfl | exact Er.one _, fun _ => Mo.tt⟩
instance : Flat Rectoref3Part := ⟨fun _ => rfl⟩
structure Rectoref3Wrong where
  parts : Sv Rectoref3Part
  err : Int
@[reducible] def Rectoref3Wrong.m (x : Rectoref3Wrong) : Mo := x.parts.ok
def Rectoref3Wrong.pl (x : Rectoref3Wrong) : Rectoref3WrongP := ⟨x.parts.l, x.err⟩
instance : Dat Rectoref3Wrong := ⟨2, fun x => [x.parts.val, i64 x.err], fun _ => rfl, fun _ u h => by simp only [List.mem_cons, List.not_mem_nil, or_false] at h; rcases h with rfl | rfl <;> first | rfl | exact Er.one _, Rectoref3Wrong.m⟩
instance : Dat Rectoref17Step := ⟨3, fun x => [str x.verb, i64 x.commit, str x.text], fun _ => rfl, fun _ u h => by simp only [List.mem_cons, List.not_mem_nil, or_false] at h; rcases h with rfl | rfl | rfl <;> first | rfl | exact Er.one _, fun _ => Mo.tt⟩
instance : Flat Rectoref17Step := ⟨fun _ => rfl⟩
structure ApiFault where
  part : Str
  at_ : Int
  err : Er
@[reducible] def ApiFault.m (x : ApiFault) : Mo := x.err.ok
def ApiFault.pl (x : ApiFault) : ApiFaultP := ⟨x.part, x.at_, x.err.pl⟩
instance : Dat ApiFault := ⟨3, fun x => [str x.part, i64 x.at_, x.err.val], fun _ => rfl, fun _ u h => by simp only [List.mem_cons, List.not_mem_nil, or_false] at h; rcases h with rfl | rfl | rfl <;> first | rfl | exact Er.one _, ApiFault.m⟩
end Go.V
end
