/- Part of the proofs of: Each verb of the commands is one, and with nothing behind it is a command just where it needs nothing; no condition. -/
import Derived.Laws.StructEq
import Derived.Laws.Tables
import Derived.Laws.Cover2
import Derived.Lib.ConvBytes
import Derived.Lib.Bytealg
import Derived.Lib.AppendZeros
import Derived.Lib.ItoaNum
import Derived.Lib.LaidTab
import Derived.LaidSub
import Derived.Sort.Grow
import Derived.Deep.Draws
import Derived.Stop.Asserts
import Derived.LaidEql
import Derived.OneCell
import Derived.Below
import Derived.ProofKit
import Derived.OpenShut
import Derived.LaidMore
import Derived.Lay
import Derived.SevenTiedAt
import Derived.Stop.Joined
import Derived.LaidHandle
import Derived.Lib.Join
import Derived.Shelf.Strings.OnBuilder
import Derived.Shelf.LaysM
import Derived.Shelf.Strconv.Itoa3
import Derived.Test.YtipnlckfohhkbaaDoorProg
import Derived.Test.YtipnlckfohhkbaaDoorCA
set_option linter.unusedVariables false
set_option linter.unusedSimpArgs false
set_option linter.unusedSectionVars false
section
namespace Go.V
open Go.RowKit Go.S
section
variable {P : Program} {N : Nat} {c : Cx} {ops : Array Oper} {Q Q1 : Exit → Act → World → Prop} {rest : List Oper} {o : Oper} {ρ : Env} {M M' M1 M0 : Mo} {E E1 F A : Ow} {v u : Value} {X S T R : Type}
  {d : Nat} {od : Option Nat} {ty : TypeId} {pos : String} {after : Array Edge} {gd : Option (Nat × Bool)} {x y : Operand} {t t' e tb : TypeId} {f : FuncId} {args : List Value} {k k' : IntKind} {m n : Int}
theorem q_steql {xs ys : Array Value} {b : Bool} (hg : P.eqGuardType P.depth t = false) (h : ∀ w, (Op.equalIn 10000 t (.agg xs) (.agg ys)).run P w = .ok b w) (e1 : ρ.ev x = some (.agg xs)) (e2 : ρ.ev y = some (.agg ys)) : Qt P N c ⟨od, .binOp .eql t x y t', ty, pos, after, gd⟩ (.bool b) ρ M E := q_bin e1 e2 (fun w => run_eqGuard_agg w .eql t x y xs ys hg) fun w => by
  rw [run_eql_struct, h w]; rfl
theorem q_stneq {xs ys : Array Value} {b : Bool} (hg : P.eqGuardType P.depth t = false) (h : ∀ w, (Op.equalIn 10000 t (.agg xs) (.agg ys)).run P w = .ok b w) (e1 : ρ.ev x = some (.agg xs)) (e2 : ρ.ev y = some (.agg ys)) : Qt P N c ⟨od, .binOp .neq t x y t', ty, pos, after, gd⟩ (.bool (!b)) ρ M E := q_bin e1 e2 (fun w => run_eqGuard_agg w .neq t x y xs ys hg) fun w => by
  rw [run_neq_struct, h w]; rfl
theorem q_slss {s s' : List UInt8} (e1 : ρ.ev x = some (str s)) (e2 : ρ.ev y = some (str s')) : Qt P N c ⟨od, .binOp .lss t x y t', ty, pos, after, gd⟩ (.bool (Op.bytesLess s s')) ρ M E := q_bin e1 e2 (guard_str _ _ _) fun w => by
  simp [binOp, Op.stringOp, go_sem]
theorem q_sgeq {s s' : List UInt8} (e1 : ρ.ev x = some (str s)) (e2 : ρ.ev y = some (str s')) : Qt P N c ⟨od, .binOp .geq t x y t', ty, pos, after, gd⟩ (.bool (!Op.bytesLess s s')) ρ M E := q_bin e1 e2 (guard_str _ _ _) fun w => by
  simp [binOp, Op.stringOp, go_sem]
theorem q_sgtr {s s' : List UInt8} (e1 : ρ.ev x = some (str s)) (e2 : ρ.ev y = some (str s')) : Qt P N c ⟨od, .binOp .gtr t x y t', ty, pos, after, gd⟩ (.bool (!(Op.bytesLess s s' || decide (s = s')))) ρ M E := q_bin e1 e2 (guard_str _ _ _) fun w => by
  have h : (s == s') = decide (s = s') := beq_dec _ _
  simp [binOp, Op.stringOp, go_sem, h]
theorem q_sleq {s s' : List UInt8} (e1 : ρ.ev x = some (str s)) (e2 : ρ.ev y = some (str s')) : Qt P N c ⟨od, .binOp .leq t x y t', ty, pos, after, gd⟩ (.bool (Op.bytesLess s s' || decide (s = s'))) ρ M E := q_bin e1 e2 (guard_str _ _ _) fun w => by
  have h : (s == s') = decide (s = s') := beq_dec _ _
  simp [binOp, Op.stringOp, go_sem, h]
end
end Go.V
end

section
namespace Go.S
open Go
/-- the first place of a byte in a text; how often it is there -/
noncomputable def ixB (s : List UInt8) (c : Int) : Int := Lib.indexByte s c.toNat.toUInt8
noncomputable def cntB (s : List UInt8) (c : Int) : Int := (Lib.countByte s c.toNat.toUInt8 : Nat)
end Go.S
namespace Go.V
open Go.RowKit Go.S
section
variable {P : Program} {N : Nat} {c : Cx} {ops : Array Oper} {Q Q1 : Exit → Act → World → Prop} {rest : List Oper} {o : Oper} {ρ : Env} {M M' M1 M0 : Mo} {E E1 F A : Ow} {v u : Value} {X S T R : Type}
  {d : Nat} {od : Option Nat} {ty : TypeId} {pos : String} {after : Array Edge} {gd : Option (Nat × Bool)} {x y : Operand} {t t' e tb : TypeId} {f : FuncId} {args : List Value} {k k' : IntKind} {m n : Int}
/-- a text's bytes in a row of their own, which is never turned -/
theorem VL.s2b {s : Str} {u : TypeDesc} (hs : P.underlying t = some u) (hu : P.underlying t' = some (.slice e)) (he : P.underlying e = some (.int .u8)) (e1 : ρ.ev x = some (str s)) (hlen : s.length ≤ 4294967296) (hd : d < N)
    (kk : ∀ q : Sv UInt8, q.l = s → VL P N c ops Q rest ((d, q.val) :: ρ) (q.ok.and M) E) : VL P N c ops Q (⟨some d, .convert t t' x, ty, pos, after, none⟩ :: rest) ρ M E := by
  refine VL.newM (S := Sv UInt8) (val := Sv.val) (φ := fun q => q.l = s) (M2 := fun q => q.ok) (fun a w h g m l => ?_) hd kk
  have hr := Lib.run_convert_string_bytes (P := P) w t t' e ⟨⟨s⟩⟩ hs hu he
  have hsz : (⟨⟨s⟩⟩ : ByteArray).size = s.length := rfl
  have hmax : s.length ≤ maxLen := by unfold maxLen; omega
  rw [hsz] at hr
  refine ⟨⟨some ⟨w.heap.size, 0, none⟩, grownCap w s.length 0 e, s⟩, Lib.bytesWorld w e ⟨⟨s⟩⟩, .cells (Lib.bytesCells w e ⟨⟨s⟩⟩) e ((Lib.bytesCells w e ⟨⟨s⟩⟩).size, (Lib.bytesCells w e ⟨⟨s⟩⟩).size + 1), ?_, rfl, ⟨?_, ?_, ?_, by rw [Lib.bytesWorld_size]; omega, fun j hj => Lib.bytesWorld_at_old w e _ j hj⟩, Lib.bytesWorld_at_new w e _, ?_⟩
  · simp only [execOp, g.ev e1, Sem.run_bind, hr, Result.andThen_ok, Sem.run_pure]; rfl
  · simp [Lib.bytesWorld, World.freeze, World.alloc, World.drew, -World.alloc_eq, -World.drew_eq]
  · simp [Lib.bytesWorld, World.freeze, World.alloc, World.drew, -World.alloc_eq, -World.drew_eq]
  · simp [Lib.bytesWorld, World.freeze, World.alloc, World.drew, -World.alloc_eq, -World.drew_eq]
  · have hblk : (h.join (Hp.one w.heap.size (.cells (Lib.bytesCells w e ⟨⟨s⟩⟩) e ((Lib.bytesCells w e ⟨⟨s⟩⟩).size, (Lib.bytesCells w e ⟨⟨s⟩⟩).size + 1)))) w.heap.size = some (.cells (Lib.bytesCells w e ⟨⟨s⟩⟩) e ((Lib.bytesCells w e ⟨⟨s⟩⟩).size, (Lib.bytesCells w e ⟨⟨s⟩⟩).size + 1)) := by
      have hh : h w.heap.size = none := by
        cases hb : h w.heap.size with
        | none => rfl
        | some p => have := (Array.getElem?_eq_some_iff.1 (l _ p hb)).1; omega
      unfold Hp.join
      rw [hh, Hp.one_self]
    refine ⟨grownCap_ge _ _ _ _, grownCap_le_maxLen _ _ _ _ hmax, fun _ => by simp [Sv.b, Sv.o], fun i z hz => ?_, fun _ _ => trivial⟩
    intro j v hj
    have hd1 : Dat.sz UInt8 = 1 := rfl
    have hj0 : j = 0 := by
      cases j with
      | zero => rfl
      | succ j => simp [Dat.enc] at hj
    subst hj0
    have hv : v = .int .u8 z.toNat := by simp [Dat.enc] at hj; exact hj.symm
    subst hv
    have hi := (List.getElem?_eq_some_iff.1 hz).1
    simp only at hz hi
    have hzz := (List.getElem?_eq_some_iff.1 hz).2
    have hcell : (Lib.bytesCells w e ⟨⟨s⟩⟩)[i]? = some (.int .u8 z.toNat) := by
      simp only [Lib.bytesCells, Array.getElem?_append]
      simp [hi, hzz]
    show (h.join _).cell w.heap.size (0 + i * 1 + 0) = _
    unfold Hp.cell
    rw [hblk]
    simpa using hcell
/-- a function of the library's that the model has in place -/
theorem q_extern {fn : Func} {ex : Array Value → Sem Value} {xs : List Operand} {vs : List Value} {ts : Array TypeId} (hf : P.funcs[f]? = some fn) (hname : (fn.name == "runtime.NumGoroutine") = false) (hb : fn.body.isNone = true) (hn : Extern.findNext fn = none) (he : Extern.find fn = some ex) (ha : ρ.evs xs = some vs) (h : ∀ w : World, (ex vs.toArray).run P w = .ok v w) :
    Qt P N c ⟨od, .call { callee := .value (.func f), args := xs.toArray, argTypes := ts }, ty, pos, after, gd⟩ v ρ M E := q_ext ha fun w => by
  rw [run_callFunc_extern hf hname hb hn he, h w]; rfl
theorem x_ixS {P : Program} (s : Str) (c : Int) (w : World) : (Extern.BytealgIndexByte.indexByte #[str s, .int .u8 c]).run P w = .ok (i64 (ixB s c)) w := Lib.run_indexByteString ⟨⟨s⟩⟩ c w
theorem x_cntS {P : Program} (s : Str) (c : Int) (w : World) : (Extern.BytealgCount.count #[str s, .int .u8 c]).run P w = .ok (i64 (cntB s c)) w := Lib.run_countString ⟨⟨s⟩⟩ c w
theorem x_cmpS {P : Program} (s r : Str) (w : World) : (Extern.BytealgCompare.compare #[str s, str r]).run P w = .ok (i64 (Lib.compareBytes s r)) w := Lib.run_compareString ⟨⟨s⟩⟩ ⟨⟨r⟩⟩ w
/-- a function, with what it has caught -/
theorem q_mkfn {g : FuncId} {xs : List Operand} {vs : List Value} (ha : ρ.evs xs = some vs) : Qt P N c ⟨od, .makeFunc (.func g) #[] xs.toArray, ty, pos, after, gd⟩ (.func (.func g) #[] vs.toArray) ρ M E := Qt.of_run fun a w h _ => by
  have e := h.evs ha
  subst e
  simp [execOp, Instr.makeFunc]
theorem gOp_of_VLg {K : Act → World → Prop} {a : Act} {w : World} {i : Nat} {op : Op} (hk : ops[i]? = some ⟨od, op, ty, pos, after, gd⟩) (hw : Region.wanted (⟨od, op, ty, pos, after, gd⟩ : Oper) (yielded ops a.tmps) = true) (h : wpList P ops (fun e a w => e = .normal ∧ K a w) [⟨od, op, ty, pos, after, gd⟩] a w) : gOp P ops i K a w := by
  unfold gOp
  simp only [hk]
  unfold wpList at h
  rw [if_pos hw] at h
  rw [if_pos hw]
  rcases h with h | ⟨_, a', w', h, _⟩
  · unfold Oper.wp at h
    generalize (execOp a.eval ⟨od, op, ty, pos, after, gd⟩).run P w = rr at *
    cases rr with
    | ok n w' =>
      cases n <;> simp only [Oper.upon, gUpon] at h ⊢
      case value u => exact h.2
      case skip => exact h.2
      case defer dd => exact h.2
      case enter f args =>
        refine h.mono fun e w'' he => ?_
        cases e with
        | returned v => exact ⟨v, rfl, he.2⟩
        | panicked ch => cases he.1
        | outgrown => obtain ⟨_, _, h, _⟩ := he; cases h
      case row row args => exact Rows.mono h fun v w'' he => he.2
    | halt x w' =>
      cases x <;> simp only [Oper.upon] at h
      case panic => cases h.1
  · cases h
/-- an operation of any kind, with a guard that holds, the only one that can come up now -/
theorem VD.oneG {r : List (Nat × Bool)} {D : List (Nat × Value)} {R : List (Nat × Value) → Act → World → Prop} {op : Op} {i j s : Nat} {b : Bool} (hk : ops[i]? = some ⟨od, op, ty, pos, after, some (j, b)⟩) (hj : (ops[j]?).bind (·.dst) = some s) (hb : ρ.get s = some (.bool b))
    (h : VL P N c ops (toR P N c ops fun a w => (∀ p ∈ strike ops i D, YI P ops p a w) ∧ wpD P ops R r (strike ops i D) a w) [⟨od, op, ty, pos, after, some (j, b)⟩] ρ M E) : VDR P N c ops R ((i, false) :: r) D ρ M E := fun a w x y =>
  ⟨_, hk, fun w1 g => gOp_of_VLg hk (by rw [wanted_of hj x hb _ rfl]; simp) (h a w1 x (y.grow g))⟩
/-- .. whose guard does not hold -/
theorem VD.oneN {r : List (Nat × Bool)} {D D' : List (Nat × Value)} {R : List (Nat × Value) → Act → World → Prop} {op : Op} {i j s : Nat} {b b' : Bool} (hk : ops[i]? = some ⟨some d, op, ty, pos, after, some (j, b)⟩) (hj : (ops[j]?).bind (·.dst) = some s) (hb : ρ.get s = some (.bool b')) (hw : (b' == b) = false) (hd : d < N)
    (hD : strike ops i D = D') (hp : Pend P N c ops D' ((d, undef) :: ρ) M E) (h : VDR P N c ops R r D' ((d, undef) :: ρ) M E) : VDR P N c ops R ((i, false) :: r) D ρ M E := fun a w x y => by
  subst hD
  refine ⟨_, hk, fun w1 g => ?_⟩
  have hn : Region.wanted (⟨some d, op, ty, pos, after, some (j, b)⟩ : Oper) (yielded ops a.tmps) = false := by rw [wanted_of hj x hb _ rfl, hw]
  unfold gOp
  simp only [hk]
  rw [if_neg (by rw [hn]; decide)]
  exact ⟨hp _ _ (x.put hd undef) (y.grow g), h _ _ (x.put hd undef) (y.grow g)⟩
/-- nothing of a slice of one's own: it is grown from there -/
theorem VL.own0 {α : Type} [Dat α] {s : Sv α} (hu : P.underlying t = some (.slice e)) (hz : (P.info? e).map (·.size) = some (Dat.sz α)) (e0 : ρ.ev x = some s.val) (e1 : ρ.ev y = some (i64 0)) (hE : Foc E (s.own e) F) (hd : d < N)
    (kk : ∀ q : Sv α, q.l = [] → VL P N c ops Q rest ((d, q.val) :: ρ) M (Ow.star (q.own e) F)) : VL P N c ops Q (⟨some d, .slice t x none (some y) none, ty, pos, after, none⟩ :: rest) ρ M E :=
  VL.q (q_cut (lo' := none) (hi' := some 0) (mx' := none) 0 0 s.c hu hz e0 rfl (by simp [optv, e1]) rfl rfl rfl (by simp) (fun h => by cases h) (Nat.le_refl _) (Nat.zero_le _) (Nat.le_refl _) (Nat.zero_le _)) hd (VL.mono (fun _ h => h) (fun z hz => by
    obtain ⟨a, b, d1, d2, ha, hb⟩ := hE z hz
    refine ⟨a, b, d1, d2, ?_, hb⟩
    obtain ⟨q1, q2, q3⟩ := ha
    refine ⟨Nat.zero_le _, by simpa [Sv.sub] using q2, ?_⟩
    rcases q3 with ⟨w1, w2⟩ | ⟨g, cur, w1, w2, w3, _⟩
    · exact .inl ⟨rfl, by simp [Sv.sub, w2]⟩
    · refine .inr ⟨g, cur, ?_, w2, by simpa [Sv.sub] using w3, by simp [Sv.sub]⟩
      simp [Sv.sub, w1, Addr.add]) (kk (s.sub 0 0 s.c) rfl))
/-- zeros behind nil: a new slice of one's own -/
theorem VL.appZ {α : Type} [Dat α] {xs : List Operand} {k1 kn : IntKind} {tn : TypeId} {z : α} {bt : Nat} (hu : P.underlying t = some (.slice e)) (htn : P.underlying tn = some (.int kn)) (hi : ((P.info? e).map fun i => (i.size, i.bytes, i.zero.map fun z => z.cells.toList)) = some (Dat.sz α, bt, some (Dat.enc z))) (hpos : 0 < Dat.sz α)
    (ha : ρ.evs xs = some [.slice none 0 0, .int k1 n]) (h0 : 0 < n) (hm : n ≤ 4294967296) (hb : bt ≤ 32768) (hd : d < N)
    (k : ∀ s : Sv α, s.l = List.replicate n.toNat z → VL P N c ops Q rest ((d, s.val) :: ρ) M (Ow.star (s.own e) E)) : VL P N c ops Q (⟨some d, .call { callee := .builtin .append, args := xs.toArray, argTypes := #[t, tn] }, ty, pos, after, none⟩ :: rest) ρ M E := by
  cases hj : P.info? e with
  | none => rw [hj] at hi; cases hi
  | some i =>
    rw [hj] at hi
    simp only [Option.map_some, Option.some.injEq, Prod.mk.injEq] at hi
    obtain ⟨h1, h2, h3⟩ := hi
    cases hz : i.zero with
    | none => rw [hz] at h3; cases h3
    | some zv =>
      rw [hz] at h3
      have h3' : zv.cells.toList = Dat.enc z := by simpa using h3
      have hzs : zv.cells.size = Dat.sz α := by rw [← Array.length_toList, h3', Dat.len]
      have hn : (n.toNat : Int) = n := by omega
      have hmul : n.toNat * i.bytes ≤ 4294967296 * 32768 := Nat.mul_le_mul (by omega) (by omega)
      refine VL.newO (S := Sv α) (val := Sv.val) (φ := fun s => s.l = List.replicate n.toNat z) (A := fun s => s.own e) (fun a w g => ?_) hd k
      have hr := Lib.run_append_nil_zeros (P := P) w t tn ty e i zv k1 kn hu htn hj hz n.toNat (by omega) (by omega) (by omega) (Nat.le_trans hmul (by decide))
      rw [hn] at hr
      have hge := grownCap_ge w n.toNat 0 e
      have hle := grownCap_le_maxLen w n.toNat 0 e (by unfold maxLen; omega)
      refine ⟨⟨some ⟨w.heap.size, 0, none⟩, grownCap w n.toNat 0 e, List.replicate n.toNat z⟩, _, .cells (Builtin.zeroCells zv.cells n.toNat ++ Builtin.zeroCells zv.cells (grownCap w n.toNat 0 e - n.toNat)) e, ?_, rfl, (Gr.drew w).trans (Gr.alloc w.drew _), heap_alloc_new w.drew _, ?_⟩
      · simp only [execOp, resolve, List.map_toArray, g.evs ha, Sem.run_bind, Sem.run_pure, Result.andThen_ok, invoke, builtin, hr, Sv.val, List.length_replicate]
      · refine ⟨by simpa using hge, hle, .inr ⟨_, _, rfl, Hp.one_self _ _, ?_, ?_⟩⟩
        · simp only [Array.size_append, size_zeroCells, hzs]
          rw [← Nat.add_mul]
          congr 1
          omega
        · have e1 : (List.replicate n.toNat z).length * Dat.sz α = (Builtin.zeroCells zv.cells n.toNat).toList.length := by rw [List.length_replicate, Array.length_toList, size_zeroCells, hzs]
          rw [Array.toList_append, e1, List.take_left]
          apply List.ext_getElem?
          intro j
          by_cases hlt : j < n.toNat * Dat.sz α
          · have hmod : j % Dat.sz α < Dat.sz α := Nat.mod_lt _ hpos
            have hdiv : j / Dat.sz α < n.toNat := (Nat.div_lt_iff_lt_mul hpos).2 hlt
            have hjj : j / Dat.sz α * Dat.sz α + j % Dat.sz α = j := by rw [Nat.mul_comm]; exact Nat.div_add_mod j _
            have hx : (List.replicate n.toNat z)[j / Dat.sz α]? = some z := by simp [hdiv]
            obtain ⟨q, hq⟩ : ∃ q, (Dat.enc z)[j % Dat.sz α]? = some q := ⟨_, List.getElem?_eq_getElem (by rw [Dat.len]; exact hmod)⟩
            have := flatMap_get (α := α) Dat.len _ _ _ hx _ _ hq
            rw [hjj] at this
            rw [this]
            have hlt' : j < n.toNat * zv.cells.size := by rw [hzs]; exact hlt
            simp only [Builtin.zeroCells, Array.toList_map, List.getElem?_map, Array.toList_range, List.getElem?_range hlt', Option.map_some]
            rw [← h3'] at hq
            rw [Array.getElem?_toList] at hq
            simp [getElem!_def, hzs, hq]
          · rw [List.getElem?_eq_none (by rw [Array.length_toList, size_zeroCells, hzs]; omega), List.getElem?_eq_none (by rw [enc_len, List.length_replicate]; omega)]
theorem VD.oneU {r : List (Nat × Bool)} {D D' : List (Nat × Value)} {R : List (Nat × Value) → Act → World → Prop} {op : Op} {i j s : Nat} {b : Bool} (hk : ops[i]? = some ⟨some d, op, ty, pos, after, some (j, b)⟩) (hj : (ops[j]?).bind (·.dst) = some s) (hb : ρ.get s = some undef) (hd : d < N)
    (hD : strike ops i D = D') (hp : Pend P N c ops D' ((d, undef) :: ρ) M E) (h : VDR P N c ops R r D' ((d, undef) :: ρ) M E) : VDR P N c ops R ((i, false) :: r) D ρ M E := fun a w x y => by
  subst hD
  refine ⟨_, hk, fun w1 g => ?_⟩
  have hn : Region.wanted (⟨some d, op, ty, pos, after, some (j, b)⟩ : Oper) (yielded ops a.tmps) = false := by rw [wanted_un hj x hb _ rfl]
  unfold gOp
  simp only [hk]
  rw [if_neg (by rw [hn]; decide)]
  exact ⟨hp _ _ (x.put hd undef) (y.grow g), h _ _ (x.put hd undef) (y.grow g)⟩
theorem q_cap0 {xs : List Operand} (ht : P.underlying t = some (.slice e)) (h : ρ.evs xs = some [.slice none 0 0]) : Qt P N c ⟨od, .call { callee := .builtin .cap, args := xs.toArray, argTypes := #[t] }, ty, pos, after, gd⟩ (i64 0) ρ M E := Qt.of_run fun a w g _ => by
  simp only [execOp, resolve, List.map_toArray, g.evs h]
  simp [go_sem, invoke, builtin, Builtin.cap_, run_underlying ht, goInt]
theorem q_nil0 (α : Type) [Dat α] (hu : P.underlying t = some (.slice e)) (hz : (P.info? e).map (·.size) = some (Dat.sz α)) (e0 : ρ.ev x = some (.slice none 0 0)) (e1 : ρ.ev y = some (i64 0)) : Qt P N c ⟨od, .slice t x none (some y) none, ty, pos, after, gd⟩ (.slice none 0 0) ρ M E :=
  q_cut (s := (⟨none, 0, []⟩ : Sv α)) (lo' := none) (hi' := some 0) (mx' := none) 0 0 0 hu hz e0 rfl (by simp [optv, e1]) rfl rfl rfl rfl (fun _ => rfl) (Nat.le_refl _) (Nat.le_refl _) (Nat.le_refl _) (Nat.le_refl _)
theorem Er.one [ErNo] (z : Er) : z.val.oneCell' = true := by cases z <;> rfl
theorem wr_i32 (u : UInt8) : IntKind.i32.wrap (u.toNat : Int) = (u.toNat : Int) := IntWalk.i32_in _ (by have := u.toNat_lt; omega)
theorem q_min {m n : Int} {xs : List Operand} {ts : Array TypeId} (h : ρ.evs xs = some [i64 m, i64 n]) : Qt P N c ⟨od, .call { callee := .builtin .min, args := xs.toArray, argTypes := ts }, ty, pos, after, gd⟩ (i64 (min m n)) ρ M E := Qt.of_run fun a w g _ => by
  simp only [execOp, resolve, List.map_toArray, g.evs h]
  have hr : (Builtin.min_ ts ty #[i64 m, i64 n]).run P w = .ok (i64 (min m n)) w := by
    simp [Builtin.min_, Builtin.min2, go_sem]
    rw [Int.min_def]
    split <;> split <;> first | rfl | (congr 1; omega) | omega | (simp; omega)
  simp [go_sem, invoke, builtin, hr]
instance (priority := 700) UpdB.inn (A F G : Ow) (b : Nat) (cs : List Value) (T : TypeId) [i : UpdB A b cs T G] : UpdB (Ow.star A F) b cs T (Ow.star G F) := ⟨Foc.inn i.out⟩
theorem VL.reB (b : Nat) {cs cs' : List Value} {T : TypeId} [j : UpdB E b cs T F] (h : cs = cs') (k : VL P N c ops Q rest ρ M (Ow.star (Blk b cs' T) F)) : VL P N c ops Q rest ρ M E := by
  subst h
  exact VL.mono (fun _ x => x) (fun z hz => j.out z hz) k
theorem VD.reB {r : List (Nat × Bool)} {D : List (Nat × Value)} (b : Nat) {cs cs' : List Value} {T : TypeId} [j : UpdB E b cs T F] (h : cs = cs') (k : VD P N c ops Q r D ρ M (Ow.star (Blk b cs' T) F)) : VD P N c ops Q r D ρ M E := by
  subst h
  exact fun a w g st => k a w g (st.mono (fun _ x => x) (fun z hz => j.out z hz))
theorem VC.reB {p : Code} (b : Nat) {cs cs' : List Value} {T : TypeId} [j : UpdB E b cs T F] (h : cs = cs') (k : VC P N c Q p ρ M (Ow.star (Blk b cs' T) F)) : VC P N c Q p ρ M E := by
  subst h
  exact fun a w g st => k a w g (st.mono (fun _ x => x) (fun z hz => j.out z hz))
theorem VD.smid {α : Type} [Dat α] {k' : Nat} {rr : List (Nat × Bool)} {D : List (Nat × Value)} {s : Sv α} {z : Operand} {m n : Int} (hk : ops[k']? = some ⟨some d, .slice t x (some y) (some z) none, ty, pos, after, none⟩) (hu : P.underlying t = some (.slice e)) (hz : (P.info? e).map (·.size) = some (Dat.sz α)) (e0 : ρ.ev x = some s.val) (e1 : ρ.ev y = some (i64 m)) (e2 : ρ.ev z = some (i64 n)) [hs : InM M s.ok] (h0 : 0 ≤ m) (h1 : m ≤ n) (h2 : n ≤ s.l.length) (hd : d < N)
    (kk : ∀ (q : Sv α) (u : Value), q.l = (s.l.drop m.toNat).take (n.toNat - m.toNat) → VD P N c ops Q rr (addD ops k' u D) ((d, q.val) :: ρ) (q.ok.and M) E) : VD P N c ops Q ((k', true) :: rr) D ρ M E :=
  VD.part (lo' := some m) (hi' := some n) (mx' := none) hk m.toNat n.toNat hu hz e0 (by simp [optv, e1]) (by simp [optv, e2]) rfl (by simp; omega) (by simp; omega) (.inl rfl) (fun h => by cases h) (by omega) (by omega) hd fun q u hq => kk q u hq
theorem Pend.consX {D : List (Nat × Value)} {i : Nat} {op : Op} (hk : ops[i]? = some ⟨od, op, ty, pos, after, gd⟩) (h : ∀ a w, Agr N ρ a → St c M E w → YU P ops ⟨od, op, ty, pos, after, gd⟩ v a w) (n : Pend P N c ops D ρ M E) : Pend P N c ops ((i, v) :: D) ρ M E := fun a w x y p hp => by
  rcases List.mem_cons.1 hp with rfl | hp
  · intro o ho
    have ho' : ops[i]? = some o := ho
    rw [hk] at ho'
    cases ho'
    exact h a w x y
  · exact n a w x y p hp
theorem Pend.consG {D : List (Nat × Value)} {i j s : Nat} {b : Bool} {op : Op} (hk : ops[i]? = some ⟨od, op, ty, pos, after, some (j, b)⟩) (hj : (ops[j]?).bind (·.dst) = some s) (hb : ρ.get s = some (.bool b)) (h : Qt P N c ⟨od, op, ty, pos, after, some (j, b)⟩ v ρ M E) (n : Pend P N c ops D ρ M E) : Pend P N c ops ((i, v) :: D) ρ M E :=
  Pend.consX hk (fun a w x y => .inl ⟨by rw [wanted_of hj x hb _ rfl]; simp, fun w1 g => h a w1 x (y.grow g)⟩) n
theorem Pend.consN {D : List (Nat × Value)} {i j s : Nat} {b b' : Bool} {op : Op} (hk : ops[i]? = some ⟨od, op, ty, pos, after, some (j, b)⟩) (hj : (ops[j]?).bind (·.dst) = some s) (hb : ρ.get s = some (.bool b')) (hw : (b' == b) = false) (n : Pend P N c ops D ρ M E) : Pend P N c ops ((i, undef) :: D) ρ M E :=
  Pend.consX hk (fun a w x y => .inr ⟨by rw [wanted_of hj x hb _ rfl, hw], rfl⟩) n
theorem Pend.consU {D : List (Nat × Value)} {i j s : Nat} {b : Bool} {op : Op} (hk : ops[i]? = some ⟨od, op, ty, pos, after, some (j, b)⟩) (hj : (ops[j]?).bind (·.dst) = some s) (hb : ρ.get s = some undef) (n : Pend P N c ops D ρ M E) : Pend P N c ops ((i, undef) :: D) ρ M E :=
  Pend.consX hk (fun a w x y => .inr ⟨by rw [wanted_un hj x hb _ rfl], rfl⟩) n
end
end Go.V
end

section
namespace Go.V
open Go.RowKit Go.S
section
variable {P : Program} {N : Nat} {c : Cx} {ops : Array Oper} {Q Q1 : Exit → Act → World → Prop} {rest : List Oper} {o : Oper} {ρ : Env} {M M' M1 M0 : Mo} {E E1 F A : Ow} {v u : Value} {X S T R : Type}
  {d : Nat} {od : Option Nat} {ty : TypeId} {pos : String} {after : Array Edge} {gd : Option (Nat × Bool)} {x y : Operand} {t t' e tb : TypeId} {f : FuncId} {args : List Value} {k k' : IntKind} {m n : Int}
theorem flatMap_take {α : Type} [Dat α] (l : List α) (n : Nat) : (l.flatMap Dat.enc).take (n * Dat.sz α) = (l.take n).flatMap Dat.enc := by
  induction l generalizing n with
  | nil => simp
  | cons x r ih =>
    cases n with
    | zero => simp
    | succ n =>
      simp only [List.flatMap_cons, List.take_succ_cons]
      rw [List.take_append, Dat.len, ← ih n]
      congr 1
      · rw [List.take_of_length_le]; rw [Dat.len]; exact Nat.le_mul_of_pos_left _ (Nat.succ_pos n)
      · congr 1
        rw [Nat.succ_mul, Nat.add_sub_cancel]
/-- the first ones of a slice of one's own: it is one's own still -/
theorem VL.ownT {α : Type} [Dat α] {s : Sv α} (hu : P.underlying t = some (.slice e)) (hz : (P.info? e).map (·.size) = some (Dat.sz α)) (e0 : ρ.ev x = some s.val) (e1 : ρ.ev y = some (i64 n)) (h0 : 0 ≤ n) (h1 : n ≤ s.l.length) (hE : Foc E (s.own e) F) (hd : d < N)
    (kk : ∀ q : Sv α, q.l = s.l.take n.toNat → VL P N c ops Q rest ((d, q.val) :: ρ) M (Ow.star (q.own e) F)) : VL P N c ops Q (⟨some d, .slice t x none (some y) none, ty, pos, after, none⟩ :: rest) ρ M E := fun a w xx yy => by
  have hlc : s.l.length ≤ s.c := by
    obtain ⟨⟨hp, ee, m, eE, _⟩, _⟩ := yy
    obtain ⟨a1, b1, _, _, ⟨q1, _⟩, _⟩ := hE ee eE
    exact q1
  refine VL.q (q_cut (lo' := none) (hi' := some n) (mx' := none) 0 n.toNat s.c hu hz e0 rfl (by simp [optv, e1]) rfl rfl (by simp; omega) (by simp) (fun h => by cases h) (Nat.zero_le _) (by omega) (Nat.le_refl _) (by omega)) hd (VL.mono (fun _ h => h) (fun z hz => by
    obtain ⟨a, b, d1, d2, ha, hb⟩ := hE z hz
    refine ⟨a, b, d1, d2, ?_, hb⟩
    obtain ⟨q1, q2, q3⟩ := ha
    refine ⟨by simp [Sv.sub]; omega, by simpa [Sv.sub] using q2, ?_⟩
    rcases q3 with ⟨w1, w2⟩ | ⟨g, cur, w1, w2, w3, w4⟩
    · exact .inl ⟨by simp [Sv.sub, w1], by simp [Sv.sub, w2]⟩
    · refine .inr ⟨g, cur, ?_, w2, by simpa [Sv.sub] using w3, ?_⟩
      · simp [Sv.sub, w1, Addr.add]
      · simp only [Sv.sub, List.drop_zero, Nat.sub_zero, List.length_take]
        rw [show min n.toNat s.l.length = n.toNat by omega, ← flatMap_take, ← w4, List.take_take]
        congr 1
        exact (Nat.min_eq_left (Nat.mul_le_mul (by omega) (Nat.le_refl _))).symm) (kk (s.sub 0 n.toNat s.c) (by simp [Sv.sub]))) a w xx yy
/-- a slice of some elements, one's own -/
theorem VL.litO {α : Type} [Dat α] {n : Nat} {parts : Array (Nat × Operand)} {xs : List Operand} {vs : List Value} (zs : List α) (hu : P.underlying t = some (.slice e)) (hz : ((P.info? e).map fun i => (i.size, i.zero.isSome)) = some (Dat.sz α, true)) (hpos : 0 < Dat.sz α)
    (hp : parts = ((xs.zipIdx 0).map fun x => (x.2, x.1)).toArray) (hv : ρ.evs xs = some vs) (hc : vs.map (fun v => v.cells.toList) = zs.map Dat.enc) (hn : zs.length = n) (hs : n * Dat.sz α ≤ 16777216) (hd : d < N)
    (k : ∀ s : Sv α, s.l = zs → VL P N c ops Q rest ((d, s.val) :: ρ) M (Ow.star (s.own e) E)) (h0 : 0 < n) : VL P N c ops Q (⟨some d, .buildSlice t n parts, ty, pos, after, none⟩ :: rest) ρ M E := by
  cases hi : P.info? e with
  | none => rw [hi] at hz; cases hz
  | some ie =>
    rw [hi] at hz
    obtain ⟨hsz, hzz⟩ : ie.size = Dat.sz α ∧ ie.zero.isSome = true := by simpa using hz
    obtain ⟨z, hz1⟩ := Option.isSome_iff_exists.1 hzz
    refine VL.newO (S := Sv α) (val := Sv.val) (φ := fun s => s.l = zs) (A := fun s => s.own e) (fun a w g => ?_) hd k
    have hlen : vs.length = n := by rw [← hn]; simpa using congrArg List.length hc
    have hcs : ∀ v ∈ vs, v.cells.size = ie.size := fun v hv => by
      have : v.cells.toList ∈ zs.map Dat.enc := by rw [← hc]; exact List.mem_map.2 ⟨v, hv, rfl⟩
      obtain ⟨q, _, hq⟩ := List.mem_map.1 this
      rw [← Array.length_toList, ← hq, Dat.len, hsz]
    have hfill := Great.fill_whole (s := ie.size) (by omega) vs ((Array.range (n * ie.size)).map (z.cells[· % z.cells.size]!)) hcs (by simp [hlen])
    have hflat : (vs.flatMap fun v => v.cells.toList) = zs.flatMap Dat.enc := by rw [List.flatMap_def, hc, ← List.flatMap_def]
    rw [hflat] at hfill
    have hr := run_buildSlice (P := P) w t e n (parts.map fun (i, x) => (i, a.eval x)) _ ie z hu hi hz1 (by rw [hsz]; omega) (by rw [hsz]; exact Nat.pos_iff_ne_zero.1 (Nat.mul_pos h0 hpos)) (by rw [map_ops g hv parts hp]; exact hfill)
    have hle : n ≤ n * Dat.sz α := Nat.le_mul_of_pos_right _ hpos
    refine ⟨⟨some ⟨w.heap.size, 0, none⟩, n, zs⟩, _, .cells (zs.flatMap Dat.enc).toArray e, ?_, rfl, Gr.alloc w _, heap_alloc_new w _, ?_⟩
    · simp only [execOp, Sem.run_bind, hr, Result.andThen_ok, Sem.run_pure, Sv.val, hn]
    · refine ⟨by simp [hn], by unfold maxLen; simp only; omega, .inr ⟨_, _, rfl, Hp.one_self _ _, ?_, ?_⟩⟩
      · simp only [List.size_toArray]; rw [enc_len, hn]
      · simp only
        rw [List.take_of_length_le (by rw [enc_len]; exact Nat.le_refl _)]
end
end Go.V
end

section
/- A number's digits, plainly. -/
namespace Go.S
open Go
def decF : Nat → Nat → List UInt8
  | 0, _ => []
  | f + 1, u => if u < 10 then [UInt8.ofNat (48 + u)] else decF f (u / 10) ++ [UInt8.ofNat (48 + u % 10)]
/-- a number in digits -/
def itoaS (n : Int) : List UInt8 := if n < 0 then 45 :: decF 20 n.natAbs else decF 20 n.toNat
theorem decF_eq : ∀ (f u : Nat), u < 10 ^ (f + 1) → decF (f + 1) u = Lib.decDigits u
  | 0, u, h => by
    rw [Lib.decDigits, decF, if_pos (by simpa using h), dif_pos (by simpa using h)]
  | f + 1, u, h => by
    rw [Lib.decDigits, decF]
    by_cases h10 : u < 10
    · simp [h10]
    · simp only [h10, if_false, dif_neg, not_false_eq_true]
      rw [decF_eq f (u / 10) (by rw [Nat.pow_succ] at h; omega)]
theorem itoaS_eq {n : Int} (h : I64 n) : itoaS n = Lib.itoa n := by
  obtain ⟨h1, h2⟩ := h
  unfold itoaS Lib.itoa
  rw [decF_eq 19 n.natAbs (by omega), decF_eq 19 n.toNat (by omega)]
end Go.S
end

section
namespace Go.V
open Go.RowKit Go.S
/-- a block that is as it was laid -/
def GBlk (g : Nat) (cs : Array Value) : Mo := ⟨fun h => ∃ t f, h g = some (.cells cs t f), fun k ⟨t, f, e⟩ => ⟨t, f, k _ _ e⟩⟩
theorem GBlk.var {P : Program} {g : Nat} {cs : Array Value} {h : Hp} {w : World} {name : String} (hg : P.globalNamed name = some g) (m : (GBlk g cs).on h) (l : h.le (wh w)) : w.var? P name = some cs := by
  obtain ⟨t, f, e⟩ := m
  have := l _ _ e
  unfold wh at this
  simp [World.var?, hg, this]
theorem GBlk.of_var {P : Program} {g : Nat} {cs : Array Value} {w : World} {name : String} (hg : P.globalNamed name = some g) (h : w.var? P name = some cs) : (GBlk g cs).on (wh w) := by
  unfold World.var? at h
  rw [hg] at h
  simp only [Option.bind_some] at h
  split at h
  · next c t f hc =>
    cases h
    exact ⟨t, f, hc⟩
  · cases h
theorem Gr.grown (w : World) (k : Nat) (os : Array Obj) : Gr w (Go.Sort.grow (w.drewN k) os) := by
  refine ⟨rfl, rfl, rfl, by simp [Go.Sort.grow, World.drewN], fun b hb => ?_⟩
  simp only [Go.Sort.grow, World.drewN]
  rw [Array.getElem?_append_left hb]
/-- an integers' table out of what is laid -/
theorem tab_laid {P : Program} {W : World} {name : String} {k : IntKind} {zs : List Int} {L : List (String × DataW Unit)} {g : Nat} {t e : TypeId} {n : Nat}
    (hg : P.globalNamed name = some g) (hty : (P.globals[g]?).map (·.type) = some t) (ht : P.underlying t = some (.array n e)) (he : P.underlying e = some (.int k)) (hce : P.cellsOf e = 1) (hct : P.cellsOf t = n)
    (hf : (L.filter fun x => x.2.handleName?.isNone).filter (fun x => x.1 == name) = [(name, Lib.tabData k zs)]) (h : laidMetH P L W) : (GBlk g (zs.map fun z => Value.int k z).toArray).on (wh W) := by
  have h1 := (laidMetH_iff.1 h).1.filter (fun x => x.1 == name)
  rw [hf] at h1
  exact GBlk.of_var hg (Lib.tabIs_of_head hg hty ht he hce hct h1)
end Go.V
end

section
namespace Go.S
/-- the number at an error's end -/
def endNo : Err → Option Int
  | .nil => none
  | .no n => some n
  | .fault _ _ e => endNo e
end Go.S
namespace Go.V
open Go.RowKit Go.S
section
variable {P : Program} {N : Nat} {c : Cx} {ops : Array Oper} {Q Q1 : Exit → Act → World → Prop} {rest : List Oper} {o : Oper} {ρ : Env} {M M' M1 M0 : Mo} {E E1 F A : Ow} {v u : Value} {X S T R : Type}
  {d : Nat} {od : Option Nat} {ty : TypeId} {pos : String} {after : Array Edge} {gd : Option (Nat × Bool)} {x y : Operand} {t t' e tb : TypeId} {f : FuncId} {args : List Value} {k k' : IntKind} {m n : Int}
def Er.dep : Er → Nat
  | .fault _ _ _ e => e.dep + 1
  | _ => 0
/-- a method of what an interface holds -/
structure Meth (P : Program) (v : Value) (name : String) (f : FuncId) (rv : Value) : Prop where
  run : ∀ w : World, (callMethod v name #[]).run P w = (callFunc f #[rv]).run P w
theorem Meth.of {tv : TypeId} {name : String} {rv : Value} (h : ∀ w, (Go.method (P.types.size + Made.depth) tv v name).run P w = .ok (f, rv) w) : Meth P (.iface tv v) name f rv := ⟨fun w => by
  simp only [callMethod, Sem.run_bind, Go.program, Sem.run, go_sem] at h ⊢
  simp [h]⟩
theorem q_inv {φ : X → Prop} {val : X → Value} {M2 : X → Mo} {E2 : X → Ow} {name : String} {rv r : Value} (hx : ρ.ev x = some u) (hm : Meth P u name f rv) (h : Ct P f [rv] M1 Ow.emp val φ M2 E2) [i : InR M E M1] (hv : ∀ y, φ y → val y = r) :
    Qt P N c ⟨od, .call { callee := .invoke x name, args := [].toArray, argTypes := #[] }, ty, pos, after, gd⟩ r ρ M E := fun a w g s => by
  unfold Oper.quietAt
  have he : (execOp a.eval ⟨od, .call { callee := .invoke x name, args := [].toArray, argTypes := #[] }, ty, pos, after, gd⟩).run P w = .ok (.enter f #[rv]) w := by
    simp only [execOp, resolve, g.ev hx, invoke]
    simp [hm.run, h.entry]
  rw [he]
  exact ⟨rfl, h.gr i.out s hv⟩
/-- .. that the model has in place -/
theorem q_invX {fn : Func} {ex : Array Value → Sem Value} {name : String} {rv r : Value} (hx : ρ.ev x = some u) (hm : Meth P u name f rv) (hf : P.funcs[f]? = some fn) (hname : (fn.name == "runtime.NumGoroutine") = false) (hb : fn.body.isNone = true) (hn : Extern.findNext fn = none) (he : Extern.find fn = some ex) (h : ∀ w : World, (ex #[rv]).run P w = .ok r w) :
    Qt P N c ⟨od, .call { callee := .invoke x name, args := [].toArray, argTypes := #[] }, ty, pos, after, gd⟩ r ρ M E := Qt.of_run fun a w g s => by
  have hc := run_callFunc_extern hf hname hb hn he (args := #[rv]) (w := w)
  simp only [execOp, resolve, g.ev hx, invoke]
  simp [hm.run, hc, h]
/-- nil, and an error -/
theorem q_eqnl {T : TypeId} {ms : Array (String × TypeId)} {u : Value} (hi : P.underlying t = some (.interface ms)) (e1 : ρ.ev x = some .nilIface) (e2 : ρ.ev y = some (.iface T u)) :
    Qt P N c ⟨od, .binOp .eql t x y t', ty, pos, after, gd⟩ (.bool false) ρ M E := q_bin e1 e2 (fun w => by unfold eqGuard; simp [go_sem]) fun w => run_eql_iface_nil_left w T u hi
theorem q_ta {xT : TypeId} (e1 : ρ.ev x = some v) (h : ∀ w : World, (Instr.typeAssert v xT t true).run P w = .ok u w) : Qt P N c ⟨od, .typeAssert x xT t true, ty, pos, after, gd⟩ u ρ M E := Qt.of_run fun a w g _ => by
  simp only [execOp, g.ev e1, Sem.run_bind, h w, Result.andThen_ok, Sem.run_pure]
theorem guard_ifs (op : BinOp) (T1 T2 : TypeId) (u v : Value) (w : World) : (eqGuard op t x y (.iface T1 u) (.iface T2 v)).run P w = .ok () w := by
  unfold eqGuard
  cases op <;> simp [go_sem] <;> rfl
theorem run_eqinno (w : World) (d : Nat) (a b : Int) {ti tn : TypeId} {ms : Array (String × TypeId)} {i : TypeInfo} (hi : P.underlying ti = some (.interface ms)) (hn : P.underlying tn = some (.int .i64)) (h1 : P.info? tn = some i) (h2 : i.comparable = true) :
    (Op.equalIn (d + 2) ti (.iface tn (i64 a)) (.iface tn (i64 b))).run P w = .ok (decide (a = b)) w := by
  have e : (a == b) = decide (a = b) := by by_cases q : a = b <;> simp [q]
  simp [Op.equalIn, run_underlying hi, run_underlying hn, typeInfo, h1, h2, e]
theorem run_eqno (w : World) (a b : Int) {ti tn : TypeId} {ms : Array (String × TypeId)} (hi : P.underlying ti = some (.interface ms)) (hn : P.underlying tn = some (.int .i64)) (hc : (P.info? tn).map (·.comparable) = some true) :
    (binOp .eql ti (.iface tn (i64 a)) (.iface tn (i64 b))).run P w = .ok (.bool (decide (a = b))) w := by
  obtain ⟨i, h1, h2⟩ := Option.map_eq_some_iff.1 hc
  simp only [binOp]
  simp [Op.equal, Op.maxDepth, run_eqinno w 9998 a b hi hn h1 h2]
/-- two errors that are numbers -/
theorem q_eqno {tn : TypeId} {ms : Array (String × TypeId)} {a b : Int} (hi : P.underlying t = some (.interface ms)) (hn : P.underlying tn = some (.int .i64)) (hc : (P.info? tn).map (·.comparable) = some true) (e1 : ρ.ev x = some (.iface tn (i64 a))) (e2 : ρ.ev y = some (.iface tn (i64 b))) :
    Qt P N c ⟨od, .binOp .eql t x y t', ty, pos, after, gd⟩ (.bool (decide (a = b))) ρ M E := q_bin e1 e2 (guard_ifs _ _ _ _ _) fun w => run_eqno w a b hi hn hc
/-- .. of different types -/
theorem q_eqdt {t1 t2 : TypeId} {ms : Array (String × TypeId)} {a b : Value} (hi : P.underlying t = some (.interface ms)) (hne : t1 ≠ t2) (e1 : ρ.ev x = some (.iface t1 a)) (e2 : ρ.ev y = some (.iface t2 b)) :
    Qt P N c ⟨od, .binOp .eql t x y t', ty, pos, after, gd⟩ (.bool false) ρ M E := q_bin e1 e2 (guard_ifs _ _ _ _ _) fun w => run_eql_iface_types t1 t2 a b hi hne w
/-- a call that an interface leads to, and what it says -/
def Says (P : Program) (v : Value) (name : String) (M1 : Mo) (r : Value) : Prop := ∃ f rv, Meth P v name f rv ∧ Ct P f [rv] M1 Ow.emp (X := Unit) (fun _ => r) (fun _ => True) (fun _ => Mo.tt) (fun _ => Ow.emp)
theorem q_say {name : String} {r : Value} (hx : ρ.ev x = some u) (h : Says P u name M1 r) [i : InR M E M1] : Qt P N c ⟨od, .call { callee := .invoke x name, args := [].toArray, argTypes := #[] }, ty, pos, after, gd⟩ r ρ M E := by
  obtain ⟨f, rv, h1, h2⟩ := h
  exact q_inv hx h1 h2 (fun _ _ => rfl)
theorem St.turned {w w1 w' : World} {h z : Hp} {t : Nat} {T : TypeId} {u v : Value} (hb : w.heap[t]? = some (.cells #[u] T (0, 0))) (hz : z t = some (.cells #[u] T (0, 0))) (hoff : h.off z) (l : h.le (wh w)) (g : Gr w w1) (e : w' = w1.setCell ⟨t, 0, none⟩ v) : St ⟨w, h, fun i => z i ≠ none⟩ Mo.tt (Blk t [v] T) w' := by
  subst e
  have hbn : h t = none := (hoff t).resolve_right (by rw [hz]; simp)
  have htl := (Array.getElem?_eq_some_iff.1 hb).1
  have h1 : w1.heap[t]? = some (.cells #[u] T (0, 0)) := by rw [g.block t htl]; exact hb
  have hnew := one_setCell (u := v) h1
  have hold : ∀ i, i ≠ t → (w1.setCell ⟨t, 0, none⟩ v).heap[i]? = w1.heap[i]? := fun i hi => Below.heap_setCell w1 ⟨t, 0, none⟩ v i hi
  have hB : Below 0 w1 (w1.setCell ⟨t, 0, none⟩ v) := (Below.refl 0 w1).setCell (Nat.zero_le _) v
  refine ⟨⟨h, Hp.one t (.cells #[v] T (0, 0)), trivial, Hp.one_self _ _, fun i => ?_, fun i p hp => ?_, fun i p hp => ?_, Hp.le.refl h, fun i hi => .inl hi, fun i hi => .inl ?_⟩, fun i hi hd => ?_, hB.os.trans g.os, hB.tape.trans g.tape, hB.output.trans g.output, Nat.le_trans g.size hB.size⟩
  · by_cases hib : i = t
    · subst hib; exact .inl hbn
    · right; unfold Hp.one; rw [if_neg hib]
  · have hib : i ≠ t := fun q => by subst q; rw [hbn] at hp; cases hp
    unfold wh
    rw [hold i hib]
    have := l i p hp
    unfold wh at this
    rw [g.block i (Array.getElem?_eq_some_iff.1 this).1]
    exact this
  · have := Hp.one_ne (by rw [hp]; simp)
    subst this
    rw [Hp.one_self] at hp
    cases hp
    exact hnew
  · have := Hp.one_ne hi
    subst this
    show z i ≠ none
    rw [hz]; simp
  · have hit : i ≠ t := by
      rintro rfl
      exact hd (show z i ≠ none by rw [hz]; simp)
    rw [hold i hit]
    exact g.block i hi
end
end Go.V
end

section
set_option linter.unusedVariables false
namespace Go.V
open Go.RowKit Go.ChangeShapes Go.WideShapes
/-- a law's run, in the kit's words -/
theorem Ct.law {P : Program} {f : FuncId} {args : List Value} {M : Mo} {v : Value} {φ : Unit → Prop} {M2 : Unit → Mo} {E2 : Unit → Ow} (h : Ct P f args M Ow.emp (fun _ => v) φ M2 E2) {w : World} (hM : M.on (wh w)) :
    Calls P f args.toArray w fun en w' => en = .returned v ∧ Gr w w' :=
  (h.calls w (wh w) Hp.nil hM trivial (Hp.nil_off _) (fun _ _ e => e) (fun b o q => by cases q)).mono fun en w' ⟨r, e1, z, e2, e3, e4⟩ => ⟨by rw [e1, e2], e4.os, e4.tape, e4.output, e4.size, fun b hb => e4.frame b hb (by simp [Hp.nil])⟩
section
variable {H : Type} {enc : TypeId × Value → H} {P : Program} {W W' : World}
theorem trodAll_stays (hl : laidOutB P = true) {sp' : Nat → Bool} : ∀ {ts : List TypeId} {vs : List Value} {ds : List (DataW H)} {ps : List MemPlace}, ts.all (fun t => P.readableRec t && decide (t < P.types.size)) = true →
    DataW.TrodAll enc P W 0 (fun _ => true) true ts vs ds ps → (∀ p ∈ ps, W.sameAt W' p) → (∀ p ∈ ps, sp' p.block = true) → DataW.TrodAll enc P W' 0 sp' true ts vs ds ps
  | [], [], [], _, _, h, _, _ => h
  | t :: ts, v :: vs, d :: ds, _, ha, ⟨p, q, h1, h2, rfl⟩, hs, hb => by
    simp only [List.all_cons, Bool.and_eq_true, decide_eq_true_eq] at ha
    exact ⟨p, q, WideElems.Trod_stays hl ha.1.1 ha.1.2 h1 (fun x hx => hs x (List.mem_append_left _ hx)) (fun x hx => hb x (List.mem_append_left _ hx)),
      trodAll_stays hl ha.2 h2 (fun x hx => hs x (List.mem_append_right _ hx)) (fun x hx => hb x (List.mem_append_right _ hx)), rfl⟩
  | [], _ :: _, _, _, _, h, _, _ => by simp [DataW.TrodAll] at h
  | [], [], _ :: _, _, _, h, _, _ => by simp [DataW.TrodAll] at h
  | _ :: _, [], _, _, _, h, _, _ => by simp [DataW.TrodAll] at h
  | _ :: _, _ :: _, [], _, _, h, _, _ => by simp [DataW.TrodAll] at h
theorem Gr.below (h : Gr W W') : Below W.heap.size W W' := ⟨h.os, h.tape, h.output, h.size, h.block⟩
/-- a law that answers true and leaves all as it was -/
theorem law_post {f : Func} {s : ChangeSpec} {args : Array Value} {ds gs : List (DataW H)} {before : List MemPlace} {tb : TypeId} {fresh handsOn : Bool}
    (hl : laidOutB P = true) (hp : f.params.toList.all (fun t => P.readableRec t && decide (t < P.types.size)) = true) (hr : f.resultTypes = #[tb]) (htb : P.underlying tb = some .bool) (hv : s.vars = [])
    (hW : DataW.Whole enc P f.params.toList s.vars false W args.toList ds gs before) (hg : Gr W W') (hs : s.fn H ds = ⟨[.lit (.bool true)], ds, []⟩) : s.post enc P f false fresh handsOn false W args (.bool true) W' := by
  have hW' := hW
  obtain ⟨p, q, hA, hV, rfl, hfz, hnd⟩ := hW
  rw [hv] at hV
  obtain ⟨rfl, rfl⟩ : gs = [] ∧ q = [] := by
    cases gs
    · exact ⟨rfl, hV⟩
    · simp [DataW.TrodVars] at hV
  have hb : ∀ x ∈ p, x.block < W.heap.size := fun x hx => by simpa using hW'.lt x (List.mem_append_left _ hx)
  refine ⟨ds, [], _, [], p, [], hW', ?_, ?_, ?_, hg.below.frame _, fun h => by cases h⟩
  · rw [List.append_nil, hs, hr]
    exact trodAll_mk1 (shut_bool htb true)
  · rw [List.append_nil, hs]
    exact trodAll_stays hl hp hA (fun x hx => hg.below.same (hb x hx)) (fun x hx => by simpa using hb x hx)
  · rw [List.append_nil, hs, hv]
    rfl
theorem add_block (a : Addr) (i : Nat) : (a.add i).block = a.block := by unfold Addr.add; split <;> rfl
theorem add_off (a : Addr) (i : Nat) : (a.add i).off = a.off + i := by unfold Addr.add; split <;> simp_all
theorem op_str {t : TypeId} {v : Value} {r : Reach} {b0 : Nat} (ht : P.underlying t = some .string) (hv : Value.okWide P W r b0 t v) : ∃ s : Str, v = str s := by
  obtain ⟨s, rfl⟩ := okWide_string ht hv
  exact ⟨s.data.toList, rfl⟩
theorem op_strs {t e : TypeId} {v : Value} {r : Reach} {b0 b1 : Nat} {sp : Nat → Bool} {hd : Bool} {d : DataW H} {p : List MemPlace} (ht : P.underlying t = some (.slice e)) (he : P.underlying e = some .string) (hc : P.cellsOf e = 1)
    (hv : Value.okWide P W r b0 t v) (h : DataW.Trod enc P W b1 sp hd t v d p) : ∃ s : Sv Str, v = s.val ∧ s.ok.on (wh W) := by
  obtain ⟨a0, len, cap, rfl⟩ := okWide_slice ht hv
  obtain ⟨fuel, hf⟩ := h
  rcases open_strings ht he hc hf with ⟨hcs, hx⟩ | ⟨a, len', cap', ss, hcs, _, hl, hm, hz, hx, hcell, hsz⟩
  · simp [Value.cells] at hcs
    obtain ⟨rfl, rfl, rfl⟩ := hcs
    exact ⟨⟨none, 0, []⟩, rfl, by simp, by simp [maxLen], by simp, by simp, by simp⟩
  · simp [Value.cells] at hcs
    obtain ⟨rfl, rfl, rfl⟩ := hcs
    have hlen : len ≤ ss.length := by rw [hz]; split <;> omega
    refine ⟨⟨some a, cap, (ss.take len).map fun s => s.data.toList⟩, ?_, ?_, hm, ?_, ?_, fun _ _ => trivial⟩
    · simp [Sv.val, Nat.min_eq_left hlen]
    · simp [Nat.min_eq_left hlen]; exact hl
    · intro hne
      have h0 : 0 < ss.length := by
        rcases Nat.eq_zero_or_pos ss.length with h | h
        · exact absurd (by simp [List.length_eq_zero_iff.1 h]) hne
        · exact h
      have := hcell 0 h0
      unfold World.cell? at this
      split at this
      · split at this
        · cases this
        · next hsp =>
          simp [Addr.add] at hsp
          cases a
          simp_all [Sv.b, Sv.o]
      · cases this
    · intro i x hx2 j u hj
      rw [List.getElem?_map, Option.map_eq_some_iff] at hx2
      obtain ⟨y, hy, rfl⟩ := hx2
      rw [List.getElem?_take] at hy
      split at hy
      · next hi =>
        have hi2 := (List.getElem?_eq_some_iff.1 hy).1
        have h1 := hcell i hi2
        obtain ⟨rfl, rfl⟩ : j = 0 ∧ u = str y.data.toList := by
          cases j with
          | zero => exact ⟨rfl, (Option.some.inj hj).symm⟩
          | succ j => simp [Dat.enc] at hj
        rw [List.getD_eq_getElem?_getD, hy] at h1
        unfold World.cell? at h1
        show Hp.cell (wh W) a.block (a.off + i * 1 + 0) = _
        unfold Hp.cell wh
        rw [add_block, add_off] at h1
        simp only [Nat.mul_one, Nat.add_zero]
        split at h1
        · next c hb =>
          rw [hb]
          split at h1
          · cases h1
          · simpa using h1
        · cases h1
      · cases hy
end
end Go.V
end

section
set_option linter.unusedVariables false
namespace Go.V
open Go.RowKit Go.ChangeShapes Go.WideShapes
instance : Dat Bool := ⟨1, fun b => [.bool b], fun _ => rfl, fun _ _ h => by cases List.mem_singleton.1 h; rfl, fun _ => Mo.tt⟩
/-- what numbers that were read keep to -/
class Rg (α : Type) where
  rg : α → Prop
instance : Rg Int := ⟨Go.S.I64⟩
instance : Rg Bool := ⟨fun _ => True⟩
instance : Rg UInt8 := ⟨fun _ => True⟩
instance : Rg Str := ⟨fun _ => True⟩
instance {α : Type} [Rg α] : Rg (Sv α) := ⟨fun s => ∀ z ∈ s.l, Rg.rg z⟩
section
variable {P : Program}
/-- whatever can be read of a type is such data, with all that it leads to -/
def Opn (P : Program) (t : TypeId) (α : Type) [Dat α] [Rg α] : Prop := ∀ {H : Type} {enc : TypeId × Value → H} {W : World} {b0 : Nat} {sp : Nat → Bool} {hd : Bool} {fuel : Nat} {cs : List Value} {x : DataW H × List MemPlace},
  DataW.trod enc P W b0 sp hd fuel t cs = some x → ∃ z : α, cs = Dat.enc z ∧ (Dat.deep z).on (wh W) ∧ Rg.rg z
theorem Opn.i64 {t : TypeId} (ht : P.underlying t = some (.int .i64)) : Opn P t Int := fun h => by
  obtain ⟨n, rfl, _, hw⟩ := DataW.trod_int ht h
  refine ⟨n, rfl, trivial, ?_⟩
  have hb : -9223372036854775808 ≤ n ∧ n ≤ 9223372036854775807 := by simpa [Lit.wf, IntKind.min, IntKind.max, IntKind.signed, IntKind.bits] using hw
  exact hb
theorem Opn.bool {t : TypeId} (ht : P.underlying t = some .bool) : Opn P t Bool := fun h => by
  obtain ⟨n, rfl, _⟩ := DataW.trod_bool ht h
  exact ⟨n, rfl, trivial, trivial⟩
theorem Opn.u8 {t : TypeId} (ht : P.underlying t = some (.int .u8)) : Opn P t UInt8 := fun h => by
  obtain ⟨n, rfl, _, hw⟩ := DataW.trod_int ht h
  have hb : 0 ≤ n ∧ n ≤ 255 := by simpa [Lit.wf, IntKind.min, IntKind.max, IntKind.signed, IntKind.bits] using hw
  refine ⟨UInt8.ofNat n.toNat, ?_, trivial, trivial⟩
  show [Value.int .u8 n] = [.int .u8 ((UInt8.ofNat n.toNat).toNat : Int)]
  rw [← u8_z hb rfl]
theorem Opn.str {t : TypeId} (ht : P.underlying t = some .string) : Opn P t Str := fun h => by
  obtain ⟨s, rfl, _, _⟩ := DataW.trod_string ht h
  exact ⟨s.data.toList, rfl, trivial, trivial⟩
theorem pick_list {α : Type} {Q : Nat → α → Prop} : ∀ (n : Nat), (∀ i, i < n → ∃ z, Q i z) → ∃ l : List α, l.length = n ∧ ∀ i z, l[i]? = some z → Q i z
  | 0, _ => ⟨[], rfl, fun i z h => by simp at h⟩
  | n + 1, h => by
    obtain ⟨l, hl, hq⟩ := pick_list n fun i hi => h i (by omega)
    obtain ⟨z, hz⟩ := h n (by omega)
    refine ⟨l ++ [z], by simp [hl], fun i y hy => ?_⟩
    rw [List.getElem?_append] at hy
    split at hy
    · exact hq i y hy
    · have : i = n := by
        have := (List.getElem?_eq_some_iff.1 hy).1
        simp at this; omega
      subst this
      rw [hl] at hy
      simp at hy
      subst hy
      exact hz
theorem cells_at {W : World} {b0 n : Nat} {a : Addr} {cs : List Value} (h : W.cells? b0 a n = some cs) (hn : 0 < n) : a.spot = none ∧ (wh W).at a.block a.off cs := by
  unfold World.cells? at h
  split at h
  · have hl := mapM_some_length h
    rw [List.length_range] at hl
    have hg : ∀ i, i < n → W.cell? (a.add i) = cs[i]? := fun i hi => mapM_some_get h i i (by simp [hi])
    have key : ∀ (c : Addr) (v : Value), W.cell? c = some v → c.spot = none ∧ (wh W).cell c.block c.off = some v := fun c v hc => by
      unfold World.cell? at hc
      unfold Hp.cell wh
      split at hc
      · next hb =>
        split at hc
        · cases hc
        · next hsp => exact ⟨by simpa using hsp, by rw [hb]; simpa using hc⟩
      · cases hc
    refine ⟨?_, fun j v hj => ?_⟩
    · obtain ⟨v, hv⟩ : ∃ v, cs[0]? = some v := ⟨_, List.getElem?_eq_getElem (by omega)⟩
      have := (key _ v ((hg 0 hn).trans hv)).1
      unfold Addr.add at this
      split at this <;> simp_all
    · have hjn : j < n := by have := (List.getElem?_eq_some_iff.1 hj).1; omega
      have := (key _ v ((hg j hjn).trans hj)).2
      rwa [add_block, add_off] at this
  · cases h
theorem Opn.sv {t e : TypeId} {α : Type} [Dat α] [Rg α] (ht : P.underlying t = some (.slice e)) (hc : P.cellsOf e = Dat.sz α) (hpos : 0 < Dat.sz α) (he : Opn P e α) : Opn P t (Sv α) := fun {H enc W b0 sp hd fuel cs x} h => by
  rcases DataW.trod_slice ht h with ⟨rfl, _⟩ | ⟨a, len, cap, elems, rest, n, _, rfl, _, hb, hl, hm, hlen, hel, _⟩
  · exact ⟨⟨none, 0, []⟩, rfl, ⟨Nat.le_refl _, by simp [maxLen], fun h => absurd rfl h, fun _ _ h => by simp at h, fun _ h => by cases h⟩, fun _ h => (by cases h)⟩
  · have each : ∀ i, i < len → ∃ z : α, W.cells? b0 (a.add (i * Dat.sz α)) (Dat.sz α) = some (Dat.enc z) ∧ (Dat.deep z).on (wh W) ∧ Rg.rg z := fun i hi => by
      have h1 := hel i hi
      rw [List.getElem?_eq_getElem (by omega), hc] at h1
      cases h2 : W.cells? b0 (a.add (i * Dat.sz α)) (Dat.sz α) with
      | none => rw [h2] at h1; cases h1
      | some cs' =>
        rw [h2] at h1
        obtain ⟨z, rfl, hz⟩ := he h1
        exact ⟨z, rfl, hz⟩
    obtain ⟨l, h1, h2⟩ := pick_list len each
    refine ⟨⟨some a, cap, l⟩, by rw [← h1]; rfl, ⟨by simpa [h1] using hl, hm, fun hne => ?_, fun i z hz => ?_, fun z hz => ?_⟩, fun z hz => ?_⟩
    · simp only at hne
      obtain ⟨z, hz⟩ : ∃ z, l[0]? = some z := ⟨_, List.getElem?_eq_getElem (List.length_pos_iff.2 hne)⟩
      have := (cells_at (h2 0 z hz).1 hpos).1
      simp only [Nat.zero_mul] at this
      cases a
      simp [Addr.add] at this
      simp_all [Sv.b, Sv.o]
    · have := (cells_at (h2 i z hz).1 hpos).2
      rw [add_block, add_off] at this
      exact this
    · obtain ⟨i, hi, rfl⟩ := List.mem_iff_getElem.1 hz
      exact (h2 i l[i] (List.getElem?_eq_getElem hi)).2.1
    · obtain ⟨i, hi, rfl⟩ := List.mem_iff_getElem.1 hz
      exact (h2 i l[i] (List.getElem?_eq_getElem hi)).2.2
theorem trod_fields {H : Type} {enc : TypeId × Value → H} {W : World} {b0 : Nat} {sp : Nat → Bool} {hd : Bool} {fuel : Nat} {cs : List Value} {x : DataW H × List MemPlace} {t : TypeId} {fs : Array Field} (ht : P.underlying t = some (.struct fs)) (h : DataW.trod enc P W b0 sp hd fuel t cs = some x) :
    cs.length = P.cellsOf t ∧ ∀ (i : Nat) (f : Field), fs[i]? = some f → ∃ (n : Nat) (y : DataW H × List MemPlace), DataW.trod enc P W b0 sp hd n f.type ((cs.drop f.offset).take (P.cellsOf f.type)) = some y := by
  obtain ⟨xs, n, _, _, hl, hx, hf⟩ := DataW.trod_struct ht h
  refine ⟨hl, fun i f hi => ⟨n, ?_⟩⟩
  have h1 := hf i f hi
  have hi' := (Array.getElem?_eq_some_iff.1 hi).1
  rw [List.getElem?_eq_getElem (by omega)] at h1
  exact ⟨_, h1⟩
/-- a field -/
theorem Opn.fld {H : Type} {enc : TypeId × Value → H} {W : World} {b0 : Nat} {sp : Nat → Bool} {hd : Bool} {cs cs' : List Value} {t : TypeId} {α : Type} [Dat α] [Rg α] (ho : Opn P t α) {off k : Nat} (hk : P.cellsOf t = k) (h : ∃ (n : Nat) (y : DataW H × List MemPlace), DataW.trod enc P W b0 sp hd n t ((cs.drop off).take (P.cellsOf t)) = some y) (hc : (cs.drop off).take k = cs') :
    ∃ z : α, cs' = Dat.enc z ∧ (Dat.deep z).on (wh W) ∧ Rg.rg z := by
  subst hk
  subst hc
  obtain ⟨n, y, h⟩ := h
  exact ho h
/-- an argument, out of what is read of it -/
theorem Opn.arg {t : TypeId} {α : Type} [Dat α] [Rg α] (ho : Opn P t α) {H : Type} {enc : TypeId × Value → H} {W : World} {b0 : Nat} {sp : Nat → Bool} {hd : Bool} {v : Value} {d : DataW H} {p : List MemPlace} (h : DataW.Trod enc P W b0 sp hd t v d p) : ∃ z : α, v.cells.toList = Dat.enc z ∧ (Dat.deep z).on (wh W) ∧ Rg.rg z := by
  obtain ⟨f, h⟩ := h
  exact ho h
theorem cells_agg {cs : List Value} {v : Value} {c : Array Value} (hv : v = .agg c) (h : v.cells.toList = cs) : v = .agg cs.toArray := by
  subst hv
  subst h
  simp [Value.cells]
theorem okw_struct {W : World} {r : Reach} {b0 : Nat} {t : TypeId} {fs : Array Field} {v : Value} (ht : P.underlying t = some (.struct fs)) (h : Value.okWide P W r b0 t v) : ∃ c, v = .agg c := by
  unfold Value.okWide at h
  rw [ht] at h
  obtain ⟨c, hc, _⟩ := h
  exact ⟨c, hc⟩
theorem okw_slice {W : World} {r : Reach} {b0 : Nat} {t e : TypeId} {v : Value} {α : Type} [Dat α] {z : Sv α} (ht : P.underlying t = some (.slice e)) (h : Value.okWide P W r b0 t v) (hc : v.cells.toList = Dat.enc z) : v = z.val := by
  obtain ⟨a0, len, cap, rfl⟩ := okWide_slice ht h
  have : [Value.slice a0 len cap] = [z.val] := hc
  exact List.head_eq_of_cons_eq this
end
end Go.V
end

section
set_option linter.unusedVariables false
namespace Go.V
open Go.RowKit
theorem handle_laid {P : Program} {W : World} {name : String} {nm : List UInt8} {u0 ty0 : TypeId} {g : Nat} {d : DataW Unit} {v : Value} {L : List (String × DataW Unit)} (hg : P.globalNamed name = some g) (hm : L.find? (fun x => x.1 == name) = some (name, d)) (hn : d.handleName? = some nm) (hfn : d.funcsIn? = none)
    (hu : (P.cutTypes.find? (·.1 == "internal/reflectlite.rtype")).map (·.2) = some u0) (hone : ((List.range P.types.size).filter fun t => P.rowNamed t nm) = [ty0]) (hv : typeHandle P ty0 = v) (h : laidMetH P L W) : (GBlk g #[.iface u0 (.agg #[v])]).on (wh W) := by
  have hL : (name, d) ∈ L.filter fun x => x.2.handleName?.isSome := List.mem_filter.2 ⟨List.mem_of_find?_eq_some hm, by simp [hn]⟩
  have h' := (laidMetH_iff.1 h).2 _ hL
  simp only [hfn] at h'
  obtain ⟨nm', u, ty, e1, e2, e3, e4, e5⟩ := h'
  rw [hn] at e1
  obtain rfl := Option.some.inj e1
  obtain rfl := Option.some.inj (hu.symm.trans e2)
  have hm : ty ∈ (List.range P.types.size).filter fun t => P.rowNamed t nm := List.mem_filter.2 ⟨List.mem_range.2 e3, e4⟩
  rw [hone] at hm
  obtain rfl := List.mem_singleton.1 hm
  rw [hv] at e5
  exact GBlk.of_var hg e5
theorem laidMet_on {P : Program} {w0 : World} {laid : List (String × DataW Unit)} (args : Array Value) (hf : w0.layFits P laid [] = true) (hi : w0.layIfaces P laid (w0.layVars P laid) = true) :
    laidMet P laid ((w0.layVars P laid).forCall (fun _ _ => 0) ⟨#[], args, []⟩).memory := by
  have e1 : (laid.filter fun x => (laid.map (·.1)).contains x.1) = laid := List.filter_eq_self.2 fun x hx => List.contains_iff_mem.2 (List.mem_map.2 ⟨x, hx, rfl⟩)
  have e2 : (laid.filter fun x => !(laid.map (·.1)).contains x.1) = [] := List.filter_eq_nil_iff.2 fun x hx => by rw [List.contains_iff_mem.2 (List.mem_map.2 ⟨x, hx, rfl⟩)]; simp
  have h : laidMet P laid (w0.layVars P laid) := laidMet_layVars (w0 := w0) (laid.map (·.1)) [] (by rw [e1]) (by rw [e1]; exact hf) (by rw [e1]; exact hi) (by rw [e2]; exact LaidIn.none)
  exact h.of_heap (by simp [World.memory, World.forCall, Input.heap])
/-- a world that holds what is asked, its handle laid ahead -/
noncomputable def heldW (P : Program) (os : Os) (g : Nat) (v : Value) : World :=
  { World.holding P os ⟨#[], #[], []⟩ with heap := (World.holding P os ⟨#[], #[], []⟩).heap.modify g fun
      | .cells _ t frozen => .cells #[v] t frozen
      | o => o }
end Go.V
end

section
namespace Go.V
open Go.RowKit
section
variable {P : Program} {N : Nat} {c : Cx} {ops : Array Oper} {Q : Exit → Act → World → Prop} {ρ : Env} {M : Mo} {E : Ow} {D : List (Nat × Value)} {k : Nat}
theorem VL.backX {n : Nat} {listed listed' : Array Bool} {D' : List (Nat × Value)} (hp : Pend P N c ops D' ρ M E) (hD : strike ops k D = D') (hL : listed.setIfInBounds k true = listed') (h : VG P N c ops Q n D' listed' ρ M E) :
    VL P N c ops (toR P N c ops fun a w => (∀ p ∈ strike ops k D, YI P ops p a w) ∧ wpG P ops Q n (strike ops k D) (listed.setIfInBounds k true) a w) [] ρ M E := by
  subst hD
  subst hL
  exact VL.nil fun a w x y => ⟨rfl, hp a w x y, h a w x y (hp a w x y)⟩
end
end Go.V
end

section
set_option linter.unusedVariables false
set_option linter.unusedSimpArgs false
set_option linter.unusedSectionVars false
/-- texts with another between them -/
def Go.S.joinS (l : List (List UInt8)) (sep : List UInt8) : List UInt8 := Go.Lib.join l sep
namespace Go.V
open Go.RowKit Go.S
section
variable {P : Program} {N : Nat} {c : Cx} {ops : Array Oper} {Q Q1 : Exit → Act → World → Prop} {rest : List Oper} {o : Oper} {ρ : Env} {M M' M1 M0 : Mo} {E E1 F A : Ow} {v u : Value} {X S T R : Type}
  {d : Nat} {od : Option Nat} {ty : TypeId} {pos : String} {after : Array Edge} {gd : Option (Nat × Bool)} {x y : Operand} {t t' e tb : TypeId} {f : FuncId} {args : List Value} {k k' : IntKind} {m n : Int} {α : Type} [Dat α]
/-! ### elements of several cells: clear, copy -/
theorem flatMap_drop {α : Type} [Dat α] (l : List α) (n : Nat) : (l.flatMap Dat.enc).drop (n * Dat.sz α) = (l.drop n).flatMap Dat.enc := by
  induction l generalizing n with
  | nil => simp
  | cons x r ih =>
    cases n with
    | zero => simp
    | succ n =>
      simp only [List.flatMap_cons, List.drop_succ_cons]
      rw [List.drop_append, Dat.len, ← ih n]
      have h1 : (Dat.enc x).drop ((n + 1) * Dat.sz α) = [] := List.drop_of_length_le (by rw [Dat.len]; exact Nat.le_mul_of_pos_left _ (Nat.succ_pos n))
      rw [h1, List.nil_append]
      congr 1
      rw [Nat.succ_mul, Nat.add_sub_cancel]
theorem run_copy_rowK (w : World) (dT sT ty elem : TypeId) (g o dLen dCap : Nat) (a : Addr) (sLen sCap : Nat) (cur : Array Value) (t : TypeId) (cs : List Value) (k : Nat)
    (hu : P.underlying dT = some (.slice elem)) (hs : (P.info? elem).map (·.size) = some k)
    (hg : w.heap[g]? = some (.cells cur t (0, 0))) (hn : cs.length = Nat.min sLen dLen * k)
    (hsrc : ∀ j v, cs[j]? = some v → w.cell? (a.add j) = some v) (hfit : o + cs.length ≤ cur.size) (h1 : ∀ v ∈ cs, v.oneCell' = true) :
    (Builtin.copy_ #[dT, sT] ty #[.slice (some ⟨g, o, none⟩) dLen dCap, .slice (some a) sLen sCap]).run P w =
      .ok (goInt (Nat.min sLen dLen)) (w.setRow g (cur.toList.take o ++ cs ++ cur.toList.drop (o + cs.length)).toArray) := by
  have hl := run_loadCells_list (P := P) w a cs hsrc
  have hst := run_storeCells_at P g o t cs 0 cur w hg (by simpa using hfit) h1
  cases hq : P.info? elem with
  | none => simp [hq] at hs
  | some i =>
    have hi : i.size = k := by simpa [hq] using hs
    simp [Builtin.copy_, run_underlying hu, Builtin.lenOf, Builtin.firstCells, sizeOf, typeInfo, hq, hi, ← hn, hl, hst]
theorem run_clear_rowK (w : World) (t ty e : TypeId) (z : Value) (k : Nat) (hu : P.underlying t = some (.slice e)) (hv : ∀ w, (zeroValue e).run P w = .ok z w) (hk : z.cells.size = k) (h1 : ∀ v ∈ z.cells.toList, v.oneCell' = true)
    (g o n c : Nat) (cur : Array Value) (T : TypeId) (hn : 0 < n) (hg : w.heap[g]? = some (.cells cur T (0, 0))) (hfit : o + n * k ≤ cur.size) :
    ∃ cs : List Value, cs.length = n * k ∧ (Builtin.clear_ #[t] ty #[.slice (some ⟨g, o, none⟩) n c]).run P w = .ok (.tuple #[]) (w.setRow g (cur.toList.take o ++ cs ++ cur.toList.drop (o + cs.length)).toArray) := by
  have hlen : (Builtin.zeroCells z.cells n).toList.length = n * k := by simp [Builtin.zeroCells, hk]
  refine ⟨(Builtin.zeroCells z.cells n).toList, hlen, ?_⟩
  have hone : ∀ v ∈ (Builtin.zeroCells z.cells n).toList, v.oneCell' = true := by
    intro v hv
    simp only [Builtin.zeroCells, Array.toList_map, List.mem_map, Array.toList_range, List.mem_range] at hv
    obtain ⟨i, hi, rfl⟩ := hv
    have hk0 : 0 < z.cells.size := by
      rcases Nat.eq_zero_or_pos z.cells.size with q | q
      · rw [q, Nat.mul_zero] at hi; omega
      · exact q
    have hm := Nat.mod_lt i hk0
    rw [getElem!_pos z.cells (i % z.cells.size) hm]
    exact h1 _ (Array.mem_toList_iff.2 (Array.getElem_mem hm))
  have hst := run_storeCells_at P g o T _ 0 cur w hg (by rw [hlen]; simpa using hfit) hone
  obtain ⟨n, rfl⟩ : ∃ j, n = j + 1 := ⟨n - 1, by omega⟩
  simp only [Nat.add_zero] at hst
  simp [Builtin.clear_, run_underlying hu, hv, hst]
/-- the last ones of a slice of one's own are cleared: the first ones are one's own still -/
theorem VL.clr {s : Sv α} {i : Nat} {xs : List Operand} {op' : Option Nat} (z : Value) (hu : P.underlying t = some (.slice e)) (hv : ∀ w, (zeroValue e).run P w = .ok z w) (hk : z.cells.size = Dat.sz α) (h1' : z.cells.toList.all (fun v => v.oneCell') = true)
    (ha : ρ.evs xs = some [(s.sub i s.l.length s.c).val]) (hi : i ≤ s.l.length) (hE : Foc E (s.own e) F) (hd : d < N)
    (kk : ∀ q : Sv α, q.l = s.l.take i → q.val = .slice s.a i s.c → VL P N c ops Q rest ((d, .tuple #[]) :: ρ) M (Ow.star (q.own e) F)) :
    VL P N c ops Q (⟨some d, .call { callee := .builtin .clear, args := xs.toArray, argTypes := #[t] }, ty, pos, after, none⟩ :: rest) ρ M E := by
  have h1 : ∀ v ∈ z.cells.toList, v.oneCell' = true := fun v hv => List.all_eq_true.1 h1' v hv
  have hsub : (s.sub i s.l.length s.c).l.length = s.l.length - i := by simp [Sv.sub]
  refine VL.big (X := Unit) (φ := fun _ => True) (val := fun _ => .tuple #[]) (M2 := fun _ => Mo.tt) (A2 := fun _ => (⟨s.a, s.c, s.l.take i⟩ : Sv α).own e) hE (fun ac w h z' g hoff m hA l kk' => ?_) hd fun _ _ => VL.strip (kk ⟨s.a, s.c, s.l.take i⟩ rfl ?_)
  · obtain ⟨hlc, hcm, hcase⟩ := hA
    by_cases h0 : s.l.length - i = 0
    · have hil : i = s.l.length := by omega
      have hrun : (Builtin.clear_ #[t] ty #[(s.sub i s.l.length s.c).val]).run P w = .ok (.tuple #[]) w := by
        simp only [Sv.val, hsub, h0]
        cases (s.sub i s.l.length s.c).a <;> simp [Builtin.clear_, run_underlying hu]
      refine ⟨_, w, ?_, (), trivial, rfl, ?_⟩
      · simp only [execOp, resolve, List.map_toArray, g.evs ha, Sem.run_bind, Sem.run_pure, Result.andThen_ok, invoke, builtin, hrun]
      · have e1 : s.l.take i = s.l := by rw [hil, List.take_length]
        rw [e1]
        refine ⟨⟨h, z', trivial, ⟨hlc, hcm, hcase⟩, hoff, l, kk', Hp.le.refl h, fun b hb => .inl hb, fun b hb => .inl hb⟩, fun b _ _ => rfl, rfl, rfl, rfl, Nat.le_refl _⟩
    · rcases hcase with ⟨hl0, _⟩ | ⟨b, cur, hsa, hg, hcs, ht⟩
      · rw [hl0] at h0; simp at h0
      · have hw : w.heap[b]? = some (.cells cur e (0, 0)) := kk' _ _ hg
        have hsa' : (s.sub i s.l.length s.c).a = some ⟨b, i * Dat.sz α, none⟩ := by
          unfold Sv.sub
          simp only
          split
          · rename_i q
            omega
          · rw [hsa]; simp [add_none]
        have hle : i * Dat.sz α + (s.l.length - i) * Dat.sz α = s.l.length * Dat.sz α := by rw [← Nat.add_mul]; congr 1; omega
        have hle2 : s.l.length * Dat.sz α ≤ s.c * Dat.sz α := Nat.mul_le_mul_right _ hlc
        obtain ⟨cs, hcl, hrun⟩ := run_clear_rowK (P := P) w t ty e z (Dat.sz α) hu hv hk h1 b (i * Dat.sz α) (s.l.length - i) ((s.sub i s.l.length s.c).c) cur e (by omega) hw (by rw [hcs]; omega)
        refine ⟨_, w.setRow b (cur.toList.take (i * Dat.sz α) ++ cs ++ cur.toList.drop (i * Dat.sz α + cs.length)).toArray, ?_, (), trivial, rfl, St.turn (A := Sv.own _ e) hg hoff trivial l ⟨?_, hcm, .inr ⟨b, _, hsa, Hp.one_self _ _, ?_, ?_⟩⟩ (by simp [World.setRow]) (setRow_heap w b cur _ e _ hw) (fun i hi => setRow_other w b i _ hi) rfl rfl rfl⟩
        · have hval : (s.sub i s.l.length s.c).val = .slice (some ⟨b, i * Dat.sz α, none⟩) (s.l.length - i) (s.sub i s.l.length s.c).c := by unfold Sv.val; rw [hsa', hsub]
          simp only [execOp, resolve, List.map_toArray, g.evs ha, Sem.run_bind, Sem.run_pure, Result.andThen_ok, invoke, builtin, hval, hrun]
        · simp only [List.length_take]; omega
        · simp only [List.size_toArray, List.length_append, List.length_take, List.length_drop, Array.length_toList, hcs]
          omega
        · simp only [List.length_take]
          rw [show min i s.l.length = i by omega, ← flatMap_take, ← ht]
          rw [List.append_assoc, List.take_append_of_le_length (by have q : i * Dat.sz α ≤ s.c * Dat.sz α := Nat.mul_le_mul_right _ (by omega); rw [List.length_take, Array.length_toList, hcs]; omega), List.take_take, List.take_take]
          congr 1
          omega
  · simp only [Sv.val, List.length_take]
    congr 1
    omega
/-- the first ones of a slice by its value -/
theorem q_cutO {s q : Sv α} (hu : P.underlying t = some (.slice e)) (hz : (P.info? e).map (·.size) = some (Dat.sz α)) (e0 : ρ.ev x = some s.val) (e1 : ρ.ev y = some (i64 n)) (h0 : 0 ≤ n) (h1 : n ≤ s.l.length) (hc : s.l.length ≤ s.c) (hq : q.val = .slice s.a n.toNat s.c) :
    Qt P N c ⟨od, .slice t x none (some y) none, ty, pos, after, gd⟩ q.val ρ M E := by
  have := q_cut (P := P) (N := N) (c := c) (M := M) (E := E) (od := od) (ty := ty) (pos := pos) (after := after) (gd := gd) (lo := none) (hi := some y) (mx := none) (lo' := none) (hi' := some n) (mx' := none) 0 n.toNat s.c hu hz e0 rfl (by simp [optv, e1]) rfl rfl (by simp; omega) (by simp) (fun h => by cases h) (Nat.zero_le _) (by omega) (Nat.le_refl _) (by omega)
  rw [hq]
  have e2 : (s.sub 0 n.toNat s.c).val = .slice s.a n.toNat s.c := by
    simp only [Sv.val, Sv.sub, List.drop_zero, Nat.sub_zero, List.length_take]
    rw [show min n.toNat s.l.length = n.toNat by omega]
    split
    · rfl
    · rw [Nat.zero_mul]; cases s.a <;> simp [Addr.add] <;> rfl
  rwa [e2] at this
/-- the last ones of a slice, by value -/
theorem q_subv {s : Sv α} (hu : P.underlying t = some (.slice e)) (hz : (P.info? e).map (·.size) = some (Dat.sz α)) (e0 : ρ.ev x = some s.val) (e1 : ρ.ev y = some (i64 n)) (h0 : 0 ≤ n) (h1 : n ≤ s.l.length) (hc : s.l.length ≤ s.c) :
    Qt P N c ⟨od, .slice t x (some y) none none, ty, pos, after, gd⟩ (s.sub n.toNat s.l.length s.c).val ρ M E :=
  q_cut (lo := some y) (hi := none) (mx := none) (lo' := some n) (hi' := none) (mx' := none) n.toNat s.l.length s.c hu hz e0 (by simp [optv, e1]) rfl rfl (by simp; omega) rfl (by simp) (fun h => by cases h) (by omega) hc (Nat.le_refl _) (Nat.le_refl _)
/-- what is one's own fits -/
theorem VL.fits {s : Sv α} (hE : Foc E (s.own e) F) (kk : s.l.length ≤ s.c → VL P N c ops Q rest ρ M E) : VL P N c ops Q rest ρ M E := fun a w xx yy => kk (by
  obtain ⟨⟨hp, ee, m, eE, _⟩, _⟩ := yy
  obtain ⟨a1, b1, _, _, ⟨q1, _⟩, _⟩ := hE ee eE
  exact q1) a w xx yy
/-! ### parts of slices in drawn regions, with what they are later on -/
theorem VD.partK {k : Nat} {rr : List (Nat × Bool)} {D : List (Nat × Value)} {s : Sv α} {lo hi mx : Option Operand} {lo' hi' mx' : Option Int} (hk : ops[k]? = some ⟨some d, .slice t x lo hi mx, ty, pos, after, none⟩) (l r : Nat) (hu : P.underlying t = some (.slice e)) (hz : (P.info? e).map (·.size) = some (Dat.sz α)) (e0 : ρ.ev x = some s.val)
    (e1 : optv ρ lo = some lo') (e2 : optv ρ hi = some hi') (e3 : optv ρ mx = some mx') [hs : InM M s.ok] (hl : lo'.getD 0 = (l : Int)) (hr : hi'.getD s.l.length = (r : Int)) (hm : mx' = none ∨ mx' = some (r : Int)) (hmx : mx'.isSome = true → hi'.isSome = true) (h1 : l ≤ r) (h4 : r ≤ s.l.length) (hd : d < N)
    (kk : ∀ (q : Sv α), q.l = (s.l.drop l).take (r - l) → (∀ {ρ' : Env} {M' : Mo} {E' : Ow}, ρ'.ev x = some s.val → optv ρ' lo = some lo' → optv ρ' hi = some hi' → optv ρ' mx = some mx' → Qt P N c ⟨some d, .slice t x lo hi mx, ty, pos, after, none⟩ q.val ρ' M' E') → VD P N c ops Q rr (addD ops k q.val D) ((d, q.val) :: ρ) (q.ok.and M) E) : VD P N c ops Q ((k, true) :: rr) D ρ M E :=
  VD.factM (φ := s.l.length ≤ s.c) (fun h m => (hs.out h m).1) fun hc => by
    obtain ⟨m, m1, m2, m3⟩ := cut_aux lo' hi' mx' l r hl hr hm h4 hc
    exact VD.q hk (q_cut l r m hu hz e0 e1 e2 e3 hl hr m1 hmx h1 m2 m3 h4) hd (VD.addM (s.sub l r m).ok (fun h q => Sv.sub_ok h1 h4 m2 m3 (hs.out h q)) (kk _ rfl fun e0 e1 e2 e3 => q_cut l r m hu hz e0 e1 e2 e3 hl hr m1 hmx h1 m2 m3 h4))
theorem VD.stoK {k' : Nat} {rr : List (Nat × Bool)} {D : List (Nat × Value)} {s : Sv α} {n : Int} (hk : ops[k']? = some ⟨some d, .slice t x none (some y) none, ty, pos, after, none⟩) (hu : P.underlying t = some (.slice e)) (hz : (P.info? e).map (·.size) = some (Dat.sz α)) (e0 : ρ.ev x = some s.val) (e1 : ρ.ev y = some (i64 n)) [hs : InM M s.ok] (h0 : 0 ≤ n) (h1 : n ≤ s.l.length) (hd : d < N)
    (kk : ∀ (q : Sv α), q.l = s.l.take n.toNat → (∀ {ρ' : Env} {M' : Mo} {E' : Ow}, ρ'.ev x = some s.val → ρ'.ev y = some (i64 n) → Qt P N c ⟨some d, .slice t x none (some y) none, ty, pos, after, none⟩ q.val ρ' M' E') → VD P N c ops Q rr (addD ops k' q.val D) ((d, q.val) :: ρ) (q.ok.and M) E) : VD P N c ops Q ((k', true) :: rr) D ρ M E :=
  VD.partK (lo' := none) (hi' := some n) (mx' := none) hk 0 n.toNat hu hz e0 rfl (by simp [optv, e1]) rfl rfl (by simp; omega) (.inl rfl) (fun _ => rfl) (by omega) (by omega) hd fun q hq h => kk q (by rw [hq]; simp) fun a b => h a rfl (by simp [optv, b]) rfl
theorem VD.sfromK {k' : Nat} {rr : List (Nat × Bool)} {D : List (Nat × Value)} {s : Sv α} {n : Int} (hk : ops[k']? = some ⟨some d, .slice t x (some y) none none, ty, pos, after, none⟩) (hu : P.underlying t = some (.slice e)) (hz : (P.info? e).map (·.size) = some (Dat.sz α)) (e0 : ρ.ev x = some s.val) (e1 : ρ.ev y = some (i64 n)) [hs : InM M s.ok] (h0 : 0 ≤ n) (h1 : n ≤ s.l.length) (hd : d < N)
    (kk : ∀ (q : Sv α), q.l = s.l.drop n.toNat → (∀ {ρ' : Env} {M' : Mo} {E' : Ow}, ρ'.ev x = some s.val → ρ'.ev y = some (i64 n) → Qt P N c ⟨some d, .slice t x (some y) none none, ty, pos, after, none⟩ q.val ρ' M' E') → VD P N c ops Q rr (addD ops k' q.val D) ((d, q.val) :: ρ) (q.ok.and M) E) : VD P N c ops Q ((k', true) :: rr) D ρ M E :=
  VD.partK (lo' := some n) (hi' := none) (mx' := none) hk n.toNat s.l.length hu hz e0 (by simp [optv, e1]) rfl rfl (by simp; omega) rfl (.inl rfl) (fun h => by cases h) (by omega) (by omega) hd fun q hq h => kk q (by rw [hq, List.take_of_length_le (by simp)]) fun a b => h a (by simp [optv, b]) rfl rfl
theorem VD.smidK {k' : Nat} {rr : List (Nat × Bool)} {D : List (Nat × Value)} {s : Sv α} {z : Operand} {m n : Int} (hk : ops[k']? = some ⟨some d, .slice t x (some y) (some z) none, ty, pos, after, none⟩) (hu : P.underlying t = some (.slice e)) (hz : (P.info? e).map (·.size) = some (Dat.sz α)) (e0 : ρ.ev x = some s.val) (e1 : ρ.ev y = some (i64 m)) (e2 : ρ.ev z = some (i64 n)) [hs : InM M s.ok] (h0 : 0 ≤ m) (h1 : m ≤ n) (h2 : n ≤ s.l.length) (hd : d < N)
    (kk : ∀ (q : Sv α), q.l = (s.l.drop m.toNat).take (n.toNat - m.toNat) → (∀ {ρ' : Env} {M' : Mo} {E' : Ow}, ρ'.ev x = some s.val → ρ'.ev y = some (i64 m) → ρ'.ev z = some (i64 n) → Qt P N c ⟨some d, .slice t x (some y) (some z) none, ty, pos, after, none⟩ q.val ρ' M' E') → VD P N c ops Q rr (addD ops k' q.val D) ((d, q.val) :: ρ) (q.ok.and M) E) : VD P N c ops Q ((k', true) :: rr) D ρ M E :=
  VD.partK (lo' := some m) (hi' := some n) (mx' := none) hk m.toNat n.toNat hu hz e0 (by simp [optv, e1]) (by simp [optv, e2]) rfl (by simp; omega) (by simp; omega) (.inl rfl) (fun h => by cases h) (by omega) (by omega) hd fun q hq h => kk q hq fun a b c' => h a (by simp [optv, b]) (by simp [optv, c']) rfl
end
end Go.V
end

section
set_option linter.unusedVariables false
namespace Go.S.Sh
open Go
noncomputable def internal_stringslite_IndexByte (s_0 : Str) (c_1 : Int) : Option Int :=
 some (ixB s_0 c_1)

noncomputable def internal_stringslite_Index (a_0 : Str) (a_1 : Str) : Option Int :=
 jn (fun (x16_1 : Bool) =>
 if x16_1 = true then (some 0)
 else (if (a_1.length : Int) = 1 then ((at_ a_1 0).bind (fun z29_3 =>
 (Sh.internal_stringslite_IndexByte a_0 (z29_3.toNat : Int)).bind (fun y30_4 =>
 some y30_4)))
 else (if (a_0.length : Int) ≤ (a_1.length : Int) then (some (-1))
 else (none)))) (fun k2 => if (a_1.length : Int) = 0 then (k2 true)
 else (k2 (decide (a_1 = a_0))))

noncomputable def internal_stringslite_Cut (s_0 : Str) (sep_1 : Str) : Option (Str × Str × Bool) :=
 (Sh.internal_stringslite_Index s_0 sep_1).bind (fun y10_1 =>
 if 0 ≤ y10_1 then (gd ((0 : Int) ≤ y10_1 ∧ y10_1 ≤ (s_0.length : Int)) (
 lt (s_0.take y10_1.toNat) (fun y15_2 =>
 gd (I64 (y10_1 + (sep_1.length : Int))) (
 gd ((0 : Int) ≤ (y10_1 + (sep_1.length : Int)) ∧ (y10_1 + (sep_1.length : Int)) ≤ (s_0.length : Int)) (
 lt (s_0.drop (y10_1 + (sep_1.length : Int)).toNat) (fun y21_3 =>
 some (y15_2, y21_3, true)))))))
 else (some (s_0, [], false)))

noncomputable def strings_Cut (s_0 : Str) (sep_1 : Str) : Option (Str × Str × Bool) :=
 (Sh.internal_stringslite_Cut s_0 sep_1).bind (fun y9_1 =>
 some (y9_1.1, y9_1.2.1, y9_1.2.2))

noncomputable def unicode_utf8_RuneCountInString (s_0 : Str) : Option Int :=
 none

noncomputable def unicode_utf8_decodeRuneInStringSlow (a_0 : Str) : Option (Int × Int) :=
 if (a_0.length : Int) < 1 then (some (65533, 0))
 else ((at_ a_0 0).bind (fun z18_1 =>
 none))

noncomputable def unicode_utf8_DecodeRuneInString (s_0 : Str) : Option (Int × Int) :=
 jn (fun (x10_1 : Bool) =>
 if x10_1 = true then ((at_ s_0 0).bind (fun z12_4 =>
 some ((z12_4.toNat : Int), 1)))
 else ((Sh.unicode_utf8_decodeRuneInStringSlow s_0).bind (fun y16_5 =>
 some (y16_5.1, y16_5.2)))) (fun k2 => if s_0 = [] then (k2 false)
 else ((at_ s_0 0).bind (fun z8_3 =>
 k2 (decide ((z8_3.toNat : Int) < 128)))))

noncomputable def strings_explode (s_0 : Str) (n_1 : Int) : Option (List Str) :=
 (Sh.unicode_utf8_RuneCountInString s_0).bind (fun y11_1 =>
 jn (fun (n1_2 : Int) =>
 gd ((0 : Int) ≤ n1_2 ∧ n1_2 ≤ 4294967296) (
 lt (List.replicate n1_2.toNat []) (fun y21_7 =>
 iter (fun ((s0_8, a6_9, i7_10) : Str × List Str × Int) =>
 gd (I64 (n1_2 - 1)) (
 if i7_10 < (n1_2 - 1) then ((Sh.unicode_utf8_DecodeRuneInString s0_8).bind (fun y30_11 =>
 gd ((0 : Int) ≤ y30_11.2 ∧ y30_11.2 ≤ (s0_8.length : Int)) (
 lt (s0_8.take y30_11.2.toNat) (fun y37_12 =>
 (at_ a6_9 i7_10).bind (fun z38_13 =>
 lt (a6_9.set i7_10.toNat y37_12) (fun ys6_15 =>
 gd ((0 : Int) ≤ y30_11.2 ∧ y30_11.2 ≤ (s0_8.length : Int)) (
 lt (s0_8.drop y30_11.2.toNat) (fun y41_16 =>
 gd (I64 (i7_10 + 1)) (
 go (y41_16, ys6_15, (i7_10 + 1)))))))))))
 else (up (if 0 < n1_2 then (gd (I64 (n1_2 - 1)) (
 (at_ a6_9 (n1_2 - 1)).bind (fun z48_17 =>
 lt (a6_9.set (n1_2 - 1).toNat s0_8) (fun ys5_19 =>
 some ys5_19))))
 else (some a6_9))))) (s_0, y21_7, 0)))) (fun k3 => jn (fun (x18_4 : Bool) =>
 if x18_4 = true then (k3 y11_1)
 else (k3 n_1)) (fun k5 => if n_1 < 0 then (k5 true)
 else (k5 (decide (y11_1 < n_1))))))

noncomputable def strings_Index (s_0 : Str) (substr_1 : Str) : Option Int :=
 (Sh.internal_stringslite_Index s_0 substr_1).bind (fun y7_1 =>
 some y7_1)

noncomputable def strings_Count (s_0 : Str) (substr_1 : Str) : Option Int :=
 if (substr_1.length : Int) = 0 then ((Sh.unicode_utf8_RuneCountInString s_0).bind (fun y11_1 =>
 gd (I64 (y11_1 + 1)) (
 some (y11_1 + 1))))
 else (if (substr_1.length : Int) = 1 then ((at_ substr_1 0).bind (fun z18_2 =>
 some (cntB s_0 (z18_2.toNat : Int))))
 else (iter (fun ((s0_3, n5_4) : Str × Int) =>
 (Sh.strings_Index s0_3 substr_1).bind (fun y22_5 =>
 if y22_5 = (-1) then (up (some n5_4))
 else (gd (I64 (n5_4 + 1)) (
 gd (I64 (y22_5 + (substr_1.length : Int))) (
 gd ((0 : Int) ≤ (y22_5 + (substr_1.length : Int)) ∧ (y22_5 + (substr_1.length : Int)) ≤ (s0_3.length : Int)) (
 lt (s0_3.drop (y22_5 + (substr_1.length : Int)).toNat) (fun y33_6 =>
 go (y33_6, (n5_4 + 1))))))))) (s_0, 0)))

noncomputable def strings_genSplit (a_0 : Str) (a_1 : Str) (a_2 : Int) (a_3 : Int) : Option (List Str) :=
 if a_3 = 0 then (some [])
 else (if a_1 = [] then ((Sh.strings_explode a_0 a_3).bind (fun y18_1 =>
 some y18_1))
 else (jn (fun (x3_2 : Int) =>
 gd (I64 ((a_0.length : Int) + 1)) (
 gd ((0 : Int) ≤ (min x3_2 ((a_0.length : Int) + 1)) ∧ (min x3_2 ((a_0.length : Int) + 1)) ≤ 4294967296) (
 lt (List.replicate (min x3_2 ((a_0.length : Int) + 1)).toNat []) (fun y31_6 =>
 gd (I64 ((min x3_2 ((a_0.length : Int) + 1)) - 1)) (
 jn (fun ((x0_7, x9_8, x10_9) : Str × List Str × Int) =>
 (at_ x9_8 x10_9).bind (fun z61_20 =>
 lt (x9_8.set x10_9.toNat x0_7) (fun ys4_22 =>
 gd (I64 (x10_9 + 1)) (
 gd ((0 : Int) ≤ (x10_9 + 1) ∧ (x10_9 + 1) ≤ (ys4_22.length : Int)) (
 lt (ys4_22.take (x10_9 + 1).toNat) (fun y65_24 =>
 some y65_24)))))) (fun k10 => iter (fun ((x0_11, x9_12, x10_13) : Str × List Str × Int) =>
 if x10_13 < ((min x3_2 ((a_0.length : Int) + 1)) - 1) then ((Sh.strings_Index x0_11 a_1).bind (fun y39_14 =>
 if y39_14 < 0 then (up (k10 (x0_11, x9_12, x10_13)))
 else (gd (I64 (y39_14 + a_2)) (
 gd ((0 : Int) ≤ (y39_14 + a_2) ∧ (y39_14 + a_2) ≤ (x0_11.length : Int)) (
 lt (x0_11.take (y39_14 + a_2).toNat) (fun y48_15 =>
 (at_ x9_12 x10_13).bind (fun z49_16 =>
 lt (x9_12.set x10_13.toNat y48_15) (fun ys8_18 =>
 gd (I64 (y39_14 + (a_1.length : Int))) (
 gd ((0 : Int) ≤ (y39_14 + (a_1.length : Int)) ∧ (y39_14 + (a_1.length : Int)) ≤ (x0_11.length : Int)) (
 lt (x0_11.drop (y39_14 + (a_1.length : Int)).toNat) (fun y55_19 =>
 gd (I64 (x10_13 + 1)) (
 go (y55_19, ys8_18, (x10_13 + 1))))))))))))))
 else (up (k10 (x0_11, x9_12, x10_13)))) (a_0, y31_6, 0))))))) (fun k3 => if a_3 < 0 then ((Sh.strings_Count a_0 a_1).bind (fun y23_4 =>
 gd (I64 (y23_4 + 1)) (
 k3 (y23_4 + 1))))
 else (k3 a_3))))

noncomputable def strings_Split (s_0 : Str) (sep_1 : Str) : Option (List Str) :=
 (Sh.strings_genSplit s_0 sep_1 0 (-1)).bind (fun y7_1 =>
 some y7_1)

noncomputable def cmd_first (w_0 : List Str) : Option Str :=
 if (w_0.length : Int) = 0 then (some [])
 else ((at_ w_0 0).bind (fun z7_1 =>
 some z7_1))

noncomputable def cmd_digit (s_0 : Str) : Option Bool :=
 if s_0 = [] then (some false)
 else ((at_ s_0 0).bind (fun z7_1 =>
 if 48 ≤ (z7_1.toNat : Int) then ((at_ s_0 0).bind (fun z12_2 =>
 some (decide ((z12_2.toNat : Int) ≤ 57))))
 else (some false)))

noncomputable def cmd_count (s_0 : Str) : Option (Int × Bool) :=
 jn (fun (x23_1 : Bool) =>
 if x23_1 = true then (some (0, false))
 else (gd (s_0.length ≤ 4294967296) (
 lt s_0 (fun y25_5 =>
 iter (fun ((n4_6, x27_7) : Int × Int) =>
 if x27_7 < (y25_5.length : Int) then ((at_ y25_5 x27_7).bind (fun z29_8 =>
 jn (fun (x36_9 : Bool) =>
 if x36_9 = true then (up (some (0, false)))
 else (gd (I64 (10 * n4_6)) (
 gd (0 ≤ (z29_8.toNat : Int) - 48 ∧ (z29_8.toNat : Int) - 48 ≤ 255) (
 gd (I64 ((10 * n4_6) + (IntKind.wrap .i64 ((z29_8.toNat : Int) - 48)))) (
 gd (I64 (x27_7 + 1)) (
 go (((10 * n4_6) + (IntKind.wrap .i64 ((z29_8.toNat : Int) - 48))), (x27_7 + 1)))))))) (fun k10 => if (z29_8.toNat : Int) < 48 then (k10 true)
 else (k10 (decide (57 < (z29_8.toNat : Int)))))))
 else (up (some (n4_6, (decide (n4_6 ≤ 1000000)))))) (0, 0))))) (fun k2 => if s_0 = [] then (k2 true)
 else (if 7 < (s_0.length : Int) then (k2 true)
 else (if 1 < (s_0.length : Int) then ((at_ s_0 0).bind (fun z20_3 =>
 k2 (decide ((z20_3.toNat : Int) = 48))))
 else (k2 false))))

noncomputable def cmd_words (a_0 : CmdCmdP) (a_1 : List Str) : Option (Bool × CmdCmdP) :=
 jn (fun ((x1_1, c4_2) : List Str × Bool) =>
 jn (fun ((x5_11, x6_12, c1_13, c2_14) : Int × Bool × Str × Int) =>
 if x6_12 = true then (some ((decide ((x1_1.length : Int) = x5_11)), ⟨a_0.verb, c1_13, c2_14, a_0.text, c4_2, a_0.todo⟩))
 else (some (false, ⟨a_0.verb, c1_13, c2_14, a_0.text, c4_2, a_0.todo⟩))) (fun k15 => jn (fun (_ : Unit) =>
 (Sh.cmd_first x1_1).bind (fun y120_32 =>
 (Sh.cmd_count y120_32).bind (fun y121_33 =>
 k15 (1, y121_33.2, a_0.name, y121_33.1)))) (fun k16 => jn (fun (_ : Unit) =>
 (Sh.cmd_first x1_1).bind (fun y93_27 =>
 jn (fun (x106_28 : Bool) =>
 if x106_28 = true then ((at_ x1_1 1).bind (fun z110_30 =>
 (Sh.cmd_count z110_30).bind (fun y112_31 =>
 k15 (2, y112_31.2, y93_27, y112_31.1))))
 else (k15 (2, false, y93_27, a_0.n))) (fun k29 => if (x1_1.length : Int) = 2 then (k29 (!decide (y93_27 = [])))
 else (k29 false)))) (fun k17 => jn (fun (_ : Unit) =>
 (Sh.cmd_first x1_1).bind (fun y70_22 =>
 (Sh.cmd_digit y70_22).bind (fun y71_23 =>
 if y71_23 = true then ((Sh.cmd_first x1_1).bind (fun y75_24 =>
 (Sh.cmd_count y75_24).bind (fun y76_25 =>
 k15 (1, y76_25.2, a_0.name, y76_25.1))))
 else ((Sh.cmd_first x1_1).bind (fun y83_26 =>
 k15 (1, (!decide (y83_26 = [])), y83_26, a_0.n)))))) (fun k18 => jn (fun (_ : Unit) =>
 (Sh.cmd_first x1_1).bind (fun y61_21 =>
 k15 (1, (!decide (y61_21 = [])), y61_21, a_0.n))) (fun k19 => if a_0.verb = [97, 100, 100] then (if (x1_1.length : Int) = 0 then (k15 (0, true, a_0.name, a_0.n))
 else (k19 ()))
 else (jn (fun (_ : Unit) =>
 if a_0.verb = [115, 119, 105, 116, 99, 104] then (k18 ())
 else (if a_0.verb = [114, 101, 115, 101, 116] then (k17 ())
 else (if a_0.verb = [112, 105, 99, 107] then (if a_0.verb = [112, 105, 99, 107] then (k16 ())
 else (k15 (0, true, a_0.name, a_0.n)))
 else (if a_0.verb = [114, 101, 118, 101, 114, 116] then (if a_0.verb = [114, 101, 118, 101, 114, 116] then (k16 ())
 else (k15 (0, true, a_0.name, a_0.n)))
 else (if a_0.verb = [112, 111, 112] then (if a_0.verb = [112, 111, 112] then (k16 ())
 else (k15 (0, true, a_0.name, a_0.n)))
 else (if a_0.verb = [97, 112, 112, 108, 121] then (if a_0.verb = [97, 112, 112, 108, 121] then (k16 ())
 else (k15 (0, true, a_0.name, a_0.n)))
 else (if a_0.verb = [115, 104, 101, 108, 118, 101] then (if a_0.verb = [115, 104, 101, 108, 118, 101] then (k16 ())
 else (k15 (0, true, a_0.name, a_0.n)))
 else (if a_0.verb = [114, 101, 98, 97, 115, 101] then (k16 ())
 else (k15 (0, true, a_0.name, a_0.n)))))))))) (fun k20 => if a_0.verb = [114, 109] then (if a_0.verb = [114, 109] then (k19 ())
 else (k20 ()))
 else (if a_0.verb = [98, 114, 97, 110, 99, 104] then (if a_0.verb = [98, 114, 97, 110, 99, 104] then (k19 ())
 else (k20 ()))
 else (if a_0.verb = [100, 101, 108, 101, 116, 101] then (if a_0.verb = [100, 101, 108, 101, 116, 101] then (k19 ())
 else (k20 ()))
 else (if a_0.verb = [109, 101, 114, 103, 101] then (k19 ())
 else (k20 ())))))))))))) (fun k3 => jn (fun (x11_4 : Bool) =>
 if x11_4 = true then (jn (fun (x25_6 : Bool) =>
 if x25_6 = true then (gd (I64 ((a_1.length : Int) - 1)) (
 gd ((0 : Int) ≤ ((a_1.length : Int) - 1) ∧ ((a_1.length : Int) - 1) ≤ (a_1.length : Int)) (
 lt (a_1.take ((a_1.length : Int) - 1).toNat) (fun y31_10 =>
 k3 (y31_10, true)))))
 else (k3 (a_1, a_0.force))) (fun k7 => if 1 < (a_1.length : Int) then (gd (I64 ((a_1.length : Int) - 1)) (
 (at_ a_1 ((a_1.length : Int) - 1)).bind (fun z22_8 =>
 k7 (decide (z22_8 = [45, 102])))))
 else (k7 false)))
 else (k3 (a_1, a_0.force))) (fun k5 => if a_0.verb = [114, 109] then (k5 (decide (a_0.verb = [114, 109])))
 else (k5 (decide (a_0.verb = [115, 119, 105, 116, 99, 104])))))

noncomputable def cmd_read (line_0 : Str) : Option (CmdCmdP × Bool) :=
 (Sh.strings_Cut line_0 [32]).bind (fun y12_2 =>
 jn (fun (x23_4 : Bool) =>
 if x23_4 = true then (if (!y12_2.2.2) = true then (some (⟨y12_2.1, [], 0, y12_2.2.1, false, []⟩, true))
 else (some (⟨y12_2.1, [], 0, y12_2.2.1, false, []⟩, (!decide (y12_2.2.1 = [])))))
 else (jn (fun (w8_6 : List Str) =>
 (Sh.cmd_words (⟨y12_2.1, [], 0, [], false, ([] : List TodoStep)⟩ : CmdCmdP) w8_6).bind (fun y37_9 =>
 some (⟨y37_9.2.verb, y37_9.2.name, y37_9.2.n, y37_9.2.text, y37_9.2.force, y37_9.2.todo⟩, y37_9.1))) (fun k7 => if y12_2.2.2 = true then ((Sh.strings_Split y12_2.2.1 [32]).bind (fun y35_8 =>
 k7 y35_8))
 else (k7 [])))) (fun k5 => if y12_2.1 = [99, 111, 109, 109, 105, 116] then (k5 true)
 else (k5 (decide (y12_2.1 = [115, 116, 97, 115, 104])))))

noncomputable def cmd_Verbs  : Option (List Str) :=
 lt [[97, 100, 100], [114, 109], [99, 111, 109, 109, 105, 116], [98, 114, 97, 110, 99, 104], [100, 101, 108, 101, 116, 101], [115, 119, 105, 116, 99, 104], [114, 101, 115, 101, 116], [109, 101, 114, 103, 101], [112, 105, 99, 107], [114, 101, 118, 101, 114, 116], [115, 116, 97, 115, 104], [112, 111, 112], [97, 112, 112, 108, 121], [115, 104, 101, 108, 118, 101], [114, 101, 98, 97, 115, 101], [99, 111, 110, 116, 105, 110, 117, 101], [115, 107, 105, 112], [97, 98, 111, 114, 116], [117, 110, 100, 111], [114, 101, 100, 111]] (fun y1_2 =>
 some y1_2)

noncomputable def slices_Index_string_string (s_0 : List Str) (v_1 : Str) : Option Int :=
 iter (fun (x8_1 : Int) =>
 if x8_1 < (s_0.length : Int) then ((at_ s_0 x8_1).bind (fun z14_2 =>
 if v_1 = z14_2 then (up (some x8_1))
 else (gd (I64 (x8_1 + 1)) (
 go (x8_1 + 1)))))
 else (up (some (-1)))) 0

noncomputable def cmd_place (verb_0 : Str) : Option Int :=
 (Sh.cmd_Verbs).bind (fun y3_1 =>
 (Sh.slices_Index_string_string y3_1 verb_0).bind (fun y5_2 =>
 some y5_2))

noncomputable def cmd_fault (c_0 : CmdCmdP) (err_1 : Err) : Option Err :=
 (Sh.cmd_place c_0.verb).bind (fun y7_2 =>
 some (Err.fault [99, 109, 100] y7_2 err_1))

noncomputable def strings_trimLeftByte (s_0 : Str) (c_1 : Int) : Option Str :=
 iter (fun (s0_1 : Str) =>
 if 0 < (s0_1.length : Int) then ((at_ s0_1 0).bind (fun z10_2 =>
 if (z10_2.toNat : Int) = c_1 then (gd ((0 : Int) ≤ 1 ∧ 1 ≤ (s0_1.length : Int)) (
 lt (s0_1.drop (1 : Int).toNat) (fun y15_3 =>
 go y15_3)))
 else (up (some s0_1))))
 else (up (some s0_1))) s_0

noncomputable def strings_TrimLeft (s_0 : Str) (cutset_1 : Str) : Option Str :=
 jn (fun (x12_1 : Bool) =>
 if x12_1 = true then (some s_0)
 else (jn (fun (x21_3 : Bool) =>
 if x21_3 = true then ((at_ cutset_1 0).bind (fun z24_6 =>
 (Sh.strings_trimLeftByte s_0 (z24_6.toNat : Int)).bind (fun y25_7 =>
 some y25_7)))
 else (none)) (fun k4 => if (cutset_1.length : Int) = 1 then ((at_ cutset_1 0).bind (fun z19_5 =>
 k4 (decide ((z19_5.toNat : Int) < 128))))
 else (k4 false)))) (fun k2 => if s_0 = [] then (k2 true)
 else (k2 (decide (cutset_1 = []))))

noncomputable def todo_cut (s_0 : Str) : Option (Str × Str) :=
 (Sh.strings_Index s_0 [32]).bind (fun y6_1 =>
 if y6_1 < 0 then (some (s_0, []))
 else (gd ((0 : Int) ≤ y6_1 ∧ y6_1 ≤ (s_0.length : Int)) (
 lt (s_0.take y6_1.toNat) (fun y12_2 =>
 gd ((0 : Int) ≤ y6_1 ∧ y6_1 ≤ (s_0.length : Int)) (
 lt (s_0.drop y6_1.toNat) (fun y15_3 =>
 (Sh.strings_TrimLeft y15_3 [32]).bind (fun y16_4 =>
 some (y12_2, y16_4))))))))

noncomputable def strings_trimRightByte (s_0 : Str) (c_1 : Int) : Option Str :=
 iter (fun (s0_1 : Str) =>
 if 0 < (s0_1.length : Int) then (gd (I64 ((s0_1.length : Int) - 1)) (
 (at_ s0_1 ((s0_1.length : Int) - 1)).bind (fun z13_2 =>
 if (z13_2.toNat : Int) = c_1 then (gd (I64 ((s0_1.length : Int) - 1)) (
 gd ((0 : Int) ≤ ((s0_1.length : Int) - 1) ∧ ((s0_1.length : Int) - 1) ≤ (s0_1.length : Int)) (
 lt (s0_1.take ((s0_1.length : Int) - 1).toNat) (fun y21_3 =>
 go y21_3))))
 else (up (some s0_1)))))
 else (up (some s0_1))) s_0

noncomputable def strings_Trim (s_0 : Str) (cutset_1 : Str) : Option Str :=
 jn (fun (x12_1 : Bool) =>
 if x12_1 = true then (some s_0)
 else (jn (fun (x21_3 : Bool) =>
 if x21_3 = true then ((at_ cutset_1 0).bind (fun z24_6 =>
 (Sh.strings_trimRightByte s_0 (z24_6.toNat : Int)).bind (fun y25_7 =>
 (at_ cutset_1 0).bind (fun z27_8 =>
 (Sh.strings_trimLeftByte y25_7 (z27_8.toNat : Int)).bind (fun y28_9 =>
 some y28_9)))))
 else (none)) (fun k4 => if (cutset_1.length : Int) = 1 then ((at_ cutset_1 0).bind (fun z19_5 =>
 k4 (decide ((z19_5.toNat : Int) < 128))))
 else (k4 false)))) (fun k2 => if s_0 = [] then (k2 true)
 else (k2 (decide (cutset_1 = []))))

noncomputable def todo_verb (s_0 : Str) : Option (Bool × Bool) :=
 jn (fun (_ : Unit) =>
 some (true, false)) (fun k1 => jn (fun (_ : Unit) =>
 some (true, true)) (fun k2 => if s_0 = [115, 113, 117, 97, 115, 104] then (k2 ())
 else (if s_0 = [102, 105, 120, 117, 112] then (k2 ())
 else (if s_0 = [112, 105, 99, 107] then (k1 ())
 else (if s_0 = [114, 101, 119, 111, 114, 100] then (k1 ())
 else (if s_0 = [101, 100, 105, 116] then (k1 ())
 else (if s_0 = [100, 114, 111, 112] then (k1 ())
 else (some (false, false)))))))))

noncomputable def todo_number (s_0 : Str) : Option (Int × Bool) :=
 jn (fun (x18_1 : Bool) =>
 if x18_1 = true then (some (0, false))
 else (gd (s_0.length ≤ 4294967296) (
 lt s_0 (fun y20_5 =>
 iter (fun ((n4_6, x22_7) : Int × Int) =>
 if x22_7 < (y20_5.length : Int) then ((at_ y20_5 x22_7).bind (fun z24_8 =>
 jn (fun (x31_9 : Bool) =>
 if x31_9 = true then (up (some (0, false)))
 else (gd (I64 (10 * n4_6)) (
 gd (0 ≤ (z24_8.toNat : Int) - 48 ∧ (z24_8.toNat : Int) - 48 ≤ 255) (
 gd (I64 ((10 * n4_6) + (IntKind.wrap .i64 ((z24_8.toNat : Int) - 48)))) (
 gd (I64 (x22_7 + 1)) (
 go (((10 * n4_6) + (IntKind.wrap .i64 ((z24_8.toNat : Int) - 48))), (x22_7 + 1)))))))) (fun k10 => if (z24_8.toNat : Int) < 48 then (k10 true)
 else (k10 (decide (57 < (z24_8.toNat : Int)))))))
 else (up (some (n4_6, (decide (n4_6 ≤ 1000000)))))) (0, 0))))) (fun k2 => if s_0 = [] then (k2 true)
 else (if 7 < (s_0.length : Int) then (k2 true)
 else ((at_ s_0 0).bind (fun z16_3 =>
 k2 (decide ((z16_3.toNat : Int) = 48))))))

noncomputable def todo_line (a_0 : Str) : Option (TodoStep × Int) :=
 (Sh.todo_cut a_0).bind (fun y15_2 =>
 (Sh.strings_Trim y15_2.2 [32]).bind (fun y19_3 =>
 if y19_3 = [] then (some (⟨[], 0, []⟩, 2))
 else ((Sh.todo_verb y15_2.1).bind (fun y24_4 =>
 if (!y24_4.1) = true then (some (⟨[], 0, []⟩, 5))
 else ((Sh.strings_Cut y15_2.2 [32]).bind (fun y32_5 =>
 (Sh.todo_number y32_5.1).bind (fun y38_6 =>
 if (!y38_6.2) = true then (some (⟨[], 0, []⟩, 1))
 else (jn (fun (x9_7 : Str) =>
 some (⟨y15_2.1, y38_6.1, x9_7⟩, 0)) (fun k8 => if y15_2.1 = [114, 101, 119, 111, 114, 100] then (jn (fun (x56_9 : Bool) =>
 if x56_9 = true then (some (⟨[], 0, []⟩, 2))
 else (if 256 < (y32_5.2.1.length : Int) then (some (⟨[], 0, []⟩, 4))
 else (k8 y32_5.2.1))) (fun k10 => if (!y32_5.2.2) = true then (k10 true)
 else (k10 (decide (y32_5.2.1 = [])))))
 else ((Sh.strings_Trim y32_5.2.1 [32]).bind (fun y46_11 =>
 if y46_11 = [] then (k8 [])
 else (some (⟨[], 0, []⟩, 2)))))))))))))

noncomputable def slices_Clip_todo_Step_todo_Step (s_0 : List TodoStep) : Option (List TodoStep) :=
 gd ((0 : Int) ≤ (s_0.length : Int) ∧ (s_0.length : Int) ≤ (s_0.length : Int)) (
 lt (s_0.take (s_0.length : Int).toNat) (fun y8_2 =>
 some y8_2))

noncomputable def todo_Parse (s_0 : Str) : Option (List TodoStep × Err) :=
 (Sh.strings_Split s_0 [10]).bind (fun y10_1 =>
 iter (fun ((out4_2, x12_3) : List TodoStep × Int) =>
 if x12_3 < (y10_1.length : Int) then ((at_ y10_1 x12_3).bind (fun z15_4 =>
 (Sh.strings_TrimLeft z15_4 [32]).bind (fun y18_5 =>
 if y18_5 = [] then (gd (I64 (x12_3 + 1)) (
 go (out4_2, (x12_3 + 1))))
 else ((at_ y18_5 0).bind (fun z23_6 =>
 if (z23_6.toNat : Int) = 35 then (gd (I64 (x12_3 + 1)) (
 go (out4_2, (x12_3 + 1))))
 else ((Sh.todo_line y18_5).bind (fun y28_7 =>
 if y28_7.2 = 0 then (if (out4_2.length : Int) = 32 then (up (some ([], (Err.fault [108, 105, 110, 101] 32 (Err.no 4)))))
 else (lt [⟨y28_7.1.verb, y28_7.1.commit, y28_7.1.text⟩] (fun y48_12 =>
 gd (out4_2.length + y48_12.length ≤ 4294967296) (
 lt (out4_2 ++ y48_12) (fun y49_14 =>
 gd (I64 (x12_3 + 1)) (
 go (y49_14, (x12_3 + 1))))))))
 else (up (some ([], (Err.fault [108, 105, 110, 101] x12_3 (Err.no y28_7.2))))))))))))
 else (up ((Sh.slices_Clip_todo_Step_todo_Step out4_2).bind (fun y52_15 =>
 some (y52_15, Err.nil))))) ([], 0))

noncomputable def path_good (c_0 : Int) : Option Bool :=
 jn (fun (_ : Unit) =>
 if 97 ≤ c_0 then (if c_0 ≤ 122 then (some true)
 else (if 48 ≤ c_0 then (some (decide (c_0 ≤ 57)))
 else (some false)))
 else (if 48 ≤ c_0 then (some (decide (c_0 ≤ 57)))
 else (some false))) (fun k1 => jn (fun (_ : Unit) =>
 some true) (fun k2 => if c_0 = 46 then (k2 ())
 else (if c_0 = 45 then (k2 ())
 else (if c_0 = 95 then (k2 ())
 else (k1 ())))))

noncomputable def path_part (s_0 : Str) : Option Bool :=
 jn (fun (x14_1 : Bool) =>
 if x14_1 = true then (some false)
 else (gd (s_0.length ≤ 4294967296) (
 lt s_0 (fun y16_4 =>
 iter (fun (x18_5 : Int) =>
 if x18_5 < (y16_4.length : Int) then ((at_ y16_4 x18_5).bind (fun z20_6 =>
 (Sh.path_good (z20_6.toNat : Int)).bind (fun y23_7 =>
 if (!y23_7) = true then (up (some false))
 else (gd (I64 (x18_5 + 1)) (
 go (x18_5 + 1))))))
 else (up (some true))) 0)))) (fun k2 => if s_0 = [] then (k2 true)
 else (if s_0 = [46] then (k2 true)
 else (k2 (decide (s_0 = [46, 46])))))

noncomputable def path_Check (p_0 : Str) : Option Int :=
 if 64 < (p_0.length : Int) then (some 4)
 else ((Sh.strings_Split p_0 [47]).bind (fun y9_1 =>
 iter (fun (x11_2 : Int) =>
 if x11_2 < (y9_1.length : Int) then ((at_ y9_1 x11_2).bind (fun z13_3 =>
 (Sh.path_part z13_3).bind (fun y16_4 =>
 if (!y16_4) = true then (up (some 5))
 else (gd (I64 (x11_2 + 1)) (
 go (x11_2 + 1))))))
 else (up (some 0))) 0))

noncomputable def names_Good (name_0 : Str) : Option Bool :=
 gd (name_0.length ≤ 4294967296) (
 lt name_0 (fun y6_2 =>
 iter (fun (x8_3 : Int) =>
 if x8_3 < (y6_2.length : Int) then ((at_ y6_2 x8_3).bind (fun z11_4 =>
 jn (fun (x34_5 : Bool) =>
 if x34_5 = true then (up (some false))
 else (gd (I64 (x8_3 + 1)) (
 go (x8_3 + 1)))) (fun k6 => if (z11_4.toNat : Int) < 97 then (if x8_3 = 0 then (k6 true)
 else (if (z11_4.toNat : Int) = 45 then (k6 false)
 else (if (z11_4.toNat : Int) < 48 then (k6 true)
 else (k6 (decide (57 < (z11_4.toNat : Int)))))))
 else (if 122 < (z11_4.toNat : Int) then (if x8_3 = 0 then (k6 true)
 else (if (z11_4.toNat : Int) = 45 then (k6 false)
 else (if (z11_4.toNat : Int) < 48 then (k6 true)
 else (k6 (decide (57 < (z11_4.toNat : Int)))))))
 else (k6 false)))))
 else (up (if 1 ≤ (name_0.length : Int) then (some (decide ((name_0.length : Int) ≤ 32)))
 else (some false)))) 0))

noncomputable def cmd_name (c_0 : CmdCmdP) : Option Int :=
 jn (fun (ok3_2 : Bool) =>
 if (!ok3_2) = true then (some 5)
 else (some 0)) (fun k3 => jn (fun (_ : Unit) =>
 if c_0.name = [115, 111, 102, 116] then (k3 true)
 else (if c_0.name = [109, 105, 120, 101, 100] then (k3 true)
 else (k3 (decide (c_0.name = [104, 97, 114, 100]))))) (fun k4 => jn (fun (_ : Unit) =>
 if c_0.name = [] then (k3 true)
 else ((Sh.names_Good c_0.name).bind (fun y33_11 =>
 k3 y33_11))) (fun k5 => jn (fun (_ : Unit) =>
 (Sh.names_Good c_0.name).bind (fun y26_10 =>
 k3 y26_10)) (fun k6 => jn (fun (_ : Unit) =>
 (Sh.path_Check c_0.name).bind (fun y23_9 =>
 some y23_9)) (fun k7 => if c_0.verb = [97, 100, 100] then (if c_0.name = [] then (some 0)
 else (k7 ()))
 else (if c_0.verb = [114, 109] then (k7 ())
 else (jn (fun (_ : Unit) =>
 if c_0.verb = [115, 119, 105, 116, 99, 104] then (k5 ())
 else (if c_0.verb = [114, 101, 115, 101, 116] then (k4 ())
 else (k3 true))) (fun k8 => if c_0.verb = [98, 114, 97, 110, 99, 104] then (if c_0.verb = [98, 114, 97, 110, 99, 104] then (k6 ())
 else (k8 ()))
 else (if c_0.verb = [100, 101, 108, 101, 116, 101] then (if c_0.verb = [100, 101, 108, 101, 116, 101] then (k6 ())
 else (k8 ()))
 else (if c_0.verb = [109, 101, 114, 103, 101] then (k6 ())
 else (k8 ())))))))))))

noncomputable def cmd_number (c_0 : CmdCmdP) : Option Int :=
 jn (fun (least3_2 : Int) =>
 if c_0.n < least3_2 then (some 1)
 else (some 0)) (fun k3 => jn (fun (_ : Unit) =>
 if c_0.verb = [115, 119, 105, 116, 99, 104] then (if c_0.name = [] then (k3 1)
 else (k3 c_0.n))
 else (if c_0.verb = [112, 105, 99, 107] then (if c_0.verb = [112, 105, 99, 107] then (k3 1)
 else (k3 c_0.n))
 else (if c_0.verb = [114, 101, 118, 101, 114, 116] then (if c_0.verb = [114, 101, 118, 101, 114, 116] then (k3 1)
 else (k3 c_0.n))
 else (if c_0.verb = [114, 101, 98, 97, 115, 101] then (if c_0.verb = [114, 101, 98, 97, 115, 101] then (k3 1)
 else (k3 c_0.n))
 else (if c_0.verb = [114, 101, 115, 101, 116] then (k3 1)
 else (k3 c_0.n)))))) (fun k4 => if c_0.verb = [112, 111, 112] then (if c_0.verb = [112, 111, 112] then (k3 0)
 else (k4 ()))
 else (if c_0.verb = [97, 112, 112, 108, 121] then (if c_0.verb = [97, 112, 112, 108, 121] then (k3 0)
 else (k4 ()))
 else (if c_0.verb = [115, 104, 101, 108, 118, 101] then (k3 0)
 else (k4 ())))))

noncomputable def strings_Contains (s_0 : Str) (substr_1 : Str) : Option Bool :=
 (Sh.strings_Index s_0 substr_1).bind (fun y7_1 =>
 some (decide (0 ≤ y7_1)))

noncomputable def cmd_text (s_0 : Str) (must_1 : Bool) : Option Int :=
 if 256 < (s_0.length : Int) then (some 4)
 else (jn (fun (x9_1 : Bool) =>
 if x9_1 = true then (some 1)
 else ((Sh.strings_Contains s_0 [10]).bind (fun y17_3 =>
 if y17_3 = true then (some 2)
 else (some 0)))) (fun k2 => if must_1 = true then (k2 (decide (s_0 = [])))
 else (k2 false)))

noncomputable def cmd_steps (l_0 : List TodoStep) : Option Int :=
 if 32 < (l_0.length : Int) then (some 4)
 else (iter (fun (x11_1 : Int) =>
 if x11_1 < (l_0.length : Int) then ((at_ l_0 x11_1).bind (fun z13_2 =>
 jn (fun (x17_4 : Bool) =>
 if x17_4 = true then (jn (fun (x31_6 : Bool) =>
 if x31_6 = true then (up (some 1))
 else (if z13_2.verb = [114, 101, 119, 111, 114, 100] then ((Sh.cmd_text z13_2.text true).bind (fun y37_8 =>
 if y37_8 = 0 then (gd (I64 (x11_1 + 1)) (
 go (x11_1 + 1)))
 else (up (some y37_8))))
 else (gd (I64 (x11_1 + 1)) (
 go (x11_1 + 1))))) (fun k7 => if z13_2.commit < 1 then (k7 true)
 else (k7 (decide (1000000 < z13_2.commit)))))
 else (up (some 5))) (fun k5 => if z13_2.verb = [112, 105, 99, 107] then (k5 (decide (z13_2.verb = [112, 105, 99, 107])))
 else (if z13_2.verb = [101, 100, 105, 116] then (k5 (decide (z13_2.verb = [101, 100, 105, 116])))
 else (if z13_2.verb = [115, 113, 117, 97, 115, 104] then (k5 (decide (z13_2.verb = [115, 113, 117, 97, 115, 104])))
 else (if z13_2.verb = [102, 105, 120, 117, 112] then (k5 (decide (z13_2.verb = [102, 105, 120, 117, 112])))
 else (if z13_2.verb = [100, 114, 111, 112] then (k5 (decide (z13_2.verb = [100, 114, 111, 112])))
 else (k5 (decide (z13_2.verb = [114, 101, 119, 111, 114, 100]))))))))))
 else (up (some 0))) 0)

noncomputable def cmd_more (c_0 : CmdCmdP) : Option Int :=
 jn (fun (x5_2 : Bool) =>
 if x5_2 = true then ((Sh.cmd_text c_0.text (decide (c_0.verb = [99, 111, 109, 109, 105, 116]))).bind (fun y13_4 =>
 some y13_4))
 else (if c_0.verb = [114, 101, 98, 97, 115, 101] then ((Sh.cmd_steps c_0.todo).bind (fun y18_5 =>
 some y18_5))
 else (some 0))) (fun k3 => if c_0.verb = [99, 111, 109, 109, 105, 116] then (k3 (decide (c_0.verb = [99, 111, 109, 109, 105, 116])))
 else (k3 (decide (c_0.verb = [115, 116, 97, 115, 104]))))

noncomputable def cmd_Check (c_0 : CmdCmdP) : Option Err :=
 (Sh.cmd_place c_0.verb).bind (fun y7_2 =>
 if y7_2 < 0 then ((Sh.cmd_fault c_0 (Err.no 5)).bind (fun y11_3 =>
 some y11_3))
 else ((Sh.cmd_name c_0).bind (fun y13_4 =>
 (Sh.cmd_number c_0).bind (fun y15_5 =>
 (Sh.cmd_more c_0).bind (fun y17_6 =>
 lt [y13_4, y15_5, y17_6] (fun y18_8 =>
 iter (fun (x20_9 : Int) =>
 if x20_9 < (y18_8.length : Int) then ((at_ y18_8 x20_9).bind (fun z22_10 =>
 if z22_10 = 0 then (gd (I64 (x20_9 + 1)) (
 go (x20_9 + 1)))
 else ((Sh.cmd_fault c_0 (Err.no z22_10)).bind (fun y29_11 =>
 up (some y29_11)))))
 else (up (some Err.nil))) 0))))))

noncomputable def cmd_Parse (a_0 : Str) : Option (CmdCmdP × Err) :=
 (Sh.strings_Cut a_0 [10]).bind (fun y14_2 =>
 (Sh.cmd_read y14_2.1).bind (fun y20_3 =>
 jn (fun (c5_5 : List TodoStep) =>
 (Sh.cmd_Check (⟨y20_3.1.verb, y20_3.1.name, y20_3.1.n, y20_3.1.text, y20_3.1.force, c5_5⟩ : CmdCmdP)).bind (fun y65_14 =>
 if y65_14.isNil = true then (some (⟨y20_3.1.verb, y20_3.1.name, y20_3.1.n, y20_3.1.text, y20_3.1.force, c5_5⟩, Err.nil))
 else (some (⟨[], [], 0, [], false, []⟩, y65_14)))) (fun k6 => (Sh.cmd_place y20_3.1.verb).bind (fun y26_7 =>
 if y26_7 < 0 then ((Sh.cmd_fault y20_3.1 (Err.no 5)).bind (fun y31_8 =>
 some (⟨[], [], 0, [], false, []⟩, y31_8)))
 else (jn (fun (x32_9 : Bool) =>
 if x32_9 = true then ((Sh.cmd_fault y20_3.1 (Err.no 2)).bind (fun y46_11 =>
 some (⟨[], [], 0, [], false, []⟩, y46_11)))
 else (if y20_3.1.verb = [114, 101, 98, 97, 115, 101] then ((Sh.todo_Parse y14_2.2.1).bind (fun y53_12 =>
 if y53_12.2.isNil = true then (k6 y53_12.1)
 else ((Sh.cmd_fault y20_3.1 y53_12.2).bind (fun y61_13 =>
 some (⟨[], [], 0, [], false, []⟩, y61_13)))))
 else (k6 y20_3.1.todo))) (fun k10 => if (!y20_3.2) = true then (k10 true)
 else (if y14_2.2.2 = true then (k10 (!decide (y20_3.1.verb = [114, 101, 98, 97, 115, 101])))
 else (k10 false))))))))

noncomputable def cmd_has (c_0 : CmdCmdP) : Option (Bool × Bool × Bool × Bool) :=
 jn (fun ((named2_2, numbered3_3, forced4_4, told5_5) : Bool × Bool × Bool × Bool) =>
 if forced4_4 = true then (some (named2_2, numbered3_3, c_0.force, told5_5))
 else (some (named2_2, numbered3_3, false, told5_5))) (fun k6 => jn (fun (_ : Unit) =>
 k6 (false, false, false, (!decide (c_0.text = [])))) (fun k7 => jn (fun (_ : Unit) =>
 k6 ((!decide (c_0.name = [])), true, false, false)) (fun k8 => jn (fun (forced4_9 : Bool) =>
 k6 ((!decide (c_0.name = [])), false, forced4_9, false)) (fun k10 => if c_0.verb = [115, 119, 105, 116, 99, 104] then (k6 ((!decide (c_0.name = [])), (decide (c_0.name = [])), true, false))
 else (if c_0.verb = [114, 109] then (k10 true)
 else (jn (fun (_ : Unit) =>
 if c_0.verb = [114, 101, 115, 101, 116] then (k8 ())
 else (jn (fun (_ : Unit) =>
 if c_0.verb = [99, 111, 109, 109, 105, 116] then (if c_0.verb = [99, 111, 109, 109, 105, 116] then (k7 ())
 else (k6 (false, false, false, false)))
 else (if c_0.verb = [115, 116, 97, 115, 104] then (k7 ())
 else (k6 (false, false, false, false)))) (fun k12 => if c_0.verb = [112, 105, 99, 107] then (if c_0.verb = [112, 105, 99, 107] then (k6 (false, true, false, false))
 else (k12 ()))
 else (if c_0.verb = [114, 101, 118, 101, 114, 116] then (if c_0.verb = [114, 101, 118, 101, 114, 116] then (k6 (false, true, false, false))
 else (k12 ()))
 else (if c_0.verb = [112, 111, 112] then (if c_0.verb = [112, 111, 112] then (k6 (false, true, false, false))
 else (k12 ()))
 else (if c_0.verb = [97, 112, 112, 108, 121] then (if c_0.verb = [97, 112, 112, 108, 121] then (k6 (false, true, false, false))
 else (k12 ()))
 else (if c_0.verb = [115, 104, 101, 108, 118, 101] then (if c_0.verb = [115, 104, 101, 108, 118, 101] then (k6 (false, true, false, false))
 else (k12 ()))
 else (if c_0.verb = [114, 101, 98, 97, 115, 101] then (k6 (false, true, false, false))
 else (k12 ()))))))))) (fun k11 => if c_0.verb = [97, 100, 100] then (if c_0.verb = [97, 100, 100] then (k10 false)
 else (k11 ()))
 else (if c_0.verb = [98, 114, 97, 110, 99, 104] then (if c_0.verb = [98, 114, 97, 110, 99, 104] then (k10 false)
 else (k11 ()))
 else (if c_0.verb = [100, 101, 108, 101, 116, 101] then (if c_0.verb = [100, 101, 108, 101, 116, 101] then (k10 false)
 else (k11 ()))
 else (if c_0.verb = [109, 101, 114, 103, 101] then (k10 false)
 else (k11 ())))))))))))

noncomputable def todo_Text (l_0 : List TodoStep) : Option Str :=
 iter (fun ((x8_2, acc_3) : Int × Str) =>
 if x8_2 < (l_0.length : Int) then ((at_ l_0 x8_2).bind (fun z10_4 =>
 gd (z10_4.verb.length + [32].length ≤ 9223372036854775807) (
 lt (z10_4.verb ++ [32]) (fun y14_6 =>
 gd (I64 z10_4.commit) (
 gd (y14_6.length + (itoaS z10_4.commit).length ≤ 9223372036854775807) (
 lt (y14_6 ++ (itoaS z10_4.commit)) (fun y18_7 =>
 gd (acc_3.length + y18_7.length ≤ 4294967296) (
 lt (acc_3 ++ y18_7) (fun acc19_8 =>
 if z10_4.verb = [114, 101, 119, 111, 114, 100] then (gd ([32].length + z10_4.text.length ≤ 9223372036854775807) (
 lt ([32] ++ z10_4.text) (fun y25_9 =>
 gd (acc19_8.length + y25_9.length ≤ 4294967296) (
 lt (acc19_8 ++ y25_9) (fun acc26_10 =>
 gd (acc26_10.length + [10].length ≤ 4294967296) (
 lt (acc26_10 ++ [10]) (fun acc27_11 =>
 gd (I64 (x8_2 + 1)) (
 go ((x8_2 + 1), acc27_11)))))))))
 else (gd (acc19_8.length + [10].length ≤ 4294967296) (
 lt (acc19_8 ++ [10]) (fun acc27_12 =>
 gd (I64 (x8_2 + 1)) (
 go ((x8_2 + 1), acc27_12))))))))))))))
 else (up (some acc_3))) (0, [])

noncomputable def cmd_Text (c_0 : CmdCmdP) : Option Str :=
 (Sh.cmd_has c_0).bind (fun y11_2 =>
 lt [c_0.verb] (fun y18_4 =>
 jn (fun (out7_5 : List Str) =>
 jn (fun (out7_11 : List Str) =>
 jn (fun (out7_17 : List Str) =>
 jn (fun (out7_23 : List Str) =>
 gd (out7_23.length ≤ 4294967296 ∧ (joinS out7_23 [32]).length ≤ 4294967296) (
 lt (joinS out7_23 [32]) (fun y43_29 =>
 if c_0.verb = [114, 101, 98, 97, 115, 101] then ((Sh.todo_Text c_0.todo).bind (fun y50_30 =>
 gd ([10].length + y50_30.length ≤ 9223372036854775807) (
 lt ([10] ++ y50_30) (fun y51_31 =>
 gd (y43_29.length + y51_31.length ≤ 9223372036854775807) (
 lt (y43_29 ++ y51_31) (fun y52_32 =>
 some y52_32))))))
 else (some y43_29)))) (fun k24 => if y11_2.2.2.2 = true then (lt [c_0.text] (fun y40_26 =>
 gd (out7_17.length + y40_26.length ≤ 4294967296) (
 lt (out7_17 ++ y40_26) (fun y41_28 =>
 k24 y41_28))))
 else (k24 out7_17))) (fun k18 => if y11_2.2.2.1 = true then (lt [[45, 102]] (fun y34_20 =>
 gd (out7_11.length + y34_20.length ≤ 4294967296) (
 lt (out7_11 ++ y34_20) (fun y35_22 =>
 k18 y35_22))))
 else (k18 out7_11))) (fun k12 => if y11_2.2.1 = true then (gd (I64 c_0.n) (
 lt [(itoaS c_0.n)] (fun y30_14 =>
 gd (out7_5.length + y30_14.length ≤ 4294967296) (
 lt (out7_5 ++ y30_14) (fun y31_16 =>
 k12 y31_16)))))
 else (k12 out7_5))) (fun k6 => if y11_2.1 = true then (lt [c_0.name] (fun y23_8 =>
 gd (y18_4.length + y23_8.length ≤ 4294967296) (
 lt (y18_4 ++ y23_8) (fun y24_10 =>
 k6 y24_10))))
 else (k6 y18_4))))

noncomputable def slices_Equal_todo_Step_todo_Step (s1_0 : List TodoStep) (s2_1 : List TodoStep) : Option Bool :=
 if (s1_0.length : Int) = (s2_1.length : Int) then (iter (fun (x13_1 : Int) =>
 if x13_1 < (s1_0.length : Int) then ((at_ s1_0 x13_1).bind (fun z18_2 =>
 (at_ s2_1 x13_1).bind (fun z22_3 =>
 if z18_2.verb = z22_3.verb ∧ z18_2.commit = z22_3.commit ∧ z18_2.text = z22_3.text then (gd (I64 (x13_1 + 1)) (
 go (x13_1 + 1)))
 else (up (some false)))))
 else (up (some true))) 0)
 else (some false)

noncomputable def cmd_Same (a_0 : CmdCmdP) (b_1 : CmdCmdP) : Option Bool :=
 if a_0.verb = b_1.verb then (if a_0.name = b_1.name then (if a_0.n = b_1.n then (if a_0.text = b_1.text then (if a_0.force = b_1.force then ((Sh.slices_Equal_todo_Step_todo_Step a_0.todo b_1.todo).bind (fun y43_3 =>
 some y43_3))
 else (some false))
 else (some false))
 else (some false))
 else (some false))
 else (some false)

noncomputable def rectolaw22_known  : Option Bool :=
 (Sh.cmd_Parse [114, 101, 115, 101, 116, 32, 104, 97, 114, 100, 32, 51]).bind (fun y11_1 =>
 (Sh.cmd_Parse [114, 101, 98, 97, 115, 101, 32, 50, 10, 112, 105, 99, 107, 32, 51, 10]).bind (fun y15_3 =>
 (Sh.cmd_Parse [106, 117, 109, 112]).bind (fun y19_5 =>
 (Sh.cmd_Parse [99, 111, 109, 109, 105, 116]).bind (fun y23_7 =>
 (Sh.cmd_Verbs).bind (fun y26_9 =>
 if y11_1.2.isNil = true then (if y15_3.2.isNil = true then (if y19_5.2.isNil = true then (some false)
 else (if y23_7.2.isNil = true then (some false)
 else (if y11_1.1.name = [104, 97, 114, 100] then (if y11_1.1.n = 3 then (if (y15_3.1.todo.length : Int) = 1 then ((Sh.cmd_Text y15_3.1).bind (fun y59_10 =>
 if y59_10 = [114, 101, 98, 97, 115, 101, 32, 50, 10, 112, 105, 99, 107, 32, 51, 10] then (if (y26_9.length : Int) = 20 then ((at_ y26_9 0).bind (fun z69_11 =>
 if z69_11 = [97, 100, 100] then ((Sh.cmd_Same y11_1.1 y11_1.1).bind (fun y76_12 =>
 if y76_12 = true then ((Sh.cmd_Check y11_1.1).bind (fun y80_13 =>
 some (decide (y80_13.isNil = true))))
 else (some false)))
 else (some false)))
 else (some false))
 else (some false)))
 else (some false))
 else (some false))
 else (some false))))
 else (some false))
 else (some false))))))

noncomputable def rectolaw22_CmdVerbs (a_0 : Int) : Option Bool :=
 (Sh.rectolaw22_known).bind (fun y9_1 =>
 if (!y9_1) = true then (some false)
 else ((Sh.cmd_Verbs).bind (fun y11_2 =>
 if (y11_2.length : Int) = 20 then (gd ((0 : Int) ≤ (IntKind.wrap .i64 a_0) ∧ (20 : Int) ≠ 0) (
 (at_ y11_2 ((IntKind.wrap .i64 a_0) % 20)).bind (fun z19_3 =>
 (Sh.cmd_Parse z19_3).bind (fun y23_4 =>
 jn (fun (x7_6 : Bool) =>
 iter (fun (x8_10 : Int) =>
 if x8_10 < 20 then (jn (fun (x51_11 : Bool) =>
 if x51_11 = true then (up (some false))
 else (gd (I64 (x8_10 + 1)) (
 go (x8_10 + 1)))) (fun k12 => gd ((0 : Int) ≤ (IntKind.wrap .i64 a_0) ∧ (20 : Int) ≠ 0) (
 if x8_10 = ((IntKind.wrap .i64 a_0) % 20) then (k12 false)
 else ((at_ y11_2 x8_10).bind (fun z47_13 =>
 k12 (decide (z47_13 = z19_3)))))))
 else (up (if (!decide (y23_4.2.isNil = true)) = x7_6 then (if x7_6 = true then (some true)
 else (if y23_4.1.verb = z19_3 then ((Sh.cmd_Text y23_4.1).bind (fun y65_14 =>
 if y65_14 = z19_3 then ((Sh.cmd_Check y23_4.1).bind (fun y71_15 =>
 some (decide (y71_15.isNil = true))))
 else (some false)))
 else (some false)))
 else (some false)))) 0) (fun k7 => jn (fun (x27_8 : Bool) =>
 if x27_8 = true then (k7 false)
 else (k7 true)) (fun k9 => if z19_3 = [97, 100, 100] then (k9 (decide (z19_3 = [97, 100, 100])))
 else (if z19_3 = [115, 116, 97, 115, 104] then (k9 (decide (z19_3 = [115, 116, 97, 115, 104])))
 else (if z19_3 = [99, 111, 110, 116, 105, 110, 117, 101] then (k9 (decide (z19_3 = [99, 111, 110, 116, 105, 110, 117, 101])))
 else (if z19_3 = [115, 107, 105, 112] then (k9 (decide (z19_3 = [115, 107, 105, 112])))
 else (if z19_3 = [97, 98, 111, 114, 116] then (k9 (decide (z19_3 = [97, 98, 111, 114, 116])))
 else (if z19_3 = [117, 110, 100, 111] then (k9 (decide (z19_3 = [117, 110, 100, 111])))
 else (k9 (decide (z19_3 = [114, 101, 100, 111]))))))))))))))
 else (some false))))

noncomputable def rectolaw22_Few (c_0 : CmdCmdP) : Option Bool :=
 jn (fun (x25_2 : Bool) =>
 if x25_2 = true then (some false)
 else (iter (fun (i3_4 : Int) =>
 if i3_4 < (c_0.todo.length : Int) then (jn (fun (x50_5 : Bool) =>
 if x50_5 = true then (up (some false))
 else (gd (I64 (i3_4 + 1)) (
 go (i3_4 + 1)))) (fun k6 => (at_ c_0.todo i3_4).bind (fun z36_7 =>
 if 400 < (z36_7.text.length : Int) then (k6 true)
 else ((at_ c_0.todo i3_4).bind (fun z45_8 =>
 k6 (decide (50 < (z45_8.verb.length : Int))))))))
 else (up (some true))) 0)) (fun k3 => if 50 < (c_0.verb.length : Int) then (k3 true)
 else (if 100 < (c_0.name.length : Int) then (k3 true)
 else (if 400 < (c_0.text.length : Int) then (k3 true)
 else (k3 (decide (40 < (c_0.todo.length : Int)))))))

noncomputable def rectolaw21_Of (l_0 : List TodoStep) : Option (List Rectoref17Step) :=
 iter (fun ((out3_1, i4_2) : List Rectoref17Step × Int) =>
 if i4_2 < (l_0.length : Int) then ((at_ l_0 i4_2).bind (fun z14_3 =>
 (at_ l_0 i4_2).bind (fun z19_4 =>
 (at_ l_0 i4_2).bind (fun z24_5 =>
 lt [⟨z14_3.verb, z19_4.commit, z24_5.text⟩] (fun y28_7 =>
 gd (out3_1.length + y28_7.length ≤ 4294967296) (
 lt (out3_1 ++ y28_7) (fun y29_9 =>
 gd (I64 (i4_2 + 1)) (
 go (y29_9, (i4_2 + 1))))))))))
 else (up (some out3_1))) ([], 0)

noncomputable def rectolaw22_Of (c_0 : CmdCmdP) : Option Rectoref17CmdP :=
 (Sh.rectolaw21_Of c_0.todo).bind (fun y15_3 =>
 some ⟨c_0.verb, c_0.name, c_0.n, c_0.text, c_0.force, y15_3⟩)

noncomputable def rectoref17_Same (a_0 : Rectoref17CmdP) (a_1 : Rectoref17CmdP) : Option Bool :=
 jn (fun (x47_3 : Bool) =>
 if x47_3 = true then (some false)
 else (iter (fun (x5_5 : Int) =>
 if x5_5 < (a_0.todo.length : Int) then ((at_ a_0.todo x5_5).bind (fun z58_6 =>
 (at_ a_1.todo x5_5).bind (fun z63_7 =>
 if z58_6.verb = z63_7.verb ∧ z58_6.commit = z63_7.commit ∧ z58_6.text = z63_7.text then (gd (I64 (x5_5 + 1)) (
 go (x5_5 + 1)))
 else (up (some false)))))
 else (up (some true))) 0)) (fun k4 => if a_0.verb = a_1.verb then (if a_0.name = a_1.name then (if a_0.n = a_1.n then (if a_0.text = a_1.text then (if a_0.force = a_1.force then (k4 (!decide ((a_0.todo.length : Int) = (a_1.todo.length : Int))))
 else (k4 true))
 else (k4 true))
 else (k4 true))
 else (k4 true))
 else (k4 true))

noncomputable def rectolaw22_CmdTwo (a_0 : CmdCmdP) (b_1 : CmdCmdP) : Option Bool :=
 (Sh.rectolaw22_known).bind (fun y6_3 =>
 if (!y6_3) = true then (some false)
 else (jn (fun (x15_4 : Bool) =>
 if x15_4 = true then (some true)
 else ((Sh.cmd_Same a_0 b_1).bind (fun y18_8 =>
 (Sh.rectolaw22_Of a_0).bind (fun y21_9 =>
 (Sh.rectolaw22_Of b_1).bind (fun y23_10 =>
 (Sh.rectoref17_Same y21_9 y23_10).bind (fun y24_11 =>
 if y18_8 = y24_11 then ((Sh.cmd_Same b_1 a_0).bind (fun y30_12 =>
 some (decide (y18_8 = y30_12))))
 else (some false))))))) (fun k5 => (Sh.rectolaw22_Few a_0).bind (fun y9_6 =>
 if (!y9_6) = true then (k5 true)
 else ((Sh.rectolaw22_Few b_1).bind (fun y13_7 =>
 k5 (!y13_7)))))))

end Go.S.Sh
end

section
/-
  DERIVED: THE SHELF's CONTRACTS AT THIS DUMP, IN PLAIN WORDS (tools/lay-plain.mjs out of 'TrydShelf.lean', which tools/lay-shelf.mjs wrote): THE SAME DECLARATIONS UNDER THE SAME NAMES: 'import', 'namespace', 'open', 'def', 'theorem' AND NOTHING ELSE: no command of the shelf's: FOR A HAND-IN. Each laying: the table of numbers ('.._ren') and one theorem, a field a fact of the dump's own or the kernel's comparison; each contract: ONE APPLICATION.
-/
namespace Go.Proofs
open Go.Shelf
def Tryd.lays156_ren : Go.Shelf.Ren := ⟨fun | 156 => 76 | 165 => 112 | 166 => 41 | 169 => 43 | 240 => 83 | 241 => 140 | 276 => 118 | 277 => 172 | n => n, fun | 31 => 38 | 9 => 9 | 3 => 3 | 4 => 4 | 0 => 0 | 20 => 20 | 72 => 83 | 76 => 84 | 70 => 81 | 37 => 23 | 75 => 29 | 127 => 134 | 164 => 167 | 5 => 5 | 80 => 87 | n => n, fun | n => n⟩
theorem Tryd.lays156 : Go.Proofs.Lays.n156 Tryd.prog Tryd.lays156_ren := {
  mixed := by kernel_rfl
  f156 := Tryd.func76.trans (congrArg some (by kernel_rfl))
  f165 := Tryd.func112.trans (congrArg some (by kernel_rfl))
  f166 := Tryd.func41.trans (congrArg some (by kernel_rfl))
  f169 := Tryd.func43.trans (congrArg some (by kernel_rfl))
  f240 := Tryd.func83.trans (congrArg some (by kernel_rfl))
  f241 := Tryd.func140.trans (congrArg some (by kernel_rfl))
  f276 := Tryd.func118.trans (congrArg some (by kernel_rfl))
  f277 := Tryd.func172.trans (congrArg some (by kernel_rfl))
  t0 := Tryd.underlying0
  a0 := Tryd.isAgg0
  z0 := Tryd.sizeOf0
  v0 := Tryd.zeroValue0
  t3 := Tryd.underlying3
  a3 := Tryd.isAgg3
  z3 := Tryd.sizeOf3
  v3 := Tryd.zeroValue3
  t4 := Tryd.underlying4
  a4 := Tryd.isAgg4
  z4 := Tryd.sizeOf4
  v4 := Tryd.zeroValue4
  t9 := Tryd.underlying9
  a9 := Tryd.isAgg9
  z9 := Tryd.sizeOf9
  v9 := Tryd.zeroValue9
  t20 := Tryd.underlying20
  a20 := Tryd.isAgg20
  z20 := Tryd.sizeOf20
  v20 := Tryd.zeroValue20
  t31 := Tryd.underlying38
  a31 := Tryd.isAgg38
  z31 := Tryd.sizeOf38
  v31 := Tryd.zeroValue38
  t37 := Tryd.underlying23
  a37 := Tryd.isAgg23
  z37 := Tryd.sizeOf23
  v37 := Tryd.zeroValue23
  t70 := Tryd.underlying81
  a70 := Tryd.isAgg81
  z70 := Tryd.sizeOf81
  v70 := Tryd.zeroValue81
  t72 := Tryd.underlying83
  a72 := Tryd.isAgg83
  z72 := Tryd.sizeOf83
  v72 := Tryd.zeroValue83
  t75 := Tryd.underlying29
  a75 := Tryd.isAgg29
  z75 := Tryd.sizeOf29
  v75 := Tryd.zeroValue29
  t76 := Tryd.underlying84
  a76 := Tryd.isAgg84
  z76 := Tryd.sizeOf84
  v76 := Tryd.zeroValue84
  t127 := Tryd.underlying134
  a127 := Tryd.isAgg134
  z127 := Tryd.sizeOf134
  v127 := Tryd.zeroValue134
  t164 := Tryd.underlying167
  a164 := Tryd.isAgg167
  z164 := Tryd.sizeOf167
  v164 := Tryd.zeroValue167 }
theorem Tryd.Builder_Extra_156 : Builder.Extra Tryd.prog Tryd.lays156_ren := {
  sizeBuilder := by kernel_rfl
  liesBuilder := by kernel_rfl
  t5 := Tryd.underlying5
  a5 := Tryd.isAgg5
  z5 := Tryd.sizeOf5
  v5 := Tryd.zeroValue5
  infoByte := by kernel_rfl
  cellsByte := by kernel_rfl
  sizeByte := by kernel_rfl
  neB5 := by decide }
open Go.RowKit in
/-- No element: the empty string; the world is as it was. (Whatever the slice's address and capacity: a nil slice too.) (LAID: no walk: one application.) -/
theorem Tryd.strings_Join_none (a : Option Addr) (c : Nat) (sep : ByteArray) (w : World) :
    Calls Tryd.prog 76 #[.slice a 0 c, .string sep] w fun e w' => e = .returned (.string ⟨#[]⟩) ∧ w' = w := Any.strings_Join_none Tryd.lays156 Tryd.Builder_Extra_156 a c sep w
open Go.RowKit in
/-- strings.Join: "Join concatenates the elements of its first argument to create a single string. The separator string sep is placed between elements in the resulting string.": HOWEVER MANY ELEMENTS. Below the heap's end the world is as it was. (LAID: no walk: one application.) -/
theorem Tryd.strings_Join (bk o c : Nat) (xs : List ByteArray) (sep : ByteArray) (w : World) (hcells : ∀ (j : Nat) x, xs[j]? = some x → w.cell? ⟨bk, o + j, none⟩ = some (.string x)) (hbk : bk < w.heap.size) (hN : xs.length ≤ 140737488355328) (hcap : xs.length ≤ c) (hlen : (Lib.join (xs.map (·.data.toList)) sep.data.toList).length ≤ 140737488355328) :
    Calls Tryd.prog 76 #[.slice (some ⟨bk, o, none⟩) xs.length c, .string sep] w fun e w' => e = .returned (.string ⟨(Lib.join (xs.map (·.data.toList)) sep.data.toList).toArray⟩) ∧ Below w.heap.size w w' := Any.strings_Join Tryd.lays156 Tryd.Builder_Extra_156 bk o c xs sep w hcells hbk hN hcap hlen
def Tryd.laysM171_ren : Go.Shelf.Ren := ⟨fun | 171 => 42 | 243 => 84 | 246 => 119 | 283 => 144 | 284 => 145 | 285 => 146 | 286 => 147 | 129 => 163 | 317 => 173 | 318 => 174 | 319 => 175 | 320 => 176 | 337 => 187 | 338 => 188 | n => n, fun | 3 => 3 | 9 => 9 | 2 => 2 | 4 => 4 | 171 => 180 | 0 => 0 | 53 => 181 | 37 => 23 | 5 => 5 | 173 => 184 | 212 => 201 | 51 => 196 | 20 => 20 | 213 => 202 | 46 => 177 | 232 => 219 | 233 => 220 | n => n, fun | 17 => 1 | 18 => 4 | 19 => 5 | n => n⟩
theorem Tryd.laysM171 : Go.Proofs.LaysM.n171 Tryd.prog Tryd.laysM171_ren := {
  mixed := by kernel_rfl
  f129 := Tryd.func163.trans (congrArg some (by kernel_rfl))
  f171 := Tryd.func42.trans (congrArg some (by kernel_rfl))
  f243 := Tryd.func84.trans (congrArg some (by kernel_rfl))
  f246 := Tryd.func119.trans (congrArg some (by kernel_rfl))
  f283 := Tryd.func144.trans (congrArg some (by kernel_rfl))
  f284 := Tryd.func145.trans (congrArg some (by kernel_rfl))
  f285 := Tryd.func146.trans (congrArg some (by kernel_rfl))
  f286 := Tryd.func147.trans (congrArg some (by kernel_rfl))
  f317 := Tryd.func173.trans (congrArg some (by kernel_rfl))
  f318 := Tryd.func174.trans (congrArg some (by kernel_rfl))
  f319 := Tryd.func175.trans (congrArg some (by kernel_rfl))
  f320 := Tryd.func176.trans (congrArg some (by kernel_rfl))
  f337 := Tryd.func187.trans (congrArg some (by kernel_rfl))
  f338 := Tryd.func188.trans (congrArg some (by kernel_rfl))
  t0 := Tryd.underlying0
  a0 := Tryd.isAgg0
  z0 := Tryd.sizeOf0
  v0 := Tryd.zeroValue0
  t2 := Tryd.underlying2
  a2 := Tryd.isAgg2
  z2 := Tryd.sizeOf2
  v2 := Tryd.zeroValue2
  t3 := Tryd.underlying3
  a3 := Tryd.isAgg3
  z3 := Tryd.sizeOf3
  v3 := Tryd.zeroValue3
  t4 := Tryd.underlying4
  a4 := Tryd.isAgg4
  z4 := Tryd.sizeOf4
  v4 := Tryd.zeroValue4
  t5 := Tryd.underlying5
  a5 := Tryd.isAgg5
  z5 := Tryd.sizeOf5
  v5 := Tryd.zeroValue5
  t9 := Tryd.underlying9
  a9 := Tryd.isAgg9
  z9 := Tryd.sizeOf9
  v9 := Tryd.zeroValue9
  t20 := Tryd.underlying20
  a20 := Tryd.isAgg20
  z20 := Tryd.sizeOf20
  v20 := Tryd.zeroValue20
  t37 := Tryd.underlying23
  a37 := Tryd.isAgg23
  z37 := Tryd.sizeOf23
  v37 := Tryd.zeroValue23
  t46 := Tryd.underlying177
  a46 := Tryd.isAgg177
  z46 := Tryd.sizeOf177
  v46 := Tryd.zeroValue177
  t51 := Tryd.underlying196
  a51 := Tryd.isAgg196
  z51 := Tryd.sizeOf196
  v51 := Tryd.zeroValue196
  t53 := Tryd.underlying181
  a53 := Tryd.isAgg181
  z53 := Tryd.sizeOf181
  v53 := Tryd.zeroValue181
  t171 := Tryd.underlying180
  a171 := Tryd.isAgg180
  z171 := Tryd.sizeOf180
  v171 := Tryd.zeroValue180
  t173 := Tryd.underlying184
  a173 := Tryd.isAgg184
  z173 := Tryd.sizeOf184
  v173 := Tryd.zeroValue184
  t212 := Tryd.underlying201
  a212 := Tryd.isAgg201
  z212 := Tryd.sizeOf201
  v212 := Tryd.zeroValue201
  t213 := Tryd.underlying202
  a213 := Tryd.isAgg202
  z213 := Tryd.sizeOf202
  t232 := Tryd.underlying219
  a232 := Tryd.isAgg219
  z232 := Tryd.sizeOf219
  v232 := Tryd.zeroValue219
  t233 := Tryd.underlying220
  a233 := Tryd.isAgg220
  z233 := Tryd.sizeOf220
  v233 := Tryd.zeroValue220
  g17 := by kernel_rfl
  g18 := by kernel_rfl
  g19 := by kernel_rfl
  i0 := by kernel_rfl
  i2 := by kernel_rfl
  i3 := by kernel_rfl
  i4 := by kernel_rfl
  i5 := by kernel_rfl
  i9 := by kernel_rfl
  i20 := by kernel_rfl
  i37 := by kernel_rfl
  i46 := by kernel_rfl
  i51 := by kernel_rfl
  i53 := by kernel_rfl
  i171 := by kernel_rfl
  i173 := by kernel_rfl
  i212 := by kernel_rfl
  i232 := by kernel_rfl
  i233 := by kernel_rfl
  m17 := by kernel_rfl
  m18 := by kernel_rfl
  m19 := by kernel_rfl }
open Go.RowKit Go.Sort Go.Lib in
/-- strconv.Itoa: "Itoa is equivalent to FormatInt(int64(i), 10).": i's DECIMAL NUMERAL ('Lib.itoa': a '-' where i is negative, then the digits), FOR EVERY int. The world behind the call: the world before it, new blocks behind the heap (the library's 'var a [24]byte'), draws. (LAID: no walk: one application.) -/
theorem Tryd.strconv_Itoa (n : Int) (h0 : -9223372036854775808 ≤ n) (h1 : n ≤ 9223372036854775807) (w : World) (htab : Lib.TabIs Tryd.prog w "internal/strconv.uint64pow10" .u64 Lib.pow10Tab) :
    Calls Tryd.prog 42 #[.int .i64 n] w fun e w' => e = .returned (.string ⟨(Lib.itoa n).toArray⟩) ∧ ∃ k os, w' = grow (w.drewN k) os := Any.strconv_Itoa Tryd.laysM171 n h0 h1 w htab
end Go.Proofs
end

section
namespace Go.V
open Go.RowKit
open Go.S hiding Str
instance : ErNo := ⟨90, 93⟩
/-- the variables as they were laid -/
@[reducible] def Gl : Mo := (GBlk 1 (Lib.pow10Tab.map fun z => Value.int .u64 z).toArray)
instance : Dat TodoStep := ⟨3, fun x => [str x.verb, i64 x.commit, str x.text], fun _ => rfl, fun _ u h => by simp only [List.mem_cons, List.not_mem_nil, or_false] at h; rcases h with rfl | rfl | rfl <;> first | rfl | exact Er.one _, fun _ => Mo.tt⟩
instance : Flat TodoStep := ⟨fun _ => rfl⟩
structure CmdCmd where
  verb : Str
  name : Str
  n : Int
  text : Str
  force : Bool
  todo : Sv TodoStep
@[reducible] def CmdCmd.m (x : CmdCmd) : Mo := x.todo.ok
def CmdCmd.pl (x : CmdCmd) : CmdCmdP := ⟨x.verb, x.name, x.n, x.text, x.force, x.todo.l⟩
instance : Dat CmdCmd := ⟨6, fun x => [str x.verb, str x.name, i64 x.n, str x.text, .bool x.force, x.todo.val], fun _ => rfl, fun _ u h => by simp only [List.mem_cons, List.not_mem_nil, or_false] at h; rcases h with rfl | rfl | rfl | rfl | rfl | rfl <;> first | rfl | exact Er.one _, CmdCmd.m⟩
instance : Dat Rectoref17Step := ⟨3, fun x => [str x.verb, i64 x.commit, str x.text], fun _ => rfl, fun _ u h => by simp only [List.mem_cons, List.not_mem_nil, or_false] at h; rcases h with rfl | rfl | rfl <;> first | rfl | exact Er.one _, fun _ => Mo.tt⟩
instance : Flat Rectoref17Step := ⟨fun _ => rfl⟩
structure Rectoref17Cmd where
  verb : Str
  name : Str
  n : Int
  text : Str
  force : Bool
  todo : Sv Rectoref17Step
@[reducible] def Rectoref17Cmd.m (x : Rectoref17Cmd) : Mo := x.todo.ok
def Rectoref17Cmd.pl (x : Rectoref17Cmd) : Rectoref17CmdP := ⟨x.verb, x.name, x.n, x.text, x.force, x.todo.l⟩
instance : Dat Rectoref17Cmd := ⟨6, fun x => [str x.verb, str x.name, i64 x.n, str x.text, .bool x.force, x.todo.val], fun _ => rfl, fun _ u h => by simp only [List.mem_cons, List.not_mem_nil, or_false] at h; rcases h with rfl | rfl | rfl | rfl | rfl | rfl <;> first | rfl | exact Er.one _, Rectoref17Cmd.m⟩
end Go.V
end
