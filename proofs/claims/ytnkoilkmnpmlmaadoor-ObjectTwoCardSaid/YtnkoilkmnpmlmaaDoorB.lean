/- Part of the proofs of: Two objects are the same just if all that their kind names is, for any two objects. -/
import Derived.Laws.StructEq
import Derived.Laws.Tables
import Derived.Laws.Cover2
import Derived.Lib.ConvBytes
import Derived.Lib.Bytealg
import Derived.Lib.AppendZeros
import Derived.Test.YtnkoilkmnpmlmaaDoorA
set_option linter.unusedVariables false
set_option linter.unusedSimpArgs false
set_option linter.unusedSectionVars false
section
namespace Go.V
open Go.RowKit Go.S
section
variable {P : Program} {N : Nat} {c : Cx} {ops : Array Oper} {Q Q1 : Exit → Act → World → Prop} {rest : List Oper} {o : Oper} {ρ : Env} {M M' M1 M0 : Mo} {E E1 F A : Ow} {v u : Value} {X S T R : Type}
  {d : Nat} {od : Option Nat} {ty : TypeId} {pos : String} {after : Array Edge} {gd : Option (Nat × Bool)} {x y : Operand} {t t' e tb : TypeId} {f : FuncId} {args : List Value} {k k' : IntKind} {m n : Int}
theorem q_steql {xs ys : Array Value} {b : Bool} (hg : P.eqGuardType P.depth t = false) (h : ∀ w, (Op.equalIn 10000 t (.agg xs) (.agg ys)).run P w = .ok b w) (e1 : ρ.ev x = some (.agg xs)) (e2 : ρ.ev y = some (.agg ys)) : Qt P N c ⟨od, .binOp .eql t x y t', ty, pos, after, gd⟩ (.bool b) ρ M E := q_bin e1 e2 (fun w => run_eqGuard_agg w .eql t x y xs ys hg) fun w => by
  rw [run_eql_struct, h w]; rfl
theorem q_stneq {xs ys : Array Value} {b : Bool} (hg : P.eqGuardType P.depth t = false) (h : ∀ w, (Op.equalIn 10000 t (.agg xs) (.agg ys)).run P w = .ok b w) (e1 : ρ.ev x = some (.agg xs)) (e2 : ρ.ev y = some (.agg ys)) : Qt P N c ⟨od, .binOp .neq t x y t', ty, pos, after, gd⟩ (.bool (!b)) ρ M E := q_bin e1 e2 (fun w => run_eqGuard_agg w .neq t x y xs ys hg) fun w => by
  rw [run_neq_struct, h w]; rfl
theorem q_slss {s s' : List UInt8} (e1 : ρ.ev x = some (str s)) (e2 : ρ.ev y = some (str s')) : Qt P N c ⟨od, .binOp .lss t x y t', ty, pos, after, gd⟩ (.bool (Op.bytesLess s s')) ρ M E := q_bin e1 e2 (guard_str _ _ _) fun w => by
  simp [binOp, Op.stringOp, go_sem]
theorem q_sgeq {s s' : List UInt8} (e1 : ρ.ev x = some (str s)) (e2 : ρ.ev y = some (str s')) : Qt P N c ⟨od, .binOp .geq t x y t', ty, pos, after, gd⟩ (.bool (!Op.bytesLess s s')) ρ M E := q_bin e1 e2 (guard_str _ _ _) fun w => by
  simp [binOp, Op.stringOp, go_sem]
theorem q_sgtr {s s' : List UInt8} (e1 : ρ.ev x = some (str s)) (e2 : ρ.ev y = some (str s')) : Qt P N c ⟨od, .binOp .gtr t x y t', ty, pos, after, gd⟩ (.bool (!(Op.bytesLess s s' || decide (s = s')))) ρ M E := q_bin e1 e2 (guard_str _ _ _) fun w => by
  have h : (s == s') = decide (s = s') := beq_dec _ _
  simp [binOp, Op.stringOp, go_sem, h]
theorem q_sleq {s s' : List UInt8} (e1 : ρ.ev x = some (str s)) (e2 : ρ.ev y = some (str s')) : Qt P N c ⟨od, .binOp .leq t x y t', ty, pos, after, gd⟩ (.bool (Op.bytesLess s s' || decide (s = s'))) ρ M E := q_bin e1 e2 (guard_str _ _ _) fun w => by
  have h : (s == s') = decide (s = s') := beq_dec _ _
  simp [binOp, Op.stringOp, go_sem, h]
end
end Go.V
end

section
namespace Go.S
open Go
/-- the first place of a byte in a text; how often it is there -/
noncomputable def ixB (s : List UInt8) (c : Int) : Int := Lib.indexByte s c.toNat.toUInt8
noncomputable def cntB (s : List UInt8) (c : Int) : Int := (Lib.countByte s c.toNat.toUInt8 : Nat)
end Go.S
namespace Go.V
open Go.RowKit Go.S
section
variable {P : Program} {N : Nat} {c : Cx} {ops : Array Oper} {Q Q1 : Exit → Act → World → Prop} {rest : List Oper} {o : Oper} {ρ : Env} {M M' M1 M0 : Mo} {E E1 F A : Ow} {v u : Value} {X S T R : Type}
  {d : Nat} {od : Option Nat} {ty : TypeId} {pos : String} {after : Array Edge} {gd : Option (Nat × Bool)} {x y : Operand} {t t' e tb : TypeId} {f : FuncId} {args : List Value} {k k' : IntKind} {m n : Int}
/-- a text's bytes in a row of their own, which is never turned -/
theorem VL.s2b {s : Str} {u : TypeDesc} (hs : P.underlying t = some u) (hu : P.underlying t' = some (.slice e)) (he : P.underlying e = some (.int .u8)) (e1 : ρ.ev x = some (str s)) (hlen : s.length ≤ 4294967296) (hd : d < N)
    (kk : ∀ q : Sv UInt8, q.l = s → VL P N c ops Q rest ((d, q.val) :: ρ) (q.ok.and M) E) : VL P N c ops Q (⟨some d, .convert t t' x, ty, pos, after, none⟩ :: rest) ρ M E := by
  refine VL.newM (S := Sv UInt8) (val := Sv.val) (φ := fun q => q.l = s) (M2 := fun q => q.ok) (fun a w h g m l => ?_) hd kk
  have hr := Lib.run_convert_string_bytes (P := P) w t t' e ⟨⟨s⟩⟩ hs hu he
  have hsz : (⟨⟨s⟩⟩ : ByteArray).size = s.length := rfl
  have hmax : s.length ≤ maxLen := by unfold maxLen; omega
  rw [hsz] at hr
  refine ⟨⟨some ⟨w.heap.size, 0, none⟩, grownCap w s.length 0 e, s⟩, Lib.bytesWorld w e ⟨⟨s⟩⟩, .cells (Lib.bytesCells w e ⟨⟨s⟩⟩) e ((Lib.bytesCells w e ⟨⟨s⟩⟩).size, (Lib.bytesCells w e ⟨⟨s⟩⟩).size + 1), ?_, rfl, ⟨?_, ?_, ?_, by rw [Lib.bytesWorld_size]; omega, fun j hj => Lib.bytesWorld_at_old w e _ j hj⟩, Lib.bytesWorld_at_new w e _, ?_⟩
  · simp only [execOp, g.ev e1, Sem.run_bind, hr, Result.andThen_ok, Sem.run_pure]; rfl
  · simp [Lib.bytesWorld, World.freeze, World.alloc, World.drew, -World.alloc_eq, -World.drew_eq]
  · simp [Lib.bytesWorld, World.freeze, World.alloc, World.drew, -World.alloc_eq, -World.drew_eq]
  · simp [Lib.bytesWorld, World.freeze, World.alloc, World.drew, -World.alloc_eq, -World.drew_eq]
  · have hblk : (h.join (Hp.one w.heap.size (.cells (Lib.bytesCells w e ⟨⟨s⟩⟩) e ((Lib.bytesCells w e ⟨⟨s⟩⟩).size, (Lib.bytesCells w e ⟨⟨s⟩⟩).size + 1)))) w.heap.size = some (.cells (Lib.bytesCells w e ⟨⟨s⟩⟩) e ((Lib.bytesCells w e ⟨⟨s⟩⟩).size, (Lib.bytesCells w e ⟨⟨s⟩⟩).size + 1)) := by
      have hh : h w.heap.size = none := by
        cases hb : h w.heap.size with
        | none => rfl
        | some p => have := (Array.getElem?_eq_some_iff.1 (l _ p hb)).1; omega
      unfold Hp.join
      rw [hh, Hp.one_self]
    refine ⟨grownCap_ge _ _ _ _, grownCap_le_maxLen _ _ _ _ hmax, fun _ => by simp [Sv.b, Sv.o], fun i z hz => ?_, fun _ _ => trivial⟩
    intro j v hj
    have hd1 : Dat.sz UInt8 = 1 := rfl
    have hj0 : j = 0 := by
      cases j with
      | zero => rfl
      | succ j => simp [Dat.enc] at hj
    subst hj0
    have hv : v = .int .u8 z.toNat := by simp [Dat.enc] at hj; exact hj.symm
    subst hv
    have hi := (List.getElem?_eq_some_iff.1 hz).1
    simp only at hz hi
    have hzz := (List.getElem?_eq_some_iff.1 hz).2
    have hcell : (Lib.bytesCells w e ⟨⟨s⟩⟩)[i]? = some (.int .u8 z.toNat) := by
      simp only [Lib.bytesCells, Array.getElem?_append]
      simp [hi, hzz]
    show (h.join _).cell w.heap.size (0 + i * 1 + 0) = _
    unfold Hp.cell
    rw [hblk]
    simpa using hcell
/-- a function of the library's that the model has in place -/
theorem q_extern {fn : Func} {ex : Array Value → Sem Value} {xs : List Operand} {vs : List Value} {ts : Array TypeId} (hf : P.funcs[f]? = some fn) (hname : (fn.name == "runtime.NumGoroutine") = false) (hb : fn.body.isNone = true) (hn : Extern.findNext fn = none) (he : Extern.find fn = some ex) (ha : ρ.evs xs = some vs) (h : ∀ w : World, (ex vs.toArray).run P w = .ok v w) :
    Qt P N c ⟨od, .call { callee := .value (.func f), args := xs.toArray, argTypes := ts }, ty, pos, after, gd⟩ v ρ M E := q_ext ha fun w => by
  rw [run_callFunc_extern hf hname hb hn he, h w]; rfl
theorem x_ixS {P : Program} (s : Str) (c : Int) (w : World) : (Extern.BytealgIndexByte.indexByte #[str s, .int .u8 c]).run P w = .ok (i64 (ixB s c)) w := Lib.run_indexByteString ⟨⟨s⟩⟩ c w
theorem x_cntS {P : Program} (s : Str) (c : Int) (w : World) : (Extern.BytealgCount.count #[str s, .int .u8 c]).run P w = .ok (i64 (cntB s c)) w := Lib.run_countString ⟨⟨s⟩⟩ c w
theorem x_cmpS {P : Program} (s r : Str) (w : World) : (Extern.BytealgCompare.compare #[str s, str r]).run P w = .ok (i64 (Lib.compareBytes s r)) w := Lib.run_compareString ⟨⟨s⟩⟩ ⟨⟨r⟩⟩ w
/-- a function, with what it has caught -/
theorem q_mkfn {g : FuncId} {xs : List Operand} {vs : List Value} (ha : ρ.evs xs = some vs) : Qt P N c ⟨od, .makeFunc (.func g) #[] xs.toArray, ty, pos, after, gd⟩ (.func (.func g) #[] vs.toArray) ρ M E := Qt.of_run fun a w h _ => by
  have e := h.evs ha
  subst e
  simp [execOp, Instr.makeFunc]
theorem gOp_of_VLg {K : Act → World → Prop} {a : Act} {w : World} {i : Nat} {op : Op} (hk : ops[i]? = some ⟨od, op, ty, pos, after, gd⟩) (hw : Region.wanted (⟨od, op, ty, pos, after, gd⟩ : Oper) (yielded ops a.tmps) = true) (h : wpList P ops (fun e a w => e = .normal ∧ K a w) [⟨od, op, ty, pos, after, gd⟩] a w) : gOp P ops i K a w := by
  unfold gOp
  simp only [hk]
  unfold wpList at h
  rw [if_pos hw] at h
  rw [if_pos hw]
  rcases h with h | ⟨_, a', w', h, _⟩
  · unfold Oper.wp at h
    generalize (execOp a.eval ⟨od, op, ty, pos, after, gd⟩).run P w = rr at *
    cases rr with
    | ok n w' =>
      cases n <;> simp only [Oper.upon, gUpon] at h ⊢
      case value u => exact h.2
      case skip => exact h.2
      case defer dd => exact h.2
      case enter f args =>
        refine h.mono fun e w'' he => ?_
        cases e with
        | returned v => exact ⟨v, rfl, he.2⟩
        | panicked ch => cases he.1
        | outgrown => obtain ⟨_, _, h, _⟩ := he; cases h
      case row row args => exact Rows.mono h fun v w'' he => he.2
    | halt x w' =>
      cases x <;> simp only [Oper.upon] at h
      case panic => cases h.1
  · cases h
/-- an operation of any kind, with a guard that holds, the only one that can come up now -/
theorem VD.oneG {r : List (Nat × Bool)} {D : List (Nat × Value)} {R : List (Nat × Value) → Act → World → Prop} {op : Op} {i j s : Nat} {b : Bool} (hk : ops[i]? = some ⟨od, op, ty, pos, after, some (j, b)⟩) (hj : (ops[j]?).bind (·.dst) = some s) (hb : ρ.get s = some (.bool b))
    (h : VL P N c ops (toR P N c ops fun a w => (∀ p ∈ strike ops i D, YI P ops p a w) ∧ wpD P ops R r (strike ops i D) a w) [⟨od, op, ty, pos, after, some (j, b)⟩] ρ M E) : VDR P N c ops R ((i, false) :: r) D ρ M E := fun a w x y =>
  ⟨_, hk, fun w1 g => gOp_of_VLg hk (by rw [wanted_of hj x hb _ rfl]; simp) (h a w1 x (y.grow g))⟩
/-- .. whose guard does not hold -/
theorem VD.oneN {r : List (Nat × Bool)} {D D' : List (Nat × Value)} {R : List (Nat × Value) → Act → World → Prop} {op : Op} {i j s : Nat} {b b' : Bool} (hk : ops[i]? = some ⟨some d, op, ty, pos, after, some (j, b)⟩) (hj : (ops[j]?).bind (·.dst) = some s) (hb : ρ.get s = some (.bool b')) (hw : (b' == b) = false) (hd : d < N)
    (hD : strike ops i D = D') (hp : Pend P N c ops D' ((d, undef) :: ρ) M E) (h : VDR P N c ops R r D' ((d, undef) :: ρ) M E) : VDR P N c ops R ((i, false) :: r) D ρ M E := fun a w x y => by
  subst hD
  refine ⟨_, hk, fun w1 g => ?_⟩
  have hn : Region.wanted (⟨some d, op, ty, pos, after, some (j, b)⟩ : Oper) (yielded ops a.tmps) = false := by rw [wanted_of hj x hb _ rfl, hw]
  unfold gOp
  simp only [hk]
  rw [if_neg (by rw [hn]; decide)]
  exact ⟨hp _ _ (x.put hd undef) (y.grow g), h _ _ (x.put hd undef) (y.grow g)⟩
/-- nothing of a slice of one's own: it is grown from there -/
theorem VL.own0 {α : Type} [Dat α] {s : Sv α} (hu : P.underlying t = some (.slice e)) (hz : (P.info? e).map (·.size) = some (Dat.sz α)) (e0 : ρ.ev x = some s.val) (e1 : ρ.ev y = some (i64 0)) (hE : Foc E (s.own e) F) (hd : d < N)
    (kk : ∀ q : Sv α, q.l = [] → VL P N c ops Q rest ((d, q.val) :: ρ) M (Ow.star (q.own e) F)) : VL P N c ops Q (⟨some d, .slice t x none (some y) none, ty, pos, after, none⟩ :: rest) ρ M E :=
  VL.q (q_cut (lo' := none) (hi' := some 0) (mx' := none) 0 0 s.c hu hz e0 rfl (by simp [optv, e1]) rfl rfl rfl (by simp) (fun h => by cases h) (Nat.le_refl _) (Nat.zero_le _) (Nat.le_refl _) (Nat.zero_le _)) hd (VL.mono (fun _ h => h) (fun z hz => by
    obtain ⟨a, b, d1, d2, ha, hb⟩ := hE z hz
    refine ⟨a, b, d1, d2, ?_, hb⟩
    obtain ⟨q1, q2, q3⟩ := ha
    refine ⟨Nat.zero_le _, by simpa [Sv.sub] using q2, ?_⟩
    rcases q3 with ⟨w1, w2⟩ | ⟨g, cur, w1, w2, w3, _⟩
    · exact .inl ⟨rfl, by simp [Sv.sub, w2]⟩
    · refine .inr ⟨g, cur, ?_, w2, by simpa [Sv.sub] using w3, by simp [Sv.sub]⟩
      simp [Sv.sub, w1, Addr.add]) (kk (s.sub 0 0 s.c) rfl))
/-- zeros behind nil: a new slice of one's own -/
theorem VL.appZ {α : Type} [Dat α] {xs : List Operand} {k1 kn : IntKind} {tn : TypeId} {z : α} {bt : Nat} (hu : P.underlying t = some (.slice e)) (htn : P.underlying tn = some (.int kn)) (hi : ((P.info? e).map fun i => (i.size, i.bytes, i.zero.map fun z => z.cells.toList)) = some (Dat.sz α, bt, some (Dat.enc z))) (hpos : 0 < Dat.sz α)
    (ha : ρ.evs xs = some [.slice none 0 0, .int k1 n]) (h0 : 0 < n) (hm : n ≤ 4294967296) (hb : bt ≤ 32768) (hd : d < N)
    (k : ∀ s : Sv α, s.l = List.replicate n.toNat z → VL P N c ops Q rest ((d, s.val) :: ρ) M (Ow.star (s.own e) E)) : VL P N c ops Q (⟨some d, .call { callee := .builtin .append, args := xs.toArray, argTypes := #[t, tn] }, ty, pos, after, none⟩ :: rest) ρ M E := by
  cases hj : P.info? e with
  | none => rw [hj] at hi; cases hi
  | some i =>
    rw [hj] at hi
    simp only [Option.map_some, Option.some.injEq, Prod.mk.injEq] at hi
    obtain ⟨h1, h2, h3⟩ := hi
    cases hz : i.zero with
    | none => rw [hz] at h3; cases h3
    | some zv =>
      rw [hz] at h3
      have h3' : zv.cells.toList = Dat.enc z := by simpa using h3
      have hzs : zv.cells.size = Dat.sz α := by rw [← Array.length_toList, h3', Dat.len]
      have hn : (n.toNat : Int) = n := by omega
      have hmul : n.toNat * i.bytes ≤ 4294967296 * 32768 := Nat.mul_le_mul (by omega) (by omega)
      refine VL.newO (S := Sv α) (val := Sv.val) (φ := fun s => s.l = List.replicate n.toNat z) (A := fun s => s.own e) (fun a w g => ?_) hd k
      have hr := Lib.run_append_nil_zeros (P := P) w t tn ty e i zv k1 kn hu htn hj hz n.toNat (by omega) (by omega) (by omega) (Nat.le_trans hmul (by decide))
      rw [hn] at hr
      have hge := grownCap_ge w n.toNat 0 e
      have hle := grownCap_le_maxLen w n.toNat 0 e (by unfold maxLen; omega)
      refine ⟨⟨some ⟨w.heap.size, 0, none⟩, grownCap w n.toNat 0 e, List.replicate n.toNat z⟩, _, .cells (Builtin.zeroCells zv.cells n.toNat ++ Builtin.zeroCells zv.cells (grownCap w n.toNat 0 e - n.toNat)) e, ?_, rfl, (Gr.drew w).trans (Gr.alloc w.drew _), heap_alloc_new w.drew _, ?_⟩
      · simp only [execOp, resolve, List.map_toArray, g.evs ha, Sem.run_bind, Sem.run_pure, Result.andThen_ok, invoke, builtin, hr, Sv.val, List.length_replicate]
      · refine ⟨by simpa using hge, hle, .inr ⟨_, _, rfl, Hp.one_self _ _, ?_, ?_⟩⟩
        · simp only [Array.size_append, size_zeroCells, hzs]
          rw [← Nat.add_mul]
          congr 1
          omega
        · have e1 : (List.replicate n.toNat z).length * Dat.sz α = (Builtin.zeroCells zv.cells n.toNat).toList.length := by rw [List.length_replicate, Array.length_toList, size_zeroCells, hzs]
          rw [Array.toList_append, e1, List.take_left]
          apply List.ext_getElem?
          intro j
          by_cases hlt : j < n.toNat * Dat.sz α
          · have hmod : j % Dat.sz α < Dat.sz α := Nat.mod_lt _ hpos
            have hdiv : j / Dat.sz α < n.toNat := (Nat.div_lt_iff_lt_mul hpos).2 hlt
            have hjj : j / Dat.sz α * Dat.sz α + j % Dat.sz α = j := by rw [Nat.mul_comm]; exact Nat.div_add_mod j _
            have hx : (List.replicate n.toNat z)[j / Dat.sz α]? = some z := by simp [hdiv]
            obtain ⟨q, hq⟩ : ∃ q, (Dat.enc z)[j % Dat.sz α]? = some q := ⟨_, List.getElem?_eq_getElem (by rw [Dat.len]; exact hmod)⟩
            have := flatMap_get (α := α) Dat.len _ _ _ hx _ _ hq
            rw [hjj] at this
            rw [this]
            have hlt' : j < n.toNat * zv.cells.size := by rw [hzs]; exact hlt
            simp only [Builtin.zeroCells, Array.toList_map, List.getElem?_map, Array.toList_range, List.getElem?_range hlt', Option.map_some]
            rw [← h3'] at hq
            rw [Array.getElem?_toList] at hq
            simp [getElem!_def, hzs, hq]
          · rw [List.getElem?_eq_none (by rw [Array.length_toList, size_zeroCells, hzs]; omega), List.getElem?_eq_none (by rw [enc_len, List.length_replicate]; omega)]
theorem VD.oneU {r : List (Nat × Bool)} {D D' : List (Nat × Value)} {R : List (Nat × Value) → Act → World → Prop} {op : Op} {i j s : Nat} {b : Bool} (hk : ops[i]? = some ⟨some d, op, ty, pos, after, some (j, b)⟩) (hj : (ops[j]?).bind (·.dst) = some s) (hb : ρ.get s = some undef) (hd : d < N)
    (hD : strike ops i D = D') (hp : Pend P N c ops D' ((d, undef) :: ρ) M E) (h : VDR P N c ops R r D' ((d, undef) :: ρ) M E) : VDR P N c ops R ((i, false) :: r) D ρ M E := fun a w x y => by
  subst hD
  refine ⟨_, hk, fun w1 g => ?_⟩
  have hn : Region.wanted (⟨some d, op, ty, pos, after, some (j, b)⟩ : Oper) (yielded ops a.tmps) = false := by rw [wanted_un hj x hb _ rfl]
  unfold gOp
  simp only [hk]
  rw [if_neg (by rw [hn]; decide)]
  exact ⟨hp _ _ (x.put hd undef) (y.grow g), h _ _ (x.put hd undef) (y.grow g)⟩
theorem q_cap0 {xs : List Operand} (ht : P.underlying t = some (.slice e)) (h : ρ.evs xs = some [.slice none 0 0]) : Qt P N c ⟨od, .call { callee := .builtin .cap, args := xs.toArray, argTypes := #[t] }, ty, pos, after, gd⟩ (i64 0) ρ M E := Qt.of_run fun a w g _ => by
  simp only [execOp, resolve, List.map_toArray, g.evs h]
  simp [go_sem, invoke, builtin, Builtin.cap_, run_underlying ht, goInt]
theorem q_nil0 (α : Type) [Dat α] (hu : P.underlying t = some (.slice e)) (hz : (P.info? e).map (·.size) = some (Dat.sz α)) (e0 : ρ.ev x = some (.slice none 0 0)) (e1 : ρ.ev y = some (i64 0)) : Qt P N c ⟨od, .slice t x none (some y) none, ty, pos, after, gd⟩ (.slice none 0 0) ρ M E :=
  q_cut (s := (⟨none, 0, []⟩ : Sv α)) (lo' := none) (hi' := some 0) (mx' := none) 0 0 0 hu hz e0 rfl (by simp [optv, e1]) rfl rfl rfl rfl (fun _ => rfl) (Nat.le_refl _) (Nat.le_refl _) (Nat.le_refl _) (Nat.le_refl _)
theorem Er.one [ErNo] (z : Er) : z.val.oneCell' = true := by cases z <;> rfl
theorem wr_i32 (u : UInt8) : IntKind.i32.wrap (u.toNat : Int) = (u.toNat : Int) := IntWalk.i32_in _ (by have := u.toNat_lt; omega)
theorem q_min {m n : Int} {xs : List Operand} {ts : Array TypeId} (h : ρ.evs xs = some [i64 m, i64 n]) : Qt P N c ⟨od, .call { callee := .builtin .min, args := xs.toArray, argTypes := ts }, ty, pos, after, gd⟩ (i64 (min m n)) ρ M E := Qt.of_run fun a w g _ => by
  simp only [execOp, resolve, List.map_toArray, g.evs h]
  have hr : (Builtin.min_ ts ty #[i64 m, i64 n]).run P w = .ok (i64 (min m n)) w := by
    simp [Builtin.min_, Builtin.min2, go_sem]
    rw [Int.min_def]
    split <;> split <;> first | rfl | (congr 1; omega) | omega | (simp; omega)
  simp [go_sem, invoke, builtin, hr]
instance (priority := 700) UpdB.inn (A F G : Ow) (b : Nat) (cs : List Value) (T : TypeId) [i : UpdB A b cs T G] : UpdB (Ow.star A F) b cs T (Ow.star G F) := ⟨Foc.inn i.out⟩
theorem VL.reB (b : Nat) {cs cs' : List Value} {T : TypeId} [j : UpdB E b cs T F] (h : cs = cs') (k : VL P N c ops Q rest ρ M (Ow.star (Blk b cs' T) F)) : VL P N c ops Q rest ρ M E := by
  subst h
  exact VL.mono (fun _ x => x) (fun z hz => j.out z hz) k
theorem VD.reB {r : List (Nat × Bool)} {D : List (Nat × Value)} (b : Nat) {cs cs' : List Value} {T : TypeId} [j : UpdB E b cs T F] (h : cs = cs') (k : VD P N c ops Q r D ρ M (Ow.star (Blk b cs' T) F)) : VD P N c ops Q r D ρ M E := by
  subst h
  exact fun a w g st => k a w g (st.mono (fun _ x => x) (fun z hz => j.out z hz))
theorem VC.reB {p : Code} (b : Nat) {cs cs' : List Value} {T : TypeId} [j : UpdB E b cs T F] (h : cs = cs') (k : VC P N c Q p ρ M (Ow.star (Blk b cs' T) F)) : VC P N c Q p ρ M E := by
  subst h
  exact fun a w g st => k a w g (st.mono (fun _ x => x) (fun z hz => j.out z hz))
theorem VD.smid {α : Type} [Dat α] {k' : Nat} {rr : List (Nat × Bool)} {D : List (Nat × Value)} {s : Sv α} {z : Operand} {m n : Int} (hk : ops[k']? = some ⟨some d, .slice t x (some y) (some z) none, ty, pos, after, none⟩) (hu : P.underlying t = some (.slice e)) (hz : (P.info? e).map (·.size) = some (Dat.sz α)) (e0 : ρ.ev x = some s.val) (e1 : ρ.ev y = some (i64 m)) (e2 : ρ.ev z = some (i64 n)) [hs : InM M s.ok] (h0 : 0 ≤ m) (h1 : m ≤ n) (h2 : n ≤ s.l.length) (hd : d < N)
    (kk : ∀ (q : Sv α) (u : Value), q.l = (s.l.drop m.toNat).take (n.toNat - m.toNat) → VD P N c ops Q rr (addD ops k' u D) ((d, q.val) :: ρ) (q.ok.and M) E) : VD P N c ops Q ((k', true) :: rr) D ρ M E :=
  VD.part (lo' := some m) (hi' := some n) (mx' := none) hk m.toNat n.toNat hu hz e0 (by simp [optv, e1]) (by simp [optv, e2]) rfl (by simp; omega) (by simp; omega) (.inl rfl) (fun h => by cases h) (by omega) (by omega) hd fun q u hq => kk q u hq
theorem Pend.consX {D : List (Nat × Value)} {i : Nat} {op : Op} (hk : ops[i]? = some ⟨od, op, ty, pos, after, gd⟩) (h : ∀ a w, Agr N ρ a → St c M E w → YU P ops ⟨od, op, ty, pos, after, gd⟩ v a w) (n : Pend P N c ops D ρ M E) : Pend P N c ops ((i, v) :: D) ρ M E := fun a w x y p hp => by
  rcases List.mem_cons.1 hp with rfl | hp
  · intro o ho
    have ho' : ops[i]? = some o := ho
    rw [hk] at ho'
    cases ho'
    exact h a w x y
  · exact n a w x y p hp
theorem Pend.consG {D : List (Nat × Value)} {i j s : Nat} {b : Bool} {op : Op} (hk : ops[i]? = some ⟨od, op, ty, pos, after, some (j, b)⟩) (hj : (ops[j]?).bind (·.dst) = some s) (hb : ρ.get s = some (.bool b)) (h : Qt P N c ⟨od, op, ty, pos, after, some (j, b)⟩ v ρ M E) (n : Pend P N c ops D ρ M E) : Pend P N c ops ((i, v) :: D) ρ M E :=
  Pend.consX hk (fun a w x y => .inl ⟨by rw [wanted_of hj x hb _ rfl]; simp, fun w1 g => h a w1 x (y.grow g)⟩) n
theorem Pend.consN {D : List (Nat × Value)} {i j s : Nat} {b b' : Bool} {op : Op} (hk : ops[i]? = some ⟨od, op, ty, pos, after, some (j, b)⟩) (hj : (ops[j]?).bind (·.dst) = some s) (hb : ρ.get s = some (.bool b')) (hw : (b' == b) = false) (n : Pend P N c ops D ρ M E) : Pend P N c ops ((i, undef) :: D) ρ M E :=
  Pend.consX hk (fun a w x y => .inr ⟨by rw [wanted_of hj x hb _ rfl, hw], rfl⟩) n
theorem Pend.consU {D : List (Nat × Value)} {i j s : Nat} {b : Bool} {op : Op} (hk : ops[i]? = some ⟨od, op, ty, pos, after, some (j, b)⟩) (hj : (ops[j]?).bind (·.dst) = some s) (hb : ρ.get s = some undef) (n : Pend P N c ops D ρ M E) : Pend P N c ops ((i, undef) :: D) ρ M E :=
  Pend.consX hk (fun a w x y => .inr ⟨by rw [wanted_un hj x hb _ rfl], rfl⟩) n
end
end Go.V
end

section
set_option linter.unusedVariables false
namespace Go.S.Sh
open Go
noncomputable def unicode_utf8_RuneCountInString (s_0 : Str) : Option Int :=
 none

noncomputable def unicode_utf8_decodeRuneInStringSlow (a_0 : Str) : Option (Int × Int) :=
 if (a_0.length : Int) < 1 then (some (65533, 0))
 else ((at_ a_0 0).bind (fun z18_1 =>
 none))

noncomputable def unicode_utf8_DecodeRuneInString (s_0 : Str) : Option (Int × Int) :=
 jn (fun (x10_1 : Bool) =>
 if x10_1 = true then ((at_ s_0 0).bind (fun z12_4 =>
 some ((z12_4.toNat : Int), 1)))
 else ((Sh.unicode_utf8_decodeRuneInStringSlow s_0).bind (fun y16_5 =>
 some (y16_5.1, y16_5.2)))) (fun k2 => if s_0 = [] then (k2 false)
 else ((at_ s_0 0).bind (fun z8_3 =>
 k2 (decide ((z8_3.toNat : Int) < 128)))))

noncomputable def strings_explode (s_0 : Str) (n_1 : Int) : Option (List Str) :=
 (Sh.unicode_utf8_RuneCountInString s_0).bind (fun y11_1 =>
 jn (fun (n1_2 : Int) =>
 gd ((0 : Int) ≤ n1_2 ∧ n1_2 ≤ 4294967296) (
 lt (List.replicate n1_2.toNat []) (fun y21_7 =>
 iter (fun ((s0_8, a6_9, i7_10) : Str × List Str × Int) =>
 gd (I64 (n1_2 - 1)) (
 if i7_10 < (n1_2 - 1) then ((Sh.unicode_utf8_DecodeRuneInString s0_8).bind (fun y30_11 =>
 gd ((0 : Int) ≤ y30_11.2 ∧ y30_11.2 ≤ (s0_8.length : Int)) (
 lt (s0_8.take y30_11.2.toNat) (fun y37_12 =>
 (at_ a6_9 i7_10).bind (fun z38_13 =>
 lt (a6_9.set i7_10.toNat y37_12) (fun ys6_15 =>
 gd ((0 : Int) ≤ y30_11.2 ∧ y30_11.2 ≤ (s0_8.length : Int)) (
 lt (s0_8.drop y30_11.2.toNat) (fun y41_16 =>
 gd (I64 (i7_10 + 1)) (
 go (y41_16, ys6_15, (i7_10 + 1)))))))))))
 else (up (if 0 < n1_2 then (gd (I64 (n1_2 - 1)) (
 (at_ a6_9 (n1_2 - 1)).bind (fun z48_17 =>
 lt (a6_9.set (n1_2 - 1).toNat s0_8) (fun ys5_19 =>
 some ys5_19))))
 else (some a6_9))))) (s_0, y21_7, 0)))) (fun k3 => jn (fun (x18_4 : Bool) =>
 if x18_4 = true then (k3 y11_1)
 else (k3 n_1)) (fun k5 => if n_1 < 0 then (k5 true)
 else (k5 (decide (y11_1 < n_1))))))

noncomputable def internal_stringslite_IndexByte (s_0 : Str) (c_1 : Int) : Option Int :=
 some (ixB s_0 c_1)

noncomputable def internal_stringslite_Index (a_0 : Str) (a_1 : Str) : Option Int :=
 jn (fun (x16_1 : Bool) =>
 if x16_1 = true then (some 0)
 else (if (a_1.length : Int) = 1 then ((at_ a_1 0).bind (fun z29_3 =>
 (Sh.internal_stringslite_IndexByte a_0 (z29_3.toNat : Int)).bind (fun y30_4 =>
 some y30_4)))
 else (if (a_0.length : Int) ≤ (a_1.length : Int) then (some (-1))
 else (none)))) (fun k2 => if (a_1.length : Int) = 0 then (k2 true)
 else (k2 (decide (a_1 = a_0))))

noncomputable def strings_Index (s_0 : Str) (substr_1 : Str) : Option Int :=
 (Sh.internal_stringslite_Index s_0 substr_1).bind (fun y7_1 =>
 some y7_1)

noncomputable def strings_Count (s_0 : Str) (substr_1 : Str) : Option Int :=
 if (substr_1.length : Int) = 0 then ((Sh.unicode_utf8_RuneCountInString s_0).bind (fun y11_1 =>
 gd (I64 (y11_1 + 1)) (
 some (y11_1 + 1))))
 else (if (substr_1.length : Int) = 1 then ((at_ substr_1 0).bind (fun z18_2 =>
 some (cntB s_0 (z18_2.toNat : Int))))
 else (iter (fun ((s0_3, n5_4) : Str × Int) =>
 (Sh.strings_Index s0_3 substr_1).bind (fun y22_5 =>
 if y22_5 = (-1) then (up (some n5_4))
 else (gd (I64 (n5_4 + 1)) (
 gd (I64 (y22_5 + (substr_1.length : Int))) (
 gd ((0 : Int) ≤ (y22_5 + (substr_1.length : Int)) ∧ (y22_5 + (substr_1.length : Int)) ≤ (s0_3.length : Int)) (
 lt (s0_3.drop (y22_5 + (substr_1.length : Int)).toNat) (fun y33_6 =>
 go (y33_6, (n5_4 + 1))))))))) (s_0, 0)))

noncomputable def strings_genSplit (a_0 : Str) (a_1 : Str) (a_2 : Int) (a_3 : Int) : Option (List Str) :=
 if a_3 = 0 then (some [])
 else (if a_1 = [] then ((Sh.strings_explode a_0 a_3).bind (fun y18_1 =>
 some y18_1))
 else (jn (fun (x3_2 : Int) =>
 gd (I64 ((a_0.length : Int) + 1)) (
 gd ((0 : Int) ≤ (min x3_2 ((a_0.length : Int) + 1)) ∧ (min x3_2 ((a_0.length : Int) + 1)) ≤ 4294967296) (
 lt (List.replicate (min x3_2 ((a_0.length : Int) + 1)).toNat []) (fun y31_6 =>
 gd (I64 ((min x3_2 ((a_0.length : Int) + 1)) - 1)) (
 jn (fun ((x0_7, x9_8, x10_9) : Str × List Str × Int) =>
 (at_ x9_8 x10_9).bind (fun z61_20 =>
 lt (x9_8.set x10_9.toNat x0_7) (fun ys4_22 =>
 gd (I64 (x10_9 + 1)) (
 gd ((0 : Int) ≤ (x10_9 + 1) ∧ (x10_9 + 1) ≤ (ys4_22.length : Int)) (
 lt (ys4_22.take (x10_9 + 1).toNat) (fun y65_24 =>
 some y65_24)))))) (fun k10 => iter (fun ((x0_11, x9_12, x10_13) : Str × List Str × Int) =>
 if x10_13 < ((min x3_2 ((a_0.length : Int) + 1)) - 1) then ((Sh.strings_Index x0_11 a_1).bind (fun y39_14 =>
 if y39_14 < 0 then (up (k10 (x0_11, x9_12, x10_13)))
 else (gd (I64 (y39_14 + a_2)) (
 gd ((0 : Int) ≤ (y39_14 + a_2) ∧ (y39_14 + a_2) ≤ (x0_11.length : Int)) (
 lt (x0_11.take (y39_14 + a_2).toNat) (fun y48_15 =>
 (at_ x9_12 x10_13).bind (fun z49_16 =>
 lt (x9_12.set x10_13.toNat y48_15) (fun ys8_18 =>
 gd (I64 (y39_14 + (a_1.length : Int))) (
 gd ((0 : Int) ≤ (y39_14 + (a_1.length : Int)) ∧ (y39_14 + (a_1.length : Int)) ≤ (x0_11.length : Int)) (
 lt (x0_11.drop (y39_14 + (a_1.length : Int)).toNat) (fun y55_19 =>
 gd (I64 (x10_13 + 1)) (
 go (y55_19, ys8_18, (x10_13 + 1))))))))))))))
 else (up (k10 (x0_11, x9_12, x10_13)))) (a_0, y31_6, 0))))))) (fun k3 => if a_3 < 0 then ((Sh.strings_Count a_0 a_1).bind (fun y23_4 =>
 gd (I64 (y23_4 + 1)) (
 k3 (y23_4 + 1))))
 else (k3 a_3))))

noncomputable def strings_Split (s_0 : Str) (sep_1 : Str) : Option (List Str) :=
 (Sh.strings_genSplit s_0 sep_1 0 (-1)).bind (fun y7_1 =>
 some y7_1)

noncomputable def path_good (c_0 : Int) : Option Bool :=
 jn (fun (_ : Unit) =>
 if 97 ≤ c_0 then (if c_0 ≤ 122 then (some true)
 else (if 48 ≤ c_0 then (some (decide (c_0 ≤ 57)))
 else (some false)))
 else (if 48 ≤ c_0 then (some (decide (c_0 ≤ 57)))
 else (some false))) (fun k1 => jn (fun (_ : Unit) =>
 some true) (fun k2 => if c_0 = 46 then (k2 ())
 else (if c_0 = 45 then (k2 ())
 else (if c_0 = 95 then (k2 ())
 else (k1 ())))))

noncomputable def path_part (s_0 : Str) : Option Bool :=
 jn (fun (x14_1 : Bool) =>
 if x14_1 = true then (some false)
 else (gd (s_0.length ≤ 4294967296) (
 lt s_0 (fun y16_4 =>
 iter (fun (x18_5 : Int) =>
 if x18_5 < (y16_4.length : Int) then ((at_ y16_4 x18_5).bind (fun z20_6 =>
 (Sh.path_good (z20_6.toNat : Int)).bind (fun y23_7 =>
 if (!y23_7) = true then (up (some false))
 else (gd (I64 (x18_5 + 1)) (
 go (x18_5 + 1))))))
 else (up (some true))) 0)))) (fun k2 => if s_0 = [] then (k2 true)
 else (if s_0 = [46] then (k2 true)
 else (k2 (decide (s_0 = [46, 46])))))

noncomputable def path_Check (p_0 : Str) : Option Int :=
 if 64 < (p_0.length : Int) then (some 4)
 else ((Sh.strings_Split p_0 [47]).bind (fun y9_1 =>
 iter (fun (x11_2 : Int) =>
 if x11_2 < (y9_1.length : Int) then ((at_ y9_1 x11_2).bind (fun z13_3 =>
 (Sh.path_part z13_3).bind (fun y16_4 =>
 if (!y16_4) = true then (up (some 5))
 else (gd (I64 (x11_2 + 1)) (
 go (x11_2 + 1))))))
 else (up (some 0))) 0))

noncomputable def object_mode (m_0 : Int) : Option Bool :=
 jn (fun (_ : Unit) =>
 some true) (fun k1 => if m_0 = 1 then (k1 ())
 else (if m_0 = 2 then (k1 ())
 else (some false)))

noncomputable def cmp_isNaN_string (x_0 : Str) : Option Bool :=
 some (!decide (x_0 = x_0))

noncomputable def cmp_Compare_string (x_0 : Str) (y_1 : Str) : Option Int :=
 (Sh.cmp_isNaN_string x_0).bind (fun y8_1 =>
 (Sh.cmp_isNaN_string y_1).bind (fun y10_2 =>
 if y8_1 = true then (if y10_2 = true then (some 0)
 else (some (-1)))
 else (if y10_2 = true then (some 1)
 else (if (Op.bytesLess x_0 y_1) = true then (some (-1))
 else (if (!(Op.bytesLess x_0 y_1 || decide (x_0 = y_1))) = true then (some 1)
 else (some 0))))))

noncomputable def path_Compare (a_0 : Str) (b_1 : Str) : Option Int :=
 (Sh.cmp_Compare_string a_0 b_1).bind (fun y7_1 =>
 some y7_1)

noncomputable def internal_stringslite_HasPrefix (s_0 : Str) (prefix_1 : Str) : Option Bool :=
 if (prefix_1.length : Int) ≤ (s_0.length : Int) then (gd ((0 : Int) ≤ (prefix_1.length : Int) ∧ (prefix_1.length : Int) ≤ (s_0.length : Int)) (
 lt (s_0.take (prefix_1.length : Int).toNat) (fun y14_1 =>
 some (decide (y14_1 = prefix_1)))))
 else (some false)

noncomputable def strings_HasPrefix (s_0 : Str) (prefix_1 : Str) : Option Bool :=
 (Sh.internal_stringslite_HasPrefix s_0 prefix_1).bind (fun y7_1 =>
 some y7_1)

noncomputable def path_Under (p_0 : Str) (dir_1 : Str) : Option Bool :=
 if dir_1 = [] then (some (!decide (p_0 = [])))
 else (gd (I64 ((dir_1.length : Int) + 1)) (
 if ((dir_1.length : Int) + 1) < (p_0.length : Int) then (gd (dir_1.length + [47].length ≤ 9223372036854775807) (
 lt (dir_1 ++ [47]) (fun y18_1 =>
 (Sh.strings_HasPrefix p_0 y18_1).bind (fun y19_2 =>
 some y19_2))))
 else (some false)))

noncomputable def path_Clash (a_0 : Str) (b_1 : Str) : Option Bool :=
 if a_0 = [] then (some false)
 else (if b_1 = [] then (some false)
 else ((Sh.path_Under a_0 b_1).bind (fun y14_1 =>
 if y14_1 = true then (some true)
 else ((Sh.path_Under b_1 a_0).bind (fun y18_2 =>
 some y18_2)))))

noncomputable def object_item_1 (y_0 : ObjectItem) (a_1 : ObjectItem) : Option Bool :=
 (Sh.path_Clash y_0.path a_1.path).bind (fun y8_2 =>
 some y8_2)

noncomputable def slices_IndexFunc_object_Item_object_Item (s_0 : List ObjectItem) (f_1_0 : ObjectItem) : Option Int :=
 iter (fun (x8_1 : Int) =>
 if x8_1 < (s_0.length : Int) then ((at_ s_0 x8_1).bind (fun z14_2 =>
 (Sh.object_item_1 z14_2 f_1_0).bind (fun y16_3 =>
 if y16_3 = true then (up (some x8_1))
 else (gd (I64 (x8_1 + 1)) (
 go (x8_1 + 1))))))
 else (up (some (-1)))) 0

noncomputable def slices_ContainsFunc_object_Item_object_Item (s_0 : List ObjectItem) (f_1_0 : ObjectItem) : Option Bool :=
 (Sh.slices_IndexFunc_object_Item_object_Item s_0 f_1_0).bind (fun y7_1 =>
 some (decide (0 ≤ y7_1)))

noncomputable def object_item (l_0 : List ObjectItem) (i_1 : Int) : Option Int :=
 (at_ l_0 i_1).bind (fun z9_1 =>
 (Sh.path_Check z9_1.path).bind (fun y13_3 =>
 if y13_3 = 0 then (jn (fun (x17_4 : Bool) =>
 if x17_4 = true then (some 1)
 else (jn (fun (x27_7 : Bool) =>
 if x27_7 = true then (some 6)
 else (gd ((0 : Int) ≤ i_1 ∧ i_1 ≤ (l_0.length : Int)) (
 lt (l_0.take i_1.toNat) (fun y45_12 =>
 (Sh.slices_ContainsFunc_object_Item_object_Item y45_12 z9_1).bind (fun y47_13 =>
 if y47_13 = true then (some 11)
 else (some 0)))))) (fun k8 => if 0 < i_1 then (gd (I64 (i_1 - 1)) (
 (at_ l_0 (i_1 - 1)).bind (fun z34_9 =>
 (Sh.path_Compare z34_9.path z9_1.path).bind (fun y39_10 =>
 k8 (decide (0 ≤ y39_10))))))
 else (k8 false)))) (fun k5 => (Sh.object_mode z9_1.mode).bind (fun y20_6 =>
 if (!y20_6) = true then (k5 true)
 else (k5 (decide (z9_1.blob < 1))))))
 else (some y13_3)))

noncomputable def object_tree (o_0 : ObjectObjectP) : Option Err :=
 if 64 < (o_0.items.length : Int) then (some (Err.no 4))
 else (iter (fun (x13_2 : Int) =>
 if x13_2 < (o_0.items.length : Int) then ((Sh.object_item o_0.items x13_2).bind (fun y19_3 =>
 if y19_3 = 0 then (gd (I64 (x13_2 + 1)) (
 go (x13_2 + 1)))
 else (up (some (Err.fault [105, 116, 101, 109] x13_2 (Err.no y19_3))))))
 else (up (some Err.nil))) 0)

noncomputable def object_commit_1 (n_0 : Int) : Option Bool :=
 some (decide (n_0 < 1))

noncomputable def slices_IndexFunc_int_int (s_0 : List Int) : Option Int :=
 iter (fun (x8_1 : Int) =>
 if x8_1 < (s_0.length : Int) then ((at_ s_0 x8_1).bind (fun z14_2 =>
 (Sh.object_commit_1 z14_2).bind (fun y16_3 =>
 if y16_3 = true then (up (some x8_1))
 else (gd (I64 (x8_1 + 1)) (
 go (x8_1 + 1))))))
 else (up (some (-1)))) 0

noncomputable def slices_ContainsFunc_int_int (s_0 : List Int) : Option Bool :=
 (Sh.slices_IndexFunc_int_int s_0).bind (fun y7_1 =>
 some (decide (0 ≤ y7_1)))

noncomputable def object_commit (o_0 : ObjectObjectP) : Option Err :=
 jn (fun (x6_2 : Bool) =>
 if x6_2 = true then (some (Err.no 1))
 else (jn (fun (x25_5 : Bool) =>
 if x25_5 = true then (some (Err.no 6))
 else (if 256 < (o_0.text.length : Int) then (some (Err.no 4))
 else (some Err.nil))) (fun k6 => if (o_0.parents.length : Int) = 2 then ((at_ o_0.parents 0).bind (fun z31_7 =>
 (at_ o_0.parents 1).bind (fun z34_8 =>
 k6 (decide (z31_7 = z34_8)))))
 else (k6 false)))) (fun k3 => if o_0.tree < 1 then (k3 true)
 else (if 2 < (o_0.parents.length : Int) then (k3 true)
 else ((Sh.slices_ContainsFunc_int_int o_0.parents).bind (fun y17_4 =>
 if y17_4 = true then (k3 true)
 else (k3 (decide (o_0.time < 0)))))))

noncomputable def object_wrong (o_0 : ObjectObjectP) : Option Err :=
 if o_0.kind = 1 then (if 4096 < (o_0.data.length : Int) then (some (Err.no 4))
 else (some Err.nil))
 else (if o_0.kind = 2 then ((Sh.object_tree o_0).bind (fun y15_2 =>
 some y15_2))
 else (if o_0.kind = 3 then ((Sh.object_commit o_0).bind (fun y19_3 =>
 some y19_3))
 else (some (Err.no 1))))

noncomputable def object_fault (kind_0 : Int) (err_1 : Err) : Option Err :=
 some (Err.fault [111, 98, 106, 101, 99, 116] (min (max kind_0 0) 255) err_1)

noncomputable def object_Check (o_0 : ObjectObjectP) : Option Err :=
 (Sh.object_wrong o_0).bind (fun y5_2 =>
 if y5_2.isNil = true then (some Err.nil)
 else ((Sh.object_fault o_0.kind y5_2).bind (fun y11_3 =>
 some y11_3)))

noncomputable def codec_Enc_Int (e_0 : CodecEncP) (l_1 : List Int) : Option CodecEncP :=
 iter (fun ((x9_1, c0_2) : Int × List UInt8) =>
 if x9_1 < (l_1.length : Int) then ((at_ l_1 x9_1).bind (fun z11_3 =>
 iter (fun ((v6_4, c0_5) : Int × List UInt8) =>
 if 128 ≤ v6_4 then (gd ((0 : Int) ≤ (bOr .u8 (IntKind.wrap .u8 (bAnd .u64 v6_4 127)) 128) ∧ (bOr .u8 (IntKind.wrap .u8 (bAnd .u64 v6_4 127)) 128) ≤ 255) (
 lt (UInt8.ofNat (bOr .u8 (IntKind.wrap .u8 (bAnd .u64 v6_4 127)) 128).toNat) (fun u31_7 =>
 lt [u31_7] (fun y31_8 =>
 gd (c0_5.length + y31_8.length ≤ 4294967296) (
 lt (c0_5 ++ y31_8) (fun y32_10 =>
 go ((sHr .u64 v6_4 7), y32_10)))))))
 else (up (gd ((0 : Int) ≤ (IntKind.wrap .u8 v6_4) ∧ (IntKind.wrap .u8 v6_4) ≤ 255) (
 lt (UInt8.ofNat (IntKind.wrap .u8 v6_4).toNat) (fun u44_12 =>
 lt [u44_12] (fun y44_13 =>
 gd (c0_5.length + y44_13.length ≤ 4294967296) (
 lt (c0_5 ++ y44_13) (fun y45_15 =>
 gd (I64 (x9_1 + 1)) (
 go ((x9_1 + 1), y45_15)))))))))) ((bXor .u64 (sHl .u64 (IntKind.wrap .u64 z11_3) 1) (IntKind.wrap .u64 (sHr .i64 z11_3 63))), c0_2)))
 else (up (some ⟨c0_2⟩))) (0, e_0.b)

noncomputable def codec_Enc_Text (e_0 : CodecEncP) (l_1 : List Str) : Option CodecEncP :=
 iter (fun ((x8_1, c0_2) : Int × List UInt8) =>
 if x8_1 < (l_1.length : Int) then ((at_ l_1 x8_1).bind (fun z10_3 =>
 lt [(z10_3.length : Int)] (fun y15_5 =>
 (Sh.codec_Enc_Int (⟨c0_2⟩ : CodecEncP) y15_5).bind (fun y16_6 =>
 gd (y16_6.b.length + z10_3.length ≤ 4294967296) (
 lt (y16_6.b ++ z10_3) (fun y23_8 =>
 gd (I64 (x8_1 + 1)) (
 go ((x8_1 + 1), y23_8))))))))
 else (up (some ⟨c0_2⟩))) (0, e_0.b)

noncomputable def slices_Clone_byte_byte (s_0 : List UInt8) : Option (List UInt8) :=
 lt ([] : List UInt8) (fun y5_2 =>
 gd (y5_2.length + s_0.length ≤ 4294967296) (
 lt (y5_2 ++ s_0) (fun y7_4 =>
 some y7_4)))

noncomputable def slices_Clip_byte_byte (s_0 : List UInt8) : Option (List UInt8) :=
 gd ((0 : Int) ≤ (s_0.length : Int) ∧ (s_0.length : Int) ≤ (s_0.length : Int)) (
 lt (s_0.take (s_0.length : Int).toNat) (fun y8_2 =>
 some y8_2))

noncomputable def codec_Enc_Bytes (e_0 : CodecEncP) : Option (List UInt8) :=
 (Sh.slices_Clone_byte_byte e_0.b).bind (fun y7_1 =>
 (Sh.slices_Clip_byte_byte y7_1).bind (fun y8_2 =>
 some y8_2))

noncomputable def seal_Sum (parts_0 : List (List UInt8)) : Option Int :=
 iter (fun ((sum3_1, x11_2) : Int × Int) =>
 if x11_2 < (parts_0.length : Int) then ((at_ parts_0 x11_2).bind (fun z13_3 =>
 iter (fun ((sum3_4, x17_5) : Int × Int) =>
 if x17_5 < (z13_3.length : Int) then ((at_ z13_3 x17_5).bind (fun z19_6 =>
 iter (fun ((sum3_7, x25_8) : Int × Int) =>
 if x25_8 < 8 then (if (bAnd .u32 sum3_7 1) = 1 then (gd (I64 (x25_8 + 1)) (
 go ((bXor .u32 (sHr .u32 sum3_7 1) 3988292384), (x25_8 + 1))))
 else (gd (I64 (x25_8 + 1)) (
 go ((sHr .u32 sum3_7 1), (x25_8 + 1)))))
 else (up (gd (I64 (x17_5 + 1)) (
 go (sum3_7, (x17_5 + 1)))))) ((bXor .u32 sum3_4 (IntKind.wrap .u32 (z19_6.toNat : Int))), 0)))
 else (up (gd (I64 (x11_2 + 1)) (
 go (sum3_4, (x11_2 + 1)))))) (sum3_1, 0)))
 else (up (some (bNot .u32 sum3_1)))) (4294967295, 0)

noncomputable def slices_Grow_byte_byte (n_1 : Int) : Option (List UInt8) :=
 if n_1 < 0 then (none)
 else (gd (I64 (0 - 0)) (
 gd (I64 (n_1 - (0 - 0))) (
 if 0 < (n_1 - (0 - 0)) then (gd ((0 : Int) < (n_1 - (0 - 0)) ∧ (n_1 - (0 - 0)) ≤ 4294967296) (
 lt (List.replicate (n_1 - (0 - 0)).toNat (0 : UInt8)) (fun y22_2 =>
 lt ([] : List UInt8) (fun y25_4 =>
 some y25_4))))
 else (some []))))

noncomputable def slices_Concat_byte_byte (slices_0 : List (List UInt8)) : Option (List UInt8) :=
 iter (fun ((size3_1, x11_2) : Int × Int) =>
 if x11_2 < (slices_0.length : Int) then ((at_ slices_0 x11_2).bind (fun z13_3 =>
 gd (I64 (size3_1 + (z13_3.length : Int))) (
 if (size3_1 + (z13_3.length : Int)) < 0 then (none)
 else (gd (I64 (x11_2 + 1)) (
 go ((size3_1 + (z13_3.length : Int)), (x11_2 + 1)))))))
 else (up ((Sh.slices_Grow_byte_byte size3_1).bind (fun y24_4 =>
 iter (fun ((newslice6_5, x27_6) : List UInt8 × Int) =>
 if x27_6 < (slices_0.length : Int) then ((at_ slices_0 x27_6).bind (fun z29_7 =>
 gd (newslice6_5.length + z29_7.length ≤ 4294967296) (
 lt (newslice6_5 ++ z29_7) (fun y33_9 =>
 gd (I64 (x27_6 + 1)) (
 go (y33_9, (x27_6 + 1)))))))
 else (up (some newslice6_5))) (y24_4, 0))))) (0, 0)

noncomputable def seal_Put (b_0 : List UInt8) : Option (List UInt8) :=
 lt [b_0] (fun y5_2 =>
 (Sh.seal_Sum y5_2).bind (fun y6_3 =>
 gd ((0 : Int) ≤ (IntKind.wrap .u8 y6_3) ∧ (IntKind.wrap .u8 y6_3) ≤ 255) (
 lt (UInt8.ofNat (IntKind.wrap .u8 y6_3).toNat) (fun u19_5 =>
 gd ((0 : Int) ≤ (IntKind.wrap .u8 (sHr .u32 y6_3 8)) ∧ (IntKind.wrap .u8 (sHr .u32 y6_3 8)) ≤ 255) (
 lt (UInt8.ofNat (IntKind.wrap .u8 (sHr .u32 y6_3 8)).toNat) (fun u19_6 =>
 gd ((0 : Int) ≤ (IntKind.wrap .u8 (sHr .u32 y6_3 16)) ∧ (IntKind.wrap .u8 (sHr .u32 y6_3 16)) ≤ 255) (
 lt (UInt8.ofNat (IntKind.wrap .u8 (sHr .u32 y6_3 16)).toNat) (fun u19_7 =>
 gd ((0 : Int) ≤ (IntKind.wrap .u8 (sHr .u32 y6_3 24)) ∧ (IntKind.wrap .u8 (sHr .u32 y6_3 24)) ≤ 255) (
 lt (UInt8.ofNat (IntKind.wrap .u8 (sHr .u32 y6_3 24)).toNat) (fun u19_8 =>
 lt [u19_5, u19_6, u19_7, u19_8] (fun y19_9 =>
 lt [b_0, y19_9] (fun y20_11 =>
 (Sh.slices_Concat_byte_byte y20_11).bind (fun y21_12 =>
 some y21_12)))))))))))))

noncomputable def object_Encode (a_0 : ObjectObjectP) : Option (List UInt8 × Err) :=
 (Sh.object_Check a_0).bind (fun y9_2 =>
 if y9_2.isNil = true then (lt [a_0.kind] (fun y15_5 =>
 (Sh.codec_Enc_Int (⟨([] : List UInt8)⟩ : CodecEncP) y15_5).bind (fun y16_6 =>
 jn (fun (c0_7 : List UInt8) =>
 (Sh.codec_Enc_Bytes (⟨c0_7⟩ : CodecEncP)).bind (fun y71_35 =>
 (Sh.seal_Put y71_35).bind (fun y72_36 =>
 some (y72_36, Err.nil)))) (fun k8 => if a_0.kind = 1 then (lt [a_0.data] (fun y24_10 =>
 (Sh.codec_Enc_Text y16_6 y24_10).bind (fun y25_11 =>
 k8 y25_11.b)))
 else (if a_0.kind = 2 then (lt [(a_0.items.length : Int)] (fun y31_13 =>
 (Sh.codec_Enc_Int y16_6 y31_13).bind (fun y32_14 =>
 iter (fun ((x36_15, c0_16) : Int × List UInt8) =>
 if x36_15 < (a_0.items.length : Int) then ((at_ a_0.items x36_15).bind (fun z38_17 =>
 lt [z38_17.path] (fun y42_20 =>
 (Sh.codec_Enc_Text (⟨c0_16⟩ : CodecEncP) y42_20).bind (fun y43_21 =>
 lt [z38_17.mode, z38_17.blob] (fun y48_23 =>
 (Sh.codec_Enc_Int y43_21 y48_23).bind (fun y49_24 =>
 gd (I64 (x36_15 + 1)) (
 go ((x36_15 + 1), y49_24.b))))))))
 else (up (k8 c0_16))) (0, y32_14.b))))
 else (if a_0.kind = 3 then (lt [a_0.tree, (a_0.parents.length : Int)] (fun y58_26 =>
 (Sh.codec_Enc_Int y16_6 y58_26).bind (fun y59_27 =>
 (Sh.codec_Enc_Int y59_27 a_0.parents).bind (fun y62_28 =>
 lt [a_0.time] (fun y65_30 =>
 (Sh.codec_Enc_Int y62_28 y65_30).bind (fun y66_31 =>
 lt [a_0.text] (fun y69_33 =>
 (Sh.codec_Enc_Text y66_31 y69_33).bind (fun y70_34 =>
 k8 y70_34.b))))))))
 else (k8 y16_6.b)))))))
 else (some ([], y9_2)))

noncomputable def bytes_Equal (a_0 : List UInt8) (b_1 : List UInt8) : Option Bool :=
 some (decide (a_0 = b_1))

noncomputable def seal_Open (b_0 : List UInt8) : Option (List UInt8 × Err) :=
 if (b_0.length : Int) < 4 then (some ([], (Err.fault [115, 117, 109] (b_0.length : Int) (Err.no 3))))
 else (gd (I64 ((b_0.length : Int) - 4)) (
 gd ((0 : Int) ≤ ((b_0.length : Int) - 4) ∧ ((b_0.length : Int) - 4) ≤ (b_0.length : Int)) (
 lt (b_0.take ((b_0.length : Int) - 4).toNat) (fun y18_3 =>
 (Sh.seal_Put y18_3).bind (fun y20_4 =>
 (Sh.bytes_Equal y20_4 b_0).bind (fun y22_5 =>
 if (!y22_5) = true then (some ([], (Err.fault [115, 117, 109] (b_0.length : Int) (Err.no 12))))
 else ((Sh.slices_Clone_byte_byte y18_3).bind (fun y31_7 =>
 (Sh.slices_Clip_byte_byte y31_7).bind (fun y32_8 =>
 some (y32_8, Err.nil))))))))))

noncomputable def codec_Of (b_0 : List UInt8) : Option CodecDecP :=
 (Sh.slices_Clone_byte_byte b_0).bind (fun y4_1 =>
 some ⟨y4_1, 0, Err.nil⟩)

noncomputable def codec_Dec_uint (a_0 : CodecDecP) : Option (Int × Int × CodecDecP) :=
 iter (fun ((x4_1, x7_2) : Int × Int) =>
 if x7_2 < 10 then (gd (I64 (a_0.at_ + x7_2)) (
 if (a_0.b.length : Int) ≤ (a_0.at_ + x7_2) then (up (some (0, 3, ⟨a_0.b, a_0.at_, a_0.err⟩)))
 else (gd (I64 (a_0.at_ + x7_2)) (
 (at_ a_0.b (a_0.at_ + x7_2)).bind (fun z32_3 =>
 jn (fun (_ : Unit) =>
 gd (I64 (7 * x7_2)) (
 gd ((0 : Int) ≤ (7 * x7_2)) (
 if (z32_3.toNat : Int) < 128 then (gd (I64 (x7_2 + 1)) (
 gd (I64 (a_0.at_ + (x7_2 + 1))) (
 up (some ((bOr .u64 x4_1 (sHl .u64 (IntKind.wrap .u64 (bAnd .u8 (z32_3.toNat : Int) 127)) (7 * x7_2))), 0, ⟨a_0.b, (a_0.at_ + (x7_2 + 1)), a_0.err⟩)))))
 else (gd (I64 (x7_2 + 1)) (
 go ((bOr .u64 x4_1 (sHl .u64 (IntKind.wrap .u64 (bAnd .u8 (z32_3.toNat : Int) 127)) (7 * x7_2))), (x7_2 + 1))))))) (fun k4 => if x7_2 = 9 then (if 1 < (z32_3.toNat : Int) then (up (some (0, 2, ⟨a_0.b, a_0.at_, a_0.err⟩)))
 else (if 0 < x7_2 then (if (z32_3.toNat : Int) = 0 then (up (some (0, 2, ⟨a_0.b, a_0.at_, a_0.err⟩)))
 else (k4 ()))
 else (k4 ())))
 else (if 0 < x7_2 then (if (z32_3.toNat : Int) = 0 then (up (some (0, 2, ⟨a_0.b, a_0.at_, a_0.err⟩)))
 else (k4 ()))
 else (k4 ()))))))))
 else (up (some (0, 2, ⟨a_0.b, a_0.at_, a_0.err⟩)))) (0, 0)

noncomputable def codec_Dec_fail (d_0 : CodecDecP) (at_1 : Int) (e_2 : Int) : Option CodecDecP :=
 some ⟨d_0.b, d_0.at_, (Err.fault [98, 121, 116, 101] at_1 (Err.no e_2))⟩

noncomputable def codec_Dec_Int (d_0 : CodecDecP) : Option (Int × CodecDecP) :=
 if d_0.err.isNil = true then ((Sh.codec_Dec_uint d_0).bind (fun y17_1 =>
 if y17_1.2.1 = 0 then (some ((bXor .i64 (IntKind.wrap .i64 (sHr .u64 y17_1.1 1)) (IntKind.wrap .i64 (0 - (IntKind.wrap .i64 (bAnd .u64 y17_1.1 1))))), ⟨y17_1.2.2.b, y17_1.2.2.at_, y17_1.2.2.err⟩))
 else ((Sh.codec_Dec_fail y17_1.2.2 d_0.at_ y17_1.2.1).bind (fun y25_2 =>
 some (0, ⟨y25_2.b, y25_2.at_, y25_2.err⟩)))))
 else (some (0, ⟨d_0.b, d_0.at_, d_0.err⟩))

noncomputable def codec_Dec_Text (a_0 : CodecDecP) : Option (Str × CodecDecP) :=
 (Sh.codec_Dec_Int a_0).bind (fun y11_1 =>
 if y11_1.2.err.isNil = true then (if y11_1.1 < 0 then ((Sh.codec_Dec_fail y11_1.2 a_0.at_ 2).bind (fun y23_2 =>
 some ([], ⟨y23_2.b, y23_2.at_, y23_2.err⟩)))
 else (gd (I64 ((y11_1.2.b.length : Int) - y11_1.2.at_)) (
 if ((y11_1.2.b.length : Int) - y11_1.2.at_) < y11_1.1 then ((Sh.codec_Dec_fail y11_1.2 a_0.at_ 3).bind (fun y39_3 =>
 some ([], ⟨y39_3.b, y39_3.at_, y39_3.err⟩)))
 else (gd (I64 (y11_1.2.at_ + y11_1.1)) (
 gd ((0 : Int) ≤ y11_1.2.at_ ∧ y11_1.2.at_ ≤ (y11_1.2.at_ + y11_1.1) ∧ (y11_1.2.at_ + y11_1.1) ≤ (y11_1.2.b.length : Int)) (
 lt ((y11_1.2.b.drop y11_1.2.at_.toNat).take ((y11_1.2.at_ + y11_1.1).toNat - y11_1.2.at_.toNat)) (fun y54_5 =>
 gd (I64 (y11_1.2.at_ + y11_1.1)) (
 some (y54_5, ⟨y11_1.2.b, (y11_1.2.at_ + y11_1.1), y11_1.2.err⟩)))))))))
 else (some ([], ⟨y11_1.2.b, y11_1.2.at_, y11_1.2.err⟩)))

noncomputable def object_reader_many (r_0 : ObjectReader) (r_0_dec : CodecDecP) : Option (Int × CodecDecP × ObjectReader) :=
 (Sh.codec_Dec_Int r_0_dec).bind (fun y8_1 =>
 jn (fun (x14_2 : Bool) =>
 if x14_2 = true then (some (0, ⟨y8_1.2.b, y8_1.2.at_, y8_1.2.err⟩, ⟨true⟩))
 else (some (y8_1.1, ⟨y8_1.2.b, y8_1.2.at_, y8_1.2.err⟩, ⟨r_0.bad⟩))) (fun k3 => if y8_1.1 < 0 then (k3 true)
 else (k3 (decide (64 < y8_1.1)))))

noncomputable def slices_Clip_object_Item_object_Item (s_0 : List ObjectItem) : Option (List ObjectItem) :=
 gd ((0 : Int) ≤ (s_0.length : Int) ∧ (s_0.length : Int) ≤ (s_0.length : Int)) (
 lt (s_0.take (s_0.length : Int).toNat) (fun y8_2 =>
 some y8_2))

noncomputable def object_reader_items (r_0 : ObjectReader) (r_0_dec : CodecDecP) : Option (List ObjectItem × CodecDecP × ObjectReader) :=
 (Sh.object_reader_many r_0 r_0_dec).bind (fun y5_1 =>
 iter (fun ((out3_2, x6_3, c0_4, c1_5, c2_6) : List ObjectItem × Int × List UInt8 × Int × Err) =>
 if x6_3 < y5_1.1 then ((Sh.codec_Dec_Text (⟨c0_4, c1_5, c2_6⟩ : CodecDecP)).bind (fun y13_7 =>
 (Sh.codec_Dec_Int y13_7.2).bind (fun y18_8 =>
 (Sh.codec_Dec_Int y18_8.2).bind (fun y23_9 =>
 lt [⟨y13_7.1, y18_8.1, y23_9.1⟩] (fun y25_11 =>
 gd (out3_2.length + y25_11.length ≤ 4294967296) (
 lt (out3_2 ++ y25_11) (fun y26_13 =>
 gd (I64 (x6_3 + 1)) (
 go (y26_13, (x6_3 + 1), y23_9.2.b, y23_9.2.at_, y23_9.2.err)))))))))
 else (up ((Sh.slices_Clip_object_Item_object_Item out3_2).bind (fun y29_14 =>
 some (y29_14, ⟨c0_4, c1_5, c2_6⟩, ⟨y5_1.2.2.bad⟩))))) ([], 0, y5_1.2.1.b, y5_1.2.1.at_, y5_1.2.1.err))

noncomputable def slices_Clip_int_int (s_0 : List Int) : Option (List Int) :=
 gd ((0 : Int) ≤ (s_0.length : Int) ∧ (s_0.length : Int) ≤ (s_0.length : Int)) (
 lt (s_0.take (s_0.length : Int).toNat) (fun y8_2 =>
 some y8_2))

noncomputable def object_reader_numbers (r_0 : ObjectReader) (r_0_dec : CodecDecP) : Option (List Int × CodecDecP × ObjectReader) :=
 (Sh.object_reader_many r_0 r_0_dec).bind (fun y5_1 =>
 iter (fun ((out3_2, x6_3, c0_4, c1_5, c2_6) : List Int × Int × List UInt8 × Int × Err) =>
 if x6_3 < y5_1.1 then ((Sh.codec_Dec_Int (⟨c0_4, c1_5, c2_6⟩ : CodecDecP)).bind (fun y13_7 =>
 lt [y13_7.1] (fun y14_9 =>
 gd (out3_2.length + y14_9.length ≤ 4294967296) (
 lt (out3_2 ++ y14_9) (fun y15_11 =>
 gd (I64 (x6_3 + 1)) (
 go (y15_11, (x6_3 + 1), y13_7.2.b, y13_7.2.at_, y13_7.2.err)))))))
 else (up ((Sh.slices_Clip_int_int out3_2).bind (fun y18_12 =>
 some (y18_12, ⟨c0_4, c1_5, c2_6⟩, ⟨y5_1.2.2.bad⟩))))) ([], 0, y5_1.2.1.b, y5_1.2.1.at_, y5_1.2.1.err))

noncomputable def object_reader_object (r_0 : ObjectReader) (r_0_dec : CodecDecP) : Option (ObjectObjectP × CodecDecP × ObjectReader) :=
 (Sh.codec_Dec_Int r_0_dec).bind (fun y8_2 =>
 if y8_2.1 = 1 then ((Sh.codec_Dec_Text y8_2.2).bind (fun y18_4 =>
 gd (y18_4.1.length ≤ 4294967296) (
 lt y18_4.1 (fun y19_6 =>
 some (⟨y8_2.1, y19_6, [], 0, [], 0, []⟩, ⟨y18_4.2.b, y18_4.2.at_, y18_4.2.err⟩, ⟨r_0.bad⟩)))))
 else (if y8_2.1 = 2 then ((Sh.object_reader_items r_0 y8_2.2).bind (fun y24_7 =>
 some (⟨y8_2.1, [], y24_7.1, 0, [], 0, []⟩, ⟨y24_7.2.1.b, y24_7.2.1.at_, y24_7.2.1.err⟩, ⟨y24_7.2.2.bad⟩)))
 else (if y8_2.1 = 3 then ((Sh.codec_Dec_Int y8_2.2).bind (fun y32_8 =>
 (Sh.object_reader_numbers r_0 y32_8.2).bind (fun y35_9 =>
 (Sh.codec_Dec_Int y35_9.2.1).bind (fun y41_10 =>
 (Sh.codec_Dec_Text y41_10.2).bind (fun y46_11 =>
 some (⟨y8_2.1, [], [], y32_8.1, y35_9.1, y41_10.1, y46_11.1⟩, ⟨y46_11.2.b, y46_11.2.at_, y46_11.2.err⟩, ⟨y35_9.2.2.bad⟩))))))
 else (some (⟨y8_2.1, [], [], 0, [], 0, []⟩, ⟨y8_2.2.b, y8_2.2.at_, y8_2.2.err⟩, ⟨r_0.bad⟩)))))

noncomputable def codec_Dec_Err (d_0 : CodecDecP) : Option Err :=
 some d_0.err

noncomputable def codec_Dec_Left (d_0 : CodecDecP) : Option Int :=
 if d_0.err.isNil = true then (gd (I64 ((d_0.b.length : Int) - d_0.at_)) (
 some ((d_0.b.length : Int) - d_0.at_)))
 else (some 0)

noncomputable def object_Decode (a_0 : List UInt8) : Option (ObjectObjectP × Err) :=
 (Sh.seal_Open a_0).bind (fun y12_2 =>
 if y12_2.2.isNil = true then ((Sh.codec_Of y12_2.1).bind (fun y20_3 =>
 (Sh.object_reader_object (⟨false⟩ : ObjectReader) y20_3).bind (fun y24_5 =>
 if y24_5.2.2.bad = true then ((Sh.object_fault 0 (Err.no 2)).bind (fun y31_7 =>
 some (⟨0, [], [], 0, [], 0, []⟩, y31_7)))
 else ((Sh.codec_Dec_Err y24_5.2.1).bind (fun y36_8 =>
 if y36_8.isNil = true then ((Sh.codec_Dec_Left y24_5.2.1).bind (fun y45_9 =>
 if 0 < y45_9 then ((Sh.object_fault 0 (Err.no 2)).bind (fun y49_10 =>
 some (⟨0, [], [], 0, [], 0, []⟩, y49_10)))
 else ((Sh.object_Encode y24_5.1).bind (fun y52_11 =>
 if y52_11.2.isNil = true then ((Sh.bytes_Equal y52_11.1 a_0).bind (fun y61_12 =>
 if (!y61_12) = true then ((Sh.object_fault 0 (Err.no 2)).bind (fun y65_13 =>
 some (⟨0, [], [], 0, [], 0, []⟩, y65_13)))
 else (some (⟨y24_5.1.kind, y24_5.1.data, y24_5.1.items, y24_5.1.tree, y24_5.1.parents, y24_5.1.time, y24_5.1.text⟩, Err.nil))))
 else (some (⟨0, [], [], 0, [], 0, []⟩, y52_11.2))))))
 else (some (⟨0, [], [], 0, [], 0, []⟩, y36_8)))))))
 else (some (⟨0, [], [], 0, [], 0, []⟩, y12_2.2)))

noncomputable def slices_Equal_object_Item_object_Item (s1_0 : List ObjectItem) (s2_1 : List ObjectItem) : Option Bool :=
 if (s1_0.length : Int) = (s2_1.length : Int) then (iter (fun (x13_1 : Int) =>
 if x13_1 < (s1_0.length : Int) then ((at_ s1_0 x13_1).bind (fun z18_2 =>
 (at_ s2_1 x13_1).bind (fun z22_3 =>
 if z18_2.path = z22_3.path ∧ z18_2.mode = z22_3.mode ∧ z18_2.blob = z22_3.blob then (gd (I64 (x13_1 + 1)) (
 go (x13_1 + 1)))
 else (up (some false)))))
 else (up (some true))) 0)
 else (some false)

noncomputable def slices_Equal_int_int (s1_0 : List Int) (s2_1 : List Int) : Option Bool :=
 if (s1_0.length : Int) = (s2_1.length : Int) then (iter (fun (x13_1 : Int) =>
 if x13_1 < (s1_0.length : Int) then ((at_ s1_0 x13_1).bind (fun z18_2 =>
 (at_ s2_1 x13_1).bind (fun z22_3 =>
 if z18_2 = z22_3 then (gd (I64 (x13_1 + 1)) (
 go (x13_1 + 1)))
 else (up (some false)))))
 else (up (some true))) 0)
 else (some false)

noncomputable def object_Same (a_0 : ObjectObjectP) (b_1 : ObjectObjectP) : Option Bool :=
 if a_0.kind = b_1.kind then (if a_0.kind = 1 then ((Sh.bytes_Equal a_0.data b_1.data).bind (fun y18_3 =>
 some y18_3))
 else (if a_0.kind = 2 then ((Sh.slices_Equal_object_Item_object_Item a_0.items b_1.items).bind (fun y25_4 =>
 some y25_4))
 else (if a_0.kind = 3 then (if a_0.tree = b_1.tree then ((Sh.slices_Equal_int_int a_0.parents b_1.parents).bind (fun y38_5 =>
 if y38_5 = true then (if a_0.time = b_1.time then (some (decide (a_0.text = b_1.text)))
 else (some false))
 else (some false)))
 else (some false))
 else (some true))))
 else (some false)

noncomputable def rectolaw7_known  : Option Bool :=
 lt [⟨[97], 1, 3⟩] (fun y9_2 =>
 (Sh.object_Encode (⟨2, [], y9_2, 0, [], 0, []⟩ : ObjectObjectP)).bind (fun y13_4 =>
 (Sh.object_Decode y13_4.1).bind (fun y18_5 =>
 (Sh.object_Encode (⟨0, [], [], 0, [], 0, []⟩ : ObjectObjectP)).bind (fun y23_7 =>
 if y13_4.2.isNil = true then (if y18_5.2.isNil = true then (if y23_7.2.isNil = true then (some false)
 else ((Sh.object_Same y18_5.1 (⟨2, [], y9_2, 0, [], 0, []⟩ : ObjectObjectP)).bind (fun y39_8 =>
 if y39_8 = true then ((Sh.object_Check (⟨2, [], y9_2, 0, [], 0, []⟩ : ObjectObjectP)).bind (fun y43_9 =>
 if y43_9.isNil = true then ((Sh.object_Same (⟨2, [], y9_2, 0, [], 0, []⟩ : ObjectObjectP) (⟨2, [], [], 0, [], 0, []⟩ : ObjectObjectP)).bind (fun y49_10 =>
 some (!y49_10)))
 else (some false)))
 else (some false))))
 else (some false))
 else (some false)))))

noncomputable def rectolaw7_Few (o_0 : ObjectObjectP) : Option Bool :=
 jn (fun (x25_2 : Bool) =>
 if x25_2 = true then (some false)
 else (iter (fun (i3_4 : Int) =>
 if i3_4 < (o_0.items.length : Int) then ((at_ o_0.items i3_4).bind (fun z36_5 =>
 if 100 < (z36_5.path.length : Int) then (up (some false))
 else (gd (I64 (i3_4 + 1)) (
 go (i3_4 + 1)))))
 else (up (some true))) 0)) (fun k3 => if 5000 < (o_0.data.length : Int) then (k3 true)
 else (if 80 < (o_0.items.length : Int) then (k3 true)
 else (if 80 < (o_0.parents.length : Int) then (k3 true)
 else (k3 (decide (400 < (o_0.text.length : Int)))))))

noncomputable def rectolaw7_Of (o_0 : ObjectObjectP) : Option Rectoref7ObjectP :=
 iter (fun ((i4_4, c2_5) : Int × List Rectoref7Item) =>
 if i4_4 < (o_0.items.length : Int) then ((at_ o_0.items i4_4).bind (fun z31_6 =>
 (at_ o_0.items i4_4).bind (fun z37_7 =>
 (at_ o_0.items i4_4).bind (fun z43_8 =>
 lt [⟨z31_6.path, z37_7.mode, z43_8.blob⟩] (fun y47_10 =>
 gd (c2_5.length + y47_10.length ≤ 4294967296) (
 lt (c2_5 ++ y47_10) (fun y48_12 =>
 gd (I64 (i4_4 + 1)) (
 go ((i4_4 + 1), y48_12)))))))))
 else (up (some ⟨o_0.kind, o_0.data, c2_5, o_0.tree, o_0.parents, o_0.time, o_0.text⟩))) (0, ([] : List Rectoref7Item))

noncomputable def rectoref7_Same (a_0 : Rectoref7ObjectP) (a_1 : Rectoref7ObjectP) : Option Bool :=
 if a_0.kind = a_1.kind then (if a_0.kind = 1 then (some (decide (a_0.data = a_1.data)))
 else (if a_0.kind = 2 then (if (a_0.items.length : Int) = (a_1.items.length : Int) then (iter (fun (x5_3 : Int) =>
 if x5_3 < (a_0.items.length : Int) then ((at_ a_0.items x5_3).bind (fun z40_4 =>
 (at_ a_1.items x5_3).bind (fun z45_5 =>
 if z40_4.path = z45_5.path ∧ z40_4.mode = z45_5.mode ∧ z40_4.blob = z45_5.blob then (gd (I64 (x5_3 + 1)) (
 go (x5_3 + 1)))
 else (up (some false)))))
 else (up (some true))) 0)
 else (some false))
 else (if a_0.kind = 3 then (jn (fun (x77_6 : Bool) =>
 if x77_6 = true then (some false)
 else (iter (fun (x6_8 : Int) =>
 if x6_8 < (a_0.parents.length : Int) then ((at_ a_0.parents x6_8).bind (fun z88_9 =>
 (at_ a_1.parents x6_8).bind (fun z93_10 =>
 if z88_9 = z93_10 then (gd (I64 (x6_8 + 1)) (
 go (x6_8 + 1)))
 else (up (some false)))))
 else (up (some true))) 0)) (fun k7 => if a_0.tree = a_1.tree then (if (a_0.parents.length : Int) = (a_1.parents.length : Int) then (if a_0.time = a_1.time then (k7 (!decide (a_0.text = a_1.text)))
 else (k7 true))
 else (k7 true))
 else (k7 true)))
 else (some true))))
 else (some false)

noncomputable def rectolaw7_ObjectTwo (a_0 : ObjectObjectP) (b_1 : ObjectObjectP) : Option Bool :=
 (Sh.rectolaw7_known).bind (fun y6_3 =>
 if (!y6_3) = true then (some false)
 else (jn (fun (x15_4 : Bool) =>
 if x15_4 = true then (some true)
 else ((Sh.object_Same a_0 b_1).bind (fun y18_8 =>
 (Sh.object_Same b_1 a_0).bind (fun y22_9 =>
 if y18_8 = y22_9 then (if a_0.kind < 1 then (some true)
 else (if 3 < a_0.kind then (some true)
 else (if b_1.kind < 1 then (some true)
 else (if 3 < b_1.kind then (some true)
 else ((Sh.rectolaw7_Of a_0).bind (fun y45_10 =>
 (Sh.rectolaw7_Of b_1).bind (fun y47_11 =>
 (Sh.rectoref7_Same y45_10 y47_11).bind (fun y48_12 =>
 some (decide (y18_8 = y48_12))))))))))
 else (some false))))) (fun k5 => (Sh.rectolaw7_Few a_0).bind (fun y9_6 =>
 if (!y9_6) = true then (k5 true)
 else ((Sh.rectolaw7_Few b_1).bind (fun y13_7 =>
 k5 (!y13_7)))))))

end Go.S.Sh
end

section
namespace Go.V
open Go.RowKit
open Go.S hiding Str
instance : ErNo := ⟨97, 110⟩
instance : Dat ObjectItem := ⟨3, fun x => [str x.path, i64 x.mode, i64 x.blob], fun _ => rfl, fun _ u h => by simp only [List.mem_cons, List.not_mem_nil, or_false] at h; rcases h with rfl | rfl | rfl <;> first | rfl | exact Er.one _, fun _ => Mo.tt⟩
instance : Flat ObjectItem := ⟨fun _ => rfl⟩
structure ObjectObject where
  kind : Int
  data : Sv UInt8
  items : Sv ObjectItem
  tree : Int
  parents : Sv Int
  time : Int
  text : Str
@[reducible] def ObjectObject.m (x : ObjectObject) : Mo := (x.data.ok.and (x.items.ok.and x.parents.ok))
def ObjectObject.pl (x : ObjectObject) : ObjectObjectP := ⟨x.kind, x.data.l, x.items.l, x.tree, x.parents.l, x.time, x.text⟩
instance : Dat ObjectObject := ⟨7, fun x => [i64 x.kind, x.data.val, x.items.val, i64 x.tree, x.parents.val, i64 x.time, str x.text], fun _ => rfl, fun _ u h => by simp only [List.mem_cons, List.not_mem_nil, or_false] at h; rcases h with rfl | rfl | rfl | rfl | rfl | rfl | rfl <;> first | rfl | exact Er.one _, ObjectObject.m⟩
structure CodecEnc where
  b : Sv UInt8
@[reducible] def CodecEnc.m (x : CodecEnc) : Mo := x.b.ok
def CodecEnc.pl (x : CodecEnc) : CodecEncP := ⟨x.b.l⟩
instance : Dat CodecEnc := ⟨1, fun x => [x.b.val], fun _ => rfl, fun _ u h => by simp only [List.mem_cons, List.not_mem_nil, or_false] at h; rcases h with rfl <;> first | rfl | exact Er.one _, CodecEnc.m⟩
structure CodecDec where
  b : Sv UInt8
  at_ : Int
  err : Er
@[reducible] def CodecDec.m (x : CodecDec) : Mo := (x.b.ok.and x.err.ok)
def CodecDec.pl (x : CodecDec) : CodecDecP := ⟨x.b.l, x.at_, x.err.pl⟩
instance : Dat CodecDec := ⟨3, fun x => [x.b.val, i64 x.at_, x.err.val], fun _ => rfl, fun _ u h => by simp only [List.mem_cons, List.not_mem_nil, or_false] at h; rcases h with rfl | rfl | rfl <;> first | rfl | exact Er.one _, CodecDec.m⟩
instance : Dat Rectoref7Item := ⟨3, fun x => [str x.path, i64 x.mode, i64 x.blob], fun _ => rfl, fun _ u h => by simp only [List.mem_cons, List.not_mem_nil, or_false] at h; rcases h with rfl | rfl | rfl <;> first | rfl | exact Er.one _, fun _ => Mo.tt⟩
instance : Flat Rectoref7Item := ⟨fun _ => rfl⟩
structure Rectoref7Object where
  kind : Int
  data : Str
  items : Sv Rectoref7Item
  tree : Int
  parents : Sv Int
  time : Int
  text : Str
@[reducible] def Rectoref7Object.m (x : Rectoref7Object) : Mo := (x.items.ok.and x.parents.ok)
def Rectoref7Object.pl (x : Rectoref7Object) : Rectoref7ObjectP := ⟨x.kind, x.data, x.items.l, x.tree, x.parents.l, x.time, x.text⟩
instance : Dat Rectoref7Object := ⟨7, fun x => [i64 x.kind, str x.data, x.items.val, i64 x.tree, x.parents.val, i64 x.time, str x.text], fun _ => rfl, fun _ u h => by simp only [List.mem_cons, List.not_mem_nil, or_false] at h; rcases h with rfl | rfl | rfl | rfl | rfl | rfl | rfl <;> first | rfl | exact Er.one _, Rectoref7Object.m⟩
end Go.V
end
