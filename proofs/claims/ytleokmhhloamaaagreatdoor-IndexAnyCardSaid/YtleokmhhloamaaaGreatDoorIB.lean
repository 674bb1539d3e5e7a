/- Part of the proofs of: On any entries of an index the program tells what the document tells: whether they may be, their stages, conflicts; as bytes, and back. -/
import Derived.Lib.Join
import Derived.Lib.Overlaps
import Derived.Lib.AppendZerosOnto
import Derived.Sort.Walk0
import Derived.Lib.SlicesCompact
import Derived.Sort.Row
import Derived.Sort.Grow
import Derived.Sort.EncStr
import Derived.Maps.Own
import Derived.Maps.Views
import Derived.Sort.KeysCollected
import Derived.StringKeys
import Derived.Maps.OwnSet
import Derived.Lib.SlKeysI
import Derived.Shelf.Strings.OnBuilder
import Derived.Shelf.LaysM
import Derived.Shelf.Strconv.Itoa3
import Derived.Shelf.Sort.Plain
import Derived.Shelf.Slices.CompactS
import Derived.Shelf.Slices.In.SortNone
import Derived.Test.YtleokmhhloamaaaGreatDoorProg
import Derived.Shelf.SlIter.Nil
import Derived.Shelf.SortM.Plain
import Derived.Shelf.SortM.SortNone
import Derived.Test.YtleokmhhloamaaaGreatDoorIA
set_option linter.unusedVariables false
set_option linter.unusedSimpArgs false
set_option linter.unusedSectionVars false
section
set_option linter.unusedVariables false
set_option linter.unusedSimpArgs false
set_option linter.unusedSectionVars false
namespace Go.V
open Go.RowKit Go.S
section
variable {P : Program} {N : Nat} {c : Cx} {ops : Array Oper} {Q Q1 : Exit → Act → World → Prop} {rest : List Oper} {o : Oper} {ρ : Env} {M M' M1 M0 : Mo} {E E1 F A : Ow} {v u : Value} {X S T R : Type}
  {d : Nat} {od : Option Nat} {ty : TypeId} {pos : String} {after : Array Edge} {gd : Option (Nat × Bool)} {x y : Operand} {t t' e tb : TypeId} {f : FuncId} {args : List Value} {k k' : IntKind} {m n : Int} {α : Type} [Dat α]
theorem flatMap_drop {α : Type} [Dat α] (l : List α) (n : Nat) : (l.flatMap Dat.enc).drop (n * Dat.sz α) = (l.drop n).flatMap Dat.enc := by
  induction l generalizing n with
  | nil => simp
  | cons x r ih =>
    cases n with
    | zero => simp
    | succ n =>
      simp only [List.flatMap_cons, List.drop_succ_cons]
      rw [List.drop_append, Dat.len, ← ih n]
      have h1 : (Dat.enc x).drop ((n + 1) * Dat.sz α) = [] := List.drop_of_length_le (by rw [Dat.len]; exact Nat.le_mul_of_pos_left _ (Nat.succ_pos n))
      rw [h1, List.nil_append]
      congr 1
      rw [Nat.succ_mul, Nat.add_sub_cancel]
theorem run_copy_rowK (w : World) (dT sT ty elem : TypeId) (g o dLen dCap : Nat) (a : Addr) (sLen sCap : Nat) (cur : Array Value) (t : TypeId) (cs : List Value) (k : Nat)
    (hu : P.underlying dT = some (.slice elem)) (hs : (P.info? elem).map (·.size) = some k)
    (hg : w.heap[g]? = some (.cells cur t (0, 0))) (hn : cs.length = Nat.min sLen dLen * k)
    (hsrc : ∀ j v, cs[j]? = some v → w.cell? (a.add j) = some v) (hfit : o + cs.length ≤ cur.size) (h1 : ∀ v ∈ cs, v.oneCell' = true) :
    (Builtin.copy_ #[dT, sT] ty #[.slice (some ⟨g, o, none⟩) dLen dCap, .slice (some a) sLen sCap]).run P w =
      .ok (goInt (Nat.min sLen dLen)) (w.setRow g (cur.toList.take o ++ cs ++ cur.toList.drop (o + cs.length)).toArray) := by
  have hl := run_loadCells_list (P := P) w a cs hsrc
  have hst := run_storeCells_at P g o t cs 0 cur w hg (by simpa using hfit) h1
  cases hq : P.info? elem with
  | none => simp [hq] at hs
  | some i =>
    have hi : i.size = k := by simpa [hq] using hs
    simp [Builtin.copy_, run_underlying hu, Builtin.lenOf, Builtin.firstCells, sizeOf, typeInfo, hq, hi, ← hn, hl, hst]
theorem run_clear_rowK (w : World) (t ty e : TypeId) (z : Value) (k : Nat) (hu : P.underlying t = some (.slice e)) (hv : ∀ w, (zeroValue e).run P w = .ok z w) (hk : z.cells.size = k) (h1 : ∀ v ∈ z.cells.toList, v.oneCell' = true)
    (g o n c : Nat) (cur : Array Value) (T : TypeId) (hn : 0 < n) (hg : w.heap[g]? = some (.cells cur T (0, 0))) (hfit : o + n * k ≤ cur.size) :
    ∃ cs : List Value, cs.length = n * k ∧ (Builtin.clear_ #[t] ty #[.slice (some ⟨g, o, none⟩) n c]).run P w = .ok (.tuple #[]) (w.setRow g (cur.toList.take o ++ cs ++ cur.toList.drop (o + cs.length)).toArray) := by
  have hlen : (Builtin.zeroCells z.cells n).toList.length = n * k := by simp [Builtin.zeroCells, hk]
  refine ⟨(Builtin.zeroCells z.cells n).toList, hlen, ?_⟩
  have hone : ∀ v ∈ (Builtin.zeroCells z.cells n).toList, v.oneCell' = true := by
    intro v hv
    simp only [Builtin.zeroCells, Array.toList_map, List.mem_map, Array.toList_range, List.mem_range] at hv
    obtain ⟨i, hi, rfl⟩ := hv
    have hk0 : 0 < z.cells.size := by
      rcases Nat.eq_zero_or_pos z.cells.size with q | q
      · rw [q, Nat.mul_zero] at hi; omega
      · exact q
    have hm := Nat.mod_lt i hk0
    rw [getElem!_pos z.cells (i % z.cells.size) hm]
    exact h1 _ (Array.mem_toList_iff.2 (Array.getElem_mem hm))
  have hst := run_storeCells_at P g o T _ 0 cur w hg (by rw [hlen]; simpa using hfit) hone
  obtain ⟨n, rfl⟩ : ∃ j, n = j + 1 := ⟨n - 1, by omega⟩
  simp only [Nat.add_zero] at hst
  simp [Builtin.clear_, run_underlying hu, hv, hst]
theorem VL.bigN {op : Op} {A2 : Ow} (hE : Foc E A F)
    (H : ∀ a w h z, Agr N ρ a → h.off z → M.on h → A z → h.le (wh w) → z.le (wh w) → ∃ u w', (execOp a.eval ⟨none, op, ty, pos, after, none⟩).run P w = .ok (.value u) w' ∧ St ⟨w, h, fun b => z b ≠ none⟩ Mo.tt A2 w')
    (k : VL P N c ops Q rest ρ M (Ow.star A2 F)) : VL P N c ops Q (⟨none, op, ty, pos, after, none⟩ :: rest) ρ M E := fun a w g s =>
  wpList_plain rfl fun _ hK => by
    have s0 := s
    obtain ⟨⟨hp, e, m, ee, dd, l, kk, h0, hr, er⟩, _⟩ := s
    obtain ⟨x, y, dxy, j, hx, hy⟩ := hE e ee
    have dx : hp.off x := fun b => (dd b).imp id fun z => by rw [j] at z; exact (Hp.join_none.1 z).1
    obtain ⟨u, w', hr', s'⟩ := H a w hp x g dx m hx l (fun b o z => kk b o (by rw [j]; exact Hp.le_join_left x y b o z))
    unfold Oper.wp
    rw [hr']
    simp only [Oper.upon]
    have s2 := St.call s0 m dd l kk h0 hr er dxy j hy (fun b => Iff.rfl) s'
    exact hK _ _ (k _ _ ⟨g.size, g.defers, g.look⟩ (s2.mono (fun _ z => z.2) fun _ z => z))
theorem VL.clrN {s : Sv α} {i : Nat} {xs : List Operand} (z : Value) (hu : P.underlying t = some (.slice e)) (hv : ∀ w, (zeroValue e).run P w = .ok z w) (hk : z.cells.size = Dat.sz α) (h1' : z.cells.toList.all (fun v => v.oneCell') = true)
    (ha : ρ.evs xs = some [(s.sub i s.l.length s.c).val]) (hi : i ≤ s.l.length) (hE : Foc E (s.own e) F)
    (kk : ∀ q : Sv α, q.l = s.l.take i → q.val = .slice s.a i s.c → VL P N c ops Q rest ρ M (Ow.star (q.own e) F)) :
    VL P N c ops Q (⟨none, .call { callee := .builtin .clear, args := xs.toArray, argTypes := #[t] }, ty, pos, after, none⟩ :: rest) ρ M E := by
  have h1 : ∀ v ∈ z.cells.toList, v.oneCell' = true := fun v hv => List.all_eq_true.1 h1' v hv
  have hsub : (s.sub i s.l.length s.c).l.length = s.l.length - i := by simp [Sv.sub]
  refine VL.bigN (A2 := (⟨s.a, s.c, s.l.take i⟩ : Sv α).own e) hE (fun ac w h z' g hoff m hA l kk' => ?_) (kk ⟨s.a, s.c, s.l.take i⟩ rfl ?_)
  · obtain ⟨hlc, hcm, hcase⟩ := hA
    by_cases h0 : s.l.length - i = 0
    · have hil : i = s.l.length := by omega
      have hrun : (Builtin.clear_ #[t] ty #[(s.sub i s.l.length s.c).val]).run P w = .ok (.tuple #[]) w := by
        simp only [Sv.val, hsub, h0]
        cases (s.sub i s.l.length s.c).a <;> simp [Builtin.clear_, run_underlying hu]
      refine ⟨.tuple #[], w, ?_, ?_⟩
      · simp only [execOp, resolve, List.map_toArray, g.evs ha, Sem.run_bind, Sem.run_pure, Result.andThen_ok, invoke, builtin, hrun]
      · have e1 : s.l.take i = s.l := by rw [hil, List.take_length]
        rw [e1]
        refine ⟨⟨h, z', trivial, ⟨hlc, hcm, hcase⟩, hoff, l, kk', Hp.le.refl h, fun b hb => .inl hb, fun b hb => .inl hb⟩, fun b _ _ => rfl, rfl, rfl, rfl, Nat.le_refl _⟩
    · rcases hcase with ⟨hl0, _⟩ | ⟨b, cur, hsa, hg, hcs, ht⟩
      · rw [hl0] at h0; simp at h0
      · have hw : w.heap[b]? = some (.cells cur e (0, 0)) := kk' _ _ hg
        have hsa' : (s.sub i s.l.length s.c).a = some ⟨b, i * Dat.sz α, none⟩ := by
          unfold Sv.sub
          simp only
          split
          · rename_i q
            omega
          · rw [hsa]; simp [add_none]
        have hle : i * Dat.sz α + (s.l.length - i) * Dat.sz α = s.l.length * Dat.sz α := by rw [← Nat.add_mul]; congr 1; omega
        have hle2 : s.l.length * Dat.sz α ≤ s.c * Dat.sz α := Nat.mul_le_mul_right _ hlc
        obtain ⟨cs, hcl, hrun⟩ := run_clear_rowK (P := P) w t ty e z (Dat.sz α) hu hv hk h1 b (i * Dat.sz α) (s.l.length - i) ((s.sub i s.l.length s.c).c) cur e (by omega) hw (by rw [hcs]; omega)
        refine ⟨.tuple #[], w.setRow b (cur.toList.take (i * Dat.sz α) ++ cs ++ cur.toList.drop (i * Dat.sz α + cs.length)).toArray, ?_, St.turn (A := Sv.own _ e) hg hoff trivial l ⟨?_, hcm, .inr ⟨b, _, hsa, Hp.one_self _ _, ?_, ?_⟩⟩ (by simp [World.setRow]) (setRow_heap w b cur _ e _ hw) (fun i hi => setRow_other w b i _ hi) rfl rfl rfl⟩
        · have hval : (s.sub i s.l.length s.c).val = .slice (some ⟨b, i * Dat.sz α, none⟩) (s.l.length - i) (s.sub i s.l.length s.c).c := by unfold Sv.val; rw [hsa', hsub]
          simp only [execOp, resolve, List.map_toArray, g.evs ha, Sem.run_bind, Sem.run_pure, Result.andThen_ok, invoke, builtin, hval, hrun]
        · simp only [List.length_take]; omega
        · simp only [List.size_toArray, List.length_append, List.length_take, List.length_drop, Array.length_toList, hcs]
          omega
        · simp only [List.length_take]
          rw [show min i s.l.length = i by omega, ← flatMap_take, ← ht]
          rw [List.append_assoc, List.take_append_of_le_length (by have q : i * Dat.sz α ≤ s.c * Dat.sz α := Nat.mul_le_mul_right _ (by omega); rw [List.length_take, Array.length_toList, hcs]; omega), List.take_take, List.take_take]
          congr 1
          omega
  · simp only [Sv.val, List.length_take]
    congr 1
    omega
theorem q_cutO {s q : Sv α} (hu : P.underlying t = some (.slice e)) (hz : (P.info? e).map (·.size) = some (Dat.sz α)) (e0 : ρ.ev x = some s.val) (e1 : ρ.ev y = some (i64 n)) (h0 : 0 ≤ n) (h1 : n ≤ s.l.length) (hc : s.l.length ≤ s.c) (hq : q.val = .slice s.a n.toNat s.c) :
    Qt P N c ⟨od, .slice t x none (some y) none, ty, pos, after, gd⟩ q.val ρ M E := by
  have := q_cut (P := P) (N := N) (c := c) (M := M) (E := E) (od := od) (ty := ty) (pos := pos) (after := after) (gd := gd) (lo := none) (hi := some y) (mx := none) (lo' := none) (hi' := some n) (mx' := none) 0 n.toNat s.c hu hz e0 rfl (by simp [optv, e1]) rfl rfl (by simp; omega) (by simp) (fun h => by cases h) (Nat.zero_le _) (by omega) (Nat.le_refl _) (by omega)
  rw [hq]
  have e2 : (s.sub 0 n.toNat s.c).val = .slice s.a n.toNat s.c := by
    simp only [Sv.val, Sv.sub, List.drop_zero, Nat.sub_zero, List.length_take]
    rw [show min n.toNat s.l.length = n.toNat by omega]
    split
    · rfl
    · rw [Nat.zero_mul]; cases s.a <;> simp [Addr.add] <;> rfl
  rwa [e2] at this
theorem q_subv {s : Sv α} (hu : P.underlying t = some (.slice e)) (hz : (P.info? e).map (·.size) = some (Dat.sz α)) (e0 : ρ.ev x = some s.val) (e1 : ρ.ev y = some (i64 n)) (h0 : 0 ≤ n) (h1 : n ≤ s.l.length) (hc : s.l.length ≤ s.c) :
    Qt P N c ⟨od, .slice t x (some y) none none, ty, pos, after, gd⟩ (s.sub n.toNat s.l.length s.c).val ρ M E :=
  q_cut (lo := some y) (hi := none) (mx := none) (lo' := some n) (hi' := none) (mx' := none) n.toNat s.l.length s.c hu hz e0 (by simp [optv, e1]) rfl rfl (by simp; omega) rfl (by simp) (fun h => by cases h) (by omega) hc (Nat.le_refl _) (Nat.le_refl _)
theorem VL.fits {s : Sv α} (hE : Foc E (s.own e) F) (kk : s.l.length ≤ s.c → VL P N c ops Q rest ρ M E) : VL P N c ops Q rest ρ M E := fun a w xx yy => kk (by
  obtain ⟨⟨hp, ee, m, eE, _⟩, _⟩ := yy
  obtain ⟨a1, b1, _, _, ⟨q1, _⟩, _⟩ := hE ee eE
  exact q1) a w xx yy
theorem VD.partK {k : Nat} {rr : List (Nat × Bool)} {D : List (Nat × Value)} {s : Sv α} {lo hi mx : Option Operand} {lo' hi' mx' : Option Int} (hk : ops[k]? = some ⟨some d, .slice t x lo hi mx, ty, pos, after, none⟩) (l r : Nat) (hu : P.underlying t = some (.slice e)) (hz : (P.info? e).map (·.size) = some (Dat.sz α)) (e0 : ρ.ev x = some s.val)
    (e1 : optv ρ lo = some lo') (e2 : optv ρ hi = some hi') (e3 : optv ρ mx = some mx') [hs : InM M s.ok] (hl : lo'.getD 0 = (l : Int)) (hr : hi'.getD s.l.length = (r : Int)) (hm : mx' = none ∨ mx' = some (r : Int)) (hmx : mx'.isSome = true → hi'.isSome = true) (h1 : l ≤ r) (h4 : r ≤ s.l.length) (hd : d < N)
    (kk : ∀ (q : Sv α), q.l = (s.l.drop l).take (r - l) → (∀ {ρ' : Env} {M' : Mo} {E' : Ow}, ρ'.ev x = some s.val → optv ρ' lo = some lo' → optv ρ' hi = some hi' → optv ρ' mx = some mx' → Qt P N c ⟨some d, .slice t x lo hi mx, ty, pos, after, none⟩ q.val ρ' M' E') → VD P N c ops Q rr (addD ops k q.val D) ((d, q.val) :: ρ) (q.ok.and M) E) : VD P N c ops Q ((k, true) :: rr) D ρ M E :=
  VD.factM (φ := s.l.length ≤ s.c) (fun h m => (hs.out h m).1) fun hc => by
    obtain ⟨m, m1, m2, m3⟩ := cut_aux lo' hi' mx' l r hl hr hm h4 hc
    exact VD.q hk (q_cut l r m hu hz e0 e1 e2 e3 hl hr m1 hmx h1 m2 m3 h4) hd (VD.addM (s.sub l r m).ok (fun h q => Sv.sub_ok h1 h4 m2 m3 (hs.out h q)) (kk _ rfl fun e0 e1 e2 e3 => q_cut l r m hu hz e0 e1 e2 e3 hl hr m1 hmx h1 m2 m3 h4))
theorem VD.smidK {k' : Nat} {rr : List (Nat × Bool)} {D : List (Nat × Value)} {s : Sv α} {z : Operand} {m n : Int} (hk : ops[k']? = some ⟨some d, .slice t x (some y) (some z) none, ty, pos, after, none⟩) (hu : P.underlying t = some (.slice e)) (hz : (P.info? e).map (·.size) = some (Dat.sz α)) (e0 : ρ.ev x = some s.val) (e1 : ρ.ev y = some (i64 m)) (e2 : ρ.ev z = some (i64 n)) [hs : InM M s.ok] (h0 : 0 ≤ m) (h1 : m ≤ n) (h2 : n ≤ s.l.length) (hd : d < N)
    (kk : ∀ (q : Sv α), q.l = (s.l.drop m.toNat).take (n.toNat - m.toNat) → (∀ {ρ' : Env} {M' : Mo} {E' : Ow}, ρ'.ev x = some s.val → ρ'.ev y = some (i64 m) → ρ'.ev z = some (i64 n) → Qt P N c ⟨some d, .slice t x (some y) (some z) none, ty, pos, after, none⟩ q.val ρ' M' E') → VD P N c ops Q rr (addD ops k' q.val D) ((d, q.val) :: ρ) (q.ok.and M) E) : VD P N c ops Q ((k', true) :: rr) D ρ M E :=
  VD.partK (lo' := some m) (hi' := some n) (mx' := none) hk m.toNat n.toNat hu hz e0 (by simp [optv, e1]) (by simp [optv, e2]) rfl (by simp; omega) (by simp; omega) (.inl rfl) (fun h => by cases h) (by omega) (by omega) hd fun q hq h => kk q hq fun a b c' => h a (by simp [optv, b]) (by simp [optv, c']) rfl
end
end Go.V
end

section
set_option linter.unusedVariables false
set_option linter.unusedSimpArgs false
set_option linter.unusedSectionVars false
namespace Go.V
open Go.RowKit Go.S
section
variable {P : Program} {N : Nat} {c : Cx} {ops : Array Oper} {Q Q1 : Exit → Act → World → Prop} {rest : List Oper} {o : Oper} {ρ : Env} {M M' M1 M0 : Mo} {E E1 F A : Ow} {v u : Value} {X S T R : Type}
  {d : Nat} {od : Option Nat} {ty : TypeId} {pos : String} {after : Array Edge} {gd : Option (Nat × Bool)} {x y : Operand} {t t' e tb : TypeId} {f : FuncId} {args : List Value} {k k' : IntKind} {m n : Int} {α : Type} [Dat α]
theorem q_cutV {a0 : Option Addr} {L C K : Nat} {lo hi : Option Operand} {lo' hi' : Option Int} (l r : Nat) (hu : P.underlying t = some (.slice e)) (hz : (P.info? e).map (·.size) = some K) (e0 : ρ.ev x = some (.slice a0 L C))
    (e1 : optv ρ lo = some lo') (e2 : optv ρ hi = some hi') (hl : lo'.getD 0 = (l : Int)) (hr : hi'.getD L = (r : Int)) (h1 : l ≤ r) (h2 : r ≤ C) :
    Qt P N c ⟨od, .slice t x lo hi none, ty, pos, after, gd⟩ (sliced a0 l r C K) ρ M E := Qt.of_run fun a w g _ => by
  have key : ∀ (q : Option Operand) (q' : Option Int), optv ρ q = some q' → q.map a.eval = q'.map (fun n => Value.int .i64 n) := fun q q' hq => by
    cases q with
    | none => simp only [optv] at hq; cases hq; rfl
    | some z =>
      simp only [optv] at hq
      split at hq
      · rename_i n hz; cases hq; simp [g.ev hz]
      · cases hq
  cases hj : P.info? e with
  | none => rw [hj] at hz; cases hz
  | some j =>
    rw [hj] at hz
    have hzz : j.size = K := by simpa using hz
    have hel : P.elem t = e := by simp [Program.elem, hu]
    have hu' : P.underlying t = some (.slice (P.elem t)) := by rw [hel]; exact hu
    have hs : (sizeOf (P.elem t)).run P w = .ok K w := by rw [hel]; simp [sizeOf, typeInfo, hj, hzz, go_sem]
    have hb : (Instr.sliceBounds true L C (lo'.map fun n => Value.int .i64 n) (hi'.map fun n => Value.int .i64 n) none).run P w = .ok (l, r, C) w := by
      cases hi' with
      | none =>
        simp only [Option.getD_none] at hr
        have hr' : r = L := by omega
        subst hr'
        cases lo' with
        | none => simp only [Option.getD_none] at hl; have : l = 0 := by omega
                  subst this; simp [Instr.sliceBounds, go_sem]
        | some q => simp only [Option.getD_some] at hl; subst hl; simp [Instr.sliceBounds, run_sliceBound, go_sem, h1]
      | some p =>
        simp only [Option.getD_some] at hr; subst hr
        have hle : (r : Int) ≤ C := by omega
        cases lo' with
        | none => simp only [Option.getD_none] at hl; have : l = 0 := by omega
                  subst this; simp [Instr.sliceBounds, run_sliceBound, go_sem, hle, h2]
        | some q => simp only [Option.getD_some] at hl; subst hl; simp [Instr.sliceBounds, run_sliceBound, go_sem, h1, h2]
    have hrun : (Instr.slice t (.slice a0 L C) (lo'.map fun n => Value.int .i64 n) (hi'.map fun n => Value.int .i64 n) none).run P w = .ok (sliced a0 l r C K) w := by
      rw [run_slice_any w t a0 L C hu' _ _ _, hb]
      simp only [Result.andThen_ok, hs]
    simp only [execOp, g.ev e0, key _ _ e1, key _ _ e2, Option.map_none, Sem.run_bind, run_sliceAt_slice w t _ _ _ _ hu', hrun, Result.andThen_ok, Sem.run_pure]
theorem q_fromV {b o L C K : Nat} {i : Int} {V : Value} (hu : P.underlying t = some (.slice e)) (hz : (P.info? e).map (·.size) = some K) (e0 : ρ.ev x = some (.slice (some ⟨b, o, none⟩) L C)) (e1 : ρ.ev y = some (i64 i)) (h0 : 0 ≤ i) (h1 : i ≤ L) (h2 : L ≤ C) (h3 : i < C) (hV : .slice (some ⟨b, o + i.toNat * K, none⟩) (L - i.toNat) (C - i.toNat) = V) :
    Qt P N c ⟨od, .slice t x (some y) none none, ty, pos, after, gd⟩ V ρ M E := by
  have := q_cutV (P := P) (N := N) (c := c) (M := M) (E := E) (od := od) (ty := ty) (pos := pos) (after := after) (gd := gd) (lo := some y) (hi := none) (lo' := some i) (hi' := none) (K := K) i.toNat L hu hz e0 (by simp [optv, e1]) rfl (by simp; omega) rfl (by omega) h2
  rw [← hV]
  rwa [show sliced (some ⟨b, o, none⟩) i.toNat L C K = .slice (some ⟨b, o + i.toNat * K, none⟩) (L - i.toNat) (C - i.toNat) by unfold sliced; rw [if_neg (by omega)]; simp [add_none]] at this
theorem q_toV {a0 : Option Addr} {L C K : Nat} {i : Int} (hu : P.underlying t = some (.slice e)) (hz : (P.info? e).map (·.size) = some K) (e0 : ρ.ev x = some (.slice a0 L C)) (e1 : ρ.ev y = some (i64 i)) (h0 : 0 ≤ i) (h1 : i ≤ C) :
    Qt P N c ⟨od, .slice t x none (some y) none, ty, pos, after, gd⟩ (.slice a0 i.toNat C) ρ M E := by
  have := q_cutV (P := P) (N := N) (c := c) (M := M) (E := E) (od := od) (ty := ty) (pos := pos) (after := after) (gd := gd) (lo := none) (hi := some y) (lo' := none) (hi' := some i) (K := K) 0 i.toNat hu hz e0 rfl (by simp [optv, e1]) rfl (by simp; omega) (by omega) (by omega)
  rwa [show sliced a0 0 i.toNat C K = .slice a0 i.toNat C by
    unfold sliced
    split
    · rfl
    · rw [Nat.zero_mul]; cases a0 <;> simp [Addr.add]] at this
theorem q_capV {a0 : Option Addr} {L C : Nat} {xs : List Operand} (ht : P.underlying t = some (.slice e)) (h : ρ.evs xs = some [.slice a0 L C]) : Qt P N c ⟨od, .call { callee := .builtin .cap, args := xs.toArray, argTypes := #[t] }, ty, pos, after, gd⟩ (i64 (C : Int)) ρ M E := Qt.of_run fun a w g _ => by
  have e := g.evs h
  simp only [execOp, resolve, List.map_toArray, e, Sem.run_bind, Sem.run_pure, Result.andThen_ok, invoke, builtin]
  simp [Builtin.cap_, run_underlying ht, goInt]
theorem run_copy_noneK (w : World) (dT sT ty elem : TypeId) (d a : Option Addr) (dLen dCap sLen sCap : Nat) (hu : P.underlying dT = some (.slice elem)) (hs : ((P.info? elem).map (·.size)).isSome = true) (hn : Nat.min sLen dLen = 0) :
    (Builtin.copy_ #[dT, sT] ty #[.slice d dLen dCap, .slice a sLen sCap]).run P w = .ok (goInt 0) w := by
  cases hq : P.info? elem with
  | none => simp [hq] at hs
  | some i =>
    have hl : ∀ (x : Addr), (loadCells x 0).run P w = .ok #[] w := fun x => by simpa using run_loadCells_list (P := P) w x [] (by simp)
    cases d <;> cases a <;> simp [Builtin.copy_, run_underlying hu, Builtin.lenOf, Builtin.firstCells, sizeOf, typeInfo, hq, hn, storeCells, hl]
theorem VL.copyB {b T o n cp sc m K : Nat} {cs src : List Value} {sa : Option Addr} {xs : List Operand} (hu : P.underlying t = some (.slice e)) (hz : (P.info? e).map (·.size) = some K) (hE : Foc E (Blk b cs T) F)
    (ha : ρ.evs xs = some [.slice (some ⟨b, o, none⟩) n cp, .slice sa m sc]) (hlen : src.length = Nat.min m n * K)
    (hs : ∀ h z, h.off z → M.on h → Blk b cs T z → src ≠ [] → ∃ sb so, sa = some ⟨sb, so, none⟩ ∧ (h.join z).at sb so src) (h1 : ∀ v ∈ src, v.oneCell' = true) (hfit : o + src.length ≤ cs.length) (hd : d < N)
    (kk : VL P N c ops Q rest ((d, i64 (Nat.min m n : Nat)) :: ρ) M (Ow.star (Blk b (cs.take o ++ src ++ cs.drop (o + src.length)) T) F)) :
    VL P N c ops Q (⟨some d, .call { callee := .builtin .copy, args := xs.toArray, argTypes := #[t, t'] }, ty, pos, after, none⟩ :: rest) ρ M E := by
  refine VL.big (X := Unit) (φ := fun _ => True) (val := fun _ => i64 (Nat.min m n : Nat)) (M2 := fun _ => Mo.tt) (A2 := fun _ => Blk b (cs.take o ++ src ++ cs.drop (o + src.length)) T) hE (fun ac w h z g hoff hm hA l kk' => ?_) hd fun _ _ => VL.strip kk
  have hw : w.heap[b]? = some (.cells cs.toArray T (0, 0)) := kk' _ _ hA
  by_cases h0 : src = []
  · by_cases hmn : Nat.min m n = 0
    · have hrun := run_copy_noneK (P := P) w t t' ty e (some ⟨b, o, none⟩) sa n cp m sc hu (by rw [hz]; rfl) hmn
      refine ⟨_, w, ?_, (), trivial, rfl, ?_⟩
      · simp only [execOp, resolve, List.map_toArray, g.evs ha, Sem.run_bind, Sem.run_pure, Result.andThen_ok, invoke, builtin, hrun, goInt, hmn]; rfl
      · rw [h0]
        simp only [List.append_nil, List.length_nil, Nat.add_zero, List.take_append_drop]
        exact ⟨⟨h, z, trivial, hA, hoff, l, kk', Hp.le.refl h, fun b hb => .inl hb, fun b hb => .inl hb⟩, fun b _ _ => rfl, rfl, rfl, rfl, Nat.le_refl _⟩
    · have hrun : (Builtin.copy_ #[t, t'] ty #[.slice (some ⟨b, o, none⟩) n cp, .slice sa m sc]).run P w = .ok (goInt (Nat.min m n)) w := by
        have hk : K = 0 := by
          rw [h0, List.length_nil] at hlen
          rcases Nat.mul_eq_zero.1 hlen.symm with q | q
          · exact absurd q hmn
          · exact q
        cases hq : P.info? e with
        | none => rw [hq] at hz; cases hz
        | some i =>
          have hi : i.size = 0 := by rw [hq] at hz; simpa [hk] using hz
          have hl : ∀ (x : Addr), (loadCells x 0).run P w = .ok #[] w := fun x => by simpa using run_loadCells_list (P := P) w x [] (by simp)
          cases sa <;> simp [Builtin.copy_, run_underlying hu, Builtin.lenOf, Builtin.firstCells, sizeOf, typeInfo, hq, hi, storeCells, hl]
      refine ⟨_, w, ?_, (), trivial, rfl, ?_⟩
      · simp only [execOp, resolve, List.map_toArray, g.evs ha, Sem.run_bind, Sem.run_pure, Result.andThen_ok, invoke, builtin, hrun, goInt]
      · rw [h0]
        simp only [List.append_nil, List.length_nil, Nat.add_zero, List.take_append_drop]
        exact ⟨⟨h, z, trivial, hA, hoff, l, kk', Hp.le.refl h, fun b hb => .inl hb, fun b hb => .inl hb⟩, fun b _ _ => rfl, rfl, rfl, rfl, Nat.le_refl _⟩
  · obtain ⟨sb, so, hsa, hat⟩ := hs h z hoff hm hA h0
    have hrun := run_copy_rowK (P := P) w t t' ty e b o n cp ⟨sb, so, none⟩ m sc cs.toArray T src K hu hz hw hlen (fun j v hj => by
      rw [add_none]
      exact cell_of_le (Hp.join_le l kk') (hat j v hj)) (by simpa using hfit) h1
    rw [hsa] at ha
    refine ⟨_, _, ?_, (), trivial, rfl, St.turn (A := Blk b _ T) hA hoff trivial l (by unfold Blk Hp.one; rw [if_pos rfl]) (by simp [World.setRow]) (setRow_heap w b _ _ T _ hw) (fun i hi => setRow_other w b i _ hi) rfl rfl rfl⟩
    simp only [execOp, resolve, List.map_toArray, g.evs ha, Sem.run_bind, Sem.run_pure, Result.andThen_ok, invoke, builtin, hrun, goInt]
theorem VL.open {s : Sv α} (hE : Foc E (s.own e) F) (hl : s.c ≠ 0) (kk : ∀ (b : Nat) (cs : List Value), s.a = some ⟨b, 0, none⟩ → cs.length = s.c * Dat.sz α → cs.take (s.l.length * Dat.sz α) = s.l.flatMap Dat.enc → s.l.length ≤ s.c → s.c ≤ maxLen → VL P N c ops Q rest ρ M (Ow.star (Blk b cs e) F)) : VL P N c ops Q rest ρ M E := fun a w g s0 => by
  obtain ⟨⟨hp, ee, m, eE, dd, l, k, r1, r2, r3⟩, f1, f2, f3, f4, f5⟩ := id s0
  obtain ⟨p, q, d1, j1, ⟨q1, q2, q3⟩, hq⟩ := hE ee eE
  rcases q3 with ⟨w1, w2⟩ | ⟨b, cur, w1, w2, w3, w4⟩
  · exact absurd w2 hl
  · exact kk b cur.toList w1 (by rw [Array.length_toList, w3]) w4 q1 q2 a w g ⟨⟨hp, ee, m, ⟨p, q, d1, j1, by unfold Blk; rw [Array.toArray_toList]; exact w2, hq⟩, dd, l, k, r1, r2, r3⟩, f1, f2, f3, f4, f5⟩
theorem q_extE {xs : List Operand} {ts : Array TypeId} {f : FuncId} {vs : List Value} (ha : ρ.evs xs = some vs) (h : ∀ a w, Agr N ρ a → St c M E w → (callFunc f vs.toArray).run P w = .ok (.value v) w) : Qt P N c ⟨od, .call { callee := .value (.func f), args := xs.toArray, argTypes := ts }, ty, pos, after, gd⟩ v ρ M E := Qt.of_run fun a w g s => by
  have h' := h a w g s
  have e := g.evs ha
  subst e
  simp [execOp, resolve, Act.eval, Deferred.ofValue, invoke, h']
theorem q_overlaps {fn : Func} {xs : List Operand} {ts : Array TypeId} {tS tR Te T2 : TypeId} {s : Sv α} {b o lb cb K : Nat} {cs : List Value} (hf : P.funcs[f]? = some fn) (hname : (fn.name == "runtime.NumGoroutine") = false) (hb : fn.body.isNone = true) (hn : Extern.findNext fn = none) (he : Extern.find fn = some (Extern.SlicesOverlaps.overlaps #[tS, tS] #[tR]))
    (ht : P.underlying tS = some (.slice e)) (hz : (P.info? e).map (·.size) = some K) (ha : ρ.evs xs = some [s.val, .slice (some ⟨b, o, none⟩) lb cb]) (hE : Foc E (Blk b cs T2) F) [hs : HasO F s Te] (hc : cs ≠ []) (hsl : s.l ≠ []) :
    Qt P N c ⟨od, .call { callee := .value (.func f), args := xs.toArray, argTypes := ts }, ty, pos, after, gd⟩ (.bool false) ρ M E := q_extE ha fun a w g st => by
  obtain ⟨⟨hp, ee, m, eE, dd, l, k, _⟩, _⟩ := st
  obtain ⟨p, q, d1, j1, hB, hF⟩ := hE ee eE
  have hown := hs.out q hF
  obtain ⟨q1, q2, q3⟩ := hown
  rcases q3 with ⟨w1, w2⟩ | ⟨g2, cur, w1, w2, w3, w4⟩
  · exact absurd w1 hsl
  · have hwb : w.heap[b]? = some (.cells cs.toArray T2 (0, 0)) := k _ _ (by rw [j1]; exact Hp.le_join_left p q _ _ hB)
    have hwg : w.heap[g2]? = some (.cells cur Te (0, 0)) := k _ _ (by rw [j1]; exact Hp.le_join_right d1 _ _ w2)
    have hne : g2 ≠ b := fun q' => by
      subst q'
      rcases d1 g2 with z | z
      · unfold Blk at hB; rw [z] at hB; cases hB
      · rw [z] at w2; cases w2
    have hov := Lib.run_overlaps_apart (P := P) w tS tR e ht K (fun w => by
      cases hj : P.info? e with
      | none => rw [hj] at hz; cases hz
      | some j => rw [hj] at hz; have : j.size = K := by simpa using hz
                  simp [sizeOf, typeInfo, hj, this]) ⟨g2, 0, none⟩ ⟨b, o, none⟩ s.l.length s.c lb cb hne Te T2 cur.size cs.toArray.size (by simp [World.shape?, hwg]) (by simp [World.shape?, hwb]) (by simpa using hc) (by simp [World.frozen?, hwg]) (by simp [World.frozen?, hwg])
    have ev : s.val = .slice (some ⟨g2, 0, none⟩) s.l.length s.c := by unfold Sv.val; rw [w1]
    rw [ev, run_callFunc_extern hf hname hb hn he]
    show ((Extern.SlicesOverlaps.overlaps #[tS, tS] #[tR] #[.slice (some ⟨g2, 0, none⟩) s.l.length s.c, .slice (some ⟨b, o, none⟩) lb cb]).run P w).andThen _ = _
    rw [hov]
    rfl
theorem drew_cell (w : World) (a : Addr) : w.drew.cell? a = w.cell? a := rfl
theorem VL.appZg {s : Sv α} {xs : List Operand} {k1 kn : IntKind} {tn : TypeId} {bt L kq : Nat} (hu : P.underlying t = some (.slice e)) (htn : P.underlying tn = some (.int kn)) (hi : ((P.info? e).map fun i => (i.size, i.bytes, (i.zero.map fun z => z.cells.size))) = some (Dat.sz α, bt, some (Dat.sz α))) (hpos : 0 < Dat.sz α)
    (ha : ρ.evs xs = some [.slice s.a L s.c, .int k1 (kq : Int)]) [hs : InM M s.ok] (hne : s.l ≠ []) (hL : L ≤ s.l.length) (hg : s.c < L + kq) (h0 : 0 < kq) (hm : L + kq ≤ 4294967296) (hb : bt ≤ 32768) (hd : d < N)
    (kk : ∀ (g : Nat) (cs : List Value) (cp : Nat), cs.length = cp * Dat.sz α → L + kq ≤ cp → cp ≤ maxLen → cs.take (L * Dat.sz α) = (s.l.take L).flatMap Dat.enc → VL P N c ops Q rest ((d, .slice (some ⟨g, 0, none⟩) (L + kq) cp) :: ρ) M (Ow.star (Blk g cs e) E)) :
    VL P N c ops Q (⟨some d, .call { callee := .builtin .append, args := xs.toArray, argTypes := #[t, tn] }, ty, pos, after, none⟩ :: rest) ρ M E := by
  cases hj : P.info? e with
  | none => rw [hj] at hi; cases hi
  | some i =>
    rw [hj] at hi
    simp only [Option.map_some, Option.some.injEq, Prod.mk.injEq] at hi
    obtain ⟨h1, h2, h3⟩ := hi
    cases hz : i.zero with
    | none => rw [hz] at h3; cases h3
    | some zv =>
      rw [hz] at h3
      have hzs : zv.cells.size = Dat.sz α := by simpa using h3
      refine VL.big (X := Nat × List Value × Nat) (φ := fun q => q.2.1.length = q.2.2 * Dat.sz α ∧ L + kq ≤ q.2.2 ∧ q.2.2 ≤ maxLen ∧ q.2.1.take (L * Dat.sz α) = (s.l.take L).flatMap Dat.enc) (val := fun q => .slice (some ⟨q.1, 0, none⟩) (L + kq) q.2.2) (M2 := fun _ => Mo.tt) (A2 := fun q => Blk q.1 q.2.1 e) (Foc.none (E := E)) (fun a w h z g _ m _ l _ => ?_) hd fun q hq => VL.strip (kk q.1 q.2.1 q.2.2 hq.1 hq.2.1 hq.2.2.1 hq.2.2.2)
      have hok := hs.out h m
      have hsa := hok.2.2.1 hne
      have hbnd : (L + kq) * i.bytes ≤ 4294967296 * 32768 := Nat.mul_le_mul hm (by omega)
      have hbnd2 : kq * i.bytes ≤ 4294967296 * 32768 := Nat.mul_le_mul (by omega) (by omega)
      have hlen : ((s.l.take L).flatMap Dat.enc).length = L * Dat.sz α := by rw [enc_len, List.length_take, Nat.min_eq_left hL]
      have hold : (Builtin.firstCells i.size L (.slice s.a L s.c)).run P w.drew = .ok ((s.l.take L).flatMap Dat.enc).toArray w.drew := by
        rw [hsa, h1]
        refine run_firstCells_some w.drew _ L ⟨s.b, s.o, none⟩ L s.c _ hlen fun j v hjv => ?_
        rw [add_none, drew_cell]
        have hat := at_all (h := h) (b := s.b) (o := s.o) (l := s.l) (fun j x hx => Sv.ok_get hok hx) hpos
        rw [← flatMap_take, List.getElem?_take] at hjv
        split at hjv
        · exact cell_of_le l (hat j v hjv)
        · cases hjv
      have hr := Lib.run_append_grow_zeros (P := P) w t tn ty e i zv k1 kn hu htn hj hz s.a L s.c _ hold kq h0 (by omega) hg (by omega) (by omega) (growslice_fits hg (by omega))
      have hge := grownCap_ge w (L + kq) s.c e
      have hle := grownCap_le_maxLen w (L + kq) s.c e (by unfold maxLen; omega)
      refine ⟨_, w.drew.alloc (.cells (((s.l.take L).flatMap Dat.enc).toArray ++ Builtin.zeroCells zv.cells kq ++ Builtin.zeroCells zv.cells (grownCap w (L + kq) s.c e - (L + kq))) e), ?_, (w.heap.size, (((s.l.take L).flatMap Dat.enc).toArray ++ Builtin.zeroCells zv.cells kq ++ Builtin.zeroCells zv.cells (grownCap w (L + kq) s.c e - (L + kq))).toList, grownCap w (L + kq) s.c e), ⟨?_, hge, hle, ?_⟩, rfl, St.newO (A := Blk _ _ e) ?_ trivial l ((Gr.drew w).trans (Gr.alloc w.drew _)) (heap_alloc_new w.drew _)⟩
      · simp only [execOp, resolve, List.map_toArray, g.evs ha, Sem.run_bind, Sem.run_pure, Result.andThen_ok, invoke, builtin, hr]
      · simp only [Array.length_toList, Array.size_append, size_zeroCells, hzs, List.size_toArray, hlen]
        rw [← Nat.add_mul, ← Nat.add_mul]
        congr 1
        omega
      · simp only [Array.toList_append]
        rw [List.append_assoc, List.take_append_of_le_length (by simp [hlen]), List.take_of_length_le (by simp [hlen])]
      · unfold Blk
        rw [Array.toArray_toList]
        exact Hp.one_self _ _
theorem split4 {β : Type} (cs : List β) (a v s : Nat) (h : a + v + s ≤ cs.length) : ∃ A B C R, cs = A ++ (B ++ (C ++ R)) ∧ A.length = a ∧ B.length = v ∧ C.length = s ∧ A = cs.take a := by
  refine ⟨cs.take a, (cs.drop a).take v, ((cs.drop a).drop v).take s, ((cs.drop a).drop v).drop s, ?_, ?_, ?_, ?_, rfl⟩
  · simp only [List.take_append_drop]
  all_goals simp only [List.length_take, List.length_drop]; omega
theorem seg_app {β : Type} (A B C : List β) : ∀ a b : Nat, a = A.length → b = B.length → (A ++ (B ++ C)).take a = A ∧ (A ++ (B ++ C)).drop (a + b) = C := by
  rintro a b rfl rfl
  refine ⟨List.take_left, ?_⟩
  rw [← List.append_assoc, show A.length + B.length = (A ++ B).length by simp, List.drop_left]
theorem ins_cells1 {cs A V S : List Value} (h1 : cs.take A.length = A) (hf : A.length + V.length + S.length ≤ cs.length) :
    let cs1 := cs.take A.length ++ V ++ cs.drop (A.length + V.length)
    let cs2 := cs1.take (A.length + V.length) ++ S ++ cs1.drop (A.length + V.length + S.length)
    cs1.length = cs.length ∧ cs2.length = cs.length ∧ cs2.take (A ++ V ++ S).length = A ++ V ++ S := by
  obtain ⟨A', B, C, R, rfl, ha, hb, hc, hA⟩ := split4 cs A.length V.length S.length hf
  rw [h1] at hA
  subst hA
  have e1 : (A' ++ (B ++ (C ++ R))).drop (A'.length + V.length) = C ++ R := (seg_app A' B (C ++ R) _ _ rfl hb.symm).2
  intro cs1 cs2
  have q1 : cs1 = A' ++ V ++ (C ++ R) := by show _ ++ V ++ _ = _; rw [h1, e1]
  have q2 : cs2 = A' ++ V ++ S ++ R := by
    show cs1.take _ ++ S ++ cs1.drop _ = _
    rw [q1, show A'.length + V.length = (A' ++ V).length by simp, List.take_left]
    congr 1
    exact (seg_app (A' ++ V) C R _ _ rfl hc.symm).2
  refine ⟨?_, ?_, ?_⟩
  · rw [q1]; simp [hb]
  · rw [q2]; simp [hb, hc]
  · rw [q2, List.take_left]
theorem ins_cells2 {cs A V S : List Value} (h1 : cs.take A.length = A) (hf : A.length + V.length + S.length ≤ cs.length) :
    let cs1 := cs.take (A.length + V.length) ++ S ++ cs.drop (A.length + V.length + S.length)
    let cs2 := cs1.take A.length ++ V ++ cs1.drop (A.length + V.length)
    cs1.length = cs.length ∧ cs2.length = cs.length ∧ cs2.take (A ++ V ++ S).length = A ++ V ++ S := by
  obtain ⟨A', B, C, R, rfl, ha, hb, hc, hA⟩ := split4 cs A.length V.length S.length hf
  rw [h1] at hA
  subst hA
  have e0 : A' ++ (B ++ (C ++ R)) = (A' ++ B) ++ (C ++ R) := by rw [List.append_assoc]
  have e1 : (A' ++ (B ++ (C ++ R))).take (A'.length + V.length) = A' ++ B := by rw [e0]; exact (seg_app (A' ++ B) C R _ _ (by simp [hb]) rfl).1
  have e2 : (A' ++ (B ++ (C ++ R))).drop (A'.length + V.length + S.length) = R := by rw [e0]; exact (seg_app (A' ++ B) C R _ _ (by simp [hb]) hc.symm).2
  intro cs1 cs2
  have q1 : cs1 = A' ++ (B ++ (S ++ R)) := by show _ ++ S ++ _ = _; rw [e1, e2]; simp
  have q2 : cs2 = A' ++ V ++ S ++ R := by
    show cs1.take _ ++ V ++ cs1.drop _ = _
    rw [q1, List.take_left, (seg_app A' B (S ++ R) _ _ rfl hb.symm).2]
    simp
  refine ⟨?_, ?_, ?_⟩
  · rw [q1]; simp [hc]
  · rw [q2]; simp [hb, hc]
  · rw [q2, List.take_left]
theorem own_blk {b cp L : Nat} {cs : List Value} {l' : List α} (hcl : cs.length = cp * Dat.sz α) (ht : cs.take (l'.length * Dat.sz α) = l'.flatMap Dat.enc) (hl : l'.length = L) (hLc : L ≤ cp) (hcm : cp ≤ maxLen) :
    (Value.slice (some ⟨b, 0, none⟩) L cp = (⟨some ⟨b, 0, none⟩, cp, l'⟩ : Sv α).val) ∧ ∀ z, Ow.star (Blk b cs e) F z → (⟨some ⟨b, 0, none⟩, cp, l'⟩ : Sv α).own e z := by
  refine ⟨by simp [Sv.val, hl], fun z ⟨x, y, d, j, hx, hy⟩ => ?_⟩
  subst j
  refine ⟨by simp only [hl]; exact hLc, hcm, .inr ⟨b, cs.toArray, rfl, Hp.le_join_left x y _ _ hx, by simp [hcl], by simpa using ht⟩⟩
theorem ok_srcK {r : Sv α} (hpos : 0 < Dat.sz α) [i : InM M r.ok] (hne : r.l ≠ []) (k : Nat) {B : Ow} : ∀ h z, h.off z → M.on h → B z → (r.l.drop k).flatMap Dat.enc ≠ [] → ∃ sb so, (some (⟨r.b, r.o + k * Dat.sz α, none⟩ : Addr)) = some ⟨sb, so, none⟩ ∧ (h.join z).at sb so ((r.l.drop k).flatMap Dat.enc) := fun h z off m _ _ => by
  have hok := i.out h m
  refine ⟨_, _, rfl, Hp.at.up (Hp.le_join_left h z) fun j v hj => ?_⟩
  have hat := at_all (h := h) (b := r.b) (o := r.o) (l := r.l) (fun j x hx => Sv.ok_get hok hx) hpos
  have := hat (k * Dat.sz α + j) v (by rw [← flatMap_drop, List.getElem?_drop] at hj; exact hj)
  rwa [← Nat.add_assoc] at this
theorem ok_src0 {r : Sv α} (hpos : 0 < Dat.sz α) [i : InM M r.ok] (hne : r.l ≠ []) {B : Ow} : ∀ h z, h.off z → M.on h → B z → r.l.flatMap Dat.enc ≠ [] → ∃ sb so, (some (⟨r.b, r.o + 0 * Dat.sz α, none⟩ : Addr)) = some ⟨sb, so, none⟩ ∧ (h.join z).at sb so (r.l.flatMap Dat.enc) := by
  have := ok_srcK (M := M) hpos hne 0 (B := B)
  rwa [List.drop_zero] at this
theorem blk_src {b n k : Nat} {cs : List Value} {l : List α} {T : TypeId} (ht : cs.take (n * Dat.sz α) = l.flatMap Dat.enc) (hn : n = l.length) : ∀ (h z : Hp), h.off z → M.on h → Blk b cs T z → (l.drop k).flatMap Dat.enc ≠ [] → ∃ sb so, (some (⟨b, k * Dat.sz α, none⟩ : Addr)) = some ⟨sb, so, none⟩ ∧ (h.join z).at sb so ((l.drop k).flatMap Dat.enc) := fun h z off m hB _ => by
  refine ⟨_, _, rfl, Hp.at.up (Hp.le_join_right off) fun j v hj => ?_⟩
  have := Hp.at_blk hB (k * Dat.sz α + j) v (by
    rw [← flatMap_drop, ← ht, List.getElem?_drop, List.getElem?_take] at hj
    split at hj
    · exact hj
    · cases hj)
  simpa using this
theorem enc_one1 (l : List α) : ∀ v ∈ l.flatMap Dat.enc, v.oneCell' = true := fun v hv => by
  obtain ⟨x, _, hx⟩ := List.mem_flatMap.1 hv
  exact Dat.one x v hx
end
end Go.V
end

section
namespace Go.S
open Go
def insS (x : List UInt8) : List (List UInt8) → List (List UInt8)
  | [] => [x]
  | y :: r => if Op.bytesLess y x = true then y :: insS x r else x :: y :: r
def sortS : List (List UInt8) → List (List UInt8)
  | [] => []
  | x :: r => insS x (sortS r)
theorem insS_perm (x : List UInt8) : ∀ l, (insS x l).Perm (x :: l)
  | [] => List.Perm.refl _
  | y :: r => by
    unfold insS
    split
    · exact ((insS_perm x r).cons y).trans (List.Perm.swap x y r)
    · exact List.Perm.refl _
theorem sortS_perm : ∀ l, (sortS l).Perm l
  | [] => List.Perm.refl _
  | x :: r => (insS_perm x _).trans ((sortS_perm r).cons x)
theorem insS_sorted (x : List UInt8) : ∀ l : List (List UInt8), l.Pairwise (· ≤ ·) → (insS x l).Pairwise (· ≤ ·)
  | [], _ => by simp [insS]
  | y :: r, h => by
    unfold insS
    have h1 := List.pairwise_cons.1 h
    split
    · next hb =>
      rw [Go.Proofs.bytesLess_eq, decide_eq_true_eq] at hb
      refine List.pairwise_cons.2 ⟨fun z hz => ?_, insS_sorted x r h1.2⟩
      rcases List.mem_cons.1 ((insS_perm x r).mem_iff.1 hz) with q | q
      · rw [q]; exact List.le_of_lt hb
      · exact h1.1 z q
    · next hb =>
      rw [Go.Proofs.bytesLess_eq, decide_eq_true_eq] at hb
      have hxy : x ≤ y := List.not_lt.1 hb
      refine List.pairwise_cons.2 ⟨fun z hz => ?_, h⟩
      rcases List.mem_cons.1 hz with q | q
      · rw [q]; exact hxy
      · exact List.le_trans hxy (h1.1 z q)
theorem sortS_sorted : ∀ l : List (List UInt8), (sortS l).Pairwise (· ≤ ·)
  | [] => List.Pairwise.nil
  | x :: r => insS_sorted x _ (sortS_sorted r)
theorem sortS_eq (l : List (List UInt8)) : sortS l = l.mergeSort (fun x y => decide (x ≤ y)) := by
  have tr : ∀ a b c : List UInt8, decide (a ≤ b) = true → decide (b ≤ c) = true → decide (a ≤ c) = true := fun a b c h1 h2 => by simp only [decide_eq_true_eq] at *; exact List.le_trans h1 h2
  have to : ∀ a b : List UInt8, (decide (a ≤ b) || decide (b ≤ a)) = true := fun a b => by simp only [Bool.or_eq_true, decide_eq_true_eq]; exact List.le_total a b
  refine List.Perm.eq_of_pairwise (le := fun a b => decide (a ≤ b) = true) (fun a b _ _ h1 h2 => ?_) ((sortS_sorted l).imp fun h => decide_eq_true h) (List.pairwise_mergeSort tr to l) ((sortS_perm l).trans (List.mergeSort_perm l _).symm)
  simp only [decide_eq_true_eq] at h1 h2
  exact List.le_antisymm h1 h2
def cstep (acc : List (List UInt8)) (z : List UInt8) : List (List UInt8) := if acc.getLast? = some z then acc else acc ++ [z]
def compactS (l : List (List UInt8)) : List (List UInt8) := l.foldl cstep []
theorem compact_upto (l : List (List UInt8)) : ∀ m, m ≤ l.length → Lib.compactUpTo l.toArray m = (l.take m).foldl cstep [] ∧ (Lib.compactUpTo l.toArray m).getLast? = if m = 0 then none else l[m - 1]?
  | 0, _ => by simp [Lib.compactUpTo]
  | m + 1, h => by
    obtain ⟨h1, h2⟩ := compact_upto l m (by omega)
    have hm : m < l.length := by omega
    have hg : l.toArray[m]! = l[m] := by simp [hm]
    rw [Lib.compactUpTo_succ, List.take_add_one, List.getElem?_eq_getElem hm, List.foldl_append, ← h1]
    simp only [Option.toList, List.foldl_cons, List.foldl_nil, cstep, h2, hg]
    by_cases h0 : m = 0
    · subst h0
      simp [Lib.keeps]
    · have hp : m - 1 < l.length := by omega
      have hg2 : l.toArray[m - 1]! = l[m - 1] := by simp [hp]
      simp only [if_neg h0, List.getElem?_eq_getElem hp, Option.some.injEq]
      by_cases he : l[m - 1] = l[m]
      · have hk : Lib.keeps l.toArray m = false := Lib.keeps_neg (by omega) (by rw [hg, hg2, he])
        simp only [hk, if_pos he, Bool.false_eq_true, if_false, List.append_nil, h2, if_neg h0, List.getElem?_eq_getElem hp]
        simp [he, hm]
      · have hk : Lib.keeps l.toArray m = true := Lib.keeps_pos (by rw [hg, hg2]; exact fun e => he e.symm)
        simp only [hk, if_neg he, if_true]
        simp [hm]
theorem compactS_eq (l : List (List UInt8)) : compactS l = Lib.compact l := by
  have := (compact_upto l l.length (Nat.le_refl _)).1
  rw [List.take_length] at this
  exact this.symm
theorem compact_len (l : List (List UInt8)) : (compactS l).length ≤ l.length := by
  unfold compactS
  suffices h : ∀ (acc : List (List UInt8)) (l : List (List UInt8)), (l.foldl cstep acc).length ≤ acc.length + l.length by simpa using h [] l
  intro acc l
  induction l generalizing acc with
  | nil => simp
  | cons x r ih =>
    refine Nat.le_trans (ih (cstep acc x)) ?_
    have : (cstep acc x).length ≤ acc.length + 1 := by unfold cstep; split <;> simp
    simp only [List.length_cons]; omega
theorem cstep_sorted (acc : List (List UInt8)) (z : List UInt8) (h : acc.Pairwise (· < ·)) (hz : ∀ y ∈ acc, y ≤ z) : (cstep acc z).Pairwise (· < ·) ∧ ∀ y, y ∈ cstep acc z ↔ y ∈ acc ∨ y = z := by
  unfold cstep
  split
  · next he =>
    refine ⟨h, fun y => ⟨.inl, fun q => q.elim id fun q => ?_⟩⟩
    rw [q]; exact List.mem_of_getLast? he
  · next hne =>
    refine ⟨List.pairwise_append.2 ⟨h, List.pairwise_singleton _ _, fun a ha c hc => ?_⟩, fun y => by simp⟩
    rw [List.mem_singleton.1 hc]
    have hle := hz a ha
    by_cases hlt : a < z
    · exact hlt
    · have hza : z = a := List.le_antisymm (List.not_lt.1 hlt) hle
      subst hza
      -- the last one is at least as great as z, and not z: no
      exfalso
      have hnil : acc ≠ [] := fun q => by rw [q] at ha; cases ha
      have hl : acc.getLast? = some (acc.getLast hnil) := List.getLast?_eq_some_getLast hnil
      have hm := List.getLast_mem hnil
      have hle2 := hz _ hm
      rw [hl] at hne
      have hcat : acc = acc.dropLast ++ [acc.getLast hnil] := (List.dropLast_concat_getLast hnil).symm
      rw [hcat] at ha h
      rcases List.mem_append.1 ha with q | q
      · have hq := (List.pairwise_append.1 h).2.2 z q _ (List.mem_singleton_self _)
        exact absurd hle2 (List.not_le.2 hq)
      · exact hne (congrArg some (List.mem_singleton.1 q).symm)
theorem compact_sorted : ∀ (l acc : List (List UInt8)), acc.Pairwise (· < ·) → (∀ y ∈ acc, ∀ z ∈ l, y ≤ z) → l.Pairwise (· ≤ ·) → (l.foldl cstep acc).Pairwise (· < ·) ∧ ∀ y, y ∈ l.foldl cstep acc ↔ y ∈ acc ∨ y ∈ l
  | [], acc, h, _, _ => ⟨h, fun y => by simp⟩
  | z :: r, acc, h, h1, h2 => by
    have hs := cstep_sorted acc z h (fun y hy => h1 y hy z (List.mem_cons_self ..))
    have hp := List.pairwise_cons.1 h2
    have ih := compact_sorted r (cstep acc z) hs.1 (fun y hy w hw => by
      rcases (hs.2 y).1 hy with q | q
      · exact h1 y q w (List.mem_cons_of_mem _ hw)
      · rw [q]; exact hp.1 w hw) hp.2
    refine ⟨ih.1, fun y => ?_⟩
    rw [List.foldl_cons, ih.2 y, hs.2 y, List.mem_cons]
    constructor
    · rintro ((q | q) | q)
      · exact .inl q
      · exact .inr (.inl q)
      · exact .inr (.inr q)
    · rintro (q | q | q)
      · exact .inl (.inl q)
      · exact .inl (.inr q)
      · exact .inr q
def keysS (l : List (List UInt8)) : List (List UInt8) := compactS (sortS l)
theorem keysS_lt (l : List (List UInt8)) : (keysS l).Pairwise (· < ·) := (compact_sorted (sortS l) [] List.Pairwise.nil (fun y h => by cases h) (sortS_sorted l)).1
theorem keysS_mem (l : List (List UInt8)) (y : List UInt8) : y ∈ keysS l ↔ y ∈ l := by
  have := (compact_sorted (sortS l) [] List.Pairwise.nil (fun y h => by cases h) (sortS_sorted l)).2 y
  rw [show keysS l = (sortS l).foldl cstep [] from rfl, this]
  simp [(sortS_perm l).mem_iff]
theorem keysS_len (l : List (List UInt8)) : (keysS l).length ≤ l.length := by
  have h1 := compact_len (sortS l)
  rw [(sortS_perm l).length_eq] at h1
  exact h1
end Go.S
end

section
set_option linter.unusedVariables false
set_option linter.unusedSimpArgs false
set_option linter.unusedSectionVars false
namespace Go.V
open Go.RowKit Go.S Go.Sort
theorem putCells_toList {enc : Str → Value} (d : List Str) (cur : Array Value) (h : d.length ≤ cur.size) : (putCells enc 0 d.toArray cur).toList = d.map enc ++ cur.toList.drop d.length := by
  apply List.ext_getElem?
  intro j
  unfold putCells
  rw [Array.getElem?_toList, Array.getElem?_mapIdx]
  by_cases hj : j < d.length
  · have hc : j < cur.size := by omega
    rw [List.getElem?_append_left (by simpa using hj)]
    simp [hc, hj]
  · rw [List.getElem?_append_right (by simp; omega)]
    simp only [List.length_map, List.getElem?_drop, Array.getElem?_toList, List.size_toArray]
    rw [show d.length + (j - d.length) = j by omega]
    cases hc : cur[j]? with
    | none => rfl
    | some x => simp; omega
theorem Ct.sort {P : Program} {f : FuncId} (he : ∀ (xs : Array Value) (w : World), (callFunc f xs).run P w = .ok (.enter f xs) w)
    (hc : ∀ (blk off cap : Nat) (ss : List (List UInt8)) (w : World), Holds Go.Proofs.encStr w blk off ss.toArray → blk < w.heap.size → ss.length < 4611686018427387904 →
      Calls P f #[.slice (some ⟨blk, off, none⟩) ss.length cap] w fun e w' => e = .returned (.tuple #[]) ∧ ∃ n os, w' = grow (putRow Go.Proofs.encStr (Sort.ahead w n) blk off (ss.mergeSort fun x y => decide (x ≤ y)).toArray) os)
    (hn : ∀ (p : Option Addr) (cap : Nat) (w : World), Calls P f #[.slice p 0 cap] w fun e w' => e = .returned (.tuple #[]) ∧ w' = w)
    (s : Sv Str) (T : TypeId) (hb : s.l.length ≤ 4294967296) :
    Ct P f [s.val] Mo.tt (s.own T) (X := Sv Str) (fun _ => .tuple #[]) (fun q => q.l = sortS s.l ∧ q.val = s.val) (fun _ => Mo.tt) (fun q => q.own T) :=
  ⟨he, fun w hp z m hA d l k => by
    have hA0 := hA
    obtain ⟨hlc, hcm, ⟨hl0, hc0⟩ | ⟨b, cur, hsa, hg, hcs, ht⟩⟩ := hA
    · have e1 : s.val = .slice s.a 0 s.c := by unfold Sv.val; rw [hl0]; rfl
      rw [e1]
      refine (hn s.a s.c w).mono fun e w' ⟨h1, h2⟩ => ⟨_, h1, s, rfl, ⟨by rw [hl0]; rfl, e1⟩, ?_⟩
      subst h2
      exact ⟨⟨hp, z, trivial, hA0, d, l, k, Hp.le.refl hp, fun b hb => .inl hb, fun b hb => .inl hb⟩, fun b _ _ => rfl, rfl, rfl, rfl, Nat.le_refl _⟩
    · have hw : w.heap[b]? = some (.cells cur T (0, 0)) := k _ _ hg
      have hsz : Dat.sz Str = 1 := rfl
      rw [hsz, Nat.mul_one] at hcs ht
      have hfl : s.l.flatMap Dat.enc = s.l.map Go.Proofs.encStr := by
        rw [List.map_eq_flatMap]; rfl
      rw [hfl] at ht
      have hH : Holds Go.Proofs.encStr w b 0 s.l.toArray := fun j hj => by
        have hj' : j < s.l.length := by simpa using hj
        have h1 : cur[j]? = some (Go.Proofs.encStr s.l[j]) := by
          have := congrArg (fun l => l[j]?) ht
          simp only [List.getElem?_take, if_pos hj', List.getElem?_map, List.getElem?_eq_getElem hj', Option.map_some] at this
          rw [← Array.getElem?_toList]; exact this
        refine ⟨?_, by simp [World.frozen?, hw]⟩
        simp only [World.cell?, hw, Nat.zero_add, h1]
        simp [hj']
      have hlt := (Array.getElem?_eq_some_iff.1 hw).1
      have e1 : s.val = .slice (some ⟨b, 0, none⟩) s.l.length s.c := by unfold Sv.val; rw [hsa]
      rw [e1]
      have hlen : (sortS s.l).length = s.l.length := (sortS_perm s.l).length_eq
      refine (hc b 0 s.c s.l w hH hlt (by omega)).mono fun e w' ⟨h1, n, os, h2⟩ => ⟨_, h1, ⟨s.a, s.c, sortS s.l⟩, rfl, ⟨rfl, by unfold Sv.val; rw [hlen, hsa]⟩, ?_⟩
      rw [← sortS_eq] at h2
      have hw1 : (putRow Go.Proofs.encStr (Sort.ahead w n) b 0 (sortS s.l).toArray).heap[b]? = some (.cells (putCells Go.Proofs.encStr 0 (sortS s.l).toArray cur) T (0, 0)) := by
        unfold putRow mapBlock
        simp only [Array.getElem?_modify, if_true]
        show (w.heap[b]?).map _ = _
        rw [hw]; rfl
      have ho1 : ∀ i, i ≠ b → (putRow Go.Proofs.encStr (Sort.ahead w n) b 0 (sortS s.l).toArray).heap[i]? = w.heap[i]? := fun i hi => by
        unfold putRow mapBlock
        simp only [Array.getElem?_modify, if_neg (Ne.symm hi)]
        rfl
      have hs1 : (putRow Go.Proofs.encStr (Sort.ahead w n) b 0 (sortS s.l).toArray).heap.size = w.heap.size := by rw [size_putRow]; rfl
      have hst : St ⟨w, hp, fun i => z i ≠ none⟩ Mo.tt ((⟨s.a, s.c, sortS s.l⟩ : Sv Str).own T) (putRow Go.Proofs.encStr (Sort.ahead w n) b 0 (sortS s.l).toArray) := by
        refine St.turn (A := Sv.own _ T) hg d trivial l ⟨by rw [hlen]; exact hlc, hcm, .inr ⟨b, _, hsa, Hp.one_self _ _, ?_, ?_⟩⟩ hs1 hw1 ho1 rfl rfl rfl
        · rw [hsz, Nat.mul_one]; simp [putCells, hcs]
        · rw [hsz, Nat.mul_one, putCells_toList (sortS s.l) cur (by rw [hlen, hcs]; exact hlc), hlen]
          rw [List.take_append_of_le_length (by simp [hlen]), List.take_of_length_le (by simp [hlen])]
          rw [List.map_eq_flatMap]; rfl
      rw [h2]
      refine hst.grow ⟨rfl, rfl, rfl, ?_, fun k hk => ?_⟩
      · simp [grow]
      · unfold grow; exact Array.getElem?_append_left hk⟩
theorem Ct.compact {P : Program} {f : FuncId} (he : ∀ (xs : Array Value) (w : World), (callFunc f xs).run P w = .ok (.enter f xs) w)
    (hc : ∀ (blk off cap : Nat) (ss : List (List UInt8)) (w : World), Holds Go.Proofs.encStr w blk off ss.toArray → ss.length ≤ 9223372036854775807 → ss.length ≤ cap →
      Calls P f #[.slice (some ⟨blk, off, none⟩) ss.length cap] w fun e w' => e = .returned (.slice (some ⟨blk, off, none⟩) (Lib.compact ss).length cap) ∧ ∃ q, w' = putRow Go.Proofs.encStr (Sort.ahead w q) blk off (Lib.compact ss ++ List.replicate (ss.length - (Lib.compact ss).length) []).toArray)
    (hn : ∀ (p : Option Addr) (cap : Nat) (w : World), Calls P f #[.slice p 0 cap] w fun e w' => e = .returned (.slice p 0 cap) ∧ w' = w)
    (s : Sv Str) (T : TypeId) (hb : s.l.length ≤ 4294967296) :
    Ct P f [s.val] Mo.tt (s.own T) (X := Sv Str) (fun q => q.val) (fun q => q.l = compactS s.l) (fun _ => Mo.tt) (fun q => q.own T) :=
  ⟨he, fun w hp z m hA d l k => by
    have hA0 := hA
    obtain ⟨hlc, hcm, ⟨hl0, hc0⟩ | ⟨b, cur, hsa, hg, hcs, ht⟩⟩ := hA
    · have e1 : s.val = .slice s.a 0 s.c := by unfold Sv.val; rw [hl0]; rfl
      rw [e1]
      refine (hn s.a s.c w).mono fun e w' ⟨h1, h2⟩ => ⟨_, h1, s, e1.symm, by show s.l = compactS s.l; rw [hl0]; rfl, ?_⟩
      subst h2
      exact ⟨⟨hp, z, trivial, hA0, d, l, k, Hp.le.refl hp, fun b hb => .inl hb, fun b hb => .inl hb⟩, fun b _ _ => rfl, rfl, rfl, rfl, Nat.le_refl _⟩
    · have hw : w.heap[b]? = some (.cells cur T (0, 0)) := k _ _ hg
      have hsz : Dat.sz Str = 1 := rfl
      rw [hsz, Nat.mul_one] at hcs ht
      have hfl : ∀ l : List Str, l.flatMap Dat.enc = l.map Go.Proofs.encStr := fun l => by
        rw [List.map_eq_flatMap]; rfl
      rw [hfl] at ht
      have hH : Holds Go.Proofs.encStr w b 0 s.l.toArray := fun j hj => by
        have hj' : j < s.l.length := by simpa using hj
        have h1 : cur[j]? = some (Go.Proofs.encStr s.l[j]) := by
          have := congrArg (fun l => l[j]?) ht
          simp only [List.getElem?_take, if_pos hj', List.getElem?_map, List.getElem?_eq_getElem hj', Option.map_some] at this
          rw [← Array.getElem?_toList]; exact this
        refine ⟨?_, by simp [World.frozen?, hw]⟩
        simp only [World.cell?, hw, Nat.zero_add, h1]
        simp [hj']
      have e1 : s.val = .slice (some ⟨b, 0, none⟩) s.l.length s.c := by unfold Sv.val; rw [hsa]
      rw [e1]
      have hle := compact_len s.l
      refine (hc b 0 s.c s.l w hH (by omega) hlc).mono fun e w' ⟨h1, n, h2⟩ => ⟨_, h1, ⟨s.a, s.c, compactS s.l⟩, by unfold Sv.val; rw [compactS_eq, hsa], rfl, ?_⟩
      rw [← compactS_eq] at h2
      have hlen : (compactS s.l ++ List.replicate (s.l.length - (compactS s.l).length) []).length = s.l.length := by simp; omega
      generalize hD : compactS s.l ++ List.replicate (s.l.length - (compactS s.l).length) [] = D at h2 hlen
      have hw1 : (putRow Go.Proofs.encStr (Sort.ahead w n) b 0 D.toArray).heap[b]? = some (.cells (putCells Go.Proofs.encStr 0 D.toArray cur) T (0, 0)) := by
        unfold putRow mapBlock
        simp only [Array.getElem?_modify, if_true]
        show (w.heap[b]?).map _ = _
        rw [hw]; rfl
      have ho1 : ∀ i, i ≠ b → (putRow Go.Proofs.encStr (Sort.ahead w n) b 0 D.toArray).heap[i]? = w.heap[i]? := fun i hi => by
        unfold putRow mapBlock
        simp only [Array.getElem?_modify, if_neg (Ne.symm hi)]
        rfl
      have hs1 : (putRow Go.Proofs.encStr (Sort.ahead w n) b 0 D.toArray).heap.size = w.heap.size := by rw [size_putRow]; rfl
      rw [h2]
      refine St.turn (A := Sv.own _ T) hg d trivial l ⟨Nat.le_trans hle hlc, hcm, .inr ⟨b, _, hsa, Hp.one_self _ _, ?_, ?_⟩⟩ hs1 hw1 ho1 rfl rfl rfl
      · rw [hsz, Nat.mul_one]; simp [putCells, hcs]
      · rw [hsz, Nat.mul_one, putCells_toList D cur (by rw [hlen, hcs]; exact hlc), hfl, ← hD, List.map_append, List.append_assoc]
        rw [List.take_append_of_le_length (by simp), List.take_of_length_le (by simp)]⟩
end Go.V
end

section
set_option linter.unusedVariables false
set_option linter.unusedSimpArgs false
set_option linter.unusedSectionVars false
namespace Go.V
open Go.RowKit Go.S Go.Sort Go.Maps
open Go.WideElems (Fit rg)
section
variable {P : Program} {N : Nat} {c : Cx} {ops : Array Oper} {Q Q1 : Exit → Act → World → Prop} {rest : List Oper} {o : Oper} {ρ : Env} {M M' M1 M0 : Mo} {E E1 F A : Ow} {v u : Value} {X S T R : Type}
  {d : Nat} {od : Option Nat} {ty : TypeId} {pos : String} {after : Array Edge} {gd : Option (Nat × Bool)} {x y m' : Operand} {t t' e k : TypeId} {f : FuncId}
theorem run_append_ty {e' : TypeId} (ht : P.underlying t = some (.slice e)) (ht' : P.underlying t' = some (.slice e')) (a1 a2 : Option Addr) (n1 c1 n2 c2 : Nat) (w : World) : (Builtin.append_ #[t, t'] ty #[.slice a1 n1 c1, .slice a2 n2 c2]).run P w = (Builtin.append_ #[t, t] ty #[.slice a1 n1 c1, .slice a2 n2 c2]).run P w := by
  simp [Builtin.append_, run_underlying ht, run_underlying ht']
theorem VL.app2 {α : Type} [Dat α] {s r : Sv α} {xs : List Operand} {bt : Nat} {e' : TypeId} (hu : P.underlying t = some (.slice e)) (hu' : P.underlying t' = some (.slice e')) (hi : ((P.info? e).map fun i => (i.size, i.bytes, (i.zero.map fun z => z.cells.size))) = some (Dat.sz α, bt, some (Dat.sz α))) (hpos : 0 < Dat.sz α)
    (ha : ρ.evs xs = some [s.val, r.val]) (hE : Foc E (s.own e) F) [hr : InM M r.ok] (hlen : s.l.length + r.l.length ≤ 9007199254740992) (hb : (s.l.length + r.l.length) * bt ≤ 140737488355328) (hd : d < N)
    (k : ∀ s' : Sv α, s'.l = s.l ++ r.l → VL P N c ops Q rest ((d, s'.val) :: ρ) M (Ow.star (s'.own e) F)) :
    VL P N c ops Q (⟨some d, .call { callee := .builtin .append, args := xs.toArray, argTypes := #[t, t'] }, ty, pos, after, none⟩ :: rest) ρ M E := by
  cases hj : P.info? e with
  | none => rw [hj] at hi; cases hi
  | some j =>
    rw [hj] at hi
    simp only [Option.map_some, Option.some.injEq, Prod.mk.injEq] at hi
    obtain ⟨h1, h2, h3⟩ := hi
    cases hz : j.zero with
    | none => rw [hz] at h3; cases h3
    | some zv =>
      rw [hz] at h3
      have h3' : zv.cells.size = j.size := by rw [h1]; simpa using h3
      refine VL.big (X := Sv α) (φ := fun s' => s'.l = s.l ++ r.l) (val := Sv.val) (M2 := fun _ => Mo.tt) (A2 := fun s' => s'.own e) hE (fun a w h z g hoff m hA l kk => ?_) hd fun s' hs' => VL.strip (k s' hs')
      obtain ⟨s', w', q1, q2, q3⟩ := run_app (P := P) (ts := ty) hu hj hz h1 h3' hpos hoff l kk hA (r.ok.up (Hp.le_join_left h z) (hr.out h m)) hlen (by rw [h2]; exact hb)
      have q1 := (run_append_ty (ty := ty) hu hu' s.a r.a s.l.length s.c r.l.length r.c w).trans q1
      refine ⟨s'.val, w', ?_, s', q2, rfl, q3⟩
      simp only [execOp, resolve, List.map_toArray, g.evs ha, Sem.run_bind, Sem.run_pure, Result.andThen_ok, invoke, builtin]
      unfold Sv.val
      simp only [q1, Sem.run_pure, Result.andThen_ok]
      rfl
end
end Go.V
end

section
set_option linter.unusedVariables false
set_option linter.unusedSimpArgs false
set_option linter.unusedSectionVars false
namespace Go.S
def mget {α β : Type} [DecidableEq α] (l : List (α × β)) (a : α) : Option β := (l.find? fun p => decide (p.1 = a)).map (·.2)
end Go.S
namespace Go.S
end Go.S
namespace Go.V
open Go.RowKit Go.S Go.Sort Go.Maps
open Go.WideElems (Fit rg)
structure Kk (α : Type) where
  v : α → Value
  t : α → Lit
  inj : ∀ a b, t a = t b → a = b
def MpV {α β : Type} [DecidableEq α] (P : Program) (k e : TypeId) (A : Kk α) (B : Kk β) (b : Nat) (l : List (α × β)) : Ow := fun z => ∃ es clock, z b = some (.map es clock) ∧ Fit (H := Unit) P k (plainElem P e) es clock ∧ es.size ≤ l.length ∧
  ∀ x : α, has (H := Unit) (.map ((es.toList.map (rg P k (plainElem P e))).foldr DataW.insert [])) (A.t x) = (mget l x).isSome ∧ ∀ zd : DataW Unit, DataW.atKey (.map ((es.toList.map (rg P k (plainElem P e))).foldr DataW.insert [])) (A.t x) zd = ((mget l x).map fun y => .lit (B.t y)).getD zd
structure Mv (α β : Type) where
  b : Nat
  l : List (α × β)
@[reducible] def Mv.val {α β : Type} (m : Mv α β) : Value := .map (some m.b)
@[reducible] def Mv.own {α β : Type} [DecidableEq α] (m : Mv α β) (P : Program) (k e : TypeId) (A : Kk α) (B : Kk β) : Ow := MpV P k e A B m.b m.l
section
variable {P : Program} {N : Nat} {c : Cx} {ops : Array Oper} {Q Q1 : Exit → Act → World → Prop} {rest : List Oper} {o : Oper} {ρ : Env} {M M' M1 M0 : Mo} {E E1 F : Ow} {v u : Value}
  {d : Nat} {od : Option Nat} {ty : TypeId} {pos : String} {after : Array Edge} {gd : Option (Nat × Bool)} {x y m' : Operand} {t t' e k : TypeId} {f : FuncId}
  {α β : Type} [DecidableEq α] {A : Kk α} {B : Kk β} {b : Nat} {l : List (α × β)}
theorem MpV.up {h z : Hp} (k0 : MpV P k e A B b l h) (lz : h.le z) : MpV P k e A B b l z := by
  obtain ⟨es, clock, h1, h2⟩ := k0
  exact ⟨es, clock, lz _ _ h1, h2⟩
instance (priority := 800) EntO.mpV (E : Ow) {F : Ow} (P : Program) (k e : TypeId) (A : Kk α) (B : Kk β) (b : Nat) (l : List (α × β)) [i : Fo E (MpV P k e A B b l) F] : EntO E (MpV P k e A B b l) := ⟨fun e' he => by
  obtain ⟨x, y, dxy, j, hx, hy⟩ := i.out e' he
  exact hx.up (by rw [j]; exact Hp.le_join_left x y)⟩
end
end Go.V
end

section
set_option linter.unusedVariables false
namespace Go.S.Sh
open Go
noncomputable def slices_Clip_index_Entry_index_Entry (s_0 : List IndexEntry) : Option (List IndexEntry) :=
 gd ((0 : Int) ≤ (s_0.length : Int) ∧ (s_0.length : Int) ≤ (s_0.length : Int)) (
 lt (s_0.take (s_0.length : Int).toNat) (fun y8_2 =>
 some y8_2))
noncomputable def index_Of (r_0 : List FilesFile) : Option (List IndexEntry) :=
 iter (fun ((out3_1, x8_2) : List IndexEntry × Int) =>
 if x8_2 < (r_0.length : Int) then ((at_ r_0 x8_2).bind (fun z10_3 =>
 lt [⟨z10_3.path, 0, z10_3.mode, z10_3.data, 0, 0⟩] (fun y20_6 =>
 gd (out3_1.length + y20_6.length ≤ 4294967296) (
 lt (out3_1 ++ y20_6) (fun y21_8 =>
 gd (I64 (x8_2 + 1)) (
 go (y21_8, (x8_2 + 1))))))))
 else (up ((Sh.slices_Clip_index_Entry_index_Entry out3_1).bind (fun y24_9 =>
 some y24_9)))) ([], 0)
noncomputable def slices_Clone_index_Entry_index_Entry (s_0 : List IndexEntry) : Option (List IndexEntry) :=
 lt ([] : List IndexEntry) (fun y5_2 =>
 gd (y5_2.length + s_0.length ≤ 4294967296) (
 lt (y5_2 ++ s_0) (fun y7_4 =>
 some y7_4)))
noncomputable def internal_stringslite_HasPrefix (s_0 : Str) (prefix_1 : Str) : Option Bool :=
 if (prefix_1.length : Int) ≤ (s_0.length : Int) then (gd ((0 : Int) ≤ (prefix_1.length : Int) ∧ (prefix_1.length : Int) ≤ (s_0.length : Int)) (
 lt (s_0.take (prefix_1.length : Int).toNat) (fun y14_1 =>
 some (decide (y14_1 = prefix_1)))))
 else (some false)
noncomputable def strings_HasPrefix (s_0 : Str) (prefix_1 : Str) : Option Bool :=
 (Sh.internal_stringslite_HasPrefix s_0 prefix_1).bind (fun y7_1 =>
 some y7_1)
noncomputable def path_Under (p_0 : Str) (dir_1 : Str) : Option Bool :=
 if dir_1 = [] then (some (!decide (p_0 = [])))
 else (gd (I64 ((dir_1.length : Int) + 1)) (
 if ((dir_1.length : Int) + 1) < (p_0.length : Int) then (gd (dir_1.length + [47].length ≤ 9223372036854775807) (
 lt (dir_1 ++ [47]) (fun y18_1 =>
 (Sh.strings_HasPrefix p_0 y18_1).bind (fun y19_2 =>
 some y19_2))))
 else (some false)))
noncomputable def path_Clash (a_0 : Str) (b_1 : Str) : Option Bool :=
 if a_0 = [] then (some false)
 else (if b_1 = [] then (some false)
 else ((Sh.path_Under a_0 b_1).bind (fun y14_1 =>
 if y14_1 = true then (some true)
 else ((Sh.path_Under b_1 a_0).bind (fun y18_2 =>
 some y18_2)))))
noncomputable def index_gives (x_0 : IndexEntry) (e_1 : IndexEntry) : Option Bool :=
 (Sh.path_Clash x_0.path e_1.path).bind (fun y10_3 =>
 if y10_3 = true then (some true)
 else (if x_0.path = e_1.path then (jn (fun (_ : Unit) =>
 if x_0.stage = 0 then (some true)
 else (some (decide (x_0.stage = e_1.stage)))) (fun k4 => if e_1.stage = 1 then (k4 ())
 else (if e_1.stage = 2 then (k4 ())
 else (if e_1.stage = 3 then (k4 ())
 else (some true)))))
 else (some false)))
noncomputable def index_Put_1 (x_0 : IndexEntry) (a_1 : IndexEntry) : Option Bool :=
 (Sh.index_gives x_0 a_1).bind (fun y6_2 =>
 some y6_2)
noncomputable def slices_IndexFunc_index_Entry_index_Entry (s_0 : List IndexEntry) (f_1_0 : IndexEntry) : Option Int :=
 iter (fun (x8_1 : Int) =>
 if x8_1 < (s_0.length : Int) then ((at_ s_0 x8_1).bind (fun z14_2 =>
 (Sh.index_Put_1 z14_2 f_1_0).bind (fun y16_3 =>
 if y16_3 = true then (up (some x8_1))
 else (gd (I64 (x8_1 + 1)) (
 go (x8_1 + 1))))))
 else (up (some (-1)))) 0
noncomputable def slices_DeleteFunc_index_Entry_index_Entry (s_0 : List IndexEntry) (del_1_0 : IndexEntry) : Option (List IndexEntry) :=
 (Sh.slices_IndexFunc_index_Entry_index_Entry s_0 del_1_0).bind (fun y10_1 =>
 if y10_1 = (-1) then (some s_0)
 else (gd (I64 (y10_1 + 1)) (
 iter (fun ((s0_2, i5_3, j6_4) : List IndexEntry × Int × Int) =>
 if j6_4 < (s0_2.length : Int) then (jn (fun ((s0_5, i5_6) : List IndexEntry × Int) =>
 gd (I64 (j6_4 + 1)) (
 go (s0_5, i5_6, (j6_4 + 1)))) (fun k7 => (at_ s0_2 j6_4).bind (fun z24_8 =>
 (Sh.index_Put_1 z24_8 del_1_0).bind (fun y28_10 =>
 if (!y28_10) = true then ((at_ s0_2 i5_3).bind (fun z33_11 =>
 lt (s0_2.set i5_3.toNat ⟨z24_8.path, z24_8.stage, z24_8.mode, z24_8.data, z24_8.time, z24_8.size⟩) (fun ys4_13 =>
 gd (I64 (i5_3 + 1)) (
 k7 (ys4_13, (i5_3 + 1))))))
 else (k7 (s0_2, i5_3))))))
 else (up (gd ((0 : Int) ≤ i5_3 ∧ i5_3 ≤ (s0_2.length : Int)) (
 lt (s0_2.take i5_3.toNat) (fun ys3_16 =>
 some ys3_16))))) (s_0, y10_1, (y10_1 + 1)))))
noncomputable def cmp_isNaN_string (x_0 : Str) : Option Bool :=
 some (!decide (x_0 = x_0))
noncomputable def cmp_Compare_string (x_0 : Str) (y_1 : Str) : Option Int :=
 (Sh.cmp_isNaN_string x_0).bind (fun y8_1 =>
 (Sh.cmp_isNaN_string y_1).bind (fun y10_2 =>
 if y8_1 = true then (if y10_2 = true then (some 0)
 else (some (-1)))
 else (if y10_2 = true then (some 1)
 else (if (Op.bytesLess x_0 y_1) = true then (some (-1))
 else (if (!(Op.bytesLess x_0 y_1 || decide (x_0 = y_1))) = true then (some 1)
 else (some 0))))))
noncomputable def path_Compare (a_0 : Str) (b_1 : Str) : Option Int :=
 (Sh.cmp_Compare_string a_0 b_1).bind (fun y7_1 =>
 some y7_1)
noncomputable def cmp_isNaN_int (x_0 : Int) : Option Bool :=
 some (!decide (x_0 = x_0))
noncomputable def cmp_Compare_int (x_0 : Int) (y_1 : Int) : Option Int :=
 (Sh.cmp_isNaN_int x_0).bind (fun y8_1 =>
 (Sh.cmp_isNaN_int y_1).bind (fun y10_2 =>
 if y8_1 = true then (if y10_2 = true then (some 0)
 else (some (-1)))
 else (if y10_2 = true then (some 1)
 else (if x_0 < y_1 then (some (-1))
 else (if y_1 < x_0 then (some 1)
 else (some 0))))))
noncomputable def cmp_Or_int (vals_0 : List Int) : Option Int :=
 iter (fun (x8_1 : Int) =>
 if x8_1 < (vals_0.length : Int) then ((at_ vals_0 x8_1).bind (fun z10_2 =>
 if z10_2 = 0 then (gd (I64 (x8_1 + 1)) (
 go (x8_1 + 1)))
 else (up (some z10_2))))
 else (up (some 0))) 0
noncomputable def index_compare (a_0 : IndexEntry) (b_1 : IndexEntry) : Option Int :=
 (Sh.path_Compare a_0.path b_1.path).bind (fun y9_3 =>
 (Sh.cmp_Compare_int a_0.stage b_1.stage).bind (fun y14_4 =>
 lt [y9_3, y14_4] (fun y15_6 =>
 (Sh.cmp_Or_int y15_6).bind (fun y16_7 =>
 some y16_7))))
noncomputable def index_Put (l_0 : List IndexEntry) (e_1 : IndexEntry) : Option (List IndexEntry) :=
 (Sh.slices_Clone_index_Entry_index_Entry l_0).bind (fun y8_2 =>
 (Sh.slices_DeleteFunc_index_Entry_index_Entry y8_2 e_1).bind (fun y10_3 =>
 jn (fun (i6_4 : Int) =>
 lt [⟨e_1.path, e_1.stage, e_1.mode, e_1.data, e_1.time, e_1.size⟩] (fun y29_10 =>
 gd (((0 : Int) ≤ i6_4 ∧ i6_4 ≤ (y10_3.length : Int)) ∧ y29_10 ≠ [] ∧ y10_3.length + y29_10.length ≤ 4294967296) (
 lt (y10_3.take i6_4.toNat ++ y29_10 ++ y10_3.drop i6_4.toNat) (fun y30_12 =>
 (Sh.slices_Clip_index_Entry_index_Entry y30_12).bind (fun y31_13 =>
 some y31_13))))) (fun k5 => iter (fun (i6_6 : Int) =>
 if i6_6 < (y10_3.length : Int) then ((at_ y10_3 i6_6).bind (fun z18_7 =>
 (Sh.index_compare z18_7 e_1).bind (fun y21_8 =>
 if y21_8 < 0 then (gd (I64 (i6_6 + 1)) (
 go (i6_6 + 1)))
 else (up (k5 i6_6)))))
 else (up (k5 i6_6))) 0)))
noncomputable def slices_Clip_string_string (s_0 : List Str) : Option (List Str) :=
 gd ((0 : Int) ≤ (s_0.length : Int) ∧ (s_0.length : Int) ≤ (s_0.length : Int)) (
 lt (s_0.take (s_0.length : Int).toNat) (fun y8_2 =>
 some y8_2))
noncomputable def index_Conflicts (l_0 : List IndexEntry) : Option (List Str) :=
 iter (fun ((out3_1, x8_2) : List Str × Int) =>
 if x8_2 < (l_0.length : Int) then ((at_ l_0 x8_2).bind (fun z10_3 =>
 if z10_3.stage = 0 then (gd (I64 (x8_2 + 1)) (
 go (out3_1, (x8_2 + 1))))
 else (lt [z10_3.path] (fun y18_6 =>
 gd (out3_1.length + y18_6.length ≤ 4294967296) (
 lt (out3_1 ++ y18_6) (fun y19_8 =>
 gd (I64 (x8_2 + 1)) (
 go (y19_8, (x8_2 + 1)))))))))
 else (up (gd (out3_1.length ≤ 4294967296) (
 lt (sortS out3_1) (fun y22_10 =>
 gd (y22_10.length ≤ 4294967296) (
 lt (compactS y22_10) (fun y24_12 =>
 (Sh.slices_Clip_string_string y24_12).bind (fun y25_13 =>
 some y25_13)))))))) ([], 0)
noncomputable def unicode_utf8_RuneCountInString (s_0 : Str) : Option Int :=
 none
noncomputable def unicode_utf8_decodeRuneInStringSlow (s_0 : Str) : Option (Int × Int) :=
 if (s_0.length : Int) < 1 then (some (65533, 0))
 else ((at_ s_0 0).bind (fun z18_1 =>
 none))
noncomputable def unicode_utf8_DecodeRuneInString (s_0 : Str) : Option (Int × Int) :=
 jn (fun (x10_1 : Bool) =>
 if x10_1 = true then ((at_ s_0 0).bind (fun z12_4 =>
 some ((z12_4.toNat : Int), 1)))
 else ((Sh.unicode_utf8_decodeRuneInStringSlow s_0).bind (fun y16_5 =>
 some (y16_5.1, y16_5.2)))) (fun k2 => if s_0 = [] then (k2 false)
 else ((at_ s_0 0).bind (fun z8_3 =>
 k2 (decide ((z8_3.toNat : Int) < 128)))))
noncomputable def strings_explode (s_0 : Str) (n_1 : Int) : Option (List Str) :=
 (Sh.unicode_utf8_RuneCountInString s_0).bind (fun y11_1 =>
 jn (fun (n1_2 : Int) =>
 gd ((0 : Int) ≤ n1_2 ∧ n1_2 ≤ 4294967296) (
 lt (List.replicate n1_2.toNat []) (fun y21_7 =>
 iter (fun ((s0_8, a6_9, i7_10) : Str × List Str × Int) =>
 gd (I64 (n1_2 - 1)) (
 if i7_10 < (n1_2 - 1) then ((Sh.unicode_utf8_DecodeRuneInString s0_8).bind (fun y30_11 =>
 gd ((0 : Int) ≤ y30_11.2 ∧ y30_11.2 ≤ (s0_8.length : Int)) (
 lt (s0_8.take y30_11.2.toNat) (fun y37_12 =>
 (at_ a6_9 i7_10).bind (fun z38_13 =>
 lt (a6_9.set i7_10.toNat y37_12) (fun ys6_15 =>
 gd ((0 : Int) ≤ y30_11.2 ∧ y30_11.2 ≤ (s0_8.length : Int)) (
 lt (s0_8.drop y30_11.2.toNat) (fun y41_16 =>
 gd (I64 (i7_10 + 1)) (
 go (y41_16, ys6_15, (i7_10 + 1)))))))))))
 else (up (if 0 < n1_2 then (gd (I64 (n1_2 - 1)) (
 (at_ a6_9 (n1_2 - 1)).bind (fun z48_17 =>
 lt (a6_9.set (n1_2 - 1).toNat s0_8) (fun ys5_19 =>
 some ys5_19))))
 else (some a6_9))))) (s_0, y21_7, 0)))) (fun k3 => jn (fun (x18_4 : Bool) =>
 if x18_4 = true then (k3 y11_1)
 else (k3 n_1)) (fun k5 => if n_1 < 0 then (k5 true)
 else (k5 (decide (y11_1 < n_1))))))
noncomputable def internal_stringslite_IndexByte (s_0 : Str) (c_1 : Int) : Option Int :=
 some (ixB s_0 c_1)
noncomputable def internal_stringslite_Index (s_0 : Str) (substr_1 : Str) : Option Int :=
 jn (fun (x16_1 : Bool) =>
 if x16_1 = true then (some 0)
 else (if (substr_1.length : Int) = 1 then ((at_ substr_1 0).bind (fun z29_3 =>
 (Sh.internal_stringslite_IndexByte s_0 (z29_3.toNat : Int)).bind (fun y30_4 =>
 some y30_4)))
 else (if (s_0.length : Int) ≤ (substr_1.length : Int) then (some (-1))
 else (none)))) (fun k2 => if (substr_1.length : Int) = 0 then (k2 true)
 else (k2 (decide (substr_1 = s_0))))
noncomputable def strings_Index (s_0 : Str) (substr_1 : Str) : Option Int :=
 (Sh.internal_stringslite_Index s_0 substr_1).bind (fun y7_1 =>
 some y7_1)
noncomputable def strings_Count (s_0 : Str) (substr_1 : Str) : Option Int :=
 if (substr_1.length : Int) = 0 then ((Sh.unicode_utf8_RuneCountInString s_0).bind (fun y11_1 =>
 gd (I64 (y11_1 + 1)) (
 some (y11_1 + 1))))
 else (if (substr_1.length : Int) = 1 then ((at_ substr_1 0).bind (fun z18_2 =>
 some (cntB s_0 (z18_2.toNat : Int))))
 else (iter (fun ((s0_3, n5_4) : Str × Int) =>
 (Sh.strings_Index s0_3 substr_1).bind (fun y22_5 =>
 if y22_5 = (-1) then (up (some n5_4))
 else (gd (I64 (n5_4 + 1)) (
 gd (I64 (y22_5 + (substr_1.length : Int))) (
 gd ((0 : Int) ≤ (y22_5 + (substr_1.length : Int)) ∧ (y22_5 + (substr_1.length : Int)) ≤ (s0_3.length : Int)) (
 lt (s0_3.drop (y22_5 + (substr_1.length : Int)).toNat) (fun y33_6 =>
 go (y33_6, (n5_4 + 1))))))))) (s_0, 0)))
noncomputable def strings_genSplit (s_0 : Str) (sep_1 : Str) (sepSave_2 : Int) (n_3 : Int) : Option (List Str) :=
 if n_3 = 0 then (some [])
 else (if sep_1 = [] then ((Sh.strings_explode s_0 n_3).bind (fun y18_1 =>
 some y18_1))
 else (jn (fun (n3_2 : Int) =>
 gd (I64 ((s_0.length : Int) + 1)) (
 gd ((0 : Int) ≤ (min n3_2 ((s_0.length : Int) + 1)) ∧ (min n3_2 ((s_0.length : Int) + 1)) ≤ 4294967296) (
 lt (List.replicate (min n3_2 ((s_0.length : Int) + 1)).toNat []) (fun y31_6 =>
 gd (I64 ((min n3_2 ((s_0.length : Int) + 1)) - 1)) (
 jn (fun ((s0_7, a9_8, i10_9) : Str × List Str × Int) =>
 (at_ a9_8 i10_9).bind (fun z61_20 =>
 lt (a9_8.set i10_9.toNat s0_7) (fun ys4_22 =>
 gd (I64 (i10_9 + 1)) (
 gd ((0 : Int) ≤ (i10_9 + 1) ∧ (i10_9 + 1) ≤ (ys4_22.length : Int)) (
 lt (ys4_22.take (i10_9 + 1).toNat) (fun y65_24 =>
 some y65_24)))))) (fun k10 => iter (fun ((s0_11, a9_12, i10_13) : Str × List Str × Int) =>
 if i10_13 < ((min n3_2 ((s_0.length : Int) + 1)) - 1) then ((Sh.strings_Index s0_11 sep_1).bind (fun y39_14 =>
 if y39_14 < 0 then (up (k10 (s0_11, a9_12, i10_13)))
 else (gd (I64 (y39_14 + sepSave_2)) (
 gd ((0 : Int) ≤ (y39_14 + sepSave_2) ∧ (y39_14 + sepSave_2) ≤ (s0_11.length : Int)) (
 lt (s0_11.take (y39_14 + sepSave_2).toNat) (fun y48_15 =>
 (at_ a9_12 i10_13).bind (fun z49_16 =>
 lt (a9_12.set i10_13.toNat y48_15) (fun ys8_18 =>
 gd (I64 (y39_14 + (sep_1.length : Int))) (
 gd ((0 : Int) ≤ (y39_14 + (sep_1.length : Int)) ∧ (y39_14 + (sep_1.length : Int)) ≤ (s0_11.length : Int)) (
 lt (s0_11.drop (y39_14 + (sep_1.length : Int)).toNat) (fun y55_19 =>
 gd (I64 (i10_13 + 1)) (
 go (y55_19, ys8_18, (i10_13 + 1))))))))))))))
 else (up (k10 (s0_11, a9_12, i10_13)))) (s_0, y31_6, 0))))))) (fun k3 => if n_3 < 0 then ((Sh.strings_Count s_0 sep_1).bind (fun y23_4 =>
 gd (I64 (y23_4 + 1)) (
 k3 (y23_4 + 1))))
 else (k3 n_3))))
noncomputable def strings_Split (s_0 : Str) (sep_1 : Str) : Option (List Str) :=
 (Sh.strings_genSplit s_0 sep_1 0 (-1)).bind (fun y7_1 =>
 some y7_1)
noncomputable def path_good (c_0 : Int) : Option Bool :=
 jn (fun (_ : Unit) =>
 if 97 ≤ c_0 then (if c_0 ≤ 122 then (some true)
 else (if 48 ≤ c_0 then (some (decide (c_0 ≤ 57)))
 else (some false)))
 else (if 48 ≤ c_0 then (some (decide (c_0 ≤ 57)))
 else (some false))) (fun k1 => jn (fun (_ : Unit) =>
 some true) (fun k2 => if c_0 = 46 then (k2 ())
 else (if c_0 = 45 then (k2 ())
 else (if c_0 = 95 then (k2 ())
 else (k1 ())))))
noncomputable def path_part (s_0 : Str) : Option Bool :=
 jn (fun (x14_1 : Bool) =>
 if x14_1 = true then (some false)
 else (gd (s_0.length ≤ 4294967296) (
 lt s_0 (fun y16_4 =>
 iter (fun (x18_5 : Int) =>
 if x18_5 < (y16_4.length : Int) then ((at_ y16_4 x18_5).bind (fun z20_6 =>
 (Sh.path_good (z20_6.toNat : Int)).bind (fun y23_7 =>
 if (!y23_7) = true then (up (some false))
 else (gd (I64 (x18_5 + 1)) (
 go (x18_5 + 1))))))
 else (up (some true))) 0)))) (fun k2 => if s_0 = [] then (k2 true)
 else (if s_0 = [46] then (k2 true)
 else (k2 (decide (s_0 = [46, 46])))))
noncomputable def path_Check (p_0 : Str) : Option Int :=
 if 64 < (p_0.length : Int) then (some 4)
 else ((Sh.strings_Split p_0 [47]).bind (fun y9_1 =>
 iter (fun (x11_2 : Int) =>
 if x11_2 < (y9_1.length : Int) then ((at_ y9_1 x11_2).bind (fun z13_3 =>
 (Sh.path_part z13_3).bind (fun y16_4 =>
 if (!y16_4) = true then (up (some 5))
 else (gd (I64 (x11_2 + 1)) (
 go (x11_2 + 1))))))
 else (up (some 0))) 0))
noncomputable def index_beside (a_0 : IndexEntry) (b_1 : IndexEntry) : Option Bool :=
 if a_0.path = b_1.path then (if a_0.stage = 0 then (some true)
 else (some (decide (b_1.stage = 0))))
 else (some false)
noncomputable def index_wrong_1 (x_0 : IndexEntry) (a_1 : IndexEntry) : Option Bool :=
 (Sh.index_beside x_0 a_1).bind (fun y6_2 =>
 some y6_2)
noncomputable def slices_IndexFunc_index_Entry_index_Entry_v2 (s_0 : List IndexEntry) (f_1_0 : IndexEntry) : Option Int :=
 iter (fun (x8_1 : Int) =>
 if x8_1 < (s_0.length : Int) then ((at_ s_0 x8_1).bind (fun z14_2 =>
 (Sh.index_wrong_1 z14_2 f_1_0).bind (fun y16_3 =>
 if y16_3 = true then (up (some x8_1))
 else (gd (I64 (x8_1 + 1)) (
 go (x8_1 + 1))))))
 else (up (some (-1)))) 0
noncomputable def slices_ContainsFunc_index_Entry_index_Entry (s_0 : List IndexEntry) (f_1_0 : IndexEntry) : Option Bool :=
 (Sh.slices_IndexFunc_index_Entry_index_Entry_v2 s_0 f_1_0).bind (fun y7_1 =>
 some (decide (0 ≤ y7_1)))
noncomputable def index_wrong_2 (x_0 : IndexEntry) (a_1 : IndexEntry) : Option Bool :=
 (Sh.path_Clash x_0.path a_1.path).bind (fun y8_2 =>
 some y8_2)
noncomputable def slices_IndexFunc_index_Entry_index_Entry_v3 (s_0 : List IndexEntry) (f_1_0 : IndexEntry) : Option Int :=
 iter (fun (x8_1 : Int) =>
 if x8_1 < (s_0.length : Int) then ((at_ s_0 x8_1).bind (fun z14_2 =>
 (Sh.index_wrong_2 z14_2 f_1_0).bind (fun y16_3 =>
 if y16_3 = true then (up (some x8_1))
 else (gd (I64 (x8_1 + 1)) (
 go (x8_1 + 1))))))
 else (up (some (-1)))) 0
noncomputable def slices_ContainsFunc_index_Entry_index_Entry_v2 (s_0 : List IndexEntry) (f_1_0 : IndexEntry) : Option Bool :=
 (Sh.slices_IndexFunc_index_Entry_index_Entry_v3 s_0 f_1_0).bind (fun y7_1 =>
 some (decide (0 ≤ y7_1)))
noncomputable def index_wrong (l_0 : List IndexEntry) (i_1 : Int) : Option Int :=
 (at_ l_0 i_1).bind (fun z9_1 =>
 (Sh.path_Check z9_1.path).bind (fun y13_3 =>
 if y13_3 = 0 then (jn (fun (x17_4 : Bool) =>
 if x17_4 = true then (some 1)
 else (if 4096 < (z9_1.data.length : Int) then (some 4)
 else (jn (fun (x51_6 : Bool) =>
 if x51_6 = true then (some 6)
 else (gd ((0 : Int) ≤ i_1 ∧ i_1 ≤ (l_0.length : Int)) (
 lt (l_0.take i_1.toNat) (fun y72_16 =>
 (Sh.slices_ContainsFunc_index_Entry_index_Entry_v2 y72_16 z9_1).bind (fun y74_17 =>
 if y74_17 = true then (some 11)
 else (some 0)))))) (fun k7 => jn (fun (x51_8 : Bool) =>
 if x51_8 = true then (k7 x51_8)
 else (gd ((0 : Int) ≤ i_1 ∧ i_1 ≤ (l_0.length : Int)) (
 lt (l_0.take i_1.toNat) (fun y66_13 =>
 (Sh.slices_ContainsFunc_index_Entry_index_Entry y66_13 z9_1).bind (fun y68_14 =>
 k7 y68_14))))) (fun k9 => if 0 < i_1 then (gd (I64 (i_1 - 1)) (
 (at_ l_0 (i_1 - 1)).bind (fun z58_10 =>
 (Sh.index_compare z58_10 z9_1).bind (fun y61_11 =>
 k9 (decide (0 ≤ y61_11))))))
 else (k9 false)))))) (fun k5 => if z9_1.stage < 0 then (k5 true)
 else (if 3 < z9_1.stage then (k5 true)
 else (if z9_1.mode = 1 then (if z9_1.time < 0 then (k5 true)
 else (k5 (decide (z9_1.size < 0))))
 else (if z9_1.mode = 2 then (if z9_1.time < 0 then (k5 true)
 else (k5 (decide (z9_1.size < 0))))
 else (k5 true))))))
 else (some y13_3)))
noncomputable def index_Check (l_0 : List IndexEntry) : Option Err :=
 if 256 < (l_0.length : Int) then (some (Err.fault [101, 110, 116, 114, 121] 256 (Err.no 4)))
 else (iter (fun (x14_2 : Int) =>
 if x14_2 < (l_0.length : Int) then ((Sh.index_wrong l_0 x14_2).bind (fun y19_3 =>
 if y19_3 = 0 then (gd (I64 (x14_2 + 1)) (
 go (x14_2 + 1)))
 else (up (some (Err.fault [101, 110, 116, 114, 121] x14_2 (Err.no y19_3))))))
 else (up (some Err.nil))) 0)
noncomputable def codec_Enc_Int (e_0 : CodecEncP) (l_1 : List Int) : Option CodecEncP :=
 iter (fun ((x9_1, c0_2) : Int × List UInt8) =>
 if x9_1 < (l_1.length : Int) then ((at_ l_1 x9_1).bind (fun z11_3 =>
 iter (fun ((v6_4, c0_5) : Int × List UInt8) =>
 if 128 ≤ v6_4 then (gd ((0 : Int) ≤ (bOr .u8 (IntKind.wrap .u8 (bAnd .u64 v6_4 127)) 128) ∧ (bOr .u8 (IntKind.wrap .u8 (bAnd .u64 v6_4 127)) 128) ≤ 255) (
 lt (UInt8.ofNat (bOr .u8 (IntKind.wrap .u8 (bAnd .u64 v6_4 127)) 128).toNat) (fun u31_7 =>
 lt [u31_7] (fun y31_8 =>
 gd (c0_5.length + y31_8.length ≤ 4294967296) (
 lt (c0_5 ++ y31_8) (fun y32_10 =>
 go ((sHr .u64 v6_4 7), y32_10)))))))
 else (up (gd ((0 : Int) ≤ (IntKind.wrap .u8 v6_4) ∧ (IntKind.wrap .u8 v6_4) ≤ 255) (
 lt (UInt8.ofNat (IntKind.wrap .u8 v6_4).toNat) (fun u44_12 =>
 lt [u44_12] (fun y44_13 =>
 gd (c0_5.length + y44_13.length ≤ 4294967296) (
 lt (c0_5 ++ y44_13) (fun y45_15 =>
 gd (I64 (x9_1 + 1)) (
 go ((x9_1 + 1), y45_15)))))))))) ((bXor .u64 (sHl .u64 (IntKind.wrap .u64 z11_3) 1) (IntKind.wrap .u64 (sHr .i64 z11_3 63))), c0_2)))
 else (up (some ⟨c0_2⟩))) (0, e_0.b)
noncomputable def codec_Enc_Text (e_0 : CodecEncP) (l_1 : List Str) : Option CodecEncP :=
 iter (fun ((x8_1, c0_2) : Int × List UInt8) =>
 if x8_1 < (l_1.length : Int) then ((at_ l_1 x8_1).bind (fun z10_3 =>
 lt [(z10_3.length : Int)] (fun y15_5 =>
 (Sh.codec_Enc_Int (⟨c0_2⟩ : CodecEncP) y15_5).bind (fun y16_6 =>
 gd (y16_6.b.length + z10_3.length ≤ 4294967296) (
 lt (y16_6.b ++ z10_3) (fun y23_8 =>
 gd (I64 (x8_1 + 1)) (
 go ((x8_1 + 1), y23_8))))))))
 else (up (some ⟨c0_2⟩))) (0, e_0.b)
noncomputable def slices_Clone_byte_byte (s_0 : List UInt8) : Option (List UInt8) :=
 lt ([] : List UInt8) (fun y5_2 =>
 gd (y5_2.length + s_0.length ≤ 4294967296) (
 lt (y5_2 ++ s_0) (fun y7_4 =>
 some y7_4)))
noncomputable def slices_Clip_byte_byte (s_0 : List UInt8) : Option (List UInt8) :=
 gd ((0 : Int) ≤ (s_0.length : Int) ∧ (s_0.length : Int) ≤ (s_0.length : Int)) (
 lt (s_0.take (s_0.length : Int).toNat) (fun y8_2 =>
 some y8_2))
noncomputable def codec_Enc_Bytes (e_0 : CodecEncP) : Option (List UInt8) :=
 (Sh.slices_Clone_byte_byte e_0.b).bind (fun y7_1 =>
 (Sh.slices_Clip_byte_byte y7_1).bind (fun y8_2 =>
 some y8_2))
noncomputable def seal_Sum (parts_0 : List (List UInt8)) : Option Int :=
 iter (fun ((sum3_1, x11_2) : Int × Int) =>
 if x11_2 < (parts_0.length : Int) then ((at_ parts_0 x11_2).bind (fun z13_3 =>
 iter (fun ((sum3_4, x17_5) : Int × Int) =>
 if x17_5 < (z13_3.length : Int) then ((at_ z13_3 x17_5).bind (fun z19_6 =>
 iter (fun ((sum3_7, x25_8) : Int × Int) =>
 if x25_8 < 8 then (if (bAnd .u32 sum3_7 1) = 1 then (gd (I64 (x25_8 + 1)) (
 go ((bXor .u32 (sHr .u32 sum3_7 1) 3988292384), (x25_8 + 1))))
 else (gd (I64 (x25_8 + 1)) (
 go ((sHr .u32 sum3_7 1), (x25_8 + 1)))))
 else (up (gd (I64 (x17_5 + 1)) (
 go (sum3_7, (x17_5 + 1)))))) ((bXor .u32 sum3_4 (IntKind.wrap .u32 (z19_6.toNat : Int))), 0)))
 else (up (gd (I64 (x11_2 + 1)) (
 go (sum3_4, (x11_2 + 1)))))) (sum3_1, 0)))
 else (up (some (bNot .u32 sum3_1)))) (4294967295, 0)
noncomputable def slices_Grow_byte_byte (n_1 : Int) : Option (List UInt8) :=
 if n_1 < 0 then (none)
 else (gd (I64 (0 - 0)) (
 gd (I64 (n_1 - (0 - 0))) (
 if 0 < (n_1 - (0 - 0)) then (gd ((0 : Int) < (n_1 - (0 - 0)) ∧ (n_1 - (0 - 0)) ≤ 4294967296) (
 lt (List.replicate (n_1 - (0 - 0)).toNat (0 : UInt8)) (fun y22_2 =>
 lt ([] : List UInt8) (fun y25_4 =>
 some y25_4))))
 else (some []))))
noncomputable def slices_Concat_byte_byte (slices_0 : List (List UInt8)) : Option (List UInt8) :=
 iter (fun ((size3_1, x11_2) : Int × Int) =>
 if x11_2 < (slices_0.length : Int) then ((at_ slices_0 x11_2).bind (fun z13_3 =>
 gd (I64 (size3_1 + (z13_3.length : Int))) (
 if (size3_1 + (z13_3.length : Int)) < 0 then (none)
 else (gd (I64 (x11_2 + 1)) (
 go ((size3_1 + (z13_3.length : Int)), (x11_2 + 1)))))))
 else (up ((Sh.slices_Grow_byte_byte size3_1).bind (fun y24_4 =>
 iter (fun ((newslice6_5, x27_6) : List UInt8 × Int) =>
 if x27_6 < (slices_0.length : Int) then ((at_ slices_0 x27_6).bind (fun z29_7 =>
 gd (newslice6_5.length + z29_7.length ≤ 4294967296) (
 lt (newslice6_5 ++ z29_7) (fun y33_9 =>
 gd (I64 (x27_6 + 1)) (
 go (y33_9, (x27_6 + 1)))))))
 else (up (some newslice6_5))) (y24_4, 0))))) (0, 0)
noncomputable def seal_Put (b_0 : List UInt8) : Option (List UInt8) :=
 lt [b_0] (fun y5_2 =>
 (Sh.seal_Sum y5_2).bind (fun y6_3 =>
 gd ((0 : Int) ≤ (IntKind.wrap .u8 y6_3) ∧ (IntKind.wrap .u8 y6_3) ≤ 255) (
 lt (UInt8.ofNat (IntKind.wrap .u8 y6_3).toNat) (fun u19_5 =>
 gd ((0 : Int) ≤ (IntKind.wrap .u8 (sHr .u32 y6_3 8)) ∧ (IntKind.wrap .u8 (sHr .u32 y6_3 8)) ≤ 255) (
 lt (UInt8.ofNat (IntKind.wrap .u8 (sHr .u32 y6_3 8)).toNat) (fun u19_6 =>
 gd ((0 : Int) ≤ (IntKind.wrap .u8 (sHr .u32 y6_3 16)) ∧ (IntKind.wrap .u8 (sHr .u32 y6_3 16)) ≤ 255) (
 lt (UInt8.ofNat (IntKind.wrap .u8 (sHr .u32 y6_3 16)).toNat) (fun u19_7 =>
 gd ((0 : Int) ≤ (IntKind.wrap .u8 (sHr .u32 y6_3 24)) ∧ (IntKind.wrap .u8 (sHr .u32 y6_3 24)) ≤ 255) (
 lt (UInt8.ofNat (IntKind.wrap .u8 (sHr .u32 y6_3 24)).toNat) (fun u19_8 =>
 lt [u19_5, u19_6, u19_7, u19_8] (fun y19_9 =>
 lt [b_0, y19_9] (fun y20_11 =>
 (Sh.slices_Concat_byte_byte y20_11).bind (fun y21_12 =>
 some y21_12)))))))))))))
noncomputable def index_Encode (l_0 : List IndexEntry) : Option (List UInt8 × Err) :=
 (Sh.index_Check l_0).bind (fun y9_1 =>
 if y9_1.isNil = true then (lt [(l_0.length : Int)] (fun y15_4 =>
 (Sh.codec_Enc_Int (⟨([] : List UInt8)⟩ : CodecEncP) y15_4).bind (fun y16_5 =>
 iter (fun ((x19_6, c0_7) : Int × List UInt8) =>
 if x19_6 < (l_0.length : Int) then ((at_ l_0 x19_6).bind (fun z21_8 =>
 lt [z21_8.path] (fun y25_11 =>
 (Sh.codec_Enc_Text (⟨c0_7⟩ : CodecEncP) y25_11).bind (fun y26_12 =>
 lt [z21_8.stage, z21_8.mode] (fun y31_14 =>
 (Sh.codec_Enc_Int y26_12 y31_14).bind (fun y32_15 =>
 lt [z21_8.data] (fun y35_17 =>
 (Sh.codec_Enc_Text y32_15 y35_17).bind (fun y36_18 =>
 lt [z21_8.time, z21_8.size] (fun y41_20 =>
 (Sh.codec_Enc_Int y36_18 y41_20).bind (fun y42_21 =>
 gd (I64 (x19_6 + 1)) (
 go ((x19_6 + 1), y42_21.b))))))))))))
 else (up ((Sh.codec_Enc_Bytes (⟨c0_7⟩ : CodecEncP)).bind (fun y44_22 =>
 (Sh.seal_Put y44_22).bind (fun y45_23 =>
 some (y45_23, Err.nil)))))) (0, y16_5.b))))
 else (some ([], y9_1)))
noncomputable def bytes_Equal (a_0 : List UInt8) (b_1 : List UInt8) : Option Bool :=
 some (decide (a_0 = b_1))
noncomputable def seal_Open (b_0 : List UInt8) : Option (List UInt8 × Err) :=
 if (b_0.length : Int) < 4 then (some ([], (Err.fault [115, 117, 109] (b_0.length : Int) (Err.no 3))))
 else (gd (I64 ((b_0.length : Int) - 4)) (
 gd ((0 : Int) ≤ ((b_0.length : Int) - 4) ∧ ((b_0.length : Int) - 4) ≤ (b_0.length : Int)) (
 lt (b_0.take ((b_0.length : Int) - 4).toNat) (fun y18_3 =>
 (Sh.seal_Put y18_3).bind (fun y20_4 =>
 (Sh.bytes_Equal y20_4 b_0).bind (fun y22_5 =>
 if (!y22_5) = true then (some ([], (Err.fault [115, 117, 109] (b_0.length : Int) (Err.no 12))))
 else ((Sh.slices_Clone_byte_byte y18_3).bind (fun y31_7 =>
 (Sh.slices_Clip_byte_byte y31_7).bind (fun y32_8 =>
 some (y32_8, Err.nil))))))))))
noncomputable def codec_Of (b_0 : List UInt8) : Option CodecDecP :=
 (Sh.slices_Clone_byte_byte b_0).bind (fun y4_1 =>
 some ⟨y4_1, 0, Err.nil⟩)
noncomputable def codec_Dec_uint (d_0 : CodecDecP) : Option (Int × Int × CodecDecP) :=
 iter (fun ((v4_1, x7_2) : Int × Int) =>
 if x7_2 < 10 then (gd (I64 (d_0.at_ + x7_2)) (
 if (d_0.b.length : Int) ≤ (d_0.at_ + x7_2) then (up (some (0, 3, ⟨d_0.b, d_0.at_, d_0.err⟩)))
 else (gd (I64 (d_0.at_ + x7_2)) (
 (at_ d_0.b (d_0.at_ + x7_2)).bind (fun z32_3 =>
 jn (fun (_ : Unit) =>
 gd (I64 (7 * x7_2)) (
 gd ((0 : Int) ≤ (7 * x7_2)) (
 if (z32_3.toNat : Int) < 128 then (gd (I64 (x7_2 + 1)) (
 gd (I64 (d_0.at_ + (x7_2 + 1))) (
 up (some ((bOr .u64 v4_1 (sHl .u64 (IntKind.wrap .u64 (bAnd .u8 (z32_3.toNat : Int) 127)) (7 * x7_2))), 0, ⟨d_0.b, (d_0.at_ + (x7_2 + 1)), d_0.err⟩)))))
 else (gd (I64 (x7_2 + 1)) (
 go ((bOr .u64 v4_1 (sHl .u64 (IntKind.wrap .u64 (bAnd .u8 (z32_3.toNat : Int) 127)) (7 * x7_2))), (x7_2 + 1))))))) (fun k4 => if x7_2 = 9 then (if 1 < (z32_3.toNat : Int) then (up (some (0, 2, ⟨d_0.b, d_0.at_, d_0.err⟩)))
 else (if 0 < x7_2 then (if (z32_3.toNat : Int) = 0 then (up (some (0, 2, ⟨d_0.b, d_0.at_, d_0.err⟩)))
 else (k4 ()))
 else (k4 ())))
 else (if 0 < x7_2 then (if (z32_3.toNat : Int) = 0 then (up (some (0, 2, ⟨d_0.b, d_0.at_, d_0.err⟩)))
 else (k4 ()))
 else (k4 ()))))))))
 else (up (some (0, 2, ⟨d_0.b, d_0.at_, d_0.err⟩)))) (0, 0)
noncomputable def codec_Dec_fail (d_0 : CodecDecP) (at_1 : Int) (e_2 : Int) : Option CodecDecP :=
 some ⟨d_0.b, d_0.at_, (Err.fault [98, 121, 116, 101] at_1 (Err.no e_2))⟩
noncomputable def codec_Dec_Int (d_0 : CodecDecP) : Option (Int × CodecDecP) :=
 if d_0.err.isNil = true then ((Sh.codec_Dec_uint d_0).bind (fun y17_1 =>
 if y17_1.2.1 = 0 then (some ((bXor .i64 (IntKind.wrap .i64 (sHr .u64 y17_1.1 1)) (IntKind.wrap .i64 (0 - (IntKind.wrap .i64 (bAnd .u64 y17_1.1 1))))), ⟨y17_1.2.2.b, y17_1.2.2.at_, y17_1.2.2.err⟩))
 else ((Sh.codec_Dec_fail y17_1.2.2 d_0.at_ y17_1.2.1).bind (fun y25_2 =>
 some (0, ⟨y25_2.b, y25_2.at_, y25_2.err⟩)))))
 else (some (0, ⟨d_0.b, d_0.at_, d_0.err⟩))
noncomputable def codec_Dec_Err (d_0 : CodecDecP) : Option Err :=
 some d_0.err
noncomputable def codec_Dec_Text (d_0 : CodecDecP) : Option (Str × CodecDecP) :=
 (Sh.codec_Dec_Int d_0).bind (fun y11_1 =>
 if y11_1.2.err.isNil = true then (if y11_1.1 < 0 then ((Sh.codec_Dec_fail y11_1.2 d_0.at_ 2).bind (fun y23_2 =>
 some ([], ⟨y23_2.b, y23_2.at_, y23_2.err⟩)))
 else (gd (I64 ((y11_1.2.b.length : Int) - y11_1.2.at_)) (
 if ((y11_1.2.b.length : Int) - y11_1.2.at_) < y11_1.1 then ((Sh.codec_Dec_fail y11_1.2 d_0.at_ 3).bind (fun y39_3 =>
 some ([], ⟨y39_3.b, y39_3.at_, y39_3.err⟩)))
 else (gd (I64 (y11_1.2.at_ + y11_1.1)) (
 gd ((0 : Int) ≤ y11_1.2.at_ ∧ y11_1.2.at_ ≤ (y11_1.2.at_ + y11_1.1) ∧ (y11_1.2.at_ + y11_1.1) ≤ (y11_1.2.b.length : Int)) (
 lt ((y11_1.2.b.drop y11_1.2.at_.toNat).take ((y11_1.2.at_ + y11_1.1).toNat - y11_1.2.at_.toNat)) (fun y54_5 =>
 gd (I64 (y11_1.2.at_ + y11_1.1)) (
 some (y54_5, ⟨y11_1.2.b, (y11_1.2.at_ + y11_1.1), y11_1.2.err⟩)))))))))
 else (some ([], ⟨y11_1.2.b, y11_1.2.at_, y11_1.2.err⟩)))
noncomputable def index_read (d_0 : CodecDecP) : Option (IndexEntry × CodecDecP) :=
 (Sh.codec_Dec_Text d_0).bind (fun y4_2 =>
 (Sh.codec_Dec_Int y4_2.2).bind (fun y6_3 =>
 (Sh.codec_Dec_Int y6_3.2).bind (fun y8_4 =>
 (Sh.codec_Dec_Text y8_4.2).bind (fun y10_5 =>
 (Sh.codec_Dec_Int y10_5.2).bind (fun y12_6 =>
 (Sh.codec_Dec_Int y12_6.2).bind (fun y14_7 =>
 some (⟨y4_2.1, y6_3.1, y8_4.1, y10_5.1, y12_6.1, y14_7.1⟩, ⟨y14_7.2.b, y14_7.2.at_, y14_7.2.err⟩)))))))
noncomputable def codec_Dec_Left (d_0 : CodecDecP) : Option Int :=
 if d_0.err.isNil = true then (gd (I64 ((d_0.b.length : Int) - d_0.at_)) (
 some ((d_0.b.length : Int) - d_0.at_)))
 else (some 0)
noncomputable def index_Decode (b_0 : List UInt8) : Option (List IndexEntry × Err) :=
 (Sh.seal_Open b_0).bind (fun y14_1 =>
 if y14_1.2.isNil = true then ((Sh.codec_Of y14_1.1).bind (fun y21_2 =>
 (Sh.codec_Dec_Int y21_2).bind (fun y23_3 =>
 jn (fun ((out8_4, c0_5, c1_6, c2_7) : List IndexEntry × List UInt8 × Int × Err) =>
 (Sh.codec_Dec_Err (⟨c0_5, c1_6, c2_7⟩ : CodecDecP)).bind (fun y40_20 =>
 if y40_20.isNil = true then (jn (fun (x50_21 : Bool) =>
 if x50_21 = true then (some ([], (Err.fault [105, 110, 100, 101, 120] 0 (Err.no 2))))
 else ((Sh.index_Check out8_4).bind (fun y56_25 =>
 if y56_25.isNil = true then ((Sh.slices_Clip_index_Entry_index_Entry out8_4).bind (fun y61_26 =>
 some (y61_26, Err.nil)))
 else (some ([], y56_25))))) (fun k22 => if y23_3.1 < 0 then (k22 true)
 else ((Sh.codec_Dec_Left (⟨c0_5, c1_6, c2_7⟩ : CodecDecP)).bind (fun y48_23 =>
 k22 (decide (0 < y48_23))))))
 else (some ([], y40_20)))) (fun k8 => iter (fun ((out8_9, i9_10, c0_11, c1_12, c2_13) : List IndexEntry × Int × List UInt8 × Int × Err) =>
 if i9_10 < y23_3.1 then ((Sh.codec_Dec_Err (⟨c0_11, c1_12, c2_13⟩ : CodecDecP)).bind (fun y29_14 =>
 if y29_14.isNil = true then ((Sh.index_read (⟨c0_11, c1_12, c2_13⟩ : CodecDecP)).bind (fun y36_15 =>
 lt [⟨y36_15.1.path, y36_15.1.stage, y36_15.1.mode, y36_15.1.data, y36_15.1.time, y36_15.1.size⟩] (fun y37_17 =>
 gd (out8_9.length + y37_17.length ≤ 4294967296) (
 lt (out8_9 ++ y37_17) (fun y38_19 =>
 gd (I64 (i9_10 + 1)) (
 go (y38_19, (i9_10 + 1), y36_15.2.b, y36_15.2.at_, y36_15.2.err)))))))
 else (up (k8 (out8_9, c0_11, c1_12, c2_13)))))
 else (up (k8 (out8_9, c0_11, c1_12, c2_13)))) ([], 0, y23_3.2.b, y23_3.2.at_, y23_3.2.err)))))
 else (some ([], y14_1.2)))
noncomputable def slices_Clip_files_Row_files_File (s_0 : List FilesFile) : Option (List FilesFile) :=
 gd ((0 : Int) ≤ (s_0.length : Int) ∧ (s_0.length : Int) ≤ (s_0.length : Int)) (
 lt (s_0.take (s_0.length : Int).toNat) (fun y8_2 =>
 some y8_2))
noncomputable def index_Stage (l_0 : List IndexEntry) (n_1 : Int) : Option (List FilesFile) :=
 iter (fun ((out5_1, x10_2) : List FilesFile × Int) =>
 if x10_2 < (l_0.length : Int) then ((at_ l_0 x10_2).bind (fun z12_3 =>
 if z12_3.stage = n_1 then (lt [⟨z12_3.path, z12_3.mode, z12_3.data⟩] (fun y26_6 =>
 gd (out5_1.length + y26_6.length ≤ 4294967296) (
 lt (out5_1 ++ y26_6) (fun y27_8 =>
 gd (I64 (x10_2 + 1)) (
 go (y27_8, (x10_2 + 1)))))))
 else (gd (I64 (x10_2 + 1)) (
 go (out5_1, (x10_2 + 1))))))
 else (up ((Sh.slices_Clip_files_Row_files_File out5_1).bind (fun y30_9 =>
 some y30_9)))) ([], 0)
noncomputable def index_Same_1 (x_0 : IndexEntry) (y_1 : IndexEntry) : Option Bool :=
 if x_0.path = y_1.path then (if x_0.stage = y_1.stage then (if x_0.mode = y_1.mode then (some (decide (x_0.data = y_1.data)))
 else (some false))
 else (some false))
 else (some false)
noncomputable def slices_EqualFunc_index_Entry_index_Entry_index_Entry_index_Entry (s1_0 : List IndexEntry) (s2_1 : List IndexEntry) : Option Bool :=
 if (s1_0.length : Int) = (s2_1.length : Int) then (iter (fun (x17_1 : Int) =>
 if x17_1 < (s1_0.length : Int) then ((at_ s1_0 x17_1).bind (fun z20_2 =>
 (at_ s2_1 x17_1).bind (fun z24_4 =>
 (Sh.index_Same_1 z20_2 z24_4).bind (fun y29_6 =>
 if (!y29_6) = true then (up (some false))
 else (gd (I64 (x17_1 + 1)) (
 go (x17_1 + 1)))))))
 else (up (some true))) 0)
 else (some false)
noncomputable def index_Same (a_0 : List IndexEntry) (b_1 : List IndexEntry) : Option Bool :=
 (Sh.slices_EqualFunc_index_Entry_index_Entry_index_Entry_index_Entry a_0 b_1).bind (fun y7_1 =>
 some y7_1)
noncomputable def index_Drop_1 (x_0 : IndexEntry) (a_1 : Str) : Option Bool :=
 some (decide (x_0.path = a_1))
noncomputable def slices_IndexFunc_index_Entry_index_Entry_v4 (s_0 : List IndexEntry) (f_1_0 : Str) : Option Int :=
 iter (fun (x8_1 : Int) =>
 if x8_1 < (s_0.length : Int) then ((at_ s_0 x8_1).bind (fun z14_2 =>
 (Sh.index_Drop_1 z14_2 f_1_0).bind (fun y16_3 =>
 if y16_3 = true then (up (some x8_1))
 else (gd (I64 (x8_1 + 1)) (
 go (x8_1 + 1))))))
 else (up (some (-1)))) 0
noncomputable def slices_DeleteFunc_index_Entry_index_Entry_v2 (s_0 : List IndexEntry) (del_1_0 : Str) : Option (List IndexEntry) :=
 (Sh.slices_IndexFunc_index_Entry_index_Entry_v4 s_0 del_1_0).bind (fun y10_1 =>
 if y10_1 = (-1) then (some s_0)
 else (gd (I64 (y10_1 + 1)) (
 iter (fun ((s0_2, i5_3, j6_4) : List IndexEntry × Int × Int) =>
 if j6_4 < (s0_2.length : Int) then (jn (fun ((s0_5, i5_6) : List IndexEntry × Int) =>
 gd (I64 (j6_4 + 1)) (
 go (s0_5, i5_6, (j6_4 + 1)))) (fun k7 => (at_ s0_2 j6_4).bind (fun z24_8 =>
 (Sh.index_Drop_1 z24_8 del_1_0).bind (fun y28_10 =>
 if (!y28_10) = true then ((at_ s0_2 i5_3).bind (fun z33_11 =>
 lt (s0_2.set i5_3.toNat ⟨z24_8.path, z24_8.stage, z24_8.mode, z24_8.data, z24_8.time, z24_8.size⟩) (fun ys4_13 =>
 gd (I64 (i5_3 + 1)) (
 k7 (ys4_13, (i5_3 + 1))))))
 else (k7 (s0_2, i5_3))))))
 else (up (gd ((0 : Int) ≤ i5_3 ∧ i5_3 ≤ (s0_2.length : Int)) (
 lt (s0_2.take i5_3.toNat) (fun ys3_16 =>
 some ys3_16))))) (s_0, y10_1, (y10_1 + 1)))))
noncomputable def index_Drop (l_0 : List IndexEntry) (p_1 : Str) : Option (List IndexEntry) :=
 (Sh.slices_Clone_index_Entry_index_Entry l_0).bind (fun y6_2 =>
 (Sh.slices_DeleteFunc_index_Entry_index_Entry_v2 y6_2 p_1).bind (fun y8_3 =>
 (Sh.slices_Clip_index_Entry_index_Entry y8_3).bind (fun y9_4 =>
 some y9_4)))
noncomputable def rectolaw15_known  : Option Bool :=
 lt [⟨[97], 1, [120]⟩] (fun y10_2 =>
 (Sh.index_Of y10_2).bind (fun y11_3 =>
 (Sh.index_Put y11_3 (⟨[97], 2, 1, [121], 0, 0⟩ : IndexEntry)).bind (fun y14_4 =>
 (Sh.index_Put y14_4 (⟨[97], 1, 1, [122], 0, 0⟩ : IndexEntry)).bind (fun y17_5 =>
 (Sh.index_Conflicts y17_5).bind (fun y19_6 =>
 (Sh.index_Encode y17_5).bind (fun y22_7 =>
 (Sh.index_Decode y22_7.1).bind (fun y27_8 =>
 if (y11_3.length : Int) = 1 then (if (y14_4.length : Int) = 1 then (if (y17_5.length : Int) = 2 then ((at_ y17_5 0).bind (fun z45_9 =>
 if z45_9.stage = 1 then (if (y19_6.length : Int) = 1 then ((Sh.index_Stage y17_5 2).bind (fun y57_10 =>
 if (y57_10.length : Int) = 1 then (if y22_7.2.isNil = true then (if y27_8.2.isNil = true then ((Sh.index_Same y27_8.1 y17_5).bind (fun y72_11 =>
 if y72_11 = true then ((Sh.index_Drop y17_5 [97]).bind (fun y76_12 =>
 if (y76_12.length : Int) = 0 then ((Sh.index_Check y17_5).bind (fun y82_13 =>
 if y82_13.isNil = true then ((at_ y11_3 0).bind (fun z88_14 =>
 (Sh.index_Put y17_5 z88_14).bind (fun y90_15 =>
 some (decide ((y90_15.length : Int) = 1)))))
 else (some false)))
 else (some false)))
 else (some false)))
 else (some false))
 else (some false))
 else (some false)))
 else (some false))
 else (some false)))
 else (some false))
 else (some false))
 else (some false))))))))
noncomputable def rectolaw15_Few (l_0 : List IndexEntry) : Option Bool :=
 if 80 < (l_0.length : Int) then (some false)
 else (iter (fun (i3_1 : Int) =>
 if i3_1 < (l_0.length : Int) then (jn (fun (x28_2 : Bool) =>
 if x28_2 = true then (up (some false))
 else (gd (I64 (i3_1 + 1)) (
 go (i3_1 + 1)))) (fun k3 => (at_ l_0 i3_1).bind (fun z15_4 =>
 if 100 < (z15_4.path.length : Int) then (k3 true)
 else ((at_ l_0 i3_1).bind (fun z23_5 =>
 k3 (decide (5000 < (z23_5.data.length : Int))))))))
 else (up (some true))) 0)
noncomputable def rectolaw15_Of (l_0 : List IndexEntry) : Option (List Rectoref14Entry) :=
 iter (fun ((out3_1, i4_2) : List Rectoref14Entry × Int) =>
 if i4_2 < (l_0.length : Int) then ((at_ l_0 i4_2).bind (fun z14_3 =>
 lt [⟨z14_3.path, z14_3.stage, z14_3.mode, z14_3.data, z14_3.time, z14_3.size⟩] (fun y30_6 =>
 gd (out3_1.length + y30_6.length ≤ 4294967296) (
 lt (out3_1 ++ y30_6) (fun y31_8 =>
 gd (I64 (i4_2 + 1)) (
 go (y31_8, (i4_2 + 1))))))))
 else (up (some out3_1))) ([], 0)
noncomputable def rectoref3_At (word_0 : Str) (at_1 : Int) (e_2 : Int) : Option Rectoref3WrongP :=
 lt [⟨word_0, at_1⟩] (fun y10_3 =>
 some ⟨y10_3, e_2⟩)
noncomputable def rectoref1_Parts (p_0 : Str) : Option (List Str) :=
 if p_0 = [] then (some [])
 else (lt [[]] (fun y7_2 =>
 iter (fun ((out3_3, i4_4) : List Str × Int) =>
 if i4_4 < (p_0.length : Int) then (jn (fun (out3_5 : List Str) =>
 gd (I64 (i4_4 + 1)) (
 go (out3_5, (i4_4 + 1)))) (fun k6 => (at_ p_0 i4_4).bind (fun z16_7 =>
 if (z16_7.toNat : Int) = 47 then (lt [[]] (fun y19_9 =>
 gd (out3_3.length + y19_9.length ≤ 4294967296) (
 lt (out3_3 ++ y19_9) (fun y20_11 =>
 k6 y20_11))))
 else (gd (I64 ((out3_3.length : Int) - 1)) (
 gd (I64 ((out3_3.length : Int) - 1)) (
 (at_ out3_3 ((out3_3.length : Int) - 1)).bind (fun z29_12 =>
 gd (I64 (i4_4 + 1)) (
 gd ((0 : Int) ≤ i4_4 ∧ i4_4 ≤ (i4_4 + 1) ∧ (i4_4 + 1) ≤ (p_0.length : Int)) (
 lt ((p_0.drop i4_4.toNat).take ((i4_4 + 1).toNat - i4_4.toNat)) (fun y35_13 =>
 gd (z29_12.length + y35_13.length ≤ 9223372036854775807) (
 lt (z29_12 ++ y35_13) (fun y36_14 =>
 (at_ out3_3 ((out3_3.length : Int) - 1)).bind (fun z37_15 =>
 lt (out3_3.set ((out3_3.length : Int) - 1).toNat y36_14) (fun ys17_17 =>
 k6 ys17_17))))))))))))))
 else (up (some out3_3))) (y7_2, 0)))
noncomputable def rectoref1_good (c_0 : Int) : Option Bool :=
 if 97 ≤ c_0 then (if c_0 ≤ 122 then (some true)
 else (if 48 ≤ c_0 then (if c_0 ≤ 57 then (some true)
 else (if c_0 = 46 then (some true)
 else (if c_0 = 45 then (some true)
 else (some (decide (c_0 = 95))))))
 else (if c_0 = 46 then (some true)
 else (if c_0 = 45 then (some true)
 else (some (decide (c_0 = 95)))))))
 else (if 48 ≤ c_0 then (if c_0 ≤ 57 then (some true)
 else (if c_0 = 46 then (some true)
 else (if c_0 = 45 then (some true)
 else (some (decide (c_0 = 95))))))
 else (if c_0 = 46 then (some true)
 else (if c_0 = 45 then (some true)
 else (some (decide (c_0 = 95))))))
noncomputable def rectoref1_Check (p_0 : Str) : Option Int :=
 if 64 < (p_0.length : Int) then (some 4)
 else ((Sh.rectoref1_Parts p_0).bind (fun y10_1 =>
 if (y10_1.length : Int) = 0 then (some 5)
 else (iter (fun (i4_2 : Int) =>
 if i4_2 < (y10_1.length : Int) then (jn (fun (_ : Unit) =>
 gd (I64 (i4_2 + 1)) (
 go (i4_2 + 1))) (fun k3 => jn (fun (x38_4 : Bool) =>
 if x38_4 = true then (up (some 5))
 else (iter (fun (k5_9 : Int) =>
 (at_ y10_1 i4_2).bind (fun z42_10 =>
 if k5_9 < (z42_10.length : Int) then ((at_ y10_1 i4_2).bind (fun z50_11 =>
 (at_ z50_11 k5_9).bind (fun z53_12 =>
 (Sh.rectoref1_good (z53_12.toNat : Int)).bind (fun y54_13 =>
 if (!y54_13) = true then (up (up (some 5)))
 else (gd (I64 (k5_9 + 1)) (
 go (k5_9 + 1)))))))
 else (up (k3 ())))) 0)) (fun k5 => (at_ y10_1 i4_2).bind (fun z22_6 =>
 if z22_6 = [] then (k5 true)
 else ((at_ y10_1 i4_2).bind (fun z28_7 =>
 if z28_7 = [46] then (k5 true)
 else ((at_ y10_1 i4_2).bind (fun z35_8 =>
 k5 (decide (z35_8 = [46, 46]))))))))))
 else (up (some 0))) 0)))
noncomputable def rectoref14_Mode (m_0 : Int) : Option Bool :=
 if m_0 = 1 then (some true)
 else (some (decide (m_0 = 2)))
noncomputable def rectoref1_Under (p_0 : Str) (dir_1 : Str) : Option Bool :=
 if dir_1 = [] then (some (!decide (p_0 = [])))
 else (gd (I64 ((dir_1.length : Int) + 1)) (
 if ((dir_1.length : Int) + 1) < (p_0.length : Int) then (gd ((0 : Int) ≤ (dir_1.length : Int) ∧ (dir_1.length : Int) ≤ (p_0.length : Int)) (
 lt (p_0.take (dir_1.length : Int).toNat) (fun y19_1 =>
 if y19_1 = dir_1 then ((at_ p_0 (dir_1.length : Int)).bind (fun z27_2 =>
 some (decide ((z27_2.toNat : Int) = 47))))
 else (some false))))
 else (some false)))
noncomputable def rectoref1_Clash (a_0 : Str) (b_1 : Str) : Option Bool :=
 if a_0 = [] then (some false)
 else (if b_1 = [] then (some false)
 else ((Sh.rectoref1_Under a_0 b_1).bind (fun y14_1 =>
 if y14_1 = true then (some true)
 else ((Sh.rectoref1_Under b_1 a_0).bind (fun y18_2 =>
 some y18_2)))))
noncomputable def rectoref14_entry (l_0 : List Rectoref14Entry) (i_1 : Int) : Option Int :=
 (at_ l_0 i_1).bind (fun z11_1 =>
 (Sh.rectoref1_Check z11_1.path).bind (fun y15_3 =>
 if y15_3 = 0 then (jn (fun (x20_4 : Bool) =>
 if x20_4 = true then (some 1)
 else (if 4096 < (z11_1.data.length : Int) then (some 4)
 else (jn (fun (x84_7 : Bool) =>
 if x84_7 = true then (some 6)
 else (iter (fun (k7_12 : Int) =>
 if k7_12 < i_1 then (jn (fun (x110_13 : Bool) =>
 if x110_13 = true then (up (some 6))
 else (gd (I64 (k7_12 + 1)) (
 go (k7_12 + 1)))) (fun k14 => (at_ l_0 k7_12).bind (fun z92_15 =>
 if z92_15.path = z11_1.path then ((at_ l_0 k7_12).bind (fun z101_16 =>
 if z101_16.stage = 0 then (k14 true)
 else (k14 (decide (z11_1.stage = 0)))))
 else (k14 false))))
 else (up (iter (fun (k8_17 : Int) =>
 if k8_17 < i_1 then ((at_ l_0 k8_17).bind (fun z118_18 =>
 (Sh.rectoref1_Clash z118_18.path z11_1.path).bind (fun y123_19 =>
 if y123_19 = true then (up (some 11))
 else (gd (I64 (k8_17 + 1)) (
 go (k8_17 + 1))))))
 else (up (some 0))) 0))) 0)) (fun k8 => if 0 < i_1 then (gd (I64 (i_1 - 1)) (
 (at_ l_0 (i_1 - 1)).bind (fun z56_9 =>
 if (!(Op.bytesLess z56_9.path z11_1.path || decide (z56_9.path = z11_1.path))) = true then (k8 true)
 else (gd (I64 (i_1 - 1)) (
 (at_ l_0 (i_1 - 1)).bind (fun z66_10 =>
 if z66_10.path = z11_1.path then (gd (I64 (i_1 - 1)) (
 (at_ l_0 (i_1 - 1)).bind (fun z76_11 =>
 k8 (decide (z11_1.stage ≤ z76_11.stage)))))
 else (k8 false)))))))
 else (k8 false))))) (fun k5 => if z11_1.stage < 0 then (k5 true)
 else (if 3 < z11_1.stage then (k5 true)
 else ((Sh.rectoref14_Mode z11_1.mode).bind (fun y32_6 =>
 if (!y32_6) = true then (k5 true)
 else (if z11_1.time < 0 then (k5 true)
 else (k5 (decide (z11_1.size < 0)))))))))
 else (some y15_3)))
noncomputable def rectoref14_CheckIndex (l_0 : List Rectoref14Entry) : Option Rectoref3WrongP :=
 if 256 < (l_0.length : Int) then ((Sh.rectoref3_At [101, 110, 116, 114, 121] 256 4).bind (fun y8_2 =>
 some ⟨y8_2.parts, y8_2.err⟩))
 else (iter (fun (i3_3 : Int) =>
 if i3_3 < (l_0.length : Int) then ((Sh.rectoref14_entry l_0 i3_3).bind (fun y17_4 =>
 if y17_4 = 0 then (gd (I64 (i3_3 + 1)) (
 go (i3_3 + 1)))
 else ((Sh.rectoref3_At [101, 110, 116, 114, 121] i3_3 y17_4).bind (fun y22_5 =>
 up (some ⟨y22_5.parts, y22_5.err⟩)))))
 else (up (some ⟨[], 0⟩))) 0)
noncomputable def rectoref3_Int (v_0 : Int) : Option (List UInt8) :=
 jn (fun (u3_1 : Int) =>
 iter (fun ((u3_3, out4_4) : Int × List UInt8) =>
 if 128 ≤ u3_3 then (gd ((0 : Int) ≤ (IntKind.wrap .u8 (bOr .u64 (bAnd .u64 u3_3 127) 128)) ∧ (IntKind.wrap .u8 (bOr .u64 (bAnd .u64 u3_3 127) 128)) ≤ 255) (
 lt (UInt8.ofNat (IntKind.wrap .u8 (bOr .u64 (bAnd .u64 u3_3 127) 128)).toNat) (fun u23_6 =>
 lt [u23_6] (fun y23_7 =>
 gd (out4_4.length + y23_7.length ≤ 4294967296) (
 lt (out4_4 ++ y23_7) (fun y24_9 =>
 go ((sHr .u64 u3_3 7), y24_9)))))))
 else (up (gd ((0 : Int) ≤ (IntKind.wrap .u8 u3_3) ∧ (IntKind.wrap .u8 u3_3) ≤ 255) (
 lt (UInt8.ofNat (IntKind.wrap .u8 u3_3).toNat) (fun u30_11 =>
 lt [u30_11] (fun y30_12 =>
 gd (out4_4.length + y30_12.length ≤ 4294967296) (
 lt (out4_4 ++ y30_12) (fun y31_14 =>
 some y31_14)))))))) (u3_1, [])) (fun k2 => if v_0 < 0 then (gd (I64 (v_0 + 1)) (
 gd (I64 (0 - (v_0 + 1))) (
 k2 (bOr .u64 (sHl .u64 (IntKind.wrap .u64 (0 - (v_0 + 1))) 1) 1))))
 else (k2 (sHl .u64 (IntKind.wrap .u64 v_0) 1)))
noncomputable def rectoref3_Text (s_0 : Str) : Option (List UInt8) :=
 (Sh.rectoref3_Int (s_0.length : Int)).bind (fun y5_1 =>
 gd (y5_1.length + s_0.length ≤ 4294967296) (
 lt (y5_1 ++ s_0) (fun y7_3 =>
 some y7_3)))
noncomputable def rectoref3_Sum (b_0 : List UInt8) : Option Int :=
 iter (fun ((c3_1, i4_2) : Int × Int) =>
 if i4_2 < (b_0.length : Int) then ((at_ b_0 i4_2).bind (fun z16_3 =>
 iter (fun ((c3_4, k5_5) : Int × Int) =>
 if k5_5 < 8 then (jn (fun (c3_6 : Int) =>
 gd (I64 (k5_5 + 1)) (
 go (c3_6, (k5_5 + 1)))) (fun k7 => if (bAnd .u32 c3_4 1) = 1 then (k7 (bXor .u32 (sHr .u32 c3_4 1) 3988292384))
 else (k7 (sHr .u32 c3_4 1))))
 else (up (gd (I64 (i4_2 + 1)) (
 go (c3_4, (i4_2 + 1)))))) ((bXor .u32 c3_1 (IntKind.wrap .u32 (z16_3.toNat : Int))), 0)))
 else (up (some (bNot .u32 c3_1)))) (4294967295, 0)
noncomputable def rectoref3_Put (b_0 : List UInt8) : Option (List UInt8) :=
 (Sh.rectoref3_Sum b_0).bind (fun y5_1 =>
 lt ([] : List UInt8) (fun y6_3 =>
 gd (y6_3.length + b_0.length ≤ 4294967296) (
 lt (y6_3 ++ b_0) (fun y8_5 =>
 gd ((0 : Int) ≤ (IntKind.wrap .u8 y5_1) ∧ (IntKind.wrap .u8 y5_1) ≤ 255) (
 lt (UInt8.ofNat (IntKind.wrap .u8 y5_1).toNat) (fun u20_7 =>
 gd ((0 : Int) ≤ (IntKind.wrap .u8 (sHr .u32 y5_1 8)) ∧ (IntKind.wrap .u8 (sHr .u32 y5_1 8)) ≤ 255) (
 lt (UInt8.ofNat (IntKind.wrap .u8 (sHr .u32 y5_1 8)).toNat) (fun u20_8 =>
 gd ((0 : Int) ≤ (IntKind.wrap .u8 (sHr .u32 y5_1 16)) ∧ (IntKind.wrap .u8 (sHr .u32 y5_1 16)) ≤ 255) (
 lt (UInt8.ofNat (IntKind.wrap .u8 (sHr .u32 y5_1 16)).toNat) (fun u20_9 =>
 gd ((0 : Int) ≤ (IntKind.wrap .u8 (sHr .u32 y5_1 24)) ∧ (IntKind.wrap .u8 (sHr .u32 y5_1 24)) ≤ 255) (
 lt (UInt8.ofNat (IntKind.wrap .u8 (sHr .u32 y5_1 24)).toNat) (fun u20_10 =>
 lt [u20_7, u20_8, u20_9, u20_10] (fun y20_11 =>
 gd (y8_5.length + y20_11.length ≤ 4294967296) (
 lt (y8_5 ++ y20_11) (fun y21_13 =>
 some y21_13)))))))))))))))
noncomputable def rectoref14_Encode (l_0 : List Rectoref14Entry) : Option (List UInt8 × Rectoref3WrongP) :=
 (Sh.rectoref14_CheckIndex l_0).bind (fun y8_2 =>
 if y8_2.err = 0 then ((Sh.rectoref3_Int (l_0.length : Int)).bind (fun y15_4 =>
 iter (fun ((b5_5, i6_6) : List UInt8 × Int) =>
 if i6_6 < (l_0.length : Int) then ((at_ l_0 i6_6).bind (fun z25_7 =>
 (Sh.rectoref3_Text z25_7.path).bind (fun y28_8 =>
 gd (b5_5.length + y28_8.length ≤ 4294967296) (
 lt (b5_5 ++ y28_8) (fun y29_10 =>
 (at_ l_0 i6_6).bind (fun z33_11 =>
 (Sh.rectoref3_Int z33_11.stage).bind (fun y36_12 =>
 gd (y29_10.length + y36_12.length ≤ 4294967296) (
 lt (y29_10 ++ y36_12) (fun y37_14 =>
 (at_ l_0 i6_6).bind (fun z41_15 =>
 (Sh.rectoref3_Int z41_15.mode).bind (fun y44_16 =>
 gd (y37_14.length + y44_16.length ≤ 4294967296) (
 lt (y37_14 ++ y44_16) (fun y45_18 =>
 (at_ l_0 i6_6).bind (fun z49_19 =>
 (Sh.rectoref3_Text z49_19.data).bind (fun y52_20 =>
 gd (y45_18.length + y52_20.length ≤ 4294967296) (
 lt (y45_18 ++ y52_20) (fun y53_22 =>
 (at_ l_0 i6_6).bind (fun z57_23 =>
 (Sh.rectoref3_Int z57_23.time).bind (fun y60_24 =>
 gd (y53_22.length + y60_24.length ≤ 4294967296) (
 lt (y53_22 ++ y60_24) (fun y61_26 =>
 (at_ l_0 i6_6).bind (fun z65_27 =>
 (Sh.rectoref3_Int z65_27.size).bind (fun y68_28 =>
 gd (y61_26.length + y68_28.length ≤ 4294967296) (
 lt (y61_26 ++ y68_28) (fun y69_30 =>
 gd (I64 (i6_6 + 1)) (
 go (y69_30, (i6_6 + 1))))))))))))))))))))))))))))
 else (up ((Sh.rectoref3_Put b5_5).bind (fun y71_31 =>
 some (y71_31, ⟨y8_2.parts, y8_2.err⟩))))) (y15_4, 0)))
 else (some ([], ⟨y8_2.parts, y8_2.err⟩)))
noncomputable def api_Errno_Error (e_0 : Int) : Option Str :=
 if e_0 = 0 then (some [111, 107])
 else (if e_0 = 1 then (some [97, 114, 103])
 else (if e_0 = 2 then (some [102, 111, 114, 109])
 else (if e_0 = 3 then (some [115, 104, 111, 114, 116])
 else (if e_0 = 4 then (some [108, 111, 110, 103])
 else (if e_0 = 5 then (some [110, 97, 109, 101])
 else (if e_0 = 6 then (some [116, 119, 105, 99, 101])
 else (if e_0 = 7 then (some [115, 116, 97, 116, 101])
 else (if e_0 = 8 then (some [100, 105, 114, 116, 121])
 else (if e_0 = 9 then (some [99, 111, 110, 102, 108, 105, 99, 116])
 else (if e_0 = 10 then (some [115, 97, 109, 101])
 else (if e_0 = 11 then (some [119, 97, 121])
 else (if e_0 = 12 then (some [115, 117, 109])
 else (if e_0 = 13 then (some [100, 111, 119, 110])
 else (if e_0 = 14 then (some [113, 117, 111, 116, 97])
 else (some [101, 114, 114, 111, 114])))))))))))))))
noncomputable def internal_strconv_small (i_0 : Int) : Option Str :=
 if i_0 < 10 then (gd (I64 (i_0 + 1)) (
 gd ((0 : Int) ≤ i_0 ∧ i_0 ≤ (i_0 + 1) ∧ (i_0 + 1) ≤ ([48, 49, 50, 51, 52, 53, 54, 55, 56, 57, 97, 98, 99, 100, 101, 102, 103, 104, 105, 106, 107, 108, 109, 110, 111, 112, 113, 114, 115, 116, 117, 118, 119, 120, 121, 122].length : Int)) (
 lt (([48, 49, 50, 51, 52, 53, 54, 55, 56, 57, 97, 98, 99, 100, 101, 102, 103, 104, 105, 106, 107, 108, 109, 110, 111, 112, 113, 114, 115, 116, 117, 118, 119, 120, 121, 122].drop i_0.toNat).take ((i_0 + 1).toNat - i_0.toNat)) (fun y8_1 =>
 some y8_1))))
 else (gd (I64 (i_0 * 2)) (
 gd (I64 (i_0 * 2)) (
 gd (I64 ((i_0 * 2) + 2)) (
 gd ((0 : Int) ≤ (i_0 * 2) ∧ (i_0 * 2) ≤ ((i_0 * 2) + 2) ∧ ((i_0 * 2) + 2) ≤ ([48, 48, 48, 49, 48, 50, 48, 51, 48, 52, 48, 53, 48, 54, 48, 55, 48, 56, 48, 57, 49, 48, 49, 49, 49, 50, 49, 51, 49, 52, 49, 53, 49, 54, 49, 55, 49, 56, 49, 57, 50, 48, 50, 49, 50, 50, 50, 51, 50, 52, 50, 53, 50, 54, 50, 55, 50, 56, 50, 57, 51, 48, 51, 49, 51, 50, 51, 51, 51, 52, 51, 53, 51, 54, 51, 55, 51, 56, 51, 57, 52, 48, 52, 49, 52, 50, 52, 51, 52, 52, 52, 53, 52, 54, 52, 55, 52, 56, 52, 57, 53, 48, 53, 49, 53, 50, 53, 51, 53, 52, 53, 53, 53, 54, 53, 55, 53, 56, 53, 57, 54, 48, 54, 49, 54, 50, 54, 51, 54, 52, 54, 53, 54, 54, 54, 55, 54, 56, 54, 57, 55, 48, 55, 49, 55, 50, 55, 51, 55, 52, 55, 53, 55, 54, 55, 55, 55, 56, 55, 57, 56, 48, 56, 49, 56, 50, 56, 51, 56, 52, 56, 53, 56, 54, 56, 55, 56, 56, 56, 57, 57, 48, 57, 49, 57, 50, 57, 51, 57, 52, 57, 53, 57, 54, 57, 55, 57, 56, 57, 57].length : Int)) (
 lt (([48, 48, 48, 49, 48, 50, 48, 51, 48, 52, 48, 53, 48, 54, 48, 55, 48, 56, 48, 57, 49, 48, 49, 49, 49, 50, 49, 51, 49, 52, 49, 53, 49, 54, 49, 55, 49, 56, 49, 57, 50, 48, 50, 49, 50, 50, 50, 51, 50, 52, 50, 53, 50, 54, 50, 55, 50, 56, 50, 57, 51, 48, 51, 49, 51, 50, 51, 51, 51, 52, 51, 53, 51, 54, 51, 55, 51, 56, 51, 57, 52, 48, 52, 49, 52, 50, 52, 51, 52, 52, 52, 53, 52, 54, 52, 55, 52, 56, 52, 57, 53, 48, 53, 49, 53, 50, 53, 51, 53, 52, 53, 53, 53, 54, 53, 55, 53, 56, 53, 57, 54, 48, 54, 49, 54, 50, 54, 51, 54, 52, 54, 53, 54, 54, 54, 55, 54, 56, 54, 57, 55, 48, 55, 49, 55, 50, 55, 51, 55, 52, 55, 53, 55, 54, 55, 55, 55, 56, 55, 57, 56, 48, 56, 49, 56, 50, 56, 51, 56, 52, 56, 53, 56, 54, 56, 55, 56, 56, 56, 57, 57, 48, 57, 49, 57, 50, 57, 51, 57, 52, 57, 53, 57, 54, 57, 55, 57, 56, 57, 57].drop (i_0 * 2).toNat).take (((i_0 * 2) + 2).toNat - (i_0 * 2).toNat)) (fun y14_2 =>
 some y14_2))))))
noncomputable def internal_strconv_FormatInt (i_0 : Int) (base_1 : Int) : Option Str :=
 if base_1 = 10 then (jn (fun (x17_1 : Bool) =>
 if x17_1 = true then ((Sh.internal_strconv_small i_0).bind (fun y19_3 =>
 some y19_3))
 else (none)) (fun k2 => if 0 ≤ i_0 then (k2 (decide (i_0 < 100)))
 else (k2 false)))
 else (none)
noncomputable def internal_strconv_Itoa (i_0 : Int) : Option Str :=
 (Sh.internal_strconv_FormatInt i_0 10).bind (fun y4_1 =>
 some y4_1)
noncomputable def strconv_Itoa (i_0 : Int) : Option Str :=
 (Sh.internal_strconv_Itoa i_0).bind (fun y4_1 =>
 some y4_1)
noncomputable def api_Fault_Error (f_0 : ApiFaultP) (E : Option Str) : Option Str :=
 if f_0.err.isNil = true then (gd (f_0.part.length + [32].length ≤ 9223372036854775807) (
 lt (f_0.part ++ [32]) (fun y12_1 =>
 (Sh.strconv_Itoa f_0.at_).bind (fun y17_2 =>
 gd (y12_1.length + y17_2.length ≤ 9223372036854775807) (
 lt (y12_1 ++ y17_2) (fun y18_3 =>
 some y18_3))))))
 else (gd (f_0.part.length + [32].length ≤ 9223372036854775807) (
 lt (f_0.part ++ [32]) (fun y23_4 =>
 (Sh.strconv_Itoa f_0.at_).bind (fun y28_5 =>
 gd (y23_4.length + y28_5.length ≤ 9223372036854775807) (
 lt (y23_4 ++ y28_5) (fun y29_6 =>
 gd (y29_6.length + [58, 32].length ≤ 9223372036854775807) (
 lt (y29_6 ++ [58, 32]) (fun y30_7 =>
 (E).bind (fun y35_8 =>
 gd (y30_7.length + y35_8.length ≤ 9223372036854775807) (
 lt (y30_7 ++ y35_8) (fun y36_9 =>
 some y36_9)))))))))))
noncomputable def erText : Err → Option Str
  | .nil => none
  | .no n => Sh.api_Errno_Error n
  | .fault p a e => Sh.api_Fault_Error ⟨p, a, e⟩ (erText e)
noncomputable def rectoref3_Decimal_r (n_0 : Int) : Option Str :=
 if n_0 < 0 then (if n_0 = (-9223372036854775808) then (some [45, 57, 50, 50, 51, 51, 55, 50, 48, 51, 54, 56, 53, 52, 55, 55, 53, 56, 48, 56])
 else (gd (I64 (0 - n_0)) (
 none)))
 else (gd ((0 : Int) ≤ n_0 ∧ (10 : Int) ≠ 0) (
 gd (I64 (48 + (n_0 % 10))) (
 gd (0 ≤ (48 + (n_0 % 10)) ∧ (48 + (n_0 % 10)) ≤ 255) (
 gd ((0 : Int) ≤ (48 + (n_0 % 10)) ∧ (48 + (n_0 % 10)) ≤ 255) (
 lt (UInt8.ofNat (48 + (n_0 % 10)).toNat) (fun u16_2 =>
 lt [u16_2] (fun y16_3 =>
 iter (fun ((n0_4, s3_5) : Int × Str) =>
 if 10 ≤ n0_4 then (gd (((0 : Int) ≤ n0_4 ∧ (10 : Int) ≠ 0) ∧ I64 (n0_4 / 10)) (
 gd ((0 : Int) ≤ (n0_4 / 10) ∧ (10 : Int) ≠ 0) (
 gd (I64 (48 + ((n0_4 / 10) % 10))) (
 gd (0 ≤ (48 + ((n0_4 / 10) % 10)) ∧ (48 + ((n0_4 / 10) % 10)) ≤ 255) (
 gd ((0 : Int) ≤ (48 + ((n0_4 / 10) % 10)) ∧ (48 + ((n0_4 / 10) % 10)) ≤ 255) (
 lt (UInt8.ofNat (48 + ((n0_4 / 10) % 10)).toNat) (fun u26_7 =>
 lt [u26_7] (fun y26_8 =>
 gd (y26_8.length + s3_5.length ≤ 9223372036854775807) (
 lt (y26_8 ++ s3_5) (fun y29_9 =>
 go ((n0_4 / 10), y29_9)))))))))))
 else (up (some s3_5))) (n_0, y16_3))))))))
noncomputable def rectoref3_Decimal (n_0 : Int) : Option Str :=
 if n_0 < 0 then (if n_0 = (-9223372036854775808) then (some [45, 57, 50, 50, 51, 51, 55, 50, 48, 51, 54, 56, 53, 52, 55, 55, 53, 56, 48, 56])
 else (gd (I64 (0 - n_0)) (
 (Sh.rectoref3_Decimal_r (0 - n_0)).bind (fun y10_1 =>
 gd ([45].length + y10_1.length ≤ 9223372036854775807) (
 lt ([45] ++ y10_1) (fun y11_2 =>
 some y11_2))))))
 else (gd ((0 : Int) ≤ n_0 ∧ (10 : Int) ≠ 0) (
 gd (I64 (48 + (n_0 % 10))) (
 gd (0 ≤ (48 + (n_0 % 10)) ∧ (48 + (n_0 % 10)) ≤ 255) (
 gd ((0 : Int) ≤ (48 + (n_0 % 10)) ∧ (48 + (n_0 % 10)) ≤ 255) (
 lt (UInt8.ofNat (48 + (n_0 % 10)).toNat) (fun u16_4 =>
 lt [u16_4] (fun y16_5 =>
 iter (fun ((n0_6, s3_7) : Int × Str) =>
 if 10 ≤ n0_6 then (gd (((0 : Int) ≤ n0_6 ∧ (10 : Int) ≠ 0) ∧ I64 (n0_6 / 10)) (
 gd ((0 : Int) ≤ (n0_6 / 10) ∧ (10 : Int) ≠ 0) (
 gd (I64 (48 + ((n0_6 / 10) % 10))) (
 gd (0 ≤ (48 + ((n0_6 / 10) % 10)) ∧ (48 + ((n0_6 / 10) % 10)) ≤ 255) (
 gd ((0 : Int) ≤ (48 + ((n0_6 / 10) % 10)) ∧ (48 + ((n0_6 / 10) % 10)) ≤ 255) (
 lt (UInt8.ofNat (48 + ((n0_6 / 10) % 10)).toNat) (fun u26_9 =>
 lt [u26_9] (fun y26_10 =>
 gd (y26_10.length + s3_7.length ≤ 9223372036854775807) (
 lt (y26_10 ++ s3_7) (fun y29_11 =>
 go ((n0_6 / 10), y29_11)))))))))))
 else (up (some s3_7))) (n_0, y16_5))))))))
noncomputable def rectoref3_Word (e_0 : Int) : Option Str :=
 lt [[111, 107], [97, 114, 103], [102, 111, 114, 109], [115, 104, 111, 114, 116], [108, 111, 110, 103], [110, 97, 109, 101], [116, 119, 105, 99, 101], [115, 116, 97, 116, 101], [100, 105, 114, 116, 121], [99, 111, 110, 102, 108, 105, 99, 116], [115, 97, 109, 101], [119, 97, 121], [115, 117, 109], [100, 111, 119, 110], [113, 117, 111, 116, 97]] (fun y4_2 =>
 jn (fun (x12_3 : Bool) =>
 if x12_3 = true then (some [101, 114, 114, 111, 114])
 else ((at_ y4_2 e_0).bind (fun z15_5 =>
 some z15_5))) (fun k4 => if e_0 < 0 then (k4 true)
 else (k4 (decide ((y4_2.length : Int) ≤ e_0)))))
noncomputable def rectoref3_Words (w_0 : Rectoref3WrongP) : Option Str :=
 iter (fun ((s3_2, i4_3) : Str × Int) =>
 if i4_3 < (w_0.parts.length : Int) then ((at_ w_0.parts i4_3).bind (fun z16_4 =>
 gd (s3_2.length + z16_4.word.length ≤ 9223372036854775807) (
 lt (s3_2 ++ z16_4.word) (fun y19_5 =>
 gd (y19_5.length + [32].length ≤ 9223372036854775807) (
 lt (y19_5 ++ [32]) (fun y20_6 =>
 (at_ w_0.parts i4_3).bind (fun z24_7 =>
 (Sh.rectoref3_Decimal z24_7.at_).bind (fun y27_8 =>
 gd (y20_6.length + y27_8.length ≤ 9223372036854775807) (
 lt (y20_6 ++ y27_8) (fun y28_9 =>
 gd (y28_9.length + [58, 32].length ≤ 9223372036854775807) (
 lt (y28_9 ++ [58, 32]) (fun y29_10 =>
 gd (I64 (i4_3 + 1)) (
 go (y29_10, (i4_3 + 1)))))))))))))))
 else (up ((Sh.rectoref3_Word w_0.err).bind (fun y33_11 =>
 gd (s3_2.length + y33_11.length ≤ 9223372036854775807) (
 lt (s3_2 ++ y33_11) (fun y34_12 =>
 some y34_12)))))) ([], 0)
noncomputable def rectolaw2_Tells (err_0 : Err) (w_1 : Rectoref3WrongP) : Option Bool :=
 if w_1.err = 0 then (some (decide (err_0.isNil = true)))
 else (jn (fun (x27_2 : Bool) =>
 if x27_2 = true then (some false)
 else (if (w_1.parts.length : Int) = 0 then (some true)
 else ((match err_0 with
 | .fault ep7 ea7 ez7 => ((at_ w_1.parts 0).bind (fun z46_8 =>
 if ep7 = z46_8.word then ((at_ w_1.parts 0).bind (fun z57_9 =>
 some (decide (ea7 = z57_9.at_))))
 else (some false)))
 | _ => none)))) (fun k3 => if err_0.isNil = true then (k3 true)
 else ((Sh.erText err_0).bind (fun y15_4 =>
 (Sh.rectoref3_Words w_1).bind (fun y17_5 =>
 if y15_4 = y17_5 then (k3 (!decide (endNo err_0 = some w_1.err)))
 else (k3 true))))))
noncomputable def rectolaw14_Of (r_0 : List FilesFile) : Option (List Rectoref14File) :=
 iter (fun ((out3_1, i4_2) : List Rectoref14File × Int) =>
 if i4_2 < (r_0.length : Int) then ((at_ r_0 i4_2).bind (fun z14_3 =>
 (at_ r_0 i4_2).bind (fun z19_4 =>
 (at_ r_0 i4_2).bind (fun z24_5 =>
 lt [⟨z14_3.path, z19_4.mode, z24_5.data⟩] (fun y28_7 =>
 gd (out3_1.length + y28_7.length ≤ 4294967296) (
 lt (out3_1 ++ y28_7) (fun y29_9 =>
 gd (I64 (i4_2 + 1)) (
 go (y29_9, (i4_2 + 1))))))))))
 else (up (some out3_1))) ([], 0)
noncomputable def rectoref14_Stage (l_0 : List Rectoref14Entry) (n_1 : Int) : Option (List Rectoref14File) :=
 iter (fun ((out5_1, i6_2) : List Rectoref14File × Int) =>
 if i6_2 < (l_0.length : Int) then (jn (fun (out5_3 : List Rectoref14File) =>
 gd (I64 (i6_2 + 1)) (
 go (out5_3, (i6_2 + 1)))) (fun k4 => (at_ l_0 i6_2).bind (fun z15_5 =>
 if z15_5.stage = n_1 then ((at_ l_0 i6_2).bind (fun z23_6 =>
 (at_ l_0 i6_2).bind (fun z28_7 =>
 (at_ l_0 i6_2).bind (fun z33_8 =>
 lt [⟨z23_6.path, z28_7.mode, z33_8.data⟩] (fun y37_10 =>
 gd (out5_1.length + y37_10.length ≤ 4294967296) (
 lt (out5_1 ++ y37_10) (fun y38_12 =>
 k4 y38_12)))))))
 else (k4 out5_1))))
 else (up (some out5_1))) ([], 0)
noncomputable def rectoref14_Same (a_0 : List Rectoref14File) (b_1 : List Rectoref14File) : Option Bool :=
 if (a_0.length : Int) = (b_1.length : Int) then (iter (fun (i5_1 : Int) =>
 if i5_1 < (a_0.length : Int) then ((at_ a_0 i5_1).bind (fun z19_2 =>
 (at_ b_1 i5_1).bind (fun z23_3 =>
 if z19_2.path = z23_3.path ∧ z19_2.mode = z23_3.mode ∧ z19_2.data = z23_3.data then (gd (I64 (i5_1 + 1)) (
 go (i5_1 + 1)))
 else (up (some false)))))
 else (up (some true))) 0)
 else (some false)
noncomputable def rectolaw15_All (a_0 : List IndexEntry) (b_1 : List Rectoref14Entry) : Option Bool :=
 (Sh.rectolaw15_Of a_0).bind (fun y8_1 =>
 if (y8_1.length : Int) = (b_1.length : Int) then (iter (fun (i6_2 : Int) =>
 if i6_2 < (y8_1.length : Int) then ((at_ y8_1 i6_2).bind (fun z22_3 =>
 (at_ b_1 i6_2).bind (fun z26_4 =>
 if z22_3.path = z26_4.path ∧ z22_3.stage = z26_4.stage ∧ z22_3.mode = z26_4.mode ∧ z22_3.data = z26_4.data ∧ z22_3.time = z26_4.time ∧ z22_3.size = z26_4.size then (gd (I64 (i6_2 + 1)) (
 go (i6_2 + 1)))
 else (up (some false)))))
 else (up (some true))) 0)
 else (some false))
noncomputable def rectoref14_Put (r_0 : List Rectoref14File) (f_1 : Rectoref14File) : Option (List Rectoref14File) :=
 iter (fun ((out5_2, put6_3, i7_4) : List Rectoref14File × Bool × Int) =>
 if i7_4 < (r_0.length : Int) then (jn (fun ((out5_5, put6_6) : List Rectoref14File × Bool) =>
 gd (I64 (i7_4 + 1)) (
 go (out5_5, put6_6, (i7_4 + 1)))) (fun k7 => jn (fun ((out5_8, put6_9) : List Rectoref14File × Bool) =>
 (at_ r_0 i7_4).bind (fun z32_18 =>
 if z32_18.path = f_1.path then (k7 (out5_8, put6_9))
 else ((at_ r_0 i7_4).bind (fun z41_19 =>
 lt [⟨z41_19.path, z41_19.mode, z41_19.data⟩] (fun y43_21 =>
 gd (out5_8.length + y43_21.length ≤ 4294967296) (
 lt (out5_8 ++ y43_21) (fun y44_23 =>
 k7 (y44_23, put6_9)))))))) (fun k10 => jn (fun (x25_11 : Bool) =>
 if x25_11 = true then (lt [⟨f_1.path, f_1.mode, f_1.data⟩] (fun y28_15 =>
 gd (out5_2.length + y28_15.length ≤ 4294967296) (
 lt (out5_2 ++ y28_15) (fun y29_17 =>
 k10 (y29_17, true)))))
 else (k10 (out5_2, put6_3))) (fun k12 => if (!put6_3) = true then ((at_ r_0 i7_4).bind (fun z19_13 =>
 k12 (!Op.bytesLess z19_13.path f_1.path)))
 else (k12 false)))))
 else (up (if (!put6_3) = true then (lt [⟨f_1.path, f_1.mode, f_1.data⟩] (fun y49_25 =>
 gd (out5_2.length + y49_25.length ≤ 4294967296) (
 lt (out5_2 ++ y49_25) (fun y50_27 =>
 some y50_27))))
 else (some out5_2)))) ([], false, 0)
noncomputable def rectoref14_Paths (l_0 : List (List Rectoref14File)) : Option (List Str) :=
 iter (fun ((r3_1, i4_2) : List Rectoref14File × Int) =>
 if i4_2 < (l_0.length : Int) then (iter (fun ((r3_3, k5_4) : List Rectoref14File × Int) =>
 (at_ l_0 i4_2).bind (fun z17_5 =>
 if k5_4 < (z17_5.length : Int) then ((at_ l_0 i4_2).bind (fun z26_6 =>
 (at_ z26_6 k5_4).bind (fun z29_7 =>
 (Sh.rectoref14_Put r3_3 (⟨z29_7.path, 0, []⟩ : Rectoref14File)).bind (fun y33_8 =>
 gd (I64 (k5_4 + 1)) (
 go (y33_8, (k5_4 + 1)))))))
 else (up (gd (I64 (i4_2 + 1)) (
 go (r3_3, (i4_2 + 1))))))) (r3_1, 0))
 else (up (iter (fun ((out6_9, i7_10) : List Str × Int) =>
 if i7_10 < (r3_1.length : Int) then ((at_ r3_1 i7_10).bind (fun z43_11 =>
 lt [z43_11.path] (fun y46_13 =>
 gd (out6_9.length + y46_13.length ≤ 4294967296) (
 lt (out6_9 ++ y46_13) (fun y47_15 =>
 gd (I64 (i7_10 + 1)) (
 go (y47_15, (i7_10 + 1))))))))
 else (up (some out6_9))) ([], 0)))) ([], 0)
noncomputable def rectoref14_Conflicts (l_0 : List Rectoref14Entry) : Option (List Str) :=
 (Sh.rectoref14_Stage l_0 1).bind (fun y4_1 =>
 (Sh.rectoref14_Stage l_0 2).bind (fun y6_2 =>
 (Sh.rectoref14_Stage l_0 3).bind (fun y8_3 =>
 lt [y4_1, y6_2, y8_3] (fun y9_5 =>
 (Sh.rectoref14_Paths y9_5).bind (fun y10_6 =>
 some y10_6)))))
noncomputable def rectolaw1_texts (a_0 : List Str) (b_1 : List Str) : Option Bool :=
 if (a_0.length : Int) = (b_1.length : Int) then (iter (fun (i5_1 : Int) =>
 if i5_1 < (a_0.length : Int) then ((at_ a_0 i5_1).bind (fun z19_2 =>
 (at_ b_1 i5_1).bind (fun z23_3 =>
 if z19_2 = z23_3 then (gd (I64 (i5_1 + 1)) (
 go (i5_1 + 1)))
 else (up (some false)))))
 else (up (some true))) 0)
 else (some false)
noncomputable def rectolaw1_Texts (a_0 : List Str) (b_1 : List Str) : Option Bool :=
 (Sh.rectolaw1_texts a_0 b_1).bind (fun y7_1 =>
 some y7_1)
noncomputable def rectolaw15_IndexAny (l_0 : List IndexEntry) : Option Bool :=
 (Sh.rectolaw15_known).bind (fun y12_1 =>
 if (!y12_1) = true then (some false)
 else ((Sh.rectolaw15_Few l_0).bind (fun y15_2 =>
 if (!y15_2) = true then (some true)
 else ((Sh.rectolaw15_Of l_0).bind (fun y18_3 =>
 (Sh.rectoref14_CheckIndex y18_3).bind (fun y20_4 =>
 (Sh.index_Encode l_0).bind (fun y23_6 =>
 (Sh.rectoref14_Encode y18_3).bind (fun y28_7 =>
 jn (fun (x48_9 : Bool) =>
 if x48_9 = true then (some false)
 else (if y20_4.err = 0 then (iter (fun (n9_14 : Int) =>
 if n9_14 < 4 then ((Sh.index_Stage l_0 n9_14).bind (fun y58_15 =>
 (Sh.rectolaw14_Of y58_15).bind (fun y59_16 =>
 (Sh.rectoref14_Stage y18_3 n9_14).bind (fun y62_17 =>
 (Sh.rectoref14_Same y59_16 y62_17).bind (fun y63_18 =>
 if (!y63_18) = true then (up (some false))
 else (gd (I64 (n9_14 + 1)) (
 go (n9_14 + 1))))))))
 else (up ((Sh.index_Decode y23_6.1).bind (fun y67_19 =>
 if y67_19.2.isNil = true then ((Sh.rectolaw15_All y67_19.1 y18_3).bind (fun y75_20 =>
 if y75_20 = true then ((Sh.index_Conflicts l_0).bind (fun y79_21 =>
 (Sh.rectoref14_Conflicts y18_3).bind (fun y81_22 =>
 (Sh.rectolaw1_Texts y79_21 y81_22).bind (fun y82_23 =>
 some y82_23))))
 else (some false)))
 else (some false))))) 0)
 else (some true))) (fun k10 => (Sh.index_Check l_0).bind (fun y32_11 =>
 (Sh.rectolaw2_Tells y32_11 y20_4).bind (fun y34_12 =>
 if (!y34_12) = true then (k10 true)
 else ((Sh.rectolaw2_Tells y23_6.2 y28_7.2).bind (fun y39_13 =>
 if (!y39_13) = true then (k10 true)
 else (k10 (!decide (y23_6.1 = y28_7.1))))))))))))))))
end Go.S.Sh
end

section
set_option linter.unusedVariables false
set_option linter.unusedSimpArgs false
set_option linter.unusedSectionVars false
namespace Go.V
open Go.RowKit Go.S
section
variable {P : Program} {N : Nat} {c : Cx} {ops : Array Oper} {Q Q1 : Exit → Act → World → Prop} {rest : List Oper} {o : Oper} {ρ : Env} {M M' M1 M0 : Mo} {E E1 F : Ow} {v u : Value}
  {d : Nat} {od : Option Nat} {ty : TypeId} {pos : String} {after : Array Edge} {gd : Option (Nat × Bool)} {x y m' : Operand} {t t' e k : TypeId} {f : FuncId}
end
end Go.V
end

section
namespace Go.V
open Go.RowKit Go.S
end Go.V
end

section
namespace Go.Proofs
open Go.Shelf
def Tryz.lays156_ren : Go.Shelf.Ren := ⟨fun | 156 => 231 | 165 => 267 | 166 => 182 | 169 => 185 | 240 => 229 | 241 => 293 | 276 => 265 | 277 => 306 | n => n, fun | 31 => 82 | 9 => 9 | 3 => 3 | 4 => 4 | 0 => 0 | 20 => 20 | 72 => 259 | 76 => 30 | 70 => 257 | 37 => 27 | 75 => 29 | 127 => 313 | 164 => 207 | 5 => 5 | 80 => 131 | n => n, fun | n => n⟩
theorem Tryz.lays156 : Go.Proofs.Lays.n156 Tryz.prog Tryz.lays156_ren := {
  mixed := by kernel_rfl
  f156 := Tryz.func231.trans (congrArg some (by kernel_rfl))
  f165 := Tryz.func267.trans (congrArg some (by kernel_rfl))
  f166 := Tryz.func182.trans (congrArg some (by kernel_rfl))
  f169 := Tryz.func185.trans (congrArg some (by kernel_rfl))
  f240 := Tryz.func229.trans (congrArg some (by kernel_rfl))
  f241 := Tryz.func293.trans (congrArg some (by kernel_rfl))
  f276 := Tryz.func265.trans (congrArg some (by kernel_rfl))
  f277 := Tryz.func306.trans (congrArg some (by kernel_rfl))
  t0 := Tryz.underlying0
  a0 := Tryz.isAgg0
  z0 := Tryz.sizeOf0
  v0 := Tryz.zeroValue0
  t3 := Tryz.underlying3
  a3 := Tryz.isAgg3
  z3 := Tryz.sizeOf3
  v3 := Tryz.zeroValue3
  t4 := Tryz.underlying4
  a4 := Tryz.isAgg4
  z4 := Tryz.sizeOf4
  v4 := Tryz.zeroValue4
  t9 := Tryz.underlying9
  a9 := Tryz.isAgg9
  z9 := Tryz.sizeOf9
  v9 := Tryz.zeroValue9
  t20 := Tryz.underlying20
  a20 := Tryz.isAgg20
  z20 := Tryz.sizeOf20
  v20 := Tryz.zeroValue20
  t31 := Tryz.underlying82
  a31 := Tryz.isAgg82
  z31 := Tryz.sizeOf82
  v31 := Tryz.zeroValue82
  t37 := Tryz.underlying27
  a37 := Tryz.isAgg27
  z37 := Tryz.sizeOf27
  v37 := Tryz.zeroValue27
  t70 := Tryz.underlying257
  a70 := Tryz.isAgg257
  z70 := Tryz.sizeOf257
  v70 := Tryz.zeroValue257
  t72 := Tryz.underlying259
  a72 := Tryz.isAgg259
  z72 := Tryz.sizeOf259
  v72 := Tryz.zeroValue259
  t75 := Tryz.underlying29
  a75 := Tryz.isAgg29
  z75 := Tryz.sizeOf29
  v75 := Tryz.zeroValue29
  t76 := Tryz.underlying30
  a76 := Tryz.isAgg30
  z76 := Tryz.sizeOf30
  v76 := Tryz.zeroValue30
  t127 := Tryz.underlying313
  a127 := Tryz.isAgg313
  z127 := Tryz.sizeOf313
  v127 := Tryz.zeroValue313
  t164 := Tryz.underlying207
  a164 := Tryz.isAgg207
  z164 := Tryz.sizeOf207
  v164 := Tryz.zeroValue207 }
theorem Tryz.Builder_Extra_156 : Builder.Extra Tryz.prog Tryz.lays156_ren := {
  sizeBuilder := by kernel_rfl
  liesBuilder := by kernel_rfl
  t5 := Tryz.underlying5
  a5 := Tryz.isAgg5
  z5 := Tryz.sizeOf5
  v5 := Tryz.zeroValue5
  infoByte := by kernel_rfl
  cellsByte := by kernel_rfl
  sizeByte := by kernel_rfl
  neB5 := by decide }
open Go.RowKit in
/-- No element: the empty string; the world is as it was. (Whatever the slice's address and capacity: a nil slice too.) (LAID: no walk: one application.) -/
theorem Tryz.strings_Join_none (a : Option Addr) (c : Nat) (sep : ByteArray) (w : World) :
    Calls Tryz.prog 231 #[.slice a 0 c, .string sep] w fun e w' => e = .returned (.string ⟨#[]⟩) ∧ w' = w := Any.strings_Join_none Tryz.lays156 Tryz.Builder_Extra_156 a c sep w
open Go.RowKit in
/-- strings.Join: "Join concatenates the elements of its first argument to create a single string. The separator string sep is placed between elements in the resulting string.": HOWEVER MANY ELEMENTS. Below the heap's end the world is as it was. (LAID: no walk: one application.) -/
theorem Tryz.strings_Join (bk o c : Nat) (xs : List ByteArray) (sep : ByteArray) (w : World) (hcells : ∀ (j : Nat) x, xs[j]? = some x → w.cell? ⟨bk, o + j, none⟩ = some (.string x)) (hbk : bk < w.heap.size) (hN : xs.length ≤ 140737488355328) (hcap : xs.length ≤ c) (hlen : (Lib.join (xs.map (·.data.toList)) sep.data.toList).length ≤ 140737488355328) :
    Calls Tryz.prog 231 #[.slice (some ⟨bk, o, none⟩) xs.length c, .string sep] w fun e w' => e = .returned (.string ⟨(Lib.join (xs.map (·.data.toList)) sep.data.toList).toArray⟩) ∧ Below w.heap.size w w' := Any.strings_Join Tryz.lays156 Tryz.Builder_Extra_156 bk o c xs sep w hcells hbk hN hcap hlen
def Tryz.laysM171_ren : Go.Shelf.Ren := ⟨fun | 171 => 327 | 243 => 328 | 246 => 329 | 283 => 330 | 284 => 331 | 285 => 332 | 286 => 333 | 129 => 214 | 317 => 334 | 318 => 335 | 319 => 336 | 320 => 337 | 337 => 338 | 338 => 339 | n => n, fun | 3 => 3 | 9 => 9 | 2 => 2 | 4 => 4 | 171 => 400 | 0 => 0 | 53 => 231 | 37 => 27 | 5 => 5 | 173 => 402 | 212 => 405 | 51 => 233 | 20 => 20 | 213 => 406 | 46 => 232 | 232 => 407 | 233 => 408 | n => n, fun | 17 => 4 | 18 => 5 | 19 => 6 | n => n⟩
theorem Tryz.laysM171 : Go.Proofs.LaysM.n171 Tryz.prog Tryz.laysM171_ren := {
  mixed := by kernel_rfl
  f129 := Tryz.func214.trans (congrArg some (by kernel_rfl))
  f171 := Tryz.func327.trans (congrArg some (by kernel_rfl))
  f243 := Tryz.func328.trans (congrArg some (by kernel_rfl))
  f246 := Tryz.func329.trans (congrArg some (by kernel_rfl))
  f283 := Tryz.func330.trans (congrArg some (by kernel_rfl))
  f284 := Tryz.func331.trans (congrArg some (by kernel_rfl))
  f285 := Tryz.func332.trans (congrArg some (by kernel_rfl))
  f286 := Tryz.func333.trans (congrArg some (by kernel_rfl))
  f317 := Tryz.func334.trans (congrArg some (by kernel_rfl))
  f318 := Tryz.func335.trans (congrArg some (by kernel_rfl))
  f319 := Tryz.func336.trans (congrArg some (by kernel_rfl))
  f320 := Tryz.func337.trans (congrArg some (by kernel_rfl))
  f337 := Tryz.func338.trans (congrArg some (by kernel_rfl))
  f338 := Tryz.func339.trans (congrArg some (by kernel_rfl))
  t0 := Tryz.underlying0
  a0 := Tryz.isAgg0
  z0 := Tryz.sizeOf0
  v0 := Tryz.zeroValue0
  t2 := Tryz.underlying2
  a2 := Tryz.isAgg2
  z2 := Tryz.sizeOf2
  v2 := Tryz.zeroValue2
  t3 := Tryz.underlying3
  a3 := Tryz.isAgg3
  z3 := Tryz.sizeOf3
  v3 := Tryz.zeroValue3
  t4 := Tryz.underlying4
  a4 := Tryz.isAgg4
  z4 := Tryz.sizeOf4
  v4 := Tryz.zeroValue4
  t5 := Tryz.underlying5
  a5 := Tryz.isAgg5
  z5 := Tryz.sizeOf5
  v5 := Tryz.zeroValue5
  t9 := Tryz.underlying9
  a9 := Tryz.isAgg9
  z9 := Tryz.sizeOf9
  v9 := Tryz.zeroValue9
  t20 := Tryz.underlying20
  a20 := Tryz.isAgg20
  z20 := Tryz.sizeOf20
  v20 := Tryz.zeroValue20
  t37 := Tryz.underlying27
  a37 := Tryz.isAgg27
  z37 := Tryz.sizeOf27
  v37 := Tryz.zeroValue27
  t46 := Tryz.underlying232
  a46 := Tryz.isAgg232
  z46 := Tryz.sizeOf232
  v46 := Tryz.zeroValue232
  t51 := Tryz.underlying233
  a51 := Tryz.isAgg233
  z51 := Tryz.sizeOf233
  v51 := Tryz.zeroValue233
  t53 := Tryz.underlying231
  a53 := Tryz.isAgg231
  z53 := Tryz.sizeOf231
  v53 := Tryz.zeroValue231
  t171 := Tryz.underlying400
  a171 := Tryz.isAgg400
  z171 := Tryz.sizeOf400
  v171 := Tryz.zeroValue400
  t173 := Tryz.underlying402
  a173 := Tryz.isAgg402
  z173 := Tryz.sizeOf402
  v173 := Tryz.zeroValue402
  t212 := Tryz.underlying405
  a212 := Tryz.isAgg405
  z212 := Tryz.sizeOf405
  v212 := Tryz.zeroValue405
  t213 := Tryz.underlying406
  a213 := Tryz.isAgg406
  z213 := Tryz.sizeOf406
  t232 := Tryz.underlying407
  a232 := Tryz.isAgg407
  z232 := Tryz.sizeOf407
  v232 := Tryz.zeroValue407
  t233 := Tryz.underlying408
  a233 := Tryz.isAgg408
  z233 := Tryz.sizeOf408
  v233 := Tryz.zeroValue408
  g17 := by kernel_rfl
  g18 := by kernel_rfl
  g19 := by kernel_rfl
  i0 := by kernel_rfl
  i2 := by kernel_rfl
  i3 := by kernel_rfl
  i4 := by kernel_rfl
  i5 := by kernel_rfl
  i9 := by kernel_rfl
  i20 := by kernel_rfl
  i37 := by kernel_rfl
  i46 := by kernel_rfl
  i51 := by kernel_rfl
  i53 := by kernel_rfl
  i171 := by kernel_rfl
  i173 := by kernel_rfl
  i212 := by kernel_rfl
  i232 := by kernel_rfl
  i233 := by kernel_rfl
  m17 := by kernel_rfl
  m18 := by kernel_rfl
  m19 := by kernel_rfl }
open Go.RowKit Go.Sort Go.Lib in
/-- strconv.Itoa: "Itoa is equivalent to FormatInt(int64(i), 10).": i's DECIMAL NUMERAL ('Lib.itoa': a '-' where i is negative, then the digits), FOR EVERY int. The world behind the call: the world before it, new blocks behind the heap (the library's 'var a [24]byte'), draws. (LAID: no walk: one application.) -/
theorem Tryz.strconv_Itoa (n : Int) (h0 : -9223372036854775808 ≤ n) (h1 : n ≤ 9223372036854775807) (w : World) (htab : Lib.TabIs Tryz.prog w "internal/strconv.uint64pow10" .u64 Lib.pow10Tab) :
    Calls Tryz.prog 327 #[.int .i64 n] w fun e w' => e = .returned (.string ⟨(Lib.itoa n).toArray⟩) ∧ ∃ k os, w' = grow (w.drewN k) os := Any.strconv_Itoa Tryz.laysM171 n h0 h1 w htab
def Tryz.lays190_ren : Go.Shelf.Ren := ⟨fun | 190 => 102 | 125 => 169 | 258 => 168 | 128 => 213 | 129 => 214 | 302 => 204 | 303 => 205 | 304 => 206 | 305 => 207 | 306 => 208 | 307 => 209 | 308 => 210 | 309 => 211 | 310 => 212 | 333 => 241 | 329 => 242 | 330 => 243 | 334 => 244 | 335 => 245 | 336 => 223 | 344 => 272 | n => n, fun | 31 => 82 | 9 => 9 | 3 => 3 | 46 => 232 | 0 => 0 | 51 => 233 | 53 => 231 | 4 => 4 | 183 => 292 | 182 => 291 | 131 => 99 | 5 => 5 | 218 => 322 | 222 => 326 | 228 => 352 | 229 => 353 | n => n, fun | n => n⟩
theorem Tryz.lays190 : Go.Proofs.Lays.n190 Tryz.prog Tryz.lays190_ren := {
  mixed := by kernel_rfl
  f125 := Tryz.func169.trans (congrArg some (by kernel_rfl))
  f128 := Tryz.func213.trans (congrArg some (by kernel_rfl))
  f129 := Tryz.func214.trans (congrArg some (by kernel_rfl))
  f190 := Tryz.func102.trans (congrArg some (by kernel_rfl))
  f258 := Tryz.func168.trans (congrArg some (by kernel_rfl))
  f302 := Tryz.func204.trans (congrArg some (by kernel_rfl))
  f303 := Tryz.func205.trans (congrArg some (by kernel_rfl))
  f304 := Tryz.func206.trans (congrArg some (by kernel_rfl))
  f305 := Tryz.func207.trans (congrArg some (by kernel_rfl))
  f306 := Tryz.func208.trans (congrArg some (by kernel_rfl))
  f307 := Tryz.func209.trans (congrArg some (by kernel_rfl))
  f308 := Tryz.func210.trans (congrArg some (by kernel_rfl))
  f309 := Tryz.func211.trans (congrArg some (by kernel_rfl))
  f310 := Tryz.func212.trans (congrArg some (by kernel_rfl))
  f329 := Tryz.func242.trans (congrArg some (by kernel_rfl))
  f330 := Tryz.func243.trans (congrArg some (by kernel_rfl))
  f333 := Tryz.func241.trans (congrArg some (by kernel_rfl))
  f334 := Tryz.func244.trans (congrArg some (by kernel_rfl))
  f335 := Tryz.func245.trans (congrArg some (by kernel_rfl))
  f336 := Tryz.func223.trans (congrArg some (by kernel_rfl))
  f344 := Tryz.func272.trans (congrArg some (by kernel_rfl))
  t0 := Tryz.underlying0
  a0 := Tryz.isAgg0
  z0 := Tryz.sizeOf0
  v0 := Tryz.zeroValue0
  t3 := Tryz.underlying3
  a3 := Tryz.isAgg3
  z3 := Tryz.sizeOf3
  v3 := Tryz.zeroValue3
  t4 := Tryz.underlying4
  a4 := Tryz.isAgg4
  z4 := Tryz.sizeOf4
  v4 := Tryz.zeroValue4
  t5 := Tryz.underlying5
  a5 := Tryz.isAgg5
  z5 := Tryz.sizeOf5
  v5 := Tryz.zeroValue5
  t9 := Tryz.underlying9
  a9 := Tryz.isAgg9
  z9 := Tryz.sizeOf9
  v9 := Tryz.zeroValue9
  t31 := Tryz.underlying82
  a31 := Tryz.isAgg82
  z31 := Tryz.sizeOf82
  v31 := Tryz.zeroValue82
  t46 := Tryz.underlying232
  a46 := Tryz.isAgg232
  z46 := Tryz.sizeOf232
  v46 := Tryz.zeroValue232
  t51 := Tryz.underlying233
  a51 := Tryz.isAgg233
  z51 := Tryz.sizeOf233
  v51 := Tryz.zeroValue233
  t53 := Tryz.underlying231
  a53 := Tryz.isAgg231
  z53 := Tryz.sizeOf231
  v53 := Tryz.zeroValue231
  t131 := Tryz.underlying99
  a131 := Tryz.isAgg99
  z131 := Tryz.sizeOf99
  v131 := Tryz.zeroValue99
  t182 := Tryz.underlying291
  a182 := Tryz.isAgg291
  z182 := Tryz.sizeOf291
  v182 := Tryz.zeroValue291
  t183 := Tryz.underlying292
  a183 := Tryz.isAgg292
  z183 := Tryz.sizeOf292
  v183 := Tryz.zeroValue292
  t218 := Tryz.underlying322
  a218 := Tryz.isAgg322
  z218 := Tryz.sizeOf322
  v218 := Tryz.zeroValue322
  t222 := Tryz.underlying326
  a222 := Tryz.isAgg326
  z222 := Tryz.sizeOf326
  v222 := Tryz.zeroValue326
  t228 := Tryz.underlying352
  a228 := Tryz.isAgg352
  z228 := Tryz.sizeOf352
  v228 := Tryz.zeroValue352
  t229 := Tryz.underlying353
  a229 := Tryz.isAgg353
  z229 := Tryz.sizeOf353
  v229 := Tryz.zeroValue353 }
open Go.Sort Go.RowKit in
theorem Tryz.slices_Sort_string (blk off cap : Nat) (ss : List (List UInt8)) (w : World) (hH : Holds encStr w blk off ss.toArray) (hblk : blk < w.heap.size) (hsz : ss.length < 4611686018427387904) :
    Calls Tryz.prog 102 #[.slice (some ⟨blk, off, none⟩) ss.length cap] w fun e w' =>
      e = .returned (.tuple #[]) ∧ ∃ n os, w' = grow (putRow encStr (Sort.ahead w n) blk off (ss.mergeSort fun x y => decide (x ≤ y)).toArray) os := Any.slices_Sort_string Tryz.lays190 blk off cap ss w hH hblk hsz
def Tryz.lays194_ren : Go.Shelf.Ren := ⟨fun | 194 => 104 | n => n, fun | 31 => 82 | 9 => 9 | 3 => 3 | 4 => 4 | 0 => 0 | n => n, fun | n => n⟩
theorem Tryz.lays194 : Go.Proofs.Lays.n194 Tryz.prog Tryz.lays194_ren := {
  mixed := by kernel_rfl
  f194 := Tryz.func104.trans (congrArg some (by kernel_rfl))
  t0 := Tryz.underlying0
  a0 := Tryz.isAgg0
  z0 := Tryz.sizeOf0
  v0 := Tryz.zeroValue0
  t3 := Tryz.underlying3
  a3 := Tryz.isAgg3
  z3 := Tryz.sizeOf3
  v3 := Tryz.zeroValue3
  t4 := Tryz.underlying4
  a4 := Tryz.isAgg4
  z4 := Tryz.sizeOf4
  v4 := Tryz.zeroValue4
  t9 := Tryz.underlying9
  a9 := Tryz.isAgg9
  z9 := Tryz.sizeOf9
  v9 := Tryz.zeroValue9
  t31 := Tryz.underlying82
  a31 := Tryz.isAgg82
  z31 := Tryz.sizeOf82
  v31 := Tryz.zeroValue82 }
open Go.RowKit Go.Lib Go.Sort in
/-- slices.Compact at []string, over an array: the library's two loops are walked. (LAID: no walk: one application.) -/
theorem Tryz.slices_Compact_string_arr (blk off cap : Nat) (d : Array (List UInt8)) (w : World) (hH : Holds encStr w blk off d) (hsz : d.size ≤ 9223372036854775807) (hcap : d.size ≤ cap) :
    Calls Tryz.prog 104 #[.slice (some ⟨blk, off, none⟩) d.size cap] w fun e w' => e = .returned (.slice (some ⟨blk, off, none⟩) (compactUpTo d d.size).length cap) ∧ ∃ q, w' = putRow encStr (Sort.ahead w q) blk off (compactUpTo d d.size ++ List.replicate (d.size - (compactUpTo d d.size).length) []).toArray := Any.slices_Compact_string_arr Tryz.lays194 blk off cap d w hH hsz hcap
open Go.RowKit Go.Lib Go.Sort in
/-- slices.Compact at []string: "Compact replaces consecutive runs of equal elements with a single copy. This is like the uniq command found on Unix. Compact modifies the contents of the slice s and returns the modified slice, which may have a smaller length. Compact zeroes the elements between the new length and the original length. The result preserves the nilness of s.": IT RETURNS THE SLICE CUT TO 'Lib.compact zs'; ITS CELLS HOLD 'Lib.compact zs', THEN ZERO VALUES up to the old length; all else is as it was, but for the count of draws. IN THE WORDS OF slices.Sort's CONTRACT ('Holds', 'putRow'): so the everyday 'slices.Sort(xs); xs = slices.Compact(xs)' goes from the one contract to the other. It asks 'zs.length ≤ cap' (every slice's: the reslicing 's[:k]' looks at it). Length 0, nil: '.._empty'. (LAID: no walk: one application.) -/
theorem Tryz.slices_Compact_string (blk off cap : Nat) (zs : List (List UInt8)) (w : World) (hH : Holds encStr w blk off zs.toArray) (hsz : zs.length ≤ 9223372036854775807) (hcap : zs.length ≤ cap) :
    Calls Tryz.prog 104 #[.slice (some ⟨blk, off, none⟩) zs.length cap] w fun e w' => e = .returned (.slice (some ⟨blk, off, none⟩) (Lib.compact zs).length cap) ∧ ∃ q, w' = putRow encStr (Sort.ahead w q) blk off (Lib.compact zs ++ List.replicate (zs.length - (Lib.compact zs).length) []).toArray := Any.slices_Compact_string Tryz.lays194 blk off cap zs w hH hsz hcap
open Go.RowKit Go.Lib Go.Sort in
/-- The same at a slice of length 0, a nil one too: it comes back as it is. (LAID: no walk: one application.) -/
theorem Tryz.slices_Compact_string_empty (a : Option Addr) (cap : Nat) (w : World) :
    Calls Tryz.prog 104 #[.slice a 0 cap] w fun e w' => e = .returned (.slice a 0 cap) ∧ w' = w := Any.slices_Compact_string_empty Tryz.lays194 a cap w
open Go.RowKit Go.Sort in
/-- .. and plain. (LAID: no walk: one application.) -/
theorem Tryz.slices_Sort_string_none (p : Option Addr) (cap : Nat) (w : World) :
    Calls Tryz.prog 102 #[.slice p 0 cap] w fun e w' => e = .returned (.tuple #[]) ∧ w' = w := Any.slices_Sort_string_none Tryz.lays190 p cap w
end Go.Proofs
end

section
namespace Go.Proofs
open Go.Shelf
open Go.RowKit Go.Maps Go.Sort
end Go.Proofs
end

section
namespace Go.V
open Go.RowKit
open Go.S hiding Str
instance : ErNo := ⟨115, 114⟩
@[reducible] def Gl : Mo := (GBlk 0 #[.iface 270 (.agg #[.pointer (some ⟨7, 29, none⟩)])])
instance : Dat FilesFile := ⟨3, fun x => [str x.path, i64 x.mode, str x.data], fun _ => rfl, fun _ u h => by simp only [List.mem_cons, List.not_mem_nil, or_false] at h; rcases h with rfl | rfl | rfl <;> first | rfl | exact Er.one _, fun _ => Mo.tt⟩
instance : Flat FilesFile := ⟨fun _ => rfl⟩
instance : Dat IndexEntry := ⟨6, fun x => [str x.path, i64 x.stage, i64 x.mode, str x.data, i64 x.time, i64 x.size], fun _ => rfl, fun _ u h => by simp only [List.mem_cons, List.not_mem_nil, or_false] at h; rcases h with rfl | rfl | rfl | rfl | rfl | rfl <;> first | rfl | exact Er.one _, fun _ => Mo.tt⟩
instance : Flat IndexEntry := ⟨fun _ => rfl⟩
structure CodecEnc where
  b : Sv UInt8
@[reducible] def CodecEnc.m (x : CodecEnc) : Mo := x.b.ok
def CodecEnc.pl (x : CodecEnc) : CodecEncP := ⟨x.b.l⟩
instance : Dat CodecEnc := ⟨1, fun x => [x.b.val], fun _ => rfl, fun _ u h => by simp only [List.mem_cons, List.not_mem_nil, or_false] at h; rcases h with rfl <;> first | rfl | exact Er.one _, CodecEnc.m⟩
structure CodecDec where
  b : Sv UInt8
  at_ : Int
  err : Er
@[reducible] def CodecDec.m (x : CodecDec) : Mo := (x.b.ok.and x.err.ok)
def CodecDec.pl (x : CodecDec) : CodecDecP := ⟨x.b.l, x.at_, x.err.pl⟩
instance : Dat CodecDec := ⟨3, fun x => [x.b.val, i64 x.at_, x.err.val], fun _ => rfl, fun _ u h => by simp only [List.mem_cons, List.not_mem_nil, or_false] at h; rcases h with rfl | rfl | rfl <;> first | rfl | exact Er.one _, CodecDec.m⟩
instance : Dat Rectoref14Entry := ⟨6, fun x => [str x.path, i64 x.stage, i64 x.mode, str x.data, i64 x.time, i64 x.size], fun _ => rfl, fun _ u h => by simp only [List.mem_cons, List.not_mem_nil, or_false] at h; rcases h with rfl | rfl | rfl | rfl | rfl | rfl <;> first | rfl | exact Er.one _, fun _ => Mo.tt⟩
instance : Flat Rectoref14Entry := ⟨fun _ => rfl⟩
instance : Dat Rectoref3Part := ⟨2, fun x => [str x.word, i64 x.at_], fun _ => rfl, fun _ u h => by simp only [List.mem_cons, List.not_mem_nil, or_false] at h; rcases h with rfl | rfl <;> first | rfl | exact Er.one _, fun _ => Mo.tt⟩
instance : Flat Rectoref3Part := ⟨fun _ => rfl⟩
structure Rectoref3Wrong where
  parts : Sv Rectoref3Part
  err : Int
@[reducible] def Rectoref3Wrong.m (x : Rectoref3Wrong) : Mo := x.parts.ok
def Rectoref3Wrong.pl (x : Rectoref3Wrong) : Rectoref3WrongP := ⟨x.parts.l, x.err⟩
instance : Dat Rectoref3Wrong := ⟨2, fun x => [x.parts.val, i64 x.err], fun _ => rfl, fun _ u h => by simp only [List.mem_cons, List.not_mem_nil, or_false] at h; rcases h with rfl | rfl <;> first | rfl | exact Er.one _, Rectoref3Wrong.m⟩
structure ApiFault where
  part : Str
  at_ : Int
  err : Er
@[reducible] def ApiFault.m (x : ApiFault) : Mo := x.err.ok
def ApiFault.pl (x : ApiFault) : ApiFaultP := ⟨x.part, x.at_, x.err.pl⟩
instance : Dat ApiFault := ⟨3, fun x => [str x.part, i64 x.at_, x.err.val], fun _ => rfl, fun _ u h => by simp only [List.mem_cons, List.not_mem_nil, or_false] at h; rcases h with rfl | rfl | rfl <;> first | rfl | exact Er.one _, ApiFault.m⟩
instance : Dat Rectoref14File := ⟨3, fun x => [str x.path, i64 x.mode, str x.data], fun _ => rfl, fun _ u h => by simp only [List.mem_cons, List.not_mem_nil, or_false] at h; rcases h with rfl | rfl | rfl <;> first | rfl | exact Er.one _, fun _ => Mo.tt⟩
instance : Flat Rectoref14File := ⟨fun _ => rfl⟩
end Go.V
end
