/- Part of the proofs of: What another branch has beyond one's own is taken as it is, and the second time there is nothing to do, for every number of commits. -/
import Derived.Lib.Join
import Derived.Lib.Overlaps
import Derived.Lib.AppendZerosOnto
import Derived.Sort.Walk0
import Derived.Lib.SlicesCompact
import Derived.Sort.Row
import Derived.Sort.Grow
import Derived.Sort.EncStr
import Derived.Maps.Own
import Derived.Maps.Views
import Derived.Sort.KeysCollected
import Derived.StringKeys
import Derived.Maps.OwnSet
import Derived.Lib.SlKeysI
import Derived.Shelf.Strings.OnBuilder
import Derived.Shelf.LaysM
import Derived.Shelf.Strconv.Itoa3
import Derived.Shelf.Sort.Plain
import Derived.Shelf.Slices.CompactS
import Derived.Shelf.Slices.In.SortNone
import Derived.Test.YtdfbpkpldjpioaaGreatDoorProg
import Derived.Shelf.SlIter.Nil
import Derived.Shelf.SortM.Plain
import Derived.Shelf.SortM.SortNone
import Derived.Test.YtdfbpkpldjpioaaGreatDoorFA
set_option linter.unusedVariables false
set_option linter.unusedSimpArgs false
set_option linter.unusedSectionVars false
section
set_option linter.unusedVariables false
set_option linter.unusedSimpArgs false
set_option linter.unusedSectionVars false
namespace Go.V
open Go.RowKit Go.S
section
variable {P : Program} {N : Nat} {c : Cx} {ops : Array Oper} {Q Q1 : Exit → Act → World → Prop} {rest : List Oper} {o : Oper} {ρ : Env} {M M' M1 M0 : Mo} {E E1 F A : Ow} {v u : Value} {X S T R : Type}
  {d : Nat} {od : Option Nat} {ty : TypeId} {pos : String} {after : Array Edge} {gd : Option (Nat × Bool)} {x y : Operand} {t t' e tb : TypeId} {f : FuncId} {args : List Value} {k k' : IntKind} {m n : Int} {α : Type} [Dat α]
theorem flatMap_drop {α : Type} [Dat α] (l : List α) (n : Nat) : (l.flatMap Dat.enc).drop (n * Dat.sz α) = (l.drop n).flatMap Dat.enc := by
  induction l generalizing n with
  | nil => simp
  | cons x r ih =>
    cases n with
    | zero => simp
    | succ n =>
      simp only [List.flatMap_cons, List.drop_succ_cons]
      rw [List.drop_append, Dat.len, ← ih n]
      have h1 : (Dat.enc x).drop ((n + 1) * Dat.sz α) = [] := List.drop_of_length_le (by rw [Dat.len]; exact Nat.le_mul_of_pos_left _ (Nat.succ_pos n))
      rw [h1, List.nil_append]
      congr 1
      rw [Nat.succ_mul, Nat.add_sub_cancel]
theorem run_copy_rowK (w : World) (dT sT ty elem : TypeId) (g o dLen dCap : Nat) (a : Addr) (sLen sCap : Nat) (cur : Array Value) (t : TypeId) (cs : List Value) (k : Nat)
    (hu : P.underlying dT = some (.slice elem)) (hs : (P.info? elem).map (·.size) = some k)
    (hg : w.heap[g]? = some (.cells cur t (0, 0))) (hn : cs.length = Nat.min sLen dLen * k)
    (hsrc : ∀ j v, cs[j]? = some v → w.cell? (a.add j) = some v) (hfit : o + cs.length ≤ cur.size) (h1 : ∀ v ∈ cs, v.oneCell' = true) :
    (Builtin.copy_ #[dT, sT] ty #[.slice (some ⟨g, o, none⟩) dLen dCap, .slice (some a) sLen sCap]).run P w =
      .ok (goInt (Nat.min sLen dLen)) (w.setRow g (cur.toList.take o ++ cs ++ cur.toList.drop (o + cs.length)).toArray) := by
  have hl := run_loadCells_list (P := P) w a cs hsrc
  have hst := run_storeCells_at P g o t cs 0 cur w hg (by simpa using hfit) h1
  cases hq : P.info? elem with
  | none => simp [hq] at hs
  | some i =>
    have hi : i.size = k := by simpa [hq] using hs
    simp [Builtin.copy_, run_underlying hu, Builtin.lenOf, Builtin.firstCells, sizeOf, typeInfo, hq, hi, ← hn, hl, hst]
theorem run_clear_rowK (w : World) (t ty e : TypeId) (z : Value) (k : Nat) (hu : P.underlying t = some (.slice e)) (hv : ∀ w, (zeroValue e).run P w = .ok z w) (hk : z.cells.size = k) (h1 : ∀ v ∈ z.cells.toList, v.oneCell' = true)
    (g o n c : Nat) (cur : Array Value) (T : TypeId) (hn : 0 < n) (hg : w.heap[g]? = some (.cells cur T (0, 0))) (hfit : o + n * k ≤ cur.size) :
    ∃ cs : List Value, cs.length = n * k ∧ (Builtin.clear_ #[t] ty #[.slice (some ⟨g, o, none⟩) n c]).run P w = .ok (.tuple #[]) (w.setRow g (cur.toList.take o ++ cs ++ cur.toList.drop (o + cs.length)).toArray) := by
  have hlen : (Builtin.zeroCells z.cells n).toList.length = n * k := by simp [Builtin.zeroCells, hk]
  refine ⟨(Builtin.zeroCells z.cells n).toList, hlen, ?_⟩
  have hone : ∀ v ∈ (Builtin.zeroCells z.cells n).toList, v.oneCell' = true := by
    intro v hv
    simp only [Builtin.zeroCells, Array.toList_map, List.mem_map, Array.toList_range, List.mem_range] at hv
    obtain ⟨i, hi, rfl⟩ := hv
    have hk0 : 0 < z.cells.size := by
      rcases Nat.eq_zero_or_pos z.cells.size with q | q
      · rw [q, Nat.mul_zero] at hi; omega
      · exact q
    have hm := Nat.mod_lt i hk0
    rw [getElem!_pos z.cells (i % z.cells.size) hm]
    exact h1 _ (Array.mem_toList_iff.2 (Array.getElem_mem hm))
  have hst := run_storeCells_at P g o T _ 0 cur w hg (by rw [hlen]; simpa using hfit) hone
  obtain ⟨n, rfl⟩ : ∃ j, n = j + 1 := ⟨n - 1, by omega⟩
  simp only [Nat.add_zero] at hst
  simp [Builtin.clear_, run_underlying hu, hv, hst]
theorem VL.bigN {op : Op} {A2 : Ow} (hE : Foc E A F)
    (H : ∀ a w h z, Agr N ρ a → h.off z → M.on h → A z → h.le (wh w) → z.le (wh w) → ∃ u w', (execOp a.eval ⟨none, op, ty, pos, after, none⟩).run P w = .ok (.value u) w' ∧ St ⟨w, h, fun b => z b ≠ none⟩ Mo.tt A2 w')
    (k : VL P N c ops Q rest ρ M (Ow.star A2 F)) : VL P N c ops Q (⟨none, op, ty, pos, after, none⟩ :: rest) ρ M E := fun a w g s =>
  wpList_plain rfl fun _ hK => by
    have s0 := s
    obtain ⟨⟨hp, e, m, ee, dd, l, kk, h0, hr, er⟩, _⟩ := s
    obtain ⟨x, y, dxy, j, hx, hy⟩ := hE e ee
    have dx : hp.off x := fun b => (dd b).imp id fun z => by rw [j] at z; exact (Hp.join_none.1 z).1
    obtain ⟨u, w', hr', s'⟩ := H a w hp x g dx m hx l (fun b o z => kk b o (by rw [j]; exact Hp.le_join_left x y b o z))
    unfold Oper.wp
    rw [hr']
    simp only [Oper.upon]
    have s2 := St.call s0 m dd l kk h0 hr er dxy j hy (fun b => Iff.rfl) s'
    exact hK _ _ (k _ _ ⟨g.size, g.defers, g.look⟩ (s2.mono (fun _ z => z.2) fun _ z => z))
theorem VL.clrN {s : Sv α} {i : Nat} {xs : List Operand} (z : Value) (hu : P.underlying t = some (.slice e)) (hv : ∀ w, (zeroValue e).run P w = .ok z w) (hk : z.cells.size = Dat.sz α) (h1' : z.cells.toList.all (fun v => v.oneCell') = true)
    (ha : ρ.evs xs = some [(s.sub i s.l.length s.c).val]) (hi : i ≤ s.l.length) (hE : Foc E (s.own e) F)
    (kk : ∀ q : Sv α, q.l = s.l.take i → q.val = .slice s.a i s.c → VL P N c ops Q rest ρ M (Ow.star (q.own e) F)) :
    VL P N c ops Q (⟨none, .call { callee := .builtin .clear, args := xs.toArray, argTypes := #[t] }, ty, pos, after, none⟩ :: rest) ρ M E := by
  have h1 : ∀ v ∈ z.cells.toList, v.oneCell' = true := fun v hv => List.all_eq_true.1 h1' v hv
  have hsub : (s.sub i s.l.length s.c).l.length = s.l.length - i := by simp [Sv.sub]
  refine VL.bigN (A2 := (⟨s.a, s.c, s.l.take i⟩ : Sv α).own e) hE (fun ac w h z' g hoff m hA l kk' => ?_) (kk ⟨s.a, s.c, s.l.take i⟩ rfl ?_)
  · obtain ⟨hlc, hcm, hcase⟩ := hA
    by_cases h0 : s.l.length - i = 0
    · have hil : i = s.l.length := by omega
      have hrun : (Builtin.clear_ #[t] ty #[(s.sub i s.l.length s.c).val]).run P w = .ok (.tuple #[]) w := by
        simp only [Sv.val, hsub, h0]
        cases (s.sub i s.l.length s.c).a <;> simp [Builtin.clear_, run_underlying hu]
      refine ⟨.tuple #[], w, ?_, ?_⟩
      · simp only [execOp, resolve, List.map_toArray, g.evs ha, Sem.run_bind, Sem.run_pure, Result.andThen_ok, invoke, builtin, hrun]
      · have e1 : s.l.take i = s.l := by rw [hil, List.take_length]
        rw [e1]
        refine ⟨⟨h, z', trivial, ⟨hlc, hcm, hcase⟩, hoff, l, kk', Hp.le.refl h, fun b hb => .inl hb, fun b hb => .inl hb⟩, fun b _ _ => rfl, rfl, rfl, rfl, Nat.le_refl _⟩
    · rcases hcase with ⟨hl0, _⟩ | ⟨b, cur, hsa, hg, hcs, ht⟩
      · rw [hl0] at h0; simp at h0
      · have hw : w.heap[b]? = some (.cells cur e (0, 0)) := kk' _ _ hg
        have hsa' : (s.sub i s.l.length s.c).a = some ⟨b, i * Dat.sz α, none⟩ := by
          unfold Sv.sub
          simp only
          split
          · rename_i q
            omega
          · rw [hsa]; simp [add_none]
        have hle : i * Dat.sz α + (s.l.length - i) * Dat.sz α = s.l.length * Dat.sz α := by rw [← Nat.add_mul]; congr 1; omega
        have hle2 : s.l.length * Dat.sz α ≤ s.c * Dat.sz α := Nat.mul_le_mul_right _ hlc
        obtain ⟨cs, hcl, hrun⟩ := run_clear_rowK (P := P) w t ty e z (Dat.sz α) hu hv hk h1 b (i * Dat.sz α) (s.l.length - i) ((s.sub i s.l.length s.c).c) cur e (by omega) hw (by rw [hcs]; omega)
        refine ⟨.tuple #[], w.setRow b (cur.toList.take (i * Dat.sz α) ++ cs ++ cur.toList.drop (i * Dat.sz α + cs.length)).toArray, ?_, St.turn (A := Sv.own _ e) hg hoff trivial l ⟨?_, hcm, .inr ⟨b, _, hsa, Hp.one_self _ _, ?_, ?_⟩⟩ (by simp [World.setRow]) (setRow_heap w b cur _ e _ hw) (fun i hi => setRow_other w b i _ hi) rfl rfl rfl⟩
        · have hval : (s.sub i s.l.length s.c).val = .slice (some ⟨b, i * Dat.sz α, none⟩) (s.l.length - i) (s.sub i s.l.length s.c).c := by unfold Sv.val; rw [hsa', hsub]
          simp only [execOp, resolve, List.map_toArray, g.evs ha, Sem.run_bind, Sem.run_pure, Result.andThen_ok, invoke, builtin, hval, hrun]
        · simp only [List.length_take]; omega
        · simp only [List.size_toArray, List.length_append, List.length_take, List.length_drop, Array.length_toList, hcs]
          omega
        · simp only [List.length_take]
          rw [show min i s.l.length = i by omega, ← flatMap_take, ← ht]
          rw [List.append_assoc, List.take_append_of_le_length (by have q : i * Dat.sz α ≤ s.c * Dat.sz α := Nat.mul_le_mul_right _ (by omega); rw [List.length_take, Array.length_toList, hcs]; omega), List.take_take, List.take_take]
          congr 1
          omega
  · simp only [Sv.val, List.length_take]
    congr 1
    omega
theorem q_cutO {s q : Sv α} (hu : P.underlying t = some (.slice e)) (hz : (P.info? e).map (·.size) = some (Dat.sz α)) (e0 : ρ.ev x = some s.val) (e1 : ρ.ev y = some (i64 n)) (h0 : 0 ≤ n) (h1 : n ≤ s.l.length) (hc : s.l.length ≤ s.c) (hq : q.val = .slice s.a n.toNat s.c) :
    Qt P N c ⟨od, .slice t x none (some y) none, ty, pos, after, gd⟩ q.val ρ M E := by
  have := q_cut (P := P) (N := N) (c := c) (M := M) (E := E) (od := od) (ty := ty) (pos := pos) (after := after) (gd := gd) (lo := none) (hi := some y) (mx := none) (lo' := none) (hi' := some n) (mx' := none) 0 n.toNat s.c hu hz e0 rfl (by simp [optv, e1]) rfl rfl (by simp; omega) (by simp) (fun h => by cases h) (Nat.zero_le _) (by omega) (Nat.le_refl _) (by omega)
  rw [hq]
  have e2 : (s.sub 0 n.toNat s.c).val = .slice s.a n.toNat s.c := by
    simp only [Sv.val, Sv.sub, List.drop_zero, Nat.sub_zero, List.length_take]
    rw [show min n.toNat s.l.length = n.toNat by omega]
    split
    · rfl
    · rw [Nat.zero_mul]; cases s.a <;> simp [Addr.add] <;> rfl
  rwa [e2] at this
theorem q_subv {s : Sv α} (hu : P.underlying t = some (.slice e)) (hz : (P.info? e).map (·.size) = some (Dat.sz α)) (e0 : ρ.ev x = some s.val) (e1 : ρ.ev y = some (i64 n)) (h0 : 0 ≤ n) (h1 : n ≤ s.l.length) (hc : s.l.length ≤ s.c) :
    Qt P N c ⟨od, .slice t x (some y) none none, ty, pos, after, gd⟩ (s.sub n.toNat s.l.length s.c).val ρ M E :=
  q_cut (lo := some y) (hi := none) (mx := none) (lo' := some n) (hi' := none) (mx' := none) n.toNat s.l.length s.c hu hz e0 (by simp [optv, e1]) rfl rfl (by simp; omega) rfl (by simp) (fun h => by cases h) (by omega) hc (Nat.le_refl _) (Nat.le_refl _)
theorem VL.fits {s : Sv α} (hE : Foc E (s.own e) F) (kk : s.l.length ≤ s.c → VL P N c ops Q rest ρ M E) : VL P N c ops Q rest ρ M E := fun a w xx yy => kk (by
  obtain ⟨⟨hp, ee, m, eE, _⟩, _⟩ := yy
  obtain ⟨a1, b1, _, _, ⟨q1, _⟩, _⟩ := hE ee eE
  exact q1) a w xx yy
theorem VD.partK {k : Nat} {rr : List (Nat × Bool)} {D : List (Nat × Value)} {s : Sv α} {lo hi mx : Option Operand} {lo' hi' mx' : Option Int} (hk : ops[k]? = some ⟨some d, .slice t x lo hi mx, ty, pos, after, none⟩) (l r : Nat) (hu : P.underlying t = some (.slice e)) (hz : (P.info? e).map (·.size) = some (Dat.sz α)) (e0 : ρ.ev x = some s.val)
    (e1 : optv ρ lo = some lo') (e2 : optv ρ hi = some hi') (e3 : optv ρ mx = some mx') [hs : InM M s.ok] (hl : lo'.getD 0 = (l : Int)) (hr : hi'.getD s.l.length = (r : Int)) (hm : mx' = none ∨ mx' = some (r : Int)) (hmx : mx'.isSome = true → hi'.isSome = true) (h1 : l ≤ r) (h4 : r ≤ s.l.length) (hd : d < N)
    (kk : ∀ (q : Sv α), q.l = (s.l.drop l).take (r - l) → (∀ {ρ' : Env} {M' : Mo} {E' : Ow}, ρ'.ev x = some s.val → optv ρ' lo = some lo' → optv ρ' hi = some hi' → optv ρ' mx = some mx' → Qt P N c ⟨some d, .slice t x lo hi mx, ty, pos, after, none⟩ q.val ρ' M' E') → VD P N c ops Q rr (addD ops k q.val D) ((d, q.val) :: ρ) (q.ok.and M) E) : VD P N c ops Q ((k, true) :: rr) D ρ M E :=
  VD.factM (φ := s.l.length ≤ s.c) (fun h m => (hs.out h m).1) fun hc => by
    obtain ⟨m, m1, m2, m3⟩ := cut_aux lo' hi' mx' l r hl hr hm h4 hc
    exact VD.q hk (q_cut l r m hu hz e0 e1 e2 e3 hl hr m1 hmx h1 m2 m3 h4) hd (VD.addM (s.sub l r m).ok (fun h q => Sv.sub_ok h1 h4 m2 m3 (hs.out h q)) (kk _ rfl fun e0 e1 e2 e3 => q_cut l r m hu hz e0 e1 e2 e3 hl hr m1 hmx h1 m2 m3 h4))
theorem VD.stoK {k' : Nat} {rr : List (Nat × Bool)} {D : List (Nat × Value)} {s : Sv α} {n : Int} (hk : ops[k']? = some ⟨some d, .slice t x none (some y) none, ty, pos, after, none⟩) (hu : P.underlying t = some (.slice e)) (hz : (P.info? e).map (·.size) = some (Dat.sz α)) (e0 : ρ.ev x = some s.val) (e1 : ρ.ev y = some (i64 n)) [hs : InM M s.ok] (h0 : 0 ≤ n) (h1 : n ≤ s.l.length) (hd : d < N)
    (kk : ∀ (q : Sv α), q.l = s.l.take n.toNat → (∀ {ρ' : Env} {M' : Mo} {E' : Ow}, ρ'.ev x = some s.val → ρ'.ev y = some (i64 n) → Qt P N c ⟨some d, .slice t x none (some y) none, ty, pos, after, none⟩ q.val ρ' M' E') → VD P N c ops Q rr (addD ops k' q.val D) ((d, q.val) :: ρ) (q.ok.and M) E) : VD P N c ops Q ((k', true) :: rr) D ρ M E :=
  VD.partK (lo' := none) (hi' := some n) (mx' := none) hk 0 n.toNat hu hz e0 rfl (by simp [optv, e1]) rfl rfl (by simp; omega) (.inl rfl) (fun _ => rfl) (by omega) (by omega) hd fun q hq h => kk q (by rw [hq]; simp) fun a b => h a rfl (by simp [optv, b]) rfl
theorem VD.smidK {k' : Nat} {rr : List (Nat × Bool)} {D : List (Nat × Value)} {s : Sv α} {z : Operand} {m n : Int} (hk : ops[k']? = some ⟨some d, .slice t x (some y) (some z) none, ty, pos, after, none⟩) (hu : P.underlying t = some (.slice e)) (hz : (P.info? e).map (·.size) = some (Dat.sz α)) (e0 : ρ.ev x = some s.val) (e1 : ρ.ev y = some (i64 m)) (e2 : ρ.ev z = some (i64 n)) [hs : InM M s.ok] (h0 : 0 ≤ m) (h1 : m ≤ n) (h2 : n ≤ s.l.length) (hd : d < N)
    (kk : ∀ (q : Sv α), q.l = (s.l.drop m.toNat).take (n.toNat - m.toNat) → (∀ {ρ' : Env} {M' : Mo} {E' : Ow}, ρ'.ev x = some s.val → ρ'.ev y = some (i64 m) → ρ'.ev z = some (i64 n) → Qt P N c ⟨some d, .slice t x (some y) (some z) none, ty, pos, after, none⟩ q.val ρ' M' E') → VD P N c ops Q rr (addD ops k' q.val D) ((d, q.val) :: ρ) (q.ok.and M) E) : VD P N c ops Q ((k', true) :: rr) D ρ M E :=
  VD.partK (lo' := some m) (hi' := some n) (mx' := none) hk m.toNat n.toNat hu hz e0 (by simp [optv, e1]) (by simp [optv, e2]) rfl (by simp; omega) (by simp; omega) (.inl rfl) (fun h => by cases h) (by omega) (by omega) hd fun q hq h => kk q hq fun a b c' => h a (by simp [optv, b]) (by simp [optv, c']) rfl
end
end Go.V
end

section
set_option linter.unusedVariables false
set_option linter.unusedSimpArgs false
set_option linter.unusedSectionVars false
namespace Go.V
open Go.RowKit Go.S
section
variable {P : Program} {N : Nat} {c : Cx} {ops : Array Oper} {Q Q1 : Exit → Act → World → Prop} {rest : List Oper} {o : Oper} {ρ : Env} {M M' M1 M0 : Mo} {E E1 F A : Ow} {v u : Value} {X S T R : Type}
  {d : Nat} {od : Option Nat} {ty : TypeId} {pos : String} {after : Array Edge} {gd : Option (Nat × Bool)} {x y : Operand} {t t' e tb : TypeId} {f : FuncId} {args : List Value} {k k' : IntKind} {m n : Int} {α : Type} [Dat α]
theorem q_cutV {a0 : Option Addr} {L C K : Nat} {lo hi : Option Operand} {lo' hi' : Option Int} (l r : Nat) (hu : P.underlying t = some (.slice e)) (hz : (P.info? e).map (·.size) = some K) (e0 : ρ.ev x = some (.slice a0 L C))
    (e1 : optv ρ lo = some lo') (e2 : optv ρ hi = some hi') (hl : lo'.getD 0 = (l : Int)) (hr : hi'.getD L = (r : Int)) (h1 : l ≤ r) (h2 : r ≤ C) :
    Qt P N c ⟨od, .slice t x lo hi none, ty, pos, after, gd⟩ (sliced a0 l r C K) ρ M E := Qt.of_run fun a w g _ => by
  have key : ∀ (q : Option Operand) (q' : Option Int), optv ρ q = some q' → q.map a.eval = q'.map (fun n => Value.int .i64 n) := fun q q' hq => by
    cases q with
    | none => simp only [optv] at hq; cases hq; rfl
    | some z =>
      simp only [optv] at hq
      split at hq
      · rename_i n hz; cases hq; simp [g.ev hz]
      · cases hq
  cases hj : P.info? e with
  | none => rw [hj] at hz; cases hz
  | some j =>
    rw [hj] at hz
    have hzz : j.size = K := by simpa using hz
    have hel : P.elem t = e := by simp [Program.elem, hu]
    have hu' : P.underlying t = some (.slice (P.elem t)) := by rw [hel]; exact hu
    have hs : (sizeOf (P.elem t)).run P w = .ok K w := by rw [hel]; simp [sizeOf, typeInfo, hj, hzz, go_sem]
    have hb : (Instr.sliceBounds true L C (lo'.map fun n => Value.int .i64 n) (hi'.map fun n => Value.int .i64 n) none).run P w = .ok (l, r, C) w := by
      cases hi' with
      | none =>
        simp only [Option.getD_none] at hr
        have hr' : r = L := by omega
        subst hr'
        cases lo' with
        | none => simp only [Option.getD_none] at hl; have : l = 0 := by omega
                  subst this; simp [Instr.sliceBounds, go_sem]
        | some q => simp only [Option.getD_some] at hl; subst hl; simp [Instr.sliceBounds, run_sliceBound, go_sem, h1]
      | some p =>
        simp only [Option.getD_some] at hr; subst hr
        have hle : (r : Int) ≤ C := by omega
        cases lo' with
        | none => simp only [Option.getD_none] at hl; have : l = 0 := by omega
                  subst this; simp [Instr.sliceBounds, run_sliceBound, go_sem, hle, h2]
        | some q => simp only [Option.getD_some] at hl; subst hl; simp [Instr.sliceBounds, run_sliceBound, go_sem, h1, h2]
    have hrun : (Instr.slice t (.slice a0 L C) (lo'.map fun n => Value.int .i64 n) (hi'.map fun n => Value.int .i64 n) none).run P w = .ok (sliced a0 l r C K) w := by
      rw [run_slice_any w t a0 L C hu' _ _ _, hb]
      simp only [Result.andThen_ok, hs]
    simp only [execOp, g.ev e0, key _ _ e1, key _ _ e2, Option.map_none, Sem.run_bind, run_sliceAt_slice w t _ _ _ _ hu', hrun, Result.andThen_ok, Sem.run_pure]
theorem q_fromV {b o L C K : Nat} {i : Int} {V : Value} (hu : P.underlying t = some (.slice e)) (hz : (P.info? e).map (·.size) = some K) (e0 : ρ.ev x = some (.slice (some ⟨b, o, none⟩) L C)) (e1 : ρ.ev y = some (i64 i)) (h0 : 0 ≤ i) (h1 : i ≤ L) (h2 : L ≤ C) (h3 : i < C) (hV : .slice (some ⟨b, o + i.toNat * K, none⟩) (L - i.toNat) (C - i.toNat) = V) :
    Qt P N c ⟨od, .slice t x (some y) none none, ty, pos, after, gd⟩ V ρ M E := by
  have := q_cutV (P := P) (N := N) (c := c) (M := M) (E := E) (od := od) (ty := ty) (pos := pos) (after := after) (gd := gd) (lo := some y) (hi := none) (lo' := some i) (hi' := none) (K := K) i.toNat L hu hz e0 (by simp [optv, e1]) rfl (by simp; omega) rfl (by omega) h2
  rw [← hV]
  rwa [show sliced (some ⟨b, o, none⟩) i.toNat L C K = .slice (some ⟨b, o + i.toNat * K, none⟩) (L - i.toNat) (C - i.toNat) by unfold sliced; rw [if_neg (by omega)]; simp [add_none]] at this
theorem q_toV {a0 : Option Addr} {L C K : Nat} {i : Int} (hu : P.underlying t = some (.slice e)) (hz : (P.info? e).map (·.size) = some K) (e0 : ρ.ev x = some (.slice a0 L C)) (e1 : ρ.ev y = some (i64 i)) (h0 : 0 ≤ i) (h1 : i ≤ C) :
    Qt P N c ⟨od, .slice t x none (some y) none, ty, pos, after, gd⟩ (.slice a0 i.toNat C) ρ M E := by
  have := q_cutV (P := P) (N := N) (c := c) (M := M) (E := E) (od := od) (ty := ty) (pos := pos) (after := after) (gd := gd) (lo := none) (hi := some y) (lo' := none) (hi' := some i) (K := K) 0 i.toNat hu hz e0 rfl (by simp [optv, e1]) rfl (by simp; omega) (by omega) (by omega)
  rwa [show sliced a0 0 i.toNat C K = .slice a0 i.toNat C by
    unfold sliced
    split
    · rfl
    · rw [Nat.zero_mul]; cases a0 <;> simp [Addr.add]] at this
theorem q_capV {a0 : Option Addr} {L C : Nat} {xs : List Operand} (ht : P.underlying t = some (.slice e)) (h : ρ.evs xs = some [.slice a0 L C]) : Qt P N c ⟨od, .call { callee := .builtin .cap, args := xs.toArray, argTypes := #[t] }, ty, pos, after, gd⟩ (i64 (C : Int)) ρ M E := Qt.of_run fun a w g _ => by
  have e := g.evs h
  simp only [execOp, resolve, List.map_toArray, e, Sem.run_bind, Sem.run_pure, Result.andThen_ok, invoke, builtin]
  simp [Builtin.cap_, run_underlying ht, goInt]
theorem run_copy_noneK (w : World) (dT sT ty elem : TypeId) (d a : Option Addr) (dLen dCap sLen sCap : Nat) (hu : P.underlying dT = some (.slice elem)) (hs : ((P.info? elem).map (·.size)).isSome = true) (hn : Nat.min sLen dLen = 0) :
    (Builtin.copy_ #[dT, sT] ty #[.slice d dLen dCap, .slice a sLen sCap]).run P w = .ok (goInt 0) w := by
  cases hq : P.info? elem with
  | none => simp [hq] at hs
  | some i =>
    have hl : ∀ (x : Addr), (loadCells x 0).run P w = .ok #[] w := fun x => by simpa using run_loadCells_list (P := P) w x [] (by simp)
    cases d <;> cases a <;> simp [Builtin.copy_, run_underlying hu, Builtin.lenOf, Builtin.firstCells, sizeOf, typeInfo, hq, hn, storeCells, hl]
theorem VL.copyB {b T o n cp sc m K : Nat} {cs src : List Value} {sa : Option Addr} {xs : List Operand} (hu : P.underlying t = some (.slice e)) (hz : (P.info? e).map (·.size) = some K) (hE : Foc E (Blk b cs T) F)
    (ha : ρ.evs xs = some [.slice (some ⟨b, o, none⟩) n cp, .slice sa m sc]) (hlen : src.length = Nat.min m n * K)
    (hs : ∀ h z, h.off z → M.on h → Blk b cs T z → src ≠ [] → ∃ sb so, sa = some ⟨sb, so, none⟩ ∧ (h.join z).at sb so src) (h1 : ∀ v ∈ src, v.oneCell' = true) (hfit : o + src.length ≤ cs.length) (hd : d < N)
    (kk : VL P N c ops Q rest ((d, i64 (Nat.min m n : Nat)) :: ρ) M (Ow.star (Blk b (cs.take o ++ src ++ cs.drop (o + src.length)) T) F)) :
    VL P N c ops Q (⟨some d, .call { callee := .builtin .copy, args := xs.toArray, argTypes := #[t, t'] }, ty, pos, after, none⟩ :: rest) ρ M E := by
  refine VL.big (X := Unit) (φ := fun _ => True) (val := fun _ => i64 (Nat.min m n : Nat)) (M2 := fun _ => Mo.tt) (A2 := fun _ => Blk b (cs.take o ++ src ++ cs.drop (o + src.length)) T) hE (fun ac w h z g hoff hm hA l kk' => ?_) hd fun _ _ => VL.strip kk
  have hw : w.heap[b]? = some (.cells cs.toArray T (0, 0)) := kk' _ _ hA
  by_cases h0 : src = []
  · by_cases hmn : Nat.min m n = 0
    · have hrun := run_copy_noneK (P := P) w t t' ty e (some ⟨b, o, none⟩) sa n cp m sc hu (by rw [hz]; rfl) hmn
      refine ⟨_, w, ?_, (), trivial, rfl, ?_⟩
      · simp only [execOp, resolve, List.map_toArray, g.evs ha, Sem.run_bind, Sem.run_pure, Result.andThen_ok, invoke, builtin, hrun, goInt, hmn]; rfl
      · rw [h0]
        simp only [List.append_nil, List.length_nil, Nat.add_zero, List.take_append_drop]
        exact ⟨⟨h, z, trivial, hA, hoff, l, kk', Hp.le.refl h, fun b hb => .inl hb, fun b hb => .inl hb⟩, fun b _ _ => rfl, rfl, rfl, rfl, Nat.le_refl _⟩
    · have hrun : (Builtin.copy_ #[t, t'] ty #[.slice (some ⟨b, o, none⟩) n cp, .slice sa m sc]).run P w = .ok (goInt (Nat.min m n)) w := by
        have hk : K = 0 := by
          rw [h0, List.length_nil] at hlen
          rcases Nat.mul_eq_zero.1 hlen.symm with q | q
          · exact absurd q hmn
          · exact q
        cases hq : P.info? e with
        | none => rw [hq] at hz; cases hz
        | some i =>
          have hi : i.size = 0 := by rw [hq] at hz; simpa [hk] using hz
          have hl : ∀ (x : Addr), (loadCells x 0).run P w = .ok #[] w := fun x => by simpa using run_loadCells_list (P := P) w x [] (by simp)
          cases sa <;> simp [Builtin.copy_, run_underlying hu, Builtin.lenOf, Builtin.firstCells, sizeOf, typeInfo, hq, hi, storeCells, hl]
      refine ⟨_, w, ?_, (), trivial, rfl, ?_⟩
      · simp only [execOp, resolve, List.map_toArray, g.evs ha, Sem.run_bind, Sem.run_pure, Result.andThen_ok, invoke, builtin, hrun, goInt]
      · rw [h0]
        simp only [List.append_nil, List.length_nil, Nat.add_zero, List.take_append_drop]
        exact ⟨⟨h, z, trivial, hA, hoff, l, kk', Hp.le.refl h, fun b hb => .inl hb, fun b hb => .inl hb⟩, fun b _ _ => rfl, rfl, rfl, rfl, Nat.le_refl _⟩
  · obtain ⟨sb, so, hsa, hat⟩ := hs h z hoff hm hA h0
    have hrun := run_copy_rowK (P := P) w t t' ty e b o n cp ⟨sb, so, none⟩ m sc cs.toArray T src K hu hz hw hlen (fun j v hj => by
      rw [add_none]
      exact cell_of_le (Hp.join_le l kk') (hat j v hj)) (by simpa using hfit) h1
    rw [hsa] at ha
    refine ⟨_, _, ?_, (), trivial, rfl, St.turn (A := Blk b _ T) hA hoff trivial l (by unfold Blk Hp.one; rw [if_pos rfl]) (by simp [World.setRow]) (setRow_heap w b _ _ T _ hw) (fun i hi => setRow_other w b i _ hi) rfl rfl rfl⟩
    simp only [execOp, resolve, List.map_toArray, g.evs ha, Sem.run_bind, Sem.run_pure, Result.andThen_ok, invoke, builtin, hrun, goInt]
theorem VL.open {s : Sv α} (hE : Foc E (s.own e) F) (hl : s.c ≠ 0) (kk : ∀ (b : Nat) (cs : List Value), s.a = some ⟨b, 0, none⟩ → cs.length = s.c * Dat.sz α → cs.take (s.l.length * Dat.sz α) = s.l.flatMap Dat.enc → s.l.length ≤ s.c → s.c ≤ maxLen → VL P N c ops Q rest ρ M (Ow.star (Blk b cs e) F)) : VL P N c ops Q rest ρ M E := fun a w g s0 => by
  obtain ⟨⟨hp, ee, m, eE, dd, l, k, r1, r2, r3⟩, f1, f2, f3, f4, f5⟩ := id s0
  obtain ⟨p, q, d1, j1, ⟨q1, q2, q3⟩, hq⟩ := hE ee eE
  rcases q3 with ⟨w1, w2⟩ | ⟨b, cur, w1, w2, w3, w4⟩
  · exact absurd w2 hl
  · exact kk b cur.toList w1 (by rw [Array.length_toList, w3]) w4 q1 q2 a w g ⟨⟨hp, ee, m, ⟨p, q, d1, j1, by unfold Blk; rw [Array.toArray_toList]; exact w2, hq⟩, dd, l, k, r1, r2, r3⟩, f1, f2, f3, f4, f5⟩
theorem q_extE {xs : List Operand} {ts : Array TypeId} {f : FuncId} {vs : List Value} (ha : ρ.evs xs = some vs) (h : ∀ a w, Agr N ρ a → St c M E w → (callFunc f vs.toArray).run P w = .ok (.value v) w) : Qt P N c ⟨od, .call { callee := .value (.func f), args := xs.toArray, argTypes := ts }, ty, pos, after, gd⟩ v ρ M E := Qt.of_run fun a w g s => by
  have h' := h a w g s
  have e := g.evs ha
  subst e
  simp [execOp, resolve, Act.eval, Deferred.ofValue, invoke, h']
theorem q_overlaps {fn : Func} {xs : List Operand} {ts : Array TypeId} {tS tR Te T2 : TypeId} {s : Sv α} {b o lb cb K : Nat} {cs : List Value} (hf : P.funcs[f]? = some fn) (hname : (fn.name == "runtime.NumGoroutine") = false) (hb : fn.body.isNone = true) (hn : Extern.findNext fn = none) (he : Extern.find fn = some (Extern.SlicesOverlaps.overlaps #[tS, tS] #[tR]))
    (ht : P.underlying tS = some (.slice e)) (hz : (P.info? e).map (·.size) = some K) (ha : ρ.evs xs = some [s.val, .slice (some ⟨b, o, none⟩) lb cb]) (hE : Foc E (Blk b cs T2) F) [hs : HasO F s Te] (hc : cs ≠ []) (hsl : s.l ≠ []) :
    Qt P N c ⟨od, .call { callee := .value (.func f), args := xs.toArray, argTypes := ts }, ty, pos, after, gd⟩ (.bool false) ρ M E := q_extE ha fun a w g st => by
  obtain ⟨⟨hp, ee, m, eE, dd, l, k, _⟩, _⟩ := st
  obtain ⟨p, q, d1, j1, hB, hF⟩ := hE ee eE
  have hown := hs.out q hF
  obtain ⟨q1, q2, q3⟩ := hown
  rcases q3 with ⟨w1, w2⟩ | ⟨g2, cur, w1, w2, w3, w4⟩
  · exact absurd w1 hsl
  · have hwb : w.heap[b]? = some (.cells cs.toArray T2 (0, 0)) := k _ _ (by rw [j1]; exact Hp.le_join_left p q _ _ hB)
    have hwg : w.heap[g2]? = some (.cells cur Te (0, 0)) := k _ _ (by rw [j1]; exact Hp.le_join_right d1 _ _ w2)
    have hne : g2 ≠ b := fun q' => by
      subst q'
      rcases d1 g2 with z | z
      · unfold Blk at hB; rw [z] at hB; cases hB
      · rw [z] at w2; cases w2
    have hov := Lib.run_overlaps_apart (P := P) w tS tR e ht K (fun w => by
      cases hj : P.info? e with
      | none => rw [hj] at hz; cases hz
      | some j => rw [hj] at hz; have : j.size = K := by simpa using hz
                  simp [sizeOf, typeInfo, hj, this]) ⟨g2, 0, none⟩ ⟨b, o, none⟩ s.l.length s.c lb cb hne Te T2 cur.size cs.toArray.size (by simp [World.shape?, hwg]) (by simp [World.shape?, hwb]) (by simpa using hc) (by simp [World.frozen?, hwg]) (by simp [World.frozen?, hwg])
    have ev : s.val = .slice (some ⟨g2, 0, none⟩) s.l.length s.c := by unfold Sv.val; rw [w1]
    rw [ev, run_callFunc_extern hf hname hb hn he]
    show ((Extern.SlicesOverlaps.overlaps #[tS, tS] #[tR] #[.slice (some ⟨g2, 0, none⟩) s.l.length s.c, .slice (some ⟨b, o, none⟩) lb cb]).run P w).andThen _ = _
    rw [hov]
    rfl
theorem drew_cell (w : World) (a : Addr) : w.drew.cell? a = w.cell? a := rfl
theorem VL.appZg {s : Sv α} {xs : List Operand} {k1 kn : IntKind} {tn : TypeId} {bt L kq : Nat} (hu : P.underlying t = some (.slice e)) (htn : P.underlying tn = some (.int kn)) (hi : ((P.info? e).map fun i => (i.size, i.bytes, (i.zero.map fun z => z.cells.size))) = some (Dat.sz α, bt, some (Dat.sz α))) (hpos : 0 < Dat.sz α)
    (ha : ρ.evs xs = some [.slice s.a L s.c, .int k1 (kq : Int)]) [hs : InM M s.ok] (hne : s.l ≠ []) (hL : L ≤ s.l.length) (hg : s.c < L + kq) (h0 : 0 < kq) (hm : L + kq ≤ 4294967296) (hb : bt ≤ 32768) (hd : d < N)
    (kk : ∀ (g : Nat) (cs : List Value) (cp : Nat), cs.length = cp * Dat.sz α → L + kq ≤ cp → cp ≤ maxLen → cs.take (L * Dat.sz α) = (s.l.take L).flatMap Dat.enc → VL P N c ops Q rest ((d, .slice (some ⟨g, 0, none⟩) (L + kq) cp) :: ρ) M (Ow.star (Blk g cs e) E)) :
    VL P N c ops Q (⟨some d, .call { callee := .builtin .append, args := xs.toArray, argTypes := #[t, tn] }, ty, pos, after, none⟩ :: rest) ρ M E := by
  cases hj : P.info? e with
  | none => rw [hj] at hi; cases hi
  | some i =>
    rw [hj] at hi
    simp only [Option.map_some, Option.some.injEq, Prod.mk.injEq] at hi
    obtain ⟨h1, h2, h3⟩ := hi
    cases hz : i.zero with
    | none => rw [hz] at h3; cases h3
    | some zv =>
      rw [hz] at h3
      have hzs : zv.cells.size = Dat.sz α := by simpa using h3
      refine VL.big (X := Nat × List Value × Nat) (φ := fun q => q.2.1.length = q.2.2 * Dat.sz α ∧ L + kq ≤ q.2.2 ∧ q.2.2 ≤ maxLen ∧ q.2.1.take (L * Dat.sz α) = (s.l.take L).flatMap Dat.enc) (val := fun q => .slice (some ⟨q.1, 0, none⟩) (L + kq) q.2.2) (M2 := fun _ => Mo.tt) (A2 := fun q => Blk q.1 q.2.1 e) (Foc.none (E := E)) (fun a w h z g _ m _ l _ => ?_) hd fun q hq => VL.strip (kk q.1 q.2.1 q.2.2 hq.1 hq.2.1 hq.2.2.1 hq.2.2.2)
      have hok := hs.out h m
      have hsa := hok.2.2.1 hne
      have hbnd : (L + kq) * i.bytes ≤ 4294967296 * 32768 := Nat.mul_le_mul hm (by omega)
      have hbnd2 : kq * i.bytes ≤ 4294967296 * 32768 := Nat.mul_le_mul (by omega) (by omega)
      have hlen : ((s.l.take L).flatMap Dat.enc).length = L * Dat.sz α := by rw [enc_len, List.length_take, Nat.min_eq_left hL]
      have hold : (Builtin.firstCells i.size L (.slice s.a L s.c)).run P w.drew = .ok ((s.l.take L).flatMap Dat.enc).toArray w.drew := by
        rw [hsa, h1]
        refine run_firstCells_some w.drew _ L ⟨s.b, s.o, none⟩ L s.c _ hlen fun j v hjv => ?_
        rw [add_none, drew_cell]
        have hat := at_all (h := h) (b := s.b) (o := s.o) (l := s.l) (fun j x hx => Sv.ok_get hok hx) hpos
        rw [← flatMap_take, List.getElem?_take] at hjv
        split at hjv
        · exact cell_of_le l (hat j v hjv)
        · cases hjv
      have hr := Lib.run_append_grow_zeros (P := P) w t tn ty e i zv k1 kn hu htn hj hz s.a L s.c _ hold kq h0 (by omega) hg (by omega) (by omega) (growslice_fits hg (by omega))
      have hge := grownCap_ge w (L + kq) s.c e
      have hle := grownCap_le_maxLen w (L + kq) s.c e (by unfold maxLen; omega)
      refine ⟨_, w.drew.alloc (.cells (((s.l.take L).flatMap Dat.enc).toArray ++ Builtin.zeroCells zv.cells kq ++ Builtin.zeroCells zv.cells (grownCap w (L + kq) s.c e - (L + kq))) e), ?_, (w.heap.size, (((s.l.take L).flatMap Dat.enc).toArray ++ Builtin.zeroCells zv.cells kq ++ Builtin.zeroCells zv.cells (grownCap w (L + kq) s.c e - (L + kq))).toList, grownCap w (L + kq) s.c e), ⟨?_, hge, hle, ?_⟩, rfl, St.newO (A := Blk _ _ e) ?_ trivial l ((Gr.drew w).trans (Gr.alloc w.drew _)) (heap_alloc_new w.drew _)⟩
      · simp only [execOp, resolve, List.map_toArray, g.evs ha, Sem.run_bind, Sem.run_pure, Result.andThen_ok, invoke, builtin, hr]
      · simp only [Array.length_toList, Array.size_append, size_zeroCells, hzs, List.size_toArray, hlen]
        rw [← Nat.add_mul, ← Nat.add_mul]
        congr 1
        omega
      · simp only [Array.toList_append]
        rw [List.append_assoc, List.take_append_of_le_length (by simp [hlen]), List.take_of_length_le (by simp [hlen])]
      · unfold Blk
        rw [Array.toArray_toList]
        exact Hp.one_self _ _
theorem split4 {β : Type} (cs : List β) (a v s : Nat) (h : a + v + s ≤ cs.length) : ∃ A B C R, cs = A ++ (B ++ (C ++ R)) ∧ A.length = a ∧ B.length = v ∧ C.length = s ∧ A = cs.take a := by
  refine ⟨cs.take a, (cs.drop a).take v, ((cs.drop a).drop v).take s, ((cs.drop a).drop v).drop s, ?_, ?_, ?_, ?_, rfl⟩
  · simp only [List.take_append_drop]
  all_goals simp only [List.length_take, List.length_drop]; omega
theorem seg_app {β : Type} (A B C : List β) : ∀ a b : Nat, a = A.length → b = B.length → (A ++ (B ++ C)).take a = A ∧ (A ++ (B ++ C)).drop (a + b) = C := by
  rintro a b rfl rfl
  refine ⟨List.take_left, ?_⟩
  rw [← List.append_assoc, show A.length + B.length = (A ++ B).length by simp, List.drop_left]
theorem ins_cells1 {cs A V S : List Value} (h1 : cs.take A.length = A) (hf : A.length + V.length + S.length ≤ cs.length) :
    let cs1 := cs.take A.length ++ V ++ cs.drop (A.length + V.length)
    let cs2 := cs1.take (A.length + V.length) ++ S ++ cs1.drop (A.length + V.length + S.length)
    cs1.length = cs.length ∧ cs2.length = cs.length ∧ cs2.take (A ++ V ++ S).length = A ++ V ++ S := by
  obtain ⟨A', B, C, R, rfl, ha, hb, hc, hA⟩ := split4 cs A.length V.length S.length hf
  rw [h1] at hA
  subst hA
  have e1 : (A' ++ (B ++ (C ++ R))).drop (A'.length + V.length) = C ++ R := (seg_app A' B (C ++ R) _ _ rfl hb.symm).2
  intro cs1 cs2
  have q1 : cs1 = A' ++ V ++ (C ++ R) := by show _ ++ V ++ _ = _; rw [h1, e1]
  have q2 : cs2 = A' ++ V ++ S ++ R := by
    show cs1.take _ ++ S ++ cs1.drop _ = _
    rw [q1, show A'.length + V.length = (A' ++ V).length by simp, List.take_left]
    congr 1
    exact (seg_app (A' ++ V) C R _ _ rfl hc.symm).2
  refine ⟨?_, ?_, ?_⟩
  · rw [q1]; simp [hb]
  · rw [q2]; simp [hb, hc]
  · rw [q2, List.take_left]
theorem ins_cells2 {cs A V S : List Value} (h1 : cs.take A.length = A) (hf : A.length + V.length + S.length ≤ cs.length) :
    let cs1 := cs.take (A.length + V.length) ++ S ++ cs.drop (A.length + V.length + S.length)
    let cs2 := cs1.take A.length ++ V ++ cs1.drop (A.length + V.length)
    cs1.length = cs.length ∧ cs2.length = cs.length ∧ cs2.take (A ++ V ++ S).length = A ++ V ++ S := by
  obtain ⟨A', B, C, R, rfl, ha, hb, hc, hA⟩ := split4 cs A.length V.length S.length hf
  rw [h1] at hA
  subst hA
  have e0 : A' ++ (B ++ (C ++ R)) = (A' ++ B) ++ (C ++ R) := by rw [List.append_assoc]
  have e1 : (A' ++ (B ++ (C ++ R))).take (A'.length + V.length) = A' ++ B := by rw [e0]; exact (seg_app (A' ++ B) C R _ _ (by simp [hb]) rfl).1
  have e2 : (A' ++ (B ++ (C ++ R))).drop (A'.length + V.length + S.length) = R := by rw [e0]; exact (seg_app (A' ++ B) C R _ _ (by simp [hb]) hc.symm).2
  intro cs1 cs2
  have q1 : cs1 = A' ++ (B ++ (S ++ R)) := by show _ ++ S ++ _ = _; rw [e1, e2]; simp
  have q2 : cs2 = A' ++ V ++ S ++ R := by
    show cs1.take _ ++ V ++ cs1.drop _ = _
    rw [q1, List.take_left, (seg_app A' B (S ++ R) _ _ rfl hb.symm).2]
    simp
  refine ⟨?_, ?_, ?_⟩
  · rw [q1]; simp [hc]
  · rw [q2]; simp [hb, hc]
  · rw [q2, List.take_left]
theorem own_blk {b cp L : Nat} {cs : List Value} {l' : List α} (hcl : cs.length = cp * Dat.sz α) (ht : cs.take (l'.length * Dat.sz α) = l'.flatMap Dat.enc) (hl : l'.length = L) (hLc : L ≤ cp) (hcm : cp ≤ maxLen) :
    (Value.slice (some ⟨b, 0, none⟩) L cp = (⟨some ⟨b, 0, none⟩, cp, l'⟩ : Sv α).val) ∧ ∀ z, Ow.star (Blk b cs e) F z → (⟨some ⟨b, 0, none⟩, cp, l'⟩ : Sv α).own e z := by
  refine ⟨by simp [Sv.val, hl], fun z ⟨x, y, d, j, hx, hy⟩ => ?_⟩
  subst j
  refine ⟨by simp only [hl]; exact hLc, hcm, .inr ⟨b, cs.toArray, rfl, Hp.le_join_left x y _ _ hx, by simp [hcl], by simpa using ht⟩⟩
theorem ok_srcK {r : Sv α} (hpos : 0 < Dat.sz α) [i : InM M r.ok] (hne : r.l ≠ []) (k : Nat) {B : Ow} : ∀ h z, h.off z → M.on h → B z → (r.l.drop k).flatMap Dat.enc ≠ [] → ∃ sb so, (some (⟨r.b, r.o + k * Dat.sz α, none⟩ : Addr)) = some ⟨sb, so, none⟩ ∧ (h.join z).at sb so ((r.l.drop k).flatMap Dat.enc) := fun h z off m _ _ => by
  have hok := i.out h m
  refine ⟨_, _, rfl, Hp.at.up (Hp.le_join_left h z) fun j v hj => ?_⟩
  have hat := at_all (h := h) (b := r.b) (o := r.o) (l := r.l) (fun j x hx => Sv.ok_get hok hx) hpos
  have := hat (k * Dat.sz α + j) v (by rw [← flatMap_drop, List.getElem?_drop] at hj; exact hj)
  rwa [← Nat.add_assoc] at this
theorem ok_src0 {r : Sv α} (hpos : 0 < Dat.sz α) [i : InM M r.ok] (hne : r.l ≠ []) {B : Ow} : ∀ h z, h.off z → M.on h → B z → r.l.flatMap Dat.enc ≠ [] → ∃ sb so, (some (⟨r.b, r.o + 0 * Dat.sz α, none⟩ : Addr)) = some ⟨sb, so, none⟩ ∧ (h.join z).at sb so (r.l.flatMap Dat.enc) := by
  have := ok_srcK (M := M) hpos hne 0 (B := B)
  rwa [List.drop_zero] at this
theorem blk_src {b n k : Nat} {cs : List Value} {l : List α} {T : TypeId} (ht : cs.take (n * Dat.sz α) = l.flatMap Dat.enc) (hn : n = l.length) : ∀ (h z : Hp), h.off z → M.on h → Blk b cs T z → (l.drop k).flatMap Dat.enc ≠ [] → ∃ sb so, (some (⟨b, k * Dat.sz α, none⟩ : Addr)) = some ⟨sb, so, none⟩ ∧ (h.join z).at sb so ((l.drop k).flatMap Dat.enc) := fun h z off m hB _ => by
  refine ⟨_, _, rfl, Hp.at.up (Hp.le_join_right off) fun j v hj => ?_⟩
  have := Hp.at_blk hB (k * Dat.sz α + j) v (by
    rw [← flatMap_drop, ← ht, List.getElem?_drop, List.getElem?_take] at hj
    split at hj
    · exact hj
    · cases hj)
  simpa using this
theorem enc_one1 (l : List α) : ∀ v ∈ l.flatMap Dat.enc, v.oneCell' = true := fun v hv => by
  obtain ⟨x, _, hx⟩ := List.mem_flatMap.1 hv
  exact Dat.one x v hx
theorem q_fld {cs : Array Value} {fs : Array Field} {fl : Field} {i : Nat} (hu : P.underlying t = some (.struct fs)) (hf : fs[i]? = some fl) (h1 : OneCell P fl.type) (e1 : ρ.ev x = some (.agg cs)) (hv : cs[fl.offset]? = some v) : Qt P N c ⟨od, .field t x i, ty, pos, after, gd⟩ v ρ M E := Qt.of_run fun a w g _ => by
  have hr : (Instr.field t (.agg cs) i).run P w = .ok v w := by
    simp only [Instr.field, Sem.run_bind, run_underlying hu, Result.andThen_ok, hf]
    simp [part, asAgg, h1 w, hv]
  simp only [execOp, g.ev e1, Sem.run_bind, hr, Result.andThen_ok, Sem.run_pure]
end
end Go.V
end

section
namespace Go.S
open Go
def insS (x : List UInt8) : List (List UInt8) → List (List UInt8)
  | [] => [x]
  | y :: r => if Op.bytesLess y x = true then y :: insS x r else x :: y :: r
def sortS : List (List UInt8) → List (List UInt8)
  | [] => []
  | x :: r => insS x (sortS r)
theorem insS_perm (x : List UInt8) : ∀ l, (insS x l).Perm (x :: l)
  | [] => List.Perm.refl _
  | y :: r => by
    unfold insS
    split
    · exact ((insS_perm x r).cons y).trans (List.Perm.swap x y r)
    · exact List.Perm.refl _
theorem sortS_perm : ∀ l, (sortS l).Perm l
  | [] => List.Perm.refl _
  | x :: r => (insS_perm x _).trans ((sortS_perm r).cons x)
theorem insS_sorted (x : List UInt8) : ∀ l : List (List UInt8), l.Pairwise (· ≤ ·) → (insS x l).Pairwise (· ≤ ·)
  | [], _ => by simp [insS]
  | y :: r, h => by
    unfold insS
    have h1 := List.pairwise_cons.1 h
    split
    · next hb =>
      rw [Go.Proofs.bytesLess_eq, decide_eq_true_eq] at hb
      refine List.pairwise_cons.2 ⟨fun z hz => ?_, insS_sorted x r h1.2⟩
      rcases List.mem_cons.1 ((insS_perm x r).mem_iff.1 hz) with q | q
      · rw [q]; exact List.le_of_lt hb
      · exact h1.1 z q
    · next hb =>
      rw [Go.Proofs.bytesLess_eq, decide_eq_true_eq] at hb
      have hxy : x ≤ y := List.not_lt.1 hb
      refine List.pairwise_cons.2 ⟨fun z hz => ?_, h⟩
      rcases List.mem_cons.1 hz with q | q
      · rw [q]; exact hxy
      · exact List.le_trans hxy (h1.1 z q)
theorem sortS_sorted : ∀ l : List (List UInt8), (sortS l).Pairwise (· ≤ ·)
  | [] => List.Pairwise.nil
  | x :: r => insS_sorted x _ (sortS_sorted r)
theorem sortS_eq (l : List (List UInt8)) : sortS l = l.mergeSort (fun x y => decide (x ≤ y)) := by
  have tr : ∀ a b c : List UInt8, decide (a ≤ b) = true → decide (b ≤ c) = true → decide (a ≤ c) = true := fun a b c h1 h2 => by simp only [decide_eq_true_eq] at *; exact List.le_trans h1 h2
  have to : ∀ a b : List UInt8, (decide (a ≤ b) || decide (b ≤ a)) = true := fun a b => by simp only [Bool.or_eq_true, decide_eq_true_eq]; exact List.le_total a b
  refine List.Perm.eq_of_pairwise (le := fun a b => decide (a ≤ b) = true) (fun a b _ _ h1 h2 => ?_) ((sortS_sorted l).imp fun h => decide_eq_true h) (List.pairwise_mergeSort tr to l) ((sortS_perm l).trans (List.mergeSort_perm l _).symm)
  simp only [decide_eq_true_eq] at h1 h2
  exact List.le_antisymm h1 h2
def cstep (acc : List (List UInt8)) (z : List UInt8) : List (List UInt8) := if acc.getLast? = some z then acc else acc ++ [z]
def compactS (l : List (List UInt8)) : List (List UInt8) := l.foldl cstep []
theorem compact_upto (l : List (List UInt8)) : ∀ m, m ≤ l.length → Lib.compactUpTo l.toArray m = (l.take m).foldl cstep [] ∧ (Lib.compactUpTo l.toArray m).getLast? = if m = 0 then none else l[m - 1]?
  | 0, _ => by simp [Lib.compactUpTo]
  | m + 1, h => by
    obtain ⟨h1, h2⟩ := compact_upto l m (by omega)
    have hm : m < l.length := by omega
    have hg : l.toArray[m]! = l[m] := by simp [hm]
    rw [Lib.compactUpTo_succ, List.take_add_one, List.getElem?_eq_getElem hm, List.foldl_append, ← h1]
    simp only [Option.toList, List.foldl_cons, List.foldl_nil, cstep, h2, hg]
    by_cases h0 : m = 0
    · subst h0
      simp [Lib.keeps]
    · have hp : m - 1 < l.length := by omega
      have hg2 : l.toArray[m - 1]! = l[m - 1] := by simp [hp]
      simp only [if_neg h0, List.getElem?_eq_getElem hp, Option.some.injEq]
      by_cases he : l[m - 1] = l[m]
      · have hk : Lib.keeps l.toArray m = false := Lib.keeps_neg (by omega) (by rw [hg, hg2, he])
        simp only [hk, if_pos he, Bool.false_eq_true, if_false, List.append_nil, h2, if_neg h0, List.getElem?_eq_getElem hp]
        simp [he, hm]
      · have hk : Lib.keeps l.toArray m = true := Lib.keeps_pos (by rw [hg, hg2]; exact fun e => he e.symm)
        simp only [hk, if_neg he, if_true]
        simp [hm]
theorem compactS_eq (l : List (List UInt8)) : compactS l = Lib.compact l := by
  have := (compact_upto l l.length (Nat.le_refl _)).1
  rw [List.take_length] at this
  exact this.symm
theorem compact_len (l : List (List UInt8)) : (compactS l).length ≤ l.length := by
  unfold compactS
  suffices h : ∀ (acc : List (List UInt8)) (l : List (List UInt8)), (l.foldl cstep acc).length ≤ acc.length + l.length by simpa using h [] l
  intro acc l
  induction l generalizing acc with
  | nil => simp
  | cons x r ih =>
    refine Nat.le_trans (ih (cstep acc x)) ?_
    have : (cstep acc x).length ≤ acc.length + 1 := by unfold cstep; split <;> simp
    simp only [List.length_cons]; omega
theorem cstep_sorted (acc : List (List UInt8)) (z : List UInt8) (h : acc.Pairwise (· < ·)) (hz : ∀ y ∈ acc, y ≤ z) : (cstep acc z).Pairwise (· < ·) ∧ ∀ y, y ∈ cstep acc z ↔ y ∈ acc ∨ y = z := by
  unfold cstep
  split
  · next he =>
    refine ⟨h, fun y => ⟨.inl, fun q => q.elim id fun q => ?_⟩⟩
    rw [q]; exact List.mem_of_getLast? he
  · next hne =>
    refine ⟨List.pairwise_append.2 ⟨h, List.pairwise_singleton _ _, fun a ha c hc => ?_⟩, fun y => by simp⟩
    rw [List.mem_singleton.1 hc]
    have hle := hz a ha
    by_cases hlt : a < z
    · exact hlt
    · have hza : z = a := List.le_antisymm (List.not_lt.1 hlt) hle
      subst hza
      -- the last one is at least as great as z, and not z: no
      exfalso
      have hnil : acc ≠ [] := fun q => by rw [q] at ha; cases ha
      have hl : acc.getLast? = some (acc.getLast hnil) := List.getLast?_eq_some_getLast hnil
      have hm := List.getLast_mem hnil
      have hle2 := hz _ hm
      rw [hl] at hne
      have hcat : acc = acc.dropLast ++ [acc.getLast hnil] := (List.dropLast_concat_getLast hnil).symm
      rw [hcat] at ha h
      rcases List.mem_append.1 ha with q | q
      · have hq := (List.pairwise_append.1 h).2.2 z q _ (List.mem_singleton_self _)
        exact absurd hle2 (List.not_le.2 hq)
      · exact hne (congrArg some (List.mem_singleton.1 q).symm)
theorem compact_sorted : ∀ (l acc : List (List UInt8)), acc.Pairwise (· < ·) → (∀ y ∈ acc, ∀ z ∈ l, y ≤ z) → l.Pairwise (· ≤ ·) → (l.foldl cstep acc).Pairwise (· < ·) ∧ ∀ y, y ∈ l.foldl cstep acc ↔ y ∈ acc ∨ y ∈ l
  | [], acc, h, _, _ => ⟨h, fun y => by simp⟩
  | z :: r, acc, h, h1, h2 => by
    have hs := cstep_sorted acc z h (fun y hy => h1 y hy z (List.mem_cons_self ..))
    have hp := List.pairwise_cons.1 h2
    have ih := compact_sorted r (cstep acc z) hs.1 (fun y hy w hw => by
      rcases (hs.2 y).1 hy with q | q
      · exact h1 y q w (List.mem_cons_of_mem _ hw)
      · rw [q]; exact hp.1 w hw) hp.2
    refine ⟨ih.1, fun y => ?_⟩
    rw [List.foldl_cons, ih.2 y, hs.2 y, List.mem_cons]
    constructor
    · rintro ((q | q) | q)
      · exact .inl q
      · exact .inr (.inl q)
      · exact .inr (.inr q)
    · rintro (q | q | q)
      · exact .inl (.inl q)
      · exact .inl (.inr q)
      · exact .inr q
def keysS (l : List (List UInt8)) : List (List UInt8) := compactS (sortS l)
theorem keysS_lt (l : List (List UInt8)) : (keysS l).Pairwise (· < ·) := (compact_sorted (sortS l) [] List.Pairwise.nil (fun y h => by cases h) (sortS_sorted l)).1
theorem keysS_mem (l : List (List UInt8)) (y : List UInt8) : y ∈ keysS l ↔ y ∈ l := by
  have := (compact_sorted (sortS l) [] List.Pairwise.nil (fun y h => by cases h) (sortS_sorted l)).2 y
  rw [show keysS l = (sortS l).foldl cstep [] from rfl, this]
  simp [(sortS_perm l).mem_iff]
theorem keysS_of {l ss : List (List UInt8)} (hn : ss.Nodup) (hm : ∀ y, y ∈ ss ↔ y ∈ l) : ss.mergeSort (fun x y => decide (x ≤ y)) = keysS l := by
  rw [← sortS_eq]
  have hk : (keysS l).Nodup := (keysS_lt l).imp (fun {a b} (h : a < b) (e : a = b) => List.lt_irrefl b (e ▸ h))
  refine List.Perm.eq_of_pairwise (le := fun a b => decide (a ≤ b) = true) (fun a b _ _ h1 h2 => ?_) ((sortS_sorted ss).imp fun h => decide_eq_true h) ((keysS_lt l).imp fun h => decide_eq_true (List.le_of_lt h)) ((sortS_perm ss).trans ((List.perm_ext_iff_of_nodup hn hk).2 fun y => (hm y).trans (keysS_mem l y).symm))
  simp only [decide_eq_true_eq] at h1 h2
  exact List.le_antisymm h1 h2
end Go.S
end

section
set_option linter.unusedVariables false
set_option linter.unusedSimpArgs false
set_option linter.unusedSectionVars false
namespace Go.V
open Go.RowKit Go.S Go.Sort
theorem putCells_toList {enc : Str → Value} (d : List Str) (cur : Array Value) (h : d.length ≤ cur.size) : (putCells enc 0 d.toArray cur).toList = d.map enc ++ cur.toList.drop d.length := by
  apply List.ext_getElem?
  intro j
  unfold putCells
  rw [Array.getElem?_toList, Array.getElem?_mapIdx]
  by_cases hj : j < d.length
  · have hc : j < cur.size := by omega
    rw [List.getElem?_append_left (by simpa using hj)]
    simp [hc, hj]
  · rw [List.getElem?_append_right (by simp; omega)]
    simp only [List.length_map, List.getElem?_drop, Array.getElem?_toList, List.size_toArray]
    rw [show d.length + (j - d.length) = j by omega]
    cases hc : cur[j]? with
    | none => rfl
    | some x => simp; omega
theorem Ct.sort {P : Program} {f : FuncId} (he : ∀ (xs : Array Value) (w : World), (callFunc f xs).run P w = .ok (.enter f xs) w)
    (hc : ∀ (blk off cap : Nat) (ss : List (List UInt8)) (w : World), Holds Go.Proofs.encStr w blk off ss.toArray → blk < w.heap.size → ss.length < 4611686018427387904 →
      Calls P f #[.slice (some ⟨blk, off, none⟩) ss.length cap] w fun e w' => e = .returned (.tuple #[]) ∧ ∃ n os, w' = grow (putRow Go.Proofs.encStr (Sort.ahead w n) blk off (ss.mergeSort fun x y => decide (x ≤ y)).toArray) os)
    (hn : ∀ (p : Option Addr) (cap : Nat) (w : World), Calls P f #[.slice p 0 cap] w fun e w' => e = .returned (.tuple #[]) ∧ w' = w)
    (s : Sv Str) (T : TypeId) (hb : s.l.length ≤ 4294967296) :
    Ct P f [s.val] Mo.tt (s.own T) (X := Sv Str) (fun _ => .tuple #[]) (fun q => q.l = sortS s.l ∧ q.val = s.val) (fun _ => Mo.tt) (fun q => q.own T) :=
  ⟨he, fun w hp z m hA d l k => by
    have hA0 := hA
    obtain ⟨hlc, hcm, ⟨hl0, hc0⟩ | ⟨b, cur, hsa, hg, hcs, ht⟩⟩ := hA
    · have e1 : s.val = .slice s.a 0 s.c := by unfold Sv.val; rw [hl0]; rfl
      rw [e1]
      refine (hn s.a s.c w).mono fun e w' ⟨h1, h2⟩ => ⟨_, h1, s, rfl, ⟨by rw [hl0]; rfl, e1⟩, ?_⟩
      subst h2
      exact ⟨⟨hp, z, trivial, hA0, d, l, k, Hp.le.refl hp, fun b hb => .inl hb, fun b hb => .inl hb⟩, fun b _ _ => rfl, rfl, rfl, rfl, Nat.le_refl _⟩
    · have hw : w.heap[b]? = some (.cells cur T (0, 0)) := k _ _ hg
      have hsz : Dat.sz Str = 1 := rfl
      rw [hsz, Nat.mul_one] at hcs ht
      have hfl : s.l.flatMap Dat.enc = s.l.map Go.Proofs.encStr := by
        rw [List.map_eq_flatMap]; rfl
      rw [hfl] at ht
      have hH : Holds Go.Proofs.encStr w b 0 s.l.toArray := fun j hj => by
        have hj' : j < s.l.length := by simpa using hj
        have h1 : cur[j]? = some (Go.Proofs.encStr s.l[j]) := by
          have := congrArg (fun l => l[j]?) ht
          simp only [List.getElem?_take, if_pos hj', List.getElem?_map, List.getElem?_eq_getElem hj', Option.map_some] at this
          rw [← Array.getElem?_toList]; exact this
        refine ⟨?_, by simp [World.frozen?, hw]⟩
        simp only [World.cell?, hw, Nat.zero_add, h1]
        simp [hj']
      have hlt := (Array.getElem?_eq_some_iff.1 hw).1
      have e1 : s.val = .slice (some ⟨b, 0, none⟩) s.l.length s.c := by unfold Sv.val; rw [hsa]
      rw [e1]
      have hlen : (sortS s.l).length = s.l.length := (sortS_perm s.l).length_eq
      refine (hc b 0 s.c s.l w hH hlt (by omega)).mono fun e w' ⟨h1, n, os, h2⟩ => ⟨_, h1, ⟨s.a, s.c, sortS s.l⟩, rfl, ⟨rfl, by unfold Sv.val; rw [hlen, hsa]⟩, ?_⟩
      rw [← sortS_eq] at h2
      have hw1 : (putRow Go.Proofs.encStr (Sort.ahead w n) b 0 (sortS s.l).toArray).heap[b]? = some (.cells (putCells Go.Proofs.encStr 0 (sortS s.l).toArray cur) T (0, 0)) := by
        unfold putRow mapBlock
        simp only [Array.getElem?_modify, if_true]
        show (w.heap[b]?).map _ = _
        rw [hw]; rfl
      have ho1 : ∀ i, i ≠ b → (putRow Go.Proofs.encStr (Sort.ahead w n) b 0 (sortS s.l).toArray).heap[i]? = w.heap[i]? := fun i hi => by
        unfold putRow mapBlock
        simp only [Array.getElem?_modify, if_neg (Ne.symm hi)]
        rfl
      have hs1 : (putRow Go.Proofs.encStr (Sort.ahead w n) b 0 (sortS s.l).toArray).heap.size = w.heap.size := by rw [size_putRow]; rfl
      have hst : St ⟨w, hp, fun i => z i ≠ none⟩ Mo.tt ((⟨s.a, s.c, sortS s.l⟩ : Sv Str).own T) (putRow Go.Proofs.encStr (Sort.ahead w n) b 0 (sortS s.l).toArray) := by
        refine St.turn (A := Sv.own _ T) hg d trivial l ⟨by rw [hlen]; exact hlc, hcm, .inr ⟨b, _, hsa, Hp.one_self _ _, ?_, ?_⟩⟩ hs1 hw1 ho1 rfl rfl rfl
        · rw [hsz, Nat.mul_one]; simp [putCells, hcs]
        · rw [hsz, Nat.mul_one, putCells_toList (sortS s.l) cur (by rw [hlen, hcs]; exact hlc), hlen]
          rw [List.take_append_of_le_length (by simp [hlen]), List.take_of_length_le (by simp [hlen])]
          rw [List.map_eq_flatMap]; rfl
      rw [h2]
      refine hst.grow ⟨rfl, rfl, rfl, ?_, fun k hk => ?_⟩
      · simp [grow]
      · unfold grow; exact Array.getElem?_append_left hk⟩
theorem Ct.compact {P : Program} {f : FuncId} (he : ∀ (xs : Array Value) (w : World), (callFunc f xs).run P w = .ok (.enter f xs) w)
    (hc : ∀ (blk off cap : Nat) (ss : List (List UInt8)) (w : World), Holds Go.Proofs.encStr w blk off ss.toArray → ss.length ≤ 9223372036854775807 → ss.length ≤ cap →
      Calls P f #[.slice (some ⟨blk, off, none⟩) ss.length cap] w fun e w' => e = .returned (.slice (some ⟨blk, off, none⟩) (Lib.compact ss).length cap) ∧ ∃ q, w' = putRow Go.Proofs.encStr (Sort.ahead w q) blk off (Lib.compact ss ++ List.replicate (ss.length - (Lib.compact ss).length) []).toArray)
    (hn : ∀ (p : Option Addr) (cap : Nat) (w : World), Calls P f #[.slice p 0 cap] w fun e w' => e = .returned (.slice p 0 cap) ∧ w' = w)
    (s : Sv Str) (T : TypeId) (hb : s.l.length ≤ 4294967296) :
    Ct P f [s.val] Mo.tt (s.own T) (X := Sv Str) (fun q => q.val) (fun q => q.l = compactS s.l) (fun _ => Mo.tt) (fun q => q.own T) :=
  ⟨he, fun w hp z m hA d l k => by
    have hA0 := hA
    obtain ⟨hlc, hcm, ⟨hl0, hc0⟩ | ⟨b, cur, hsa, hg, hcs, ht⟩⟩ := hA
    · have e1 : s.val = .slice s.a 0 s.c := by unfold Sv.val; rw [hl0]; rfl
      rw [e1]
      refine (hn s.a s.c w).mono fun e w' ⟨h1, h2⟩ => ⟨_, h1, s, e1.symm, by show s.l = compactS s.l; rw [hl0]; rfl, ?_⟩
      subst h2
      exact ⟨⟨hp, z, trivial, hA0, d, l, k, Hp.le.refl hp, fun b hb => .inl hb, fun b hb => .inl hb⟩, fun b _ _ => rfl, rfl, rfl, rfl, Nat.le_refl _⟩
    · have hw : w.heap[b]? = some (.cells cur T (0, 0)) := k _ _ hg
      have hsz : Dat.sz Str = 1 := rfl
      rw [hsz, Nat.mul_one] at hcs ht
      have hfl : ∀ l : List Str, l.flatMap Dat.enc = l.map Go.Proofs.encStr := fun l => by
        rw [List.map_eq_flatMap]; rfl
      rw [hfl] at ht
      have hH : Holds Go.Proofs.encStr w b 0 s.l.toArray := fun j hj => by
        have hj' : j < s.l.length := by simpa using hj
        have h1 : cur[j]? = some (Go.Proofs.encStr s.l[j]) := by
          have := congrArg (fun l => l[j]?) ht
          simp only [List.getElem?_take, if_pos hj', List.getElem?_map, List.getElem?_eq_getElem hj', Option.map_some] at this
          rw [← Array.getElem?_toList]; exact this
        refine ⟨?_, by simp [World.frozen?, hw]⟩
        simp only [World.cell?, hw, Nat.zero_add, h1]
        simp [hj']
      have e1 : s.val = .slice (some ⟨b, 0, none⟩) s.l.length s.c := by unfold Sv.val; rw [hsa]
      rw [e1]
      have hle := compact_len s.l
      refine (hc b 0 s.c s.l w hH (by omega) hlc).mono fun e w' ⟨h1, n, h2⟩ => ⟨_, h1, ⟨s.a, s.c, compactS s.l⟩, by unfold Sv.val; rw [compactS_eq, hsa], rfl, ?_⟩
      rw [← compactS_eq] at h2
      have hlen : (compactS s.l ++ List.replicate (s.l.length - (compactS s.l).length) []).length = s.l.length := by simp; omega
      generalize hD : compactS s.l ++ List.replicate (s.l.length - (compactS s.l).length) [] = D at h2 hlen
      have hw1 : (putRow Go.Proofs.encStr (Sort.ahead w n) b 0 D.toArray).heap[b]? = some (.cells (putCells Go.Proofs.encStr 0 D.toArray cur) T (0, 0)) := by
        unfold putRow mapBlock
        simp only [Array.getElem?_modify, if_true]
        show (w.heap[b]?).map _ = _
        rw [hw]; rfl
      have ho1 : ∀ i, i ≠ b → (putRow Go.Proofs.encStr (Sort.ahead w n) b 0 D.toArray).heap[i]? = w.heap[i]? := fun i hi => by
        unfold putRow mapBlock
        simp only [Array.getElem?_modify, if_neg (Ne.symm hi)]
        rfl
      have hs1 : (putRow Go.Proofs.encStr (Sort.ahead w n) b 0 D.toArray).heap.size = w.heap.size := by rw [size_putRow]; rfl
      rw [h2]
      refine St.turn (A := Sv.own _ T) hg d trivial l ⟨Nat.le_trans hle hlc, hcm, .inr ⟨b, _, hsa, Hp.one_self _ _, ?_, ?_⟩⟩ hs1 hw1 ho1 rfl rfl rfl
      · rw [hsz, Nat.mul_one]; simp [putCells, hcs]
      · rw [hsz, Nat.mul_one, putCells_toList D cur (by rw [hlen, hcs]; exact hlc), hfl, ← hD, List.map_append, List.append_assoc]
        rw [List.take_append_of_le_length (by simp), List.take_of_length_le (by simp)]⟩
end Go.V
end

section
set_option linter.unusedVariables false
set_option linter.unusedSimpArgs false
set_option linter.unusedSectionVars false
namespace Go.V
open Go.RowKit Go.S Go.Sort Go.Maps
open Go.WideElems (Fit rg)
def MpK (P : Program) (k e : TypeId) (b : Nat) (l : List Str) : Ow := fun z => ∃ es clock, z b = some (.map es clock) ∧ Fit (H := Unit) P k (plainElem P e) es clock ∧ es.size ≤ l.length ∧ ∀ x : Str, has (H := Unit) (.map ((es.toList.map (rg P k (plainElem P e))).foldr DataW.insert [])) (.string x) = true ↔ x ∈ l
theorem MpK.owns {P : Program} {k e : TypeId} {b : Nat} {l : List Str} {z : Hp} {w : World} (h : MpK P k e b l z) (lz : z.le (wh w)) : ∃ D : DataW Unit, w.ownsMap P k (plainElem P e) b l.length D ∧ ∀ x : Str, has D (.string x) = true ↔ x ∈ l := by
  obtain ⟨es, clock, h1, h2, h3, h4⟩ := h
  exact ⟨_, ⟨es, clock, lz _ _ h1, h2, h3, rfl⟩, h4⟩
section
variable {P : Program} {N : Nat} {c : Cx} {ops : Array Oper} {Q Q1 : Exit → Act → World → Prop} {rest : List Oper} {o : Oper} {ρ : Env} {M M' M1 M0 : Mo} {E E1 F A : Ow} {v u : Value} {X S T R : Type}
  {d : Nat} {od : Option Nat} {ty : TypeId} {pos : String} {after : Array Edge} {gd : Option (Nat × Bool)} {x y m' : Operand} {t t' e k : TypeId} {f : FuncId}
theorem VL.mkmap (hd : d < N) (kk : ∀ b : Nat, VL P N c ops Q rest ((d, .map (some b)) :: ρ) M (Ow.star (MpK P k e b []) E)) : VL P N c ops Q (⟨some d, .makeMap t none, ty, pos, after, none⟩ :: rest) ρ M E :=
  VL.newO (S := Nat) (val := fun b => .map (some b)) (φ := fun _ => True) (A := fun b => MpK P k e b []) (fun a w g => by
    refine ⟨w.heap.size, w.alloc (.map #[] 0), .map #[] 0, ?_, trivial, Gr.alloc w _, heap_alloc_new w _, ?_⟩
    · simp only [execOp, Option.map_none, Sem.run_bind, run_makeMap, Result.andThen_ok, Sem.run_pure]
    · obtain ⟨es, clock, h1, h2, h3, h4⟩ := World.ownsMap_made (H := Unit) w P k (plainElem P e)
      have h5 := heap_alloc_new w (.map #[] 0)
      rw [h5] at h1
      cases h1
      exact ⟨#[], 0, Hp.one_self _ _, h2, Nat.le_refl _, fun x => by simp [has]⟩) hd fun b _ => kk b
theorem St.turnG {w w' : World} {h z : Hp} {b : Nat} {o o' : Obj} (hz : z b = some o) (hoff : h.off z) (hm : M.on h) (l : h.le (wh w)) (hA : A (Hp.one b o')) (hs : w.heap.size ≤ w'.heap.size) (hb : w'.heap[b]? = some o') (ho : ∀ i, i < w.heap.size → i ≠ b → w'.heap[i]? = w.heap[i]?) (e1 : w'.os = w.os) (e2 : w'.tape = w.tape) (e3 : w'.output = w.output) :
    St ⟨w, h, fun i => z i ≠ none⟩ M A w' := by
  have hbn : h b = none := (hoff b).resolve_right (by rw [hz]; simp)
  refine ⟨⟨h, Hp.one b o', hm, hA, fun i => ?_, fun i p hp => ?_, fun i p hp => ?_, Hp.le.refl h, fun i hi => .inl hi, fun i hi => .inl ?_⟩, fun i hi hd => ho i hi ?_, e1, e2, e3, hs⟩
  · by_cases hib : i = b
    · subst hib; exact .inl hbn
    · right; unfold Hp.one; rw [if_neg hib]
  · have hib : i ≠ b := fun q => by rw [q, hbn] at hp; cases hp
    have hlt := (Array.getElem?_eq_some_iff.1 (l i p hp)).1
    show w'.heap[i]? = _
    rw [ho i hlt hib]
    exact l i p hp
  · unfold Hp.one at hp
    split at hp
    · next q => subst q; cases hp; exact hb
    · cases hp
  · have : i = b := by
      unfold Hp.one at hi
      split at hi
      · assumption
      · exact absurd rfl hi
    subst this; show z i ≠ none; rw [hz]; simp
  · intro q; subst q; exact hd (by show z i ≠ none; rw [hz]; simp)
theorem VL.mapset {b : Nat} {l : List Str} {s : Str} (hk : P.underlying k = some .string) (he : P.underlying e = some .bool) (ht : P.underlying t = some (.map k e)) (hE : Foc E (MpK P k e b l) F)
    (e0 : ρ.ev m' = some (.map (some b))) (e1 : ρ.ev x = some (str s)) (e2 : ρ.ev y = some (.bool true)) (hl : l.length ≤ 4294967296 ∧ s.length ≤ 4294967296)
    (kk : VL P N c ops Q rest ρ M (Ow.star (MpK P k e b (s :: l)) F)) : VL P N c ops Q (⟨none, .mapUpdate t m' x y, ty, pos, after, none⟩ :: rest) ρ M E := by
  refine VL.bigS (A2 := MpK P k e b (s :: l)) hE (fun a w h z g hoff hm hA lh lz => ?_) kk
  obtain ⟨D, hown, hD⟩ := hA.owns lz
  obtain ⟨es0, clock0, hz0, _⟩ := hA
  obtain ⟨w', hrun, hown', hg⟩ := hown.update (string_keyed hk) ht (by unfold maxLen; omega) (Go.WideMaps.keyOf_string_mk (s := ⟨⟨s⟩⟩) hk (by show s.length ≤ maxLen; unfold maxLen; omega)) (plainElem_bool he true)
  obtain ⟨es, clock, h1, h2, h3, h4⟩ := hown'
  have hm2 : IsMap D := by obtain ⟨_, _, _, _, _, q⟩ := hown; exact ⟨_, q⟩
  refine ⟨w', ?_, St.turnG (A := MpK P k e b (s :: l)) hz0 hoff trivial lh ⟨es, clock, Hp.one_self _ _, h2, by simpa using h3, fun y => ?_⟩ hg.size h1 (fun i hi hib => hg.block i hi (fun q => hib (Option.some.inj q))) hg.os hg.tape hg.output⟩
  · simp only [execOp, g.ev e0, g.ev e1, g.ev e2, Sem.run_bind, hrun, Result.andThen_ok, Sem.run_pure]
  · rw [← h4]
    by_cases hy : y = s
    · subst hy
      exact ⟨fun _ => List.mem_cons_self .., fun _ => has_put_same (k := .string y) hm2 (show Go.WideAt.IsKeyLit (.string y) from True.intro) _⟩
    · rw [has_put_other (by simpa using hy), hD y]
      simp [hy]
theorem Ct.mapKeys {it T b : Nat} (he : ∀ (xs : Array Value) (w : World), (callFunc f xs).run P w = .ok (.enter f xs) w)
    (hc : ∀ (mb : Option Nat) (W : World), Calls P f #[.map mb] W fun e w' => e = .returned (.func (.func it) #[] #[.pointer (some ⟨W.heap.size, 0, none⟩)]) ∧ w' = W.alloc (.cells #[.map mb] T)) :
    Ct P f [.map (some b)] Mo.tt Ow.emp (X := Nat) (fun B => .func (.func it) #[] #[ptr B 0]) (fun _ => True) (fun _ => Mo.tt) (fun B => Blk B [.map (some b)] T) :=
  ⟨he, fun w hp z m _ d l k => (hc (some b) w).mono fun e w' ⟨h1, h2⟩ => ⟨_, h1, w.heap.size, rfl, trivial, by
    subst h2
    exact St.newO (A := Blk w.heap.size [.map (some b)] T) (Hp.one_self _ _) trivial l (Gr.alloc w _) (heap_alloc_new w _)⟩⟩
theorem Ct.sortedKeys {it T b B : Nat} {l : List Str} (he : ∀ (xs : Array Value) (w : World), (callFunc f xs).run P w = .ok (.enter f xs) w) (hk : P.underlying k = some .string)
    (hc : ∀ (D0 : DataW Unit) (nn : Nat) (W : World), B < W.heap.size → W.cell? ⟨B, 0, none⟩ = some (.map (some b)) → W.ownsMap P k (plainElem P e) b nn D0 → Maps.size D0 ≤ maxLen → Maps.size D0 * 16 ≤ 140737488355328 →
      Calls P f #[.func (.func it) #[] #[.pointer (some ⟨B, 0, none⟩)]] W fun en w' => ∃ (v : Value) (ss : List (List UInt8)), en = .returned v ∧ ss.Perm (strKeys D0) ∧ w'.ownsRow W.heap.size k 1 v ss.length ((ss.mergeSort (fun x y => decide (x ≤ y))).map Go.Proofs.encStr) ∧ (v = .slice none 0 0 ↔ ss = []) ∧ Below W.heap.size W w')
    (hb : l.length ≤ 4294967296) :
    Ct P f [.func (.func it) #[] #[ptr B 0]] Mo.tt (Ow.star (Blk B [.map (some b)] T) (MpK P k e b l)) (X := Sv Str) (fun q => q.val) (fun q => q.l = keysS l) (fun _ => Mo.tt) (fun q => q.own k) :=
  ⟨he, fun w hp z m hA d lh lz => by
    obtain ⟨z1, z2, doff, rfl, hB, hM⟩ := hA
    have lz2 : z2.le (wh w) := (Hp.le_join_right doff).trans lz
    have hBw : w.heap[B]? = some (.cells #[.map (some b)] T (0, 0)) := lz _ _ (Hp.le_join_left z1 z2 _ _ hB)
    obtain ⟨D, hown, hD⟩ := hM.owns lz2
    obtain ⟨es, hDe, hpw, hko⟩ := hown.entries (string_keyed hk)
    have hsz : Maps.size D ≤ l.length := by
      obtain ⟨es', clock, _, _, h3, h4⟩ := hown
      rw [h4]
      show (List.foldr DataW.insert [] (es'.toList.map (rg P k (plainElem P e)))).length ≤ _
      rw [length_sorted]
      simpa using h3
    refine (hc D l.length w (Array.getElem?_eq_some_iff.1 hBw).1 (by simp [World.cell?, hBw]) hown (by unfold maxLen; omega) (by omega)).mono fun en w' ⟨v, ss, h1, h2, h3, h4, h5⟩ => ?_
    have hcol : ∀ x, x ∈ ss ↔ x ∈ l := fun x => by
      rw [h2.mem_iff, ← hD x]
      obtain ⟨es2, hD2, hko2⟩ := hown.keysOf
      subst hD2
      rw [has_eq, List.any_eq_true]
      show x ∈ es2.map (fun p => strOf p.1) ↔ _
      rw [List.mem_map]
      constructor
      · rintro ⟨p, hp', rfl⟩
        obtain ⟨v', hv'⟩ := hko2 p hp'
        obtain ⟨a, _, ha, _⟩ := Maps.keyOf_str hk hv'
        exact ⟨p, hp', by rw [ha]; simp [Lit.sameKey, strOf]⟩
      · rintro ⟨p, hp', hs⟩
        obtain ⟨v', hv'⟩ := hko2 p hp'
        obtain ⟨a, _, ha, _⟩ := Maps.keyOf_str hk hv'
        rw [ha] at hs
        exact ⟨p, hp', by rw [ha]; simpa [Lit.sameKey, strOf] using hs⟩
    have hnd : ss.Nodup := by
      refine h2.nodup_iff.2 ?_
      obtain ⟨es2, hD2, hko2⟩ := hown.keysOf
      rw [hDe] at hD2
      obtain rfl : es = es2 := by simpa using hD2
      rw [hDe]
      show (es.map fun p => strOf p.1).Nodup
      refine List.pairwise_map.2 (hpw.imp_of_mem fun {p q} hp' hq' hne e' => hne ?_)
      obtain ⟨v1, hv1⟩ := hko2 p hp'
      obtain ⟨a, _, ha, _⟩ := Maps.keyOf_str hk hv1
      obtain ⟨v2, hv2⟩ := hko2 q hq'
      obtain ⟨b', _, hb', _⟩ := Maps.keyOf_str hk hv2
      rw [ha, hb'] at e' ⊢
      exact congrArg _ e'
    have hkeys := keysS_of hnd hcol
    rw [hkeys] at h3
    have hlk : (keysS l).length = ss.length := by rw [← hkeys]; exact (List.mergeSort_perm ss _).length_eq
    have hsz1 : Dat.sz Str = 1 := rfl
    have hfl : ∀ l : List Str, l.flatMap Dat.enc = l.map Go.Proofs.encStr := fun l => by rw [List.map_eq_flatMap]; rfl
    obtain ⟨r1, ⟨rfl, r2⟩ | ⟨g, cap, cur, rfl, r2, r3, r4, r5, r6, r7⟩⟩ := h3
    · refine ⟨_, h1, ⟨none, 0, []⟩, rfl, ?_, ?_⟩
      · show [] = keysS l
        exact (List.length_eq_zero_iff.1 (hlk.trans r2)).symm
      · have hgr := Gr.of_below h5
        refine ⟨⟨hp, Hp.nil, trivial, ⟨Nat.le_refl _, by simp [maxLen], .inl ⟨rfl, rfl⟩⟩, Hp.nil_off _, lh.trans hgr.le, (fun b p q => by cases q), Hp.le.refl hp, (fun b q => .inl q), (fun b q => absurd rfl q)⟩, fun b hb _ => hgr.block b hb, hgr.os, hgr.tape, hgr.output, hgr.size⟩
    · refine ⟨_, h1, ⟨some ⟨g, 0, none⟩, cap, keysS l⟩, by show Value.slice _ ss.length _ = Value.slice _ (keysS l).length _; rw [hlk], rfl, ?_⟩
      have hgr := Gr.of_below h5
      refine ⟨⟨hp, Hp.one g (.cells cur k (0, 0)), trivial, ⟨by rw [hlk]; exact r4, r5, .inr ⟨g, cur, rfl, Hp.one_self _ _, by rw [hsz1, r6], by rw [hsz1, hlk, hfl]; exact r7⟩⟩, fun i => ?_, lh.trans hgr.le, fun i p hp' => ?_, Hp.le.refl hp, fun i hi => .inl hi, fun i hi => .inr ?_⟩, fun i hi _ => hgr.block i hi, hgr.os, hgr.tape, hgr.output, hgr.size⟩
      · by_cases hig : i = g
        · left
          cases hq : hp i with
          | none => rfl
          | some o =>
            have := (Array.getElem?_eq_some_iff.1 (lh i o hq)).1
            omega
        · right; unfold Hp.one; rw [if_neg hig]
      · unfold Hp.one at hp'
        split at hp'
        · next q => subst q; cases hp'; exact r3
        · cases hp'
      · have : i = g := by
          unfold Hp.one at hi
          split at hi
          · assumption
          · exact absurd rfl hi
        subst this; exact r2⟩
theorem run_append_ty {e' : TypeId} (ht : P.underlying t = some (.slice e)) (ht' : P.underlying t' = some (.slice e')) (a1 a2 : Option Addr) (n1 c1 n2 c2 : Nat) (w : World) : (Builtin.append_ #[t, t'] ty #[.slice a1 n1 c1, .slice a2 n2 c2]).run P w = (Builtin.append_ #[t, t] ty #[.slice a1 n1 c1, .slice a2 n2 c2]).run P w := by
  simp [Builtin.append_, run_underlying ht, run_underlying ht']
theorem VL.app2 {α : Type} [Dat α] {s r : Sv α} {xs : List Operand} {bt : Nat} {e' : TypeId} (hu : P.underlying t = some (.slice e)) (hu' : P.underlying t' = some (.slice e')) (hi : ((P.info? e).map fun i => (i.size, i.bytes, (i.zero.map fun z => z.cells.size))) = some (Dat.sz α, bt, some (Dat.sz α))) (hpos : 0 < Dat.sz α)
    (ha : ρ.evs xs = some [s.val, r.val]) (hE : Foc E (s.own e) F) [hr : InM M r.ok] (hlen : s.l.length + r.l.length ≤ 9007199254740992) (hb : (s.l.length + r.l.length) * bt ≤ 140737488355328) (hd : d < N)
    (k : ∀ s' : Sv α, s'.l = s.l ++ r.l → VL P N c ops Q rest ((d, s'.val) :: ρ) M (Ow.star (s'.own e) F)) :
    VL P N c ops Q (⟨some d, .call { callee := .builtin .append, args := xs.toArray, argTypes := #[t, t'] }, ty, pos, after, none⟩ :: rest) ρ M E := by
  cases hj : P.info? e with
  | none => rw [hj] at hi; cases hi
  | some j =>
    rw [hj] at hi
    simp only [Option.map_some, Option.some.injEq, Prod.mk.injEq] at hi
    obtain ⟨h1, h2, h3⟩ := hi
    cases hz : j.zero with
    | none => rw [hz] at h3; cases h3
    | some zv =>
      rw [hz] at h3
      have h3' : zv.cells.size = j.size := by rw [h1]; simpa using h3
      refine VL.big (X := Sv α) (φ := fun s' => s'.l = s.l ++ r.l) (val := Sv.val) (M2 := fun _ => Mo.tt) (A2 := fun s' => s'.own e) hE (fun a w h z g hoff m hA l kk => ?_) hd fun s' hs' => VL.strip (k s' hs')
      obtain ⟨s', w', q1, q2, q3⟩ := run_app (P := P) (ts := ty) hu hj hz h1 h3' hpos hoff l kk hA (r.ok.up (Hp.le_join_left h z) (hr.out h m)) hlen (by rw [h2]; exact hb)
      have q1 := (run_append_ty (ty := ty) hu hu' s.a r.a s.l.length s.c r.l.length r.c w).trans q1
      refine ⟨s'.val, w', ?_, s', q2, rfl, q3⟩
      simp only [execOp, resolve, List.map_toArray, g.evs ha, Sem.run_bind, Sem.run_pure, Result.andThen_ok, invoke, builtin]
      unfold Sv.val
      simp only [q1, Sem.run_pure, Result.andThen_ok]
      rfl
end
end Go.V
end

section
set_option linter.unusedVariables false
set_option linter.unusedSimpArgs false
set_option linter.unusedSectionVars false
namespace Go.S
def mget {α β : Type} [DecidableEq α] (l : List (α × β)) (a : α) : Option β := (l.find? fun p => decide (p.1 = a)).map (·.2)
end Go.S
namespace Go.S
end Go.S
namespace Go.V
open Go.RowKit Go.S Go.Sort Go.Maps
open Go.WideElems (Fit rg)
structure Kk (α : Type) where
  v : α → Value
  t : α → Lit
  inj : ∀ a b, t a = t b → a = b
def MpV {α β : Type} [DecidableEq α] (P : Program) (k e : TypeId) (A : Kk α) (B : Kk β) (b : Nat) (l : List (α × β)) : Ow := fun z => ∃ es clock, z b = some (.map es clock) ∧ Fit (H := Unit) P k (plainElem P e) es clock ∧ es.size ≤ l.length ∧
  ∀ x : α, has (H := Unit) (.map ((es.toList.map (rg P k (plainElem P e))).foldr DataW.insert [])) (A.t x) = (mget l x).isSome ∧ ∀ zd : DataW Unit, DataW.atKey (.map ((es.toList.map (rg P k (plainElem P e))).foldr DataW.insert [])) (A.t x) zd = ((mget l x).map fun y => .lit (B.t y)).getD zd
structure Mv (α β : Type) where
  b : Nat
  l : List (α × β)
@[reducible] def Mv.val {α β : Type} (m : Mv α β) : Value := .map (some m.b)
@[reducible] def Mv.own {α β : Type} [DecidableEq α] (m : Mv α β) (P : Program) (k e : TypeId) (A : Kk α) (B : Kk β) : Ow := MpV P k e A B m.b m.l
section
variable {P : Program} {N : Nat} {c : Cx} {ops : Array Oper} {Q Q1 : Exit → Act → World → Prop} {rest : List Oper} {o : Oper} {ρ : Env} {M M' M1 M0 : Mo} {E E1 F : Ow} {v u : Value}
  {d : Nat} {od : Option Nat} {ty : TypeId} {pos : String} {after : Array Edge} {gd : Option (Nat × Bool)} {x y m' : Operand} {t t' e k : TypeId} {f : FuncId}
  {α β : Type} [DecidableEq α] {A : Kk α} {B : Kk β} {b : Nat} {l : List (α × β)}
theorem MpV.owns {z : Hp} {w : World} (h : MpV P k e A B b l z) (lz : z.le (wh w)) : ∃ D : DataW Unit, w.ownsMap P k (plainElem P e) b l.length D ∧ ∀ x : α, has D (A.t x) = (mget l x).isSome ∧ ∀ zd : DataW Unit, D.atKey (A.t x) zd = ((mget l x).map fun y => .lit (B.t y)).getD zd := by
  obtain ⟨es, clock, h1, h2, h3, h4⟩ := h
  exact ⟨_, ⟨es, clock, lz _ _ h1, h2, h3, rfl⟩, h4⟩
theorem MpV.up {h z : Hp} (k0 : MpV P k e A B b l h) (lz : h.le z) : MpV P k e A B b l z := by
  obtain ⟨es, clock, h1, h2⟩ := k0
  exact ⟨es, clock, lz _ _ h1, h2⟩
instance (priority := 800) EntO.mpV (E : Ow) {F : Ow} (P : Program) (k e : TypeId) (A : Kk α) (B : Kk β) (b : Nat) (l : List (α × β)) [i : Fo E (MpV P k e A B b l) F] : EntO E (MpV P k e A B b l) := ⟨fun e' he => by
  obtain ⟨x, y, dxy, j, hx, hy⟩ := i.out e' he
  exact hx.up (by rw [j]; exact Hp.le_join_left x y)⟩
end
end Go.V
end

section
set_option linter.unusedVariables false
namespace Go.S.Sh
open Go
noncomputable def state_New  : Option StateStateP :=
 some ⟨[], [], [], [109, 97, 105, 110], 0, [], 0, [], [], [], 0, [], [], 0, [], [], [], [], [], [], 0⟩
noncomputable def cmp_isNaN_string (x_0 : Str) : Option Bool :=
 some (!decide (x_0 = x_0))
noncomputable def cmp_Compare_string (x_0 : Str) (y_1 : Str) : Option Int :=
 (Sh.cmp_isNaN_string x_0).bind (fun y8_1 =>
 (Sh.cmp_isNaN_string y_1).bind (fun y10_2 =>
 if y8_1 = true then (if y10_2 = true then (some 0)
 else (some (-1)))
 else (if y10_2 = true then (some 1)
 else (if (Op.bytesLess x_0 y_1) = true then (some (-1))
 else (if (!(Op.bytesLess x_0 y_1 || decide (x_0 = y_1))) = true then (some 1)
 else (some 0))))))
noncomputable def path_Compare (a_0 : Str) (b_1 : Str) : Option Int :=
 (Sh.cmp_Compare_string a_0 b_1).bind (fun y7_1 =>
 some y7_1)
noncomputable def files_Row_find_1 (f_0 : FilesFile) (p_1 : Str) : Option Int :=
 (Sh.path_Compare f_0.path p_1).bind (fun y8_2 =>
 some y8_2)
noncomputable def slices_BinarySearchFunc_files_Row_files_File_string (x_0 : List FilesFile) (target_1 : Str) : Option (Int × Bool) :=
 iter (fun ((i9_1, j10_2) : Int × Int) =>
 if i9_1 < j10_2 then (gd (I64 (i9_1 + j10_2)) (
 (at_ x_0 (IntKind.wrap .i64 (sHr .u64 (IntKind.wrap .u64 (i9_1 + j10_2)) 1))).bind (fun z27_3 =>
 (Sh.files_Row_find_1 z27_3 target_1).bind (fun y30_4 =>
 if y30_4 < 0 then (gd (I64 ((IntKind.wrap .i64 (sHr .u64 (IntKind.wrap .u64 (i9_1 + j10_2)) 1)) + 1)) (
 go (((IntKind.wrap .i64 (sHr .u64 (IntKind.wrap .u64 (i9_1 + j10_2)) 1)) + 1), j10_2)))
 else (go (i9_1, (IntKind.wrap .i64 (sHr .u64 (IntKind.wrap .u64 (i9_1 + j10_2)) 1))))))))
 else (up (if i9_1 < (x_0.length : Int) then ((at_ x_0 i9_1).bind (fun z43_5 =>
 (Sh.files_Row_find_1 z43_5 target_1).bind (fun y46_6 =>
 some (i9_1, (decide (y46_6 = 0))))))
 else (some (i9_1, false))))) (0, (x_0.length : Int))
noncomputable def files_Row_find (r_0 : List FilesFile) (p_1 : Str) : Option (Int × Bool) :=
 (Sh.slices_BinarySearchFunc_files_Row_files_File_string r_0 p_1).bind (fun y8_1 =>
 some (y8_1.1, y8_1.2))
noncomputable def files_Row_Get (r_0 : List FilesFile) (p_1 : Str) : Option (FilesFile × Bool) :=
 (Sh.files_Row_find r_0 p_1).bind (fun y11_2 =>
 if (!y11_2.2) = true then (some (⟨[], 0, []⟩, false))
 else ((at_ r_0 y11_2.1).bind (fun z19_3 =>
 some (⟨z19_3.path, z19_3.mode, z19_3.data⟩, true))))
noncomputable def unicode_utf8_RuneCountInString (s_0 : Str) : Option Int :=
 none
noncomputable def unicode_utf8_decodeRuneInStringSlow (s_0 : Str) : Option (Int × Int) :=
 if (s_0.length : Int) < 1 then (some (65533, 0))
 else ((at_ s_0 0).bind (fun z18_1 =>
 none))
noncomputable def unicode_utf8_DecodeRuneInString (s_0 : Str) : Option (Int × Int) :=
 jn (fun (x10_1 : Bool) =>
 if x10_1 = true then ((at_ s_0 0).bind (fun z12_4 =>
 some ((z12_4.toNat : Int), 1)))
 else ((Sh.unicode_utf8_decodeRuneInStringSlow s_0).bind (fun y16_5 =>
 some (y16_5.1, y16_5.2)))) (fun k2 => if s_0 = [] then (k2 false)
 else ((at_ s_0 0).bind (fun z8_3 =>
 k2 (decide ((z8_3.toNat : Int) < 128)))))
noncomputable def strings_explode (s_0 : Str) (n_1 : Int) : Option (List Str) :=
 (Sh.unicode_utf8_RuneCountInString s_0).bind (fun y11_1 =>
 jn (fun (n1_2 : Int) =>
 gd ((0 : Int) ≤ n1_2 ∧ n1_2 ≤ 4294967296) (
 lt (List.replicate n1_2.toNat []) (fun y21_7 =>
 iter (fun ((s0_8, a6_9, i7_10) : Str × List Str × Int) =>
 gd (I64 (n1_2 - 1)) (
 if i7_10 < (n1_2 - 1) then ((Sh.unicode_utf8_DecodeRuneInString s0_8).bind (fun y30_11 =>
 gd ((0 : Int) ≤ y30_11.2 ∧ y30_11.2 ≤ (s0_8.length : Int)) (
 lt (s0_8.take y30_11.2.toNat) (fun y37_12 =>
 (at_ a6_9 i7_10).bind (fun z38_13 =>
 lt (a6_9.set i7_10.toNat y37_12) (fun ys6_15 =>
 gd ((0 : Int) ≤ y30_11.2 ∧ y30_11.2 ≤ (s0_8.length : Int)) (
 lt (s0_8.drop y30_11.2.toNat) (fun y41_16 =>
 gd (I64 (i7_10 + 1)) (
 go (y41_16, ys6_15, (i7_10 + 1)))))))))))
 else (up (if 0 < n1_2 then (gd (I64 (n1_2 - 1)) (
 (at_ a6_9 (n1_2 - 1)).bind (fun z48_17 =>
 lt (a6_9.set (n1_2 - 1).toNat s0_8) (fun ys5_19 =>
 some ys5_19))))
 else (some a6_9))))) (s_0, y21_7, 0)))) (fun k3 => jn (fun (x18_4 : Bool) =>
 if x18_4 = true then (k3 y11_1)
 else (k3 n_1)) (fun k5 => if n_1 < 0 then (k5 true)
 else (k5 (decide (y11_1 < n_1))))))
noncomputable def internal_stringslite_IndexByte (s_0 : Str) (c_1 : Int) : Option Int :=
 some (ixB s_0 c_1)
noncomputable def internal_stringslite_Index (s_0 : Str) (substr_1 : Str) : Option Int :=
 jn (fun (x16_1 : Bool) =>
 if x16_1 = true then (some 0)
 else (if (substr_1.length : Int) = 1 then ((at_ substr_1 0).bind (fun z29_3 =>
 (Sh.internal_stringslite_IndexByte s_0 (z29_3.toNat : Int)).bind (fun y30_4 =>
 some y30_4)))
 else (if (s_0.length : Int) ≤ (substr_1.length : Int) then (some (-1))
 else (none)))) (fun k2 => if (substr_1.length : Int) = 0 then (k2 true)
 else (k2 (decide (substr_1 = s_0))))
noncomputable def strings_Index (s_0 : Str) (substr_1 : Str) : Option Int :=
 (Sh.internal_stringslite_Index s_0 substr_1).bind (fun y7_1 =>
 some y7_1)
noncomputable def strings_Count (s_0 : Str) (substr_1 : Str) : Option Int :=
 if (substr_1.length : Int) = 0 then ((Sh.unicode_utf8_RuneCountInString s_0).bind (fun y11_1 =>
 gd (I64 (y11_1 + 1)) (
 some (y11_1 + 1))))
 else (if (substr_1.length : Int) = 1 then ((at_ substr_1 0).bind (fun z18_2 =>
 some (cntB s_0 (z18_2.toNat : Int))))
 else (iter (fun ((s0_3, n5_4) : Str × Int) =>
 (Sh.strings_Index s0_3 substr_1).bind (fun y22_5 =>
 if y22_5 = (-1) then (up (some n5_4))
 else (gd (I64 (n5_4 + 1)) (
 gd (I64 (y22_5 + (substr_1.length : Int))) (
 gd ((0 : Int) ≤ (y22_5 + (substr_1.length : Int)) ∧ (y22_5 + (substr_1.length : Int)) ≤ (s0_3.length : Int)) (
 lt (s0_3.drop (y22_5 + (substr_1.length : Int)).toNat) (fun y33_6 =>
 go (y33_6, (n5_4 + 1))))))))) (s_0, 0)))
noncomputable def strings_genSplit (s_0 : Str) (sep_1 : Str) (sepSave_2 : Int) (n_3 : Int) : Option (List Str) :=
 if n_3 = 0 then (some [])
 else (if sep_1 = [] then ((Sh.strings_explode s_0 n_3).bind (fun y18_1 =>
 some y18_1))
 else (jn (fun (n3_2 : Int) =>
 gd (I64 ((s_0.length : Int) + 1)) (
 gd ((0 : Int) ≤ (min n3_2 ((s_0.length : Int) + 1)) ∧ (min n3_2 ((s_0.length : Int) + 1)) ≤ 4294967296) (
 lt (List.replicate (min n3_2 ((s_0.length : Int) + 1)).toNat []) (fun y31_6 =>
 gd (I64 ((min n3_2 ((s_0.length : Int) + 1)) - 1)) (
 jn (fun ((s0_7, a9_8, i10_9) : Str × List Str × Int) =>
 (at_ a9_8 i10_9).bind (fun z61_20 =>
 lt (a9_8.set i10_9.toNat s0_7) (fun ys4_22 =>
 gd (I64 (i10_9 + 1)) (
 gd ((0 : Int) ≤ (i10_9 + 1) ∧ (i10_9 + 1) ≤ (ys4_22.length : Int)) (
 lt (ys4_22.take (i10_9 + 1).toNat) (fun y65_24 =>
 some y65_24)))))) (fun k10 => iter (fun ((s0_11, a9_12, i10_13) : Str × List Str × Int) =>
 if i10_13 < ((min n3_2 ((s_0.length : Int) + 1)) - 1) then ((Sh.strings_Index s0_11 sep_1).bind (fun y39_14 =>
 if y39_14 < 0 then (up (k10 (s0_11, a9_12, i10_13)))
 else (gd (I64 (y39_14 + sepSave_2)) (
 gd ((0 : Int) ≤ (y39_14 + sepSave_2) ∧ (y39_14 + sepSave_2) ≤ (s0_11.length : Int)) (
 lt (s0_11.take (y39_14 + sepSave_2).toNat) (fun y48_15 =>
 (at_ a9_12 i10_13).bind (fun z49_16 =>
 lt (a9_12.set i10_13.toNat y48_15) (fun ys8_18 =>
 gd (I64 (y39_14 + (sep_1.length : Int))) (
 gd ((0 : Int) ≤ (y39_14 + (sep_1.length : Int)) ∧ (y39_14 + (sep_1.length : Int)) ≤ (s0_11.length : Int)) (
 lt (s0_11.drop (y39_14 + (sep_1.length : Int)).toNat) (fun y55_19 =>
 gd (I64 (i10_13 + 1)) (
 go (y55_19, ys8_18, (i10_13 + 1))))))))))))))
 else (up (k10 (s0_11, a9_12, i10_13)))) (s_0, y31_6, 0))))))) (fun k3 => if n_3 < 0 then ((Sh.strings_Count s_0 sep_1).bind (fun y23_4 =>
 gd (I64 (y23_4 + 1)) (
 k3 (y23_4 + 1))))
 else (k3 n_3))))
noncomputable def strings_Split (s_0 : Str) (sep_1 : Str) : Option (List Str) :=
 (Sh.strings_genSplit s_0 sep_1 0 (-1)).bind (fun y7_1 =>
 some y7_1)
noncomputable def path_good (c_0 : Int) : Option Bool :=
 jn (fun (_ : Unit) =>
 if 97 ≤ c_0 then (if c_0 ≤ 122 then (some true)
 else (if 48 ≤ c_0 then (some (decide (c_0 ≤ 57)))
 else (some false)))
 else (if 48 ≤ c_0 then (some (decide (c_0 ≤ 57)))
 else (some false))) (fun k1 => jn (fun (_ : Unit) =>
 none) (fun k2 => if c_0 = 46 then (k2 ())
 else (if c_0 = 45 then (k2 ())
 else (if c_0 = 95 then (k2 ())
 else (k1 ())))))
noncomputable def path_part (s_0 : Str) : Option Bool :=
 jn (fun (x14_1 : Bool) =>
 if x14_1 = true then (none)
 else (gd (s_0.length ≤ 4294967296) (
 lt s_0 (fun y16_4 =>
 iter (fun (x18_5 : Int) =>
 if x18_5 < (y16_4.length : Int) then ((at_ y16_4 x18_5).bind (fun z20_6 =>
 (Sh.path_good (z20_6.toNat : Int)).bind (fun y23_7 =>
 if (!y23_7) = true then (none)
 else (gd (I64 (x18_5 + 1)) (
 go (x18_5 + 1))))))
 else (up (some true))) 0)))) (fun k2 => if s_0 = [] then (k2 true)
 else (if s_0 = [46] then (k2 true)
 else (k2 (decide (s_0 = [46, 46])))))
noncomputable def path_Check (p_0 : Str) : Option Int :=
 if 64 < (p_0.length : Int) then (none)
 else ((Sh.strings_Split p_0 [47]).bind (fun y9_1 =>
 iter (fun (x11_2 : Int) =>
 if x11_2 < (y9_1.length : Int) then ((at_ y9_1 x11_2).bind (fun z13_3 =>
 (Sh.path_part z13_3).bind (fun y16_4 =>
 if (!y16_4) = true then (none)
 else (gd (I64 (x11_2 + 1)) (
 go (x11_2 + 1))))))
 else (up (some 0))) 0))
noncomputable def internal_stringslite_HasPrefix (s_0 : Str) (prefix_1 : Str) : Option Bool :=
 if (prefix_1.length : Int) ≤ (s_0.length : Int) then (gd ((0 : Int) ≤ (prefix_1.length : Int) ∧ (prefix_1.length : Int) ≤ (s_0.length : Int)) (
 lt (s_0.take (prefix_1.length : Int).toNat) (fun y14_1 =>
 some (decide (y14_1 = prefix_1)))))
 else (some false)
noncomputable def strings_HasPrefix (s_0 : Str) (prefix_1 : Str) : Option Bool :=
 (Sh.internal_stringslite_HasPrefix s_0 prefix_1).bind (fun y7_1 =>
 some y7_1)
noncomputable def path_Under (p_0 : Str) (dir_1 : Str) : Option Bool :=
 if dir_1 = [] then (none)
 else (gd (I64 ((dir_1.length : Int) + 1)) (
 if ((dir_1.length : Int) + 1) < (p_0.length : Int) then (gd (dir_1.length + [47].length ≤ 9223372036854775807) (
 lt (dir_1 ++ [47]) (fun y18_1 =>
 (Sh.strings_HasPrefix p_0 y18_1).bind (fun y19_2 =>
 some y19_2))))
 else (some false)))
noncomputable def path_Clash (a_0 : Str) (b_1 : Str) : Option Bool :=
 if a_0 = [] then (some false)
 else (if b_1 = [] then (some false)
 else ((Sh.path_Under a_0 b_1).bind (fun y14_1 =>
 if y14_1 = true then (some true)
 else ((Sh.path_Under b_1 a_0).bind (fun y18_2 =>
 some y18_2)))))
noncomputable def files_Row_wrong_1 (g_0 : FilesFile) (a_1 : FilesFile) : Option Bool :=
 (Sh.path_Clash g_0.path a_1.path).bind (fun y8_2 =>
 some y8_2)
noncomputable def slices_IndexFunc_files_Row_files_File (s_0 : List FilesFile) (f_1_0 : FilesFile) : Option Int :=
 iter (fun (x8_1 : Int) =>
 if x8_1 < (s_0.length : Int) then ((at_ s_0 x8_1).bind (fun z14_2 =>
 (Sh.files_Row_wrong_1 z14_2 f_1_0).bind (fun y16_3 =>
 if y16_3 = true then (up (some x8_1))
 else (gd (I64 (x8_1 + 1)) (
 go (x8_1 + 1))))))
 else (up (some (-1)))) 0
noncomputable def slices_ContainsFunc_files_Row_files_File (s_0 : List FilesFile) (f_1_0 : FilesFile) : Option Bool :=
 (Sh.slices_IndexFunc_files_Row_files_File s_0 f_1_0).bind (fun y7_1 =>
 some (decide (0 ≤ y7_1)))
noncomputable def files_Row_wrong (r_0 : List FilesFile) (i_1 : Int) : Option Int :=
 (at_ r_0 i_1).bind (fun z9_1 =>
 (Sh.path_Check z9_1.path).bind (fun y13_3 =>
 if y13_3 = 0 then (jn (fun (x17_4 : Bool) =>
 if x17_4 = true then (none)
 else (if 4096 < (z9_1.data.length : Int) then (none)
 else (jn (fun (x31_6 : Bool) =>
 if x31_6 = true then (none)
 else (gd ((0 : Int) ≤ i_1 ∧ i_1 ≤ (r_0.length : Int)) (
 lt (r_0.take i_1.toNat) (fun y49_11 =>
 (Sh.slices_ContainsFunc_files_Row_files_File y49_11 z9_1).bind (fun y51_12 =>
 if y51_12 = true then (none)
 else (some 0)))))) (fun k7 => if 0 < i_1 then (gd (I64 (i_1 - 1)) (
 (at_ r_0 (i_1 - 1)).bind (fun z38_8 =>
 (Sh.path_Compare z38_8.path z9_1.path).bind (fun y43_9 =>
 k7 (decide (0 ≤ y43_9))))))
 else (k7 false))))) (fun k5 => if z9_1.mode = 1 then (k5 false)
 else (k5 (!decide (z9_1.mode = 2)))))
 else (none)))
noncomputable def files_Row_Check (r_0 : List FilesFile) : Option Err :=
 if 64 < (r_0.length : Int) then (none)
 else (iter (fun (x14_1 : Int) =>
 if x14_1 < (r_0.length : Int) then ((Sh.files_Row_wrong r_0 x14_1).bind (fun y19_2 =>
 if y19_2 = 0 then (gd (I64 (x14_1 + 1)) (
 go (x14_1 + 1)))
 else (none)))
 else (up (some Err.nil))) 0)
noncomputable def repo_last (err_0 : Err) : Option Err :=
 (match err_0 with
 | .nil => (some Err.nil)
 | _ => none)
noncomputable def slices_Clone_files_Row_files_File (s_0 : List FilesFile) : Option (List FilesFile) :=
 lt ([] : List FilesFile) (fun y5_2 =>
 gd (y5_2.length + s_0.length ≤ 4294967296) (
 lt (y5_2 ++ s_0) (fun y7_4 =>
 some y7_4)))
noncomputable def files_Row_Clear_1 (f_0 : FilesFile) (a_1 : Str) : Option Bool :=
 (Sh.path_Clash f_0.path a_1).bind (fun y7_2 =>
 some y7_2)
noncomputable def slices_IndexFunc_files_Row_files_File_v2 (s_0 : List FilesFile) (f_1_0 : Str) : Option Int :=
 iter (fun (x8_1 : Int) =>
 if x8_1 < (s_0.length : Int) then ((at_ s_0 x8_1).bind (fun z14_2 =>
 (Sh.files_Row_Clear_1 z14_2 f_1_0).bind (fun y16_3 =>
 if y16_3 = true then (up (some x8_1))
 else (gd (I64 (x8_1 + 1)) (
 go (x8_1 + 1))))))
 else (up (some (-1)))) 0
noncomputable def slices_DeleteFunc_files_Row_files_File (s_0 : List FilesFile) (del_1_0 : Str) : Option (List FilesFile) :=
 (Sh.slices_IndexFunc_files_Row_files_File_v2 s_0 del_1_0).bind (fun y10_1 =>
 if y10_1 = (-1) then (some s_0)
 else (gd (I64 (y10_1 + 1)) (
 iter (fun ((s0_2, i5_3, j6_4) : List FilesFile × Int × Int) =>
 if j6_4 < (s0_2.length : Int) then (jn (fun ((s0_5, i5_6) : List FilesFile × Int) =>
 gd (I64 (j6_4 + 1)) (
 go (s0_5, i5_6, (j6_4 + 1)))) (fun k7 => (at_ s0_2 j6_4).bind (fun z24_8 =>
 (Sh.files_Row_Clear_1 z24_8 del_1_0).bind (fun y28_10 =>
 if (!y28_10) = true then ((at_ s0_2 i5_3).bind (fun z33_11 =>
 lt (s0_2.set i5_3.toNat ⟨z24_8.path, z24_8.mode, z24_8.data⟩) (fun ys4_13 =>
 gd (I64 (i5_3 + 1)) (
 k7 (ys4_13, (i5_3 + 1))))))
 else (k7 (s0_2, i5_3))))))
 else (up (gd ((0 : Int) ≤ i5_3 ∧ i5_3 ≤ (s0_2.length : Int)) (
 lt (s0_2.take i5_3.toNat) (fun ys3_16 =>
 some ys3_16))))) (s_0, y10_1, (y10_1 + 1)))))
noncomputable def slices_Clip_files_Row_files_File (s_0 : List FilesFile) : Option (List FilesFile) :=
 gd ((0 : Int) ≤ (s_0.length : Int) ∧ (s_0.length : Int) ≤ (s_0.length : Int)) (
 lt (s_0.take (s_0.length : Int).toNat) (fun y8_2 =>
 some y8_2))
noncomputable def files_Row_Clear (r_0 : List FilesFile) (p_1 : Str) : Option (List FilesFile) :=
 (Sh.slices_Clone_files_Row_files_File r_0).bind (fun y6_2 =>
 (Sh.slices_DeleteFunc_files_Row_files_File y6_2 p_1).bind (fun y8_3 =>
 (Sh.slices_Clip_files_Row_files_File y8_3).bind (fun y9_4 =>
 some y9_4)))
noncomputable def codec_Enc_Int (e_0 : StateWriterP) (l_1 : List Int) : Option StateWriterP :=
 iter (fun ((x9_1, c0_2) : Int × List UInt8) =>
 if x9_1 < (l_1.length : Int) then ((at_ l_1 x9_1).bind (fun z11_3 =>
 iter (fun (_ : Unit) =>
 if 128 ≤ (bXor .u64 (sHl .u64 (IntKind.wrap .u64 z11_3) 1) (IntKind.wrap .u64 (sHr .i64 z11_3 63))) then (none)
 else (up (gd ((0 : Int) ≤ (IntKind.wrap .u8 (bXor .u64 (sHl .u64 (IntKind.wrap .u64 z11_3) 1) (IntKind.wrap .u64 (sHr .i64 z11_3 63)))) ∧ (IntKind.wrap .u8 (bXor .u64 (sHl .u64 (IntKind.wrap .u64 z11_3) 1) (IntKind.wrap .u64 (sHr .i64 z11_3 63)))) ≤ 255) (
 lt (UInt8.ofNat (IntKind.wrap .u8 (bXor .u64 (sHl .u64 (IntKind.wrap .u64 z11_3) 1) (IntKind.wrap .u64 (sHr .i64 z11_3 63)))).toNat) (fun u44_5 =>
 lt [u44_5] (fun y44_6 =>
 gd (c0_2.length + y44_6.length ≤ 4294967296) (
 lt (c0_2 ++ y44_6) (fun y45_8 =>
 gd (I64 (x9_1 + 1)) (
 go ((x9_1 + 1), y45_8)))))))))) ()))
 else (up (some ⟨c0_2⟩))) (0, e_0.enc_b)
noncomputable def codec_Enc_Text (e_0 : StateWriterP) (l_1 : List Str) : Option StateWriterP :=
 iter (fun ((x8_1, c0_2) : Int × List UInt8) =>
 if x8_1 < (l_1.length : Int) then ((at_ l_1 x8_1).bind (fun z10_3 =>
 lt [(z10_3.length : Int)] (fun y15_5 =>
 (Sh.codec_Enc_Int (⟨c0_2⟩ : StateWriterP) y15_5).bind (fun y16_6 =>
 gd (y16_6.enc_b.length + z10_3.length ≤ 4294967296) (
 lt (y16_6.enc_b ++ z10_3) (fun y23_8 =>
 gd (I64 (x8_1 + 1)) (
 go ((x8_1 + 1), y23_8))))))))
 else (up (some ⟨c0_2⟩))) (0, e_0.enc_b)
noncomputable def state_writer_row (w_0 : StateWriterP) (r_1 : List FilesFile) : Option StateWriterP :=
 lt [(r_1.length : Int)] (fun y11_2 =>
 (Sh.codec_Enc_Int w_0 y11_2).bind (fun y12_3 =>
 iter (fun ((x15_4, c0_5) : Int × List UInt8) =>
 if x15_4 < (r_1.length : Int) then ((at_ r_1 x15_4).bind (fun z17_6 =>
 lt [z17_6.path] (fun y24_9 =>
 (Sh.codec_Enc_Text (⟨c0_5⟩ : StateWriterP) y24_9).bind (fun y25_10 =>
 lt [z17_6.mode] (fun y31_12 =>
 (Sh.codec_Enc_Int y25_10 y31_12).bind (fun y32_13 =>
 lt [z17_6.data] (fun y38_15 =>
 (Sh.codec_Enc_Text y32_13 y38_15).bind (fun y39_16 =>
 gd (I64 (x15_4 + 1)) (
 go ((x15_4 + 1), y39_16.enc_b))))))))))
 else (up (some ⟨c0_5⟩))) (0, y12_3.enc_b)))
noncomputable def state_writer_entries (w_0 : StateWriterP) (l_1 : List IndexEntry) : Option StateWriterP :=
 lt [(l_1.length : Int)] (fun y11_2 =>
 (Sh.codec_Enc_Int w_0 y11_2).bind (fun y12_3 =>
 iter (fun ((x15_4, c0_5) : Int × List UInt8) =>
 if x15_4 < (l_1.length : Int) then ((at_ l_1 x15_4).bind (fun z17_6 =>
 lt [z17_6.path] (fun y24_9 =>
 (Sh.codec_Enc_Text (⟨c0_5⟩ : StateWriterP) y24_9).bind (fun y25_10 =>
 lt [z17_6.stage, z17_6.mode] (fun y33_12 =>
 (Sh.codec_Enc_Int y25_10 y33_12).bind (fun y34_13 =>
 lt [z17_6.data] (fun y40_15 =>
 (Sh.codec_Enc_Text y34_13 y40_15).bind (fun y41_16 =>
 lt [z17_6.time, z17_6.size] (fun y49_18 =>
 (Sh.codec_Enc_Int y41_16 y49_18).bind (fun y50_19 =>
 gd (I64 (x15_4 + 1)) (
 go ((x15_4 + 1), y50_19.enc_b))))))))))))
 else (up (some ⟨c0_5⟩))) (0, y12_3.enc_b)))
noncomputable def state_writer_head (w_0 : StateWriterP) (h_1 : NamesHead) : Option StateWriterP :=
 lt [h_1.branch] (fun y9_3 =>
 (Sh.codec_Enc_Text w_0 y9_3).bind (fun y10_4 =>
 lt [h_1.commit] (fun y16_6 =>
 (Sh.codec_Enc_Int y10_4 y16_6).bind (fun y17_7 =>
 some ⟨y17_7.enc_b⟩))))
noncomputable def state_writer_steps (w_0 : StateWriterP) (l_1 : List TodoStep) : Option StateWriterP :=
 lt [(l_1.length : Int)] (fun y11_2 =>
 (Sh.codec_Enc_Int w_0 y11_2).bind (fun y12_3 =>
 iter (fun (_ : Unit) =>
 if 0 < (l_1.length : Int) then ((at_ l_1 0).bind (fun z17_4 =>
 none))
 else (up (some ⟨y12_3.enc_b⟩))) ()))
noncomputable def state_writer_seq (w_0 : StateWriterP) (s_1 : StateSeqP) : Option StateWriterP :=
 lt [s_1.kind] (fun y9_3 =>
 (Sh.codec_Enc_Text w_0 y9_3).bind (fun y10_4 =>
 lt [s_1.other] (fun y16_6 =>
 (Sh.codec_Enc_Int y10_4 y16_6).bind (fun y17_7 =>
 lt [s_1.text] (fun y23_9 =>
 (Sh.codec_Enc_Text y17_7 y23_9).bind (fun y24_10 =>
 (Sh.state_writer_steps y24_10 s_1.doing).bind (fun y28_11 =>
 (Sh.state_writer_steps y28_11 s_1.todo).bind (fun y32_12 =>
 lt [s_1.made] (fun y38_14 =>
 (Sh.codec_Enc_Int y32_12 y38_14).bind (fun y39_15 =>
 lt [s_1.branch] (fun y45_17 =>
 (Sh.codec_Enc_Text y39_15 y45_17).bind (fun y46_18 =>
 (Sh.state_writer_head y46_18 (⟨s_1.head_branch, s_1.head_commit⟩ : NamesHead)).bind (fun y50_19 =>
 (Sh.state_writer_entries y50_19 s_1.index).bind (fun y54_20 =>
 (Sh.state_writer_row y54_20 s_1.work).bind (fun y58_21 =>
 some ⟨y58_21.enc_b⟩)))))))))))))))
noncomputable def state_writer_now (w_0 : StateWriterP) (n_1 : StateNowP) : Option StateWriterP :=
 (Sh.state_writer_row w_0 n_1.work).bind (fun y11_2 =>
 (Sh.state_writer_entries y11_2 n_1.index).bind (fun y15_3 =>
 lt [(n_1.refs.length : Int)] (fun y22_5 =>
 (Sh.codec_Enc_Int y15_3 y22_5).bind (fun y23_6 =>
 iter (fun ((x27_7, c0_8) : Int × List UInt8) =>
 if x27_7 < (n_1.refs.length : Int) then ((at_ n_1.refs x27_7).bind (fun z29_9 =>
 lt [z29_9.name] (fun y36_12 =>
 (Sh.codec_Enc_Text (⟨c0_8⟩ : StateWriterP) y36_12).bind (fun y37_13 =>
 lt [z29_9.commit] (fun y43_15 =>
 (Sh.codec_Enc_Int y37_13 y43_15).bind (fun y44_16 =>
 gd (I64 (x27_7 + 1)) (
 go ((x27_7 + 1), y44_16.enc_b))))))))
 else (up ((Sh.state_writer_head (⟨c0_8⟩ : StateWriterP) (⟨n_1.head_branch, n_1.head_commit⟩ : NamesHead)).bind (fun y49_17 =>
 (Sh.state_writer_seq y49_17 (⟨n_1.seq_kind, n_1.seq_other, n_1.seq_text, n_1.seq_doing, n_1.seq_todo, n_1.seq_made, n_1.seq_branch, n_1.seq_head_branch, n_1.seq_head_commit, n_1.seq_index, n_1.seq_work⟩ : StateSeqP)).bind (fun y53_18 =>
 lt [(n_1.stash.length : Int)] (fun y60_20 =>
 (Sh.codec_Enc_Int y53_18 y60_20).bind (fun y61_21 =>
 iter (fun (_ : Unit) =>
 if 0 < (n_1.stash.length : Int) then ((at_ n_1.stash 0).bind (fun z67_22 =>
 none))
 else (up (some ⟨y61_21.enc_b⟩))) ()))))))) (0, y23_6.enc_b)))))
noncomputable def state_writer_texts (w_0 : StateWriterP) (l_1 : List Str) : Option StateWriterP :=
 lt [(l_1.length : Int)] (fun y9_2 =>
 (Sh.codec_Enc_Int w_0 y9_2).bind (fun y10_3 =>
 (Sh.codec_Enc_Text y10_3 l_1).bind (fun y15_4 =>
 some ⟨y15_4.enc_b⟩)))
noncomputable def state_writer_state (w_0 : StateWriterP) (s_1 : StateStateP) : Option StateWriterP :=
 (Sh.state_writer_now w_0 (⟨s_1.now_work, s_1.now_index, s_1.now_refs, s_1.now_head_branch, s_1.now_head_commit, s_1.now_seq_kind, s_1.now_seq_other, s_1.now_seq_text, s_1.now_seq_doing, s_1.now_seq_todo, s_1.now_seq_made, s_1.now_seq_branch, s_1.now_seq_head_branch, s_1.now_seq_head_commit, s_1.now_seq_index, s_1.now_seq_work, s_1.now_stash⟩ : StateNowP)).bind (fun y9_2 =>
 lt [(s_1.commits.length : Int)] (fun y16_4 =>
 (Sh.codec_Enc_Int y9_2 y16_4).bind (fun y17_5 =>
 iter (fun ((x21_6, c0_7) : Int × List UInt8) =>
 if x21_6 < (s_1.commits.length : Int) then ((at_ s_1.commits x21_6).bind (fun z23_8 =>
 (Sh.state_writer_row (⟨c0_7⟩ : StateWriterP) z23_8.tree).bind (fun y28_10 =>
 lt [(z23_8.parents.length : Int)] (fun y35_12 =>
 (Sh.codec_Enc_Int y28_10 y35_12).bind (fun y36_13 =>
 (Sh.codec_Enc_Int y36_13 z23_8.parents).bind (fun y42_14 =>
 lt [z23_8.time] (fun y48_16 =>
 (Sh.codec_Enc_Int y42_14 y48_16).bind (fun y49_17 =>
 lt [z23_8.text] (fun y55_19 =>
 (Sh.codec_Enc_Text y49_17 y55_19).bind (fun y56_20 =>
 gd (I64 (x21_6 + 1)) (
 go ((x21_6 + 1), y56_20.enc_b))))))))))))
 else (up ((Sh.state_writer_texts (⟨c0_7⟩ : StateWriterP) s_1.log_back).bind (fun y62_21 =>
 (Sh.state_writer_texts y62_21 s_1.log_forth).bind (fun y67_22 =>
 lt [s_1.time] (fun y73_24 =>
 (Sh.codec_Enc_Int y67_22 y73_24).bind (fun y74_25 =>
 some ⟨y74_25.enc_b⟩))))))) (0, y17_5.enc_b))))
noncomputable def slices_Clone_byte_byte (s_0 : List UInt8) : Option (List UInt8) :=
 lt ([] : List UInt8) (fun y5_2 =>
 gd (y5_2.length + s_0.length ≤ 4294967296) (
 lt (y5_2 ++ s_0) (fun y7_4 =>
 some y7_4)))
noncomputable def slices_Clip_byte_byte (s_0 : List UInt8) : Option (List UInt8) :=
 gd ((0 : Int) ≤ (s_0.length : Int) ∧ (s_0.length : Int) ≤ (s_0.length : Int)) (
 lt (s_0.take (s_0.length : Int).toNat) (fun y8_2 =>
 some y8_2))
noncomputable def codec_Enc_Bytes (e_0 : StateWriterP) : Option (List UInt8) :=
 (Sh.slices_Clone_byte_byte e_0.enc_b).bind (fun y7_1 =>
 (Sh.slices_Clip_byte_byte y7_1).bind (fun y8_2 =>
 some y8_2))
noncomputable def state_Encode (s_0 : StateStateP) : Option (List UInt8) :=
 (Sh.state_writer_state (⟨([] : List UInt8)⟩ : StateWriterP) s_0).bind (fun y5_3 =>
 (Sh.codec_Enc_Bytes y5_3).bind (fun y7_4 =>
 some y7_4))
noncomputable def codec_Of (b_0 : List UInt8) : Option CodecDecP :=
 (Sh.slices_Clone_byte_byte b_0).bind (fun y4_1 =>
 some ⟨y4_1, 0, Err.nil⟩)
noncomputable def codec_Dec_uint (d_0 : CodecDecP) : Option (Int × Int × CodecDecP) :=
 iter (fun ((v4_1, x7_2) : Int × Int) =>
 if x7_2 < 10 then (gd (I64 (d_0.at_ + x7_2)) (
 if (d_0.b.length : Int) ≤ (d_0.at_ + x7_2) then (none)
 else (gd (I64 (d_0.at_ + x7_2)) (
 (at_ d_0.b (d_0.at_ + x7_2)).bind (fun z32_3 =>
 jn (fun (_ : Unit) =>
 gd (I64 (7 * x7_2)) (
 gd ((0 : Int) ≤ (7 * x7_2)) (
 if (z32_3.toNat : Int) < 128 then (gd (I64 (x7_2 + 1)) (
 gd (I64 (d_0.at_ + (x7_2 + 1))) (
 up (some ((bOr .u64 v4_1 (sHl .u64 (IntKind.wrap .u64 (bAnd .u8 (z32_3.toNat : Int) 127)) (7 * x7_2))), 0, ⟨d_0.b, (d_0.at_ + (x7_2 + 1)), d_0.err⟩)))))
 else (gd (I64 (x7_2 + 1)) (
 go ((bOr .u64 v4_1 (sHl .u64 (IntKind.wrap .u64 (bAnd .u8 (z32_3.toNat : Int) 127)) (7 * x7_2))), (x7_2 + 1))))))) (fun k4 => if x7_2 = 9 then (if 1 < (z32_3.toNat : Int) then (up (none))
 else (if 0 < x7_2 then (if (z32_3.toNat : Int) = 0 then (up (none))
 else (k4 ()))
 else (k4 ())))
 else (if 0 < x7_2 then (if (z32_3.toNat : Int) = 0 then (up (none))
 else (k4 ()))
 else (k4 ()))))))))
 else (up (none))) (0, 0)
noncomputable def codec_Dec_Int (d_0 : CodecDecP) : Option (Int × CodecDecP) :=
 if d_0.err.isNil = true then ((Sh.codec_Dec_uint d_0).bind (fun y17_1 =>
 if y17_1.2.1 = 0 then (some ((bXor .i64 (IntKind.wrap .i64 (sHr .u64 y17_1.1 1)) (IntKind.wrap .i64 (0 - (IntKind.wrap .i64 (bAnd .u64 y17_1.1 1))))), ⟨y17_1.2.2.b, y17_1.2.2.at_, y17_1.2.2.err⟩))
 else (none)))
 else (none)
noncomputable def codec_Dec_Err (d_0 : CodecDecP) : Option Err :=
 some d_0.err
noncomputable def codec_Dec_Text (d_0 : CodecDecP) : Option (Str × CodecDecP) :=
 (Sh.codec_Dec_Int d_0).bind (fun y11_1 =>
 if y11_1.2.err.isNil = true then (if y11_1.1 < 0 then (none)
 else (gd (I64 ((y11_1.2.b.length : Int) - y11_1.2.at_)) (
 if ((y11_1.2.b.length : Int) - y11_1.2.at_) < y11_1.1 then (none)
 else (gd (I64 (y11_1.2.at_ + y11_1.1)) (
 gd ((0 : Int) ≤ y11_1.2.at_ ∧ y11_1.2.at_ ≤ (y11_1.2.at_ + y11_1.1) ∧ (y11_1.2.at_ + y11_1.1) ≤ (y11_1.2.b.length : Int)) (
 lt ((y11_1.2.b.drop y11_1.2.at_.toNat).take ((y11_1.2.at_ + y11_1.1).toNat - y11_1.2.at_.toNat)) (fun y54_3 =>
 gd (I64 (y11_1.2.at_ + y11_1.1)) (
 some (y54_3, ⟨y11_1.2.b, (y11_1.2.at_ + y11_1.1), y11_1.2.err⟩)))))))))
 else (none))
noncomputable def state_reader_row_1 (a_0 : List FilesFile) (a_1_ : StateReader) (a_1__dec : CodecDecP) : Option (List FilesFile × CodecDecP) :=
 (Sh.codec_Dec_Text a_1__dec).bind (fun y7_1 =>
 (Sh.codec_Dec_Int y7_1.2).bind (fun y12_2 =>
 (Sh.codec_Dec_Text y12_2.2).bind (fun y17_3 =>
 lt [⟨y7_1.1, y12_2.1, y17_3.1⟩] (fun y19_5 =>
 gd (a_0.length + y19_5.length ≤ 4294967296) (
 lt (a_0 ++ y19_5) (fun y20_7 =>
 some (y20_7, ⟨y17_3.2.b, y17_3.2.at_, y17_3.2.err⟩)))))))
noncomputable def state_reader_many (r_0 : StateReader) (r_0_dec : CodecDecP) (one_1_0 : List FilesFile) : Option (CodecDecP × StateReader × List FilesFile) :=
 (Sh.codec_Dec_Int r_0_dec).bind (fun y10_1 =>
 jn (fun (c1_2 : Bool) =>
 iter (fun ((i5_4, c0_5, c1_6, c2_7, c0_8) : Int × List UInt8 × Int × Err × List FilesFile) =>
 if i5_4 < y10_1.1 then ((Sh.codec_Dec_Err (⟨c0_5, c1_6, c2_7⟩ : CodecDecP)).bind (fun y30_9 =>
 if y30_9.isNil = true then ((Sh.state_reader_row_1 c0_8 (⟨c1_2⟩ : StateReader) (⟨c0_5, c1_6, c2_7⟩ : CodecDecP)).bind (fun y36_10 =>
 gd (I64 (i5_4 + 1)) (
 go ((i5_4 + 1), y36_10.2.b, y36_10.2.at_, y36_10.2.err, y36_10.1))))
 else (up (some (⟨c0_5, c1_6, c2_7⟩, ⟨c1_2⟩, c0_8)))))
 else (up (some (⟨c0_5, c1_6, c2_7⟩, ⟨c1_2⟩, c0_8)))) (0, y10_1.2.b, y10_1.2.at_, y10_1.2.err, one_1_0)) (fun k3 => if r_0.bad = true then (k3 true)
 else (k3 (decide (y10_1.1 < 0)))))
noncomputable def state_reader_row (r_0 : StateReader) (r_0_dec : CodecDecP) : Option (List FilesFile × CodecDecP × StateReader) :=
 (Sh.state_reader_many r_0 r_0_dec ([] : List FilesFile)).bind (fun y6_3 =>
 (Sh.slices_Clip_files_Row_files_File y6_3.2.2).bind (fun y8_4 =>
 some (y8_4, ⟨y6_3.1.b, y6_3.1.at_, y6_3.1.err⟩, ⟨y6_3.2.1.bad⟩)))
noncomputable def state_reader_entries_1 (a_0 : List IndexEntry) (a_1_ : StateReader) (a_1__dec : CodecDecP) : Option (List IndexEntry × CodecDecP) :=
 (Sh.codec_Dec_Text a_1__dec).bind (fun y7_1 =>
 (Sh.codec_Dec_Int y7_1.2).bind (fun y12_2 =>
 (Sh.codec_Dec_Int y12_2.2).bind (fun y17_3 =>
 (Sh.codec_Dec_Text y17_3.2).bind (fun y22_4 =>
 (Sh.codec_Dec_Int y22_4.2).bind (fun y27_5 =>
 (Sh.codec_Dec_Int y27_5.2).bind (fun y32_6 =>
 lt [⟨y7_1.1, y12_2.1, y17_3.1, y22_4.1, y27_5.1, y32_6.1⟩] (fun y34_8 =>
 gd (a_0.length + y34_8.length ≤ 4294967296) (
 lt (a_0 ++ y34_8) (fun y35_10 =>
 some (y35_10, ⟨y32_6.2.b, y32_6.2.at_, y32_6.2.err⟩))))))))))
noncomputable def state_reader_many_v2 (r_0 : StateReader) (r_0_dec : CodecDecP) (one_1_0 : List IndexEntry) : Option (CodecDecP × StateReader × List IndexEntry) :=
 (Sh.codec_Dec_Int r_0_dec).bind (fun y10_1 =>
 jn (fun (c1_2 : Bool) =>
 iter (fun ((i5_4, c0_5, c1_6, c2_7, c0_8) : Int × List UInt8 × Int × Err × List IndexEntry) =>
 if i5_4 < y10_1.1 then ((Sh.codec_Dec_Err (⟨c0_5, c1_6, c2_7⟩ : CodecDecP)).bind (fun y30_9 =>
 if y30_9.isNil = true then ((Sh.state_reader_entries_1 c0_8 (⟨c1_2⟩ : StateReader) (⟨c0_5, c1_6, c2_7⟩ : CodecDecP)).bind (fun y36_10 =>
 gd (I64 (i5_4 + 1)) (
 go ((i5_4 + 1), y36_10.2.b, y36_10.2.at_, y36_10.2.err, y36_10.1))))
 else (up (some (⟨c0_5, c1_6, c2_7⟩, ⟨c1_2⟩, c0_8)))))
 else (up (some (⟨c0_5, c1_6, c2_7⟩, ⟨c1_2⟩, c0_8)))) (0, y10_1.2.b, y10_1.2.at_, y10_1.2.err, one_1_0)) (fun k3 => if r_0.bad = true then (k3 true)
 else (k3 (decide (y10_1.1 < 0)))))
noncomputable def slices_Clip_index_Entry_index_Entry (s_0 : List IndexEntry) : Option (List IndexEntry) :=
 gd ((0 : Int) ≤ (s_0.length : Int) ∧ (s_0.length : Int) ≤ (s_0.length : Int)) (
 lt (s_0.take (s_0.length : Int).toNat) (fun y8_2 =>
 some y8_2))
noncomputable def state_reader_entries (r_0 : StateReader) (r_0_dec : CodecDecP) : Option (List IndexEntry × CodecDecP × StateReader) :=
 (Sh.state_reader_many_v2 r_0 r_0_dec ([] : List IndexEntry)).bind (fun y6_3 =>
 (Sh.slices_Clip_index_Entry_index_Entry y6_3.2.2).bind (fun y8_4 =>
 some (y8_4, ⟨y6_3.1.b, y6_3.1.at_, y6_3.1.err⟩, ⟨y6_3.2.1.bad⟩)))
noncomputable def state_reader_now_1 (a_0 : StateNowP) (a_1_ : StateReader) (a_1__dec : CodecDecP) : Option (StateNowP × CodecDecP) :=
 (Sh.codec_Dec_Text a_1__dec).bind (fun y8_1 =>
 (Sh.codec_Dec_Int y8_1.2).bind (fun y13_2 =>
 lt [⟨y8_1.1, y13_2.1⟩] (fun y15_4 =>
 gd (a_0.refs.length + y15_4.length ≤ 4294967296) (
 lt (a_0.refs ++ y15_4) (fun y16_6 =>
 some (⟨a_0.work, a_0.index, y16_6, a_0.head_branch, a_0.head_commit, a_0.seq_kind, a_0.seq_other, a_0.seq_text, a_0.seq_doing, a_0.seq_todo, a_0.seq_made, a_0.seq_branch, a_0.seq_head_branch, a_0.seq_head_commit, a_0.seq_index, a_0.seq_work, a_0.stash⟩, ⟨y13_2.2.b, y13_2.2.at_, y13_2.2.err⟩))))))
noncomputable def state_reader_many_v3 (r_0 : StateReader) (r_0_dec : CodecDecP) (one_1_0 : StateNowP) : Option (CodecDecP × StateReader × StateNowP) :=
 (Sh.codec_Dec_Int r_0_dec).bind (fun y10_1 =>
 jn (fun (c1_2 : Bool) =>
 iter (fun ((i5_4, c0_5, c1_6, c2_7, c0_8, c1_9, c2_10, c3_11, c4_12, c5_13, c6_14, c7_15, c8_16, c9_17, c10_18, c11_19, c12_20, c13_21, c14_22, c15_23, c16_24) : Int × List UInt8 × Int × Err × List FilesFile × List IndexEntry × List NamesRef × Str × Int × Str × Int × Str × List TodoStep × List TodoStep × Int × Str × Str × Int × List IndexEntry × List FilesFile × List ShelfShelfP) =>
 if i5_4 < y10_1.1 then ((Sh.codec_Dec_Err (⟨c0_5, c1_6, c2_7⟩ : CodecDecP)).bind (fun y30_25 =>
 if y30_25.isNil = true then ((Sh.state_reader_now_1 (⟨c0_8, c1_9, c2_10, c3_11, c4_12, c5_13, c6_14, c7_15, c8_16, c9_17, c10_18, c11_19, c12_20, c13_21, c14_22, c15_23, c16_24⟩ : StateNowP) (⟨c1_2⟩ : StateReader) (⟨c0_5, c1_6, c2_7⟩ : CodecDecP)).bind (fun y36_26 =>
 gd (I64 (i5_4 + 1)) (
 go ((i5_4 + 1), y36_26.2.b, y36_26.2.at_, y36_26.2.err, y36_26.1.work, y36_26.1.index, y36_26.1.refs, y36_26.1.head_branch, y36_26.1.head_commit, y36_26.1.seq_kind, y36_26.1.seq_other, y36_26.1.seq_text, y36_26.1.seq_doing, y36_26.1.seq_todo, y36_26.1.seq_made, y36_26.1.seq_branch, y36_26.1.seq_head_branch, y36_26.1.seq_head_commit, y36_26.1.seq_index, y36_26.1.seq_work, y36_26.1.stash))))
 else (up (some (⟨c0_5, c1_6, c2_7⟩, ⟨c1_2⟩, ⟨c0_8, c1_9, c2_10, c3_11, c4_12, c5_13, c6_14, c7_15, c8_16, c9_17, c10_18, c11_19, c12_20, c13_21, c14_22, c15_23, c16_24⟩)))))
 else (up (some (⟨c0_5, c1_6, c2_7⟩, ⟨c1_2⟩, ⟨c0_8, c1_9, c2_10, c3_11, c4_12, c5_13, c6_14, c7_15, c8_16, c9_17, c10_18, c11_19, c12_20, c13_21, c14_22, c15_23, c16_24⟩)))) (0, y10_1.2.b, y10_1.2.at_, y10_1.2.err, one_1_0.work, one_1_0.index, one_1_0.refs, one_1_0.head_branch, one_1_0.head_commit, one_1_0.seq_kind, one_1_0.seq_other, one_1_0.seq_text, one_1_0.seq_doing, one_1_0.seq_todo, one_1_0.seq_made, one_1_0.seq_branch, one_1_0.seq_head_branch, one_1_0.seq_head_commit, one_1_0.seq_index, one_1_0.seq_work, one_1_0.stash)) (fun k3 => if r_0.bad = true then (k3 true)
 else (k3 (decide (y10_1.1 < 0)))))
noncomputable def state_reader_head (r_0 : StateReader) (r_0_dec : CodecDecP) : Option (NamesHead × CodecDecP) :=
 (Sh.codec_Dec_Text r_0_dec).bind (fun y7_2 =>
 (Sh.codec_Dec_Int y7_2.2).bind (fun y12_3 =>
 some (⟨y7_2.1, y12_3.1⟩, ⟨y12_3.2.b, y12_3.2.at_, y12_3.2.err⟩)))
noncomputable def state_reader_steps_1 (a_0 : List TodoStep) (a_1_ : StateReader) (a_1__dec : CodecDecP) : Option (List TodoStep × CodecDecP) :=
 (Sh.codec_Dec_Text a_1__dec).bind (fun y7_1 =>
 (Sh.codec_Dec_Int y7_1.2).bind (fun y12_2 =>
 (Sh.codec_Dec_Text y12_2.2).bind (fun y17_3 =>
 lt [⟨y7_1.1, y12_2.1, y17_3.1⟩] (fun y19_5 =>
 gd (a_0.length + y19_5.length ≤ 4294967296) (
 lt (a_0 ++ y19_5) (fun y20_7 =>
 some (y20_7, ⟨y17_3.2.b, y17_3.2.at_, y17_3.2.err⟩)))))))
noncomputable def state_reader_many_v4 (r_0 : StateReader) (r_0_dec : CodecDecP) (one_1_0 : List TodoStep) : Option (CodecDecP × StateReader × List TodoStep) :=
 (Sh.codec_Dec_Int r_0_dec).bind (fun y10_1 =>
 jn (fun (c1_2 : Bool) =>
 iter (fun ((i5_4, c0_5, c1_6, c2_7, c0_8) : Int × List UInt8 × Int × Err × List TodoStep) =>
 if i5_4 < y10_1.1 then ((Sh.codec_Dec_Err (⟨c0_5, c1_6, c2_7⟩ : CodecDecP)).bind (fun y30_9 =>
 if y30_9.isNil = true then ((Sh.state_reader_steps_1 c0_8 (⟨c1_2⟩ : StateReader) (⟨c0_5, c1_6, c2_7⟩ : CodecDecP)).bind (fun y36_10 =>
 gd (I64 (i5_4 + 1)) (
 go ((i5_4 + 1), y36_10.2.b, y36_10.2.at_, y36_10.2.err, y36_10.1))))
 else (up (some (⟨c0_5, c1_6, c2_7⟩, ⟨c1_2⟩, c0_8)))))
 else (up (some (⟨c0_5, c1_6, c2_7⟩, ⟨c1_2⟩, c0_8)))) (0, y10_1.2.b, y10_1.2.at_, y10_1.2.err, one_1_0)) (fun k3 => if r_0.bad = true then (k3 true)
 else (k3 (decide (y10_1.1 < 0)))))
noncomputable def slices_Clip_todo_Step_todo_Step (s_0 : List TodoStep) : Option (List TodoStep) :=
 gd ((0 : Int) ≤ (s_0.length : Int) ∧ (s_0.length : Int) ≤ (s_0.length : Int)) (
 lt (s_0.take (s_0.length : Int).toNat) (fun y8_2 =>
 some y8_2))
noncomputable def state_reader_steps (r_0 : StateReader) (r_0_dec : CodecDecP) : Option (List TodoStep × CodecDecP × StateReader) :=
 (Sh.state_reader_many_v4 r_0 r_0_dec ([] : List TodoStep)).bind (fun y6_3 =>
 (Sh.slices_Clip_todo_Step_todo_Step y6_3.2.2).bind (fun y8_4 =>
 some (y8_4, ⟨y6_3.1.b, y6_3.1.at_, y6_3.1.err⟩, ⟨y6_3.2.1.bad⟩)))
noncomputable def state_reader_seq (r_0 : StateReader) (r_0_dec : CodecDecP) : Option (StateSeqP × CodecDecP × StateReader) :=
 (Sh.codec_Dec_Text r_0_dec).bind (fun y7_2 =>
 (Sh.codec_Dec_Int y7_2.2).bind (fun y12_3 =>
 (Sh.codec_Dec_Text y12_3.2).bind (fun y17_4 =>
 (Sh.state_reader_steps r_0 y17_4.2).bind (fun y19_5 =>
 (Sh.state_reader_steps y19_5.2.2 y19_5.2.1).bind (fun y21_6 =>
 (Sh.codec_Dec_Int y21_6.2.1).bind (fun y26_7 =>
 (Sh.codec_Dec_Text y26_7.2).bind (fun y31_8 =>
 (Sh.state_reader_head y21_6.2.2 y31_8.2).bind (fun y33_9 =>
 (Sh.state_reader_entries y21_6.2.2 y33_9.2).bind (fun y35_10 =>
 (Sh.state_reader_row y35_10.2.2 y35_10.2.1).bind (fun y37_11 =>
 some (⟨y7_2.1, y12_3.1, y17_4.1, y19_5.1, y21_6.1, y26_7.1, y31_8.1, y33_9.1.branch, y33_9.1.commit, y35_10.1, y37_11.1⟩, ⟨y37_11.2.1.b, y37_11.2.1.at_, y37_11.2.1.err⟩, ⟨y37_11.2.2.bad⟩)))))))))))
noncomputable def state_reader_now_2 (a_0 : StateNowP) (a_1_ : StateReader) (a_1__dec : CodecDecP) : Option Unit :=
 none
noncomputable def state_reader_many_v5 (r_0 : StateReader) (r_0_dec : CodecDecP) (one_1_0 : StateNowP) : Option (CodecDecP × StateReader) :=
 (Sh.codec_Dec_Int r_0_dec).bind (fun y10_1 =>
 jn (fun (c1_2 : Bool) =>
 iter (fun (i5_4 : Int) =>
 if i5_4 < y10_1.1 then ((Sh.codec_Dec_Err y10_1.2).bind (fun y30_5 =>
 if y30_5.isNil = true then ((Sh.state_reader_now_2 one_1_0 (⟨c1_2⟩ : StateReader) y10_1.2).bind (fun y36_6 =>
 gd (I64 (i5_4 + 1)) (
 go (i5_4 + 1))))
 else (up (some (⟨y10_1.2.b, y10_1.2.at_, y10_1.2.err⟩, ⟨c1_2⟩)))))
 else (up (some (⟨y10_1.2.b, y10_1.2.at_, y10_1.2.err⟩, ⟨c1_2⟩)))) 0) (fun k3 => if r_0.bad = true then (k3 true)
 else (k3 (decide (y10_1.1 < 0)))))
noncomputable def slices_Clip_names_Ref_names_Ref (s_0 : List NamesRef) : Option (List NamesRef) :=
 gd ((0 : Int) ≤ (s_0.length : Int) ∧ (s_0.length : Int) ≤ (s_0.length : Int)) (
 lt (s_0.take (s_0.length : Int).toNat) (fun y8_2 =>
 some y8_2))
noncomputable def slices_Clip_shelf_Stack_shelf_Shelf (s_0 : List ShelfShelfP) : Option (List ShelfShelfP) :=
 gd ((0 : Int) ≤ (s_0.length : Int) ∧ (s_0.length : Int) ≤ (s_0.length : Int)) (
 lt (s_0.take (s_0.length : Int).toNat) (fun y8_2 =>
 some y8_2))
noncomputable def state_reader_now (r_0 : StateReader) (r_0_dec : CodecDecP) : Option (StateNowP × CodecDecP × StateReader) :=
 (Sh.state_reader_row r_0 r_0_dec).bind (fun y5_3 =>
 (Sh.state_reader_entries y5_3.2.2 y5_3.2.1).bind (fun y7_4 =>
 (Sh.state_reader_many_v3 y7_4.2.2 y7_4.2.1 (⟨y5_3.1, y7_4.1, ([] : List NamesRef), [], 0, [], 0, [], ([] : List TodoStep), ([] : List TodoStep), 0, [], [], 0, ([] : List IndexEntry), ([] : List FilesFile), ([] : List ShelfShelfP)⟩ : StateNowP)).bind (fun y11_5 =>
 (Sh.state_reader_head y11_5.2.1 y11_5.1).bind (fun y13_6 =>
 (Sh.state_reader_seq y11_5.2.1 y13_6.2).bind (fun y15_7 =>
 (Sh.state_reader_many_v5 y15_7.2.2 y15_7.2.1 (⟨y11_5.2.2.work, y11_5.2.2.index, y11_5.2.2.refs, y13_6.1.branch, y13_6.1.commit, y15_7.1.kind, y15_7.1.other, y15_7.1.text, y15_7.1.doing, y15_7.1.todo, y15_7.1.made, y15_7.1.branch, y15_7.1.head_branch, y15_7.1.head_commit, y15_7.1.index, y15_7.1.work, y11_5.2.2.stash⟩ : StateNowP)).bind (fun y20_8 =>
 (Sh.slices_Clip_names_Ref_names_Ref y11_5.2.2.refs).bind (fun y23_9 =>
 (Sh.slices_Clip_shelf_Stack_shelf_Shelf y11_5.2.2.stash).bind (fun y26_10 =>
 some (⟨y11_5.2.2.work, y11_5.2.2.index, y23_9, y13_6.1.branch, y13_6.1.commit, y15_7.1.kind, y15_7.1.other, y15_7.1.text, y15_7.1.doing, y15_7.1.todo, y15_7.1.made, y15_7.1.branch, y15_7.1.head_branch, y15_7.1.head_commit, y15_7.1.index, y15_7.1.work, y26_10⟩, ⟨y20_8.1.b, y20_8.1.at_, y20_8.1.err⟩, ⟨y20_8.2.bad⟩)))))))))
noncomputable def state_reader_numbers_1 (a_0 : List Int) (a_1_ : StateReader) (a_1__dec : CodecDecP) : Option (List Int × CodecDecP) :=
 (Sh.codec_Dec_Int a_1__dec).bind (fun y7_1 =>
 lt [y7_1.1] (fun y8_3 =>
 gd (a_0.length + y8_3.length ≤ 4294967296) (
 lt (a_0 ++ y8_3) (fun y9_5 =>
 some (y9_5, ⟨y7_1.2.b, y7_1.2.at_, y7_1.2.err⟩)))))
noncomputable def state_reader_many_v7 (r_0 : StateReader) (r_0_dec : CodecDecP) (one_1_0 : List Int) : Option (CodecDecP × StateReader × List Int) :=
 (Sh.codec_Dec_Int r_0_dec).bind (fun y10_1 =>
 jn (fun (c1_2 : Bool) =>
 iter (fun ((i5_4, c0_5, c1_6, c2_7, c0_8) : Int × List UInt8 × Int × Err × List Int) =>
 if i5_4 < y10_1.1 then ((Sh.codec_Dec_Err (⟨c0_5, c1_6, c2_7⟩ : CodecDecP)).bind (fun y30_9 =>
 if y30_9.isNil = true then ((Sh.state_reader_numbers_1 c0_8 (⟨c1_2⟩ : StateReader) (⟨c0_5, c1_6, c2_7⟩ : CodecDecP)).bind (fun y36_10 =>
 gd (I64 (i5_4 + 1)) (
 go ((i5_4 + 1), y36_10.2.b, y36_10.2.at_, y36_10.2.err, y36_10.1))))
 else (up (some (⟨c0_5, c1_6, c2_7⟩, ⟨c1_2⟩, c0_8)))))
 else (up (some (⟨c0_5, c1_6, c2_7⟩, ⟨c1_2⟩, c0_8)))) (0, y10_1.2.b, y10_1.2.at_, y10_1.2.err, one_1_0)) (fun k3 => if r_0.bad = true then (k3 true)
 else (k3 (decide (y10_1.1 < 0)))))
noncomputable def slices_Clip_int_int (s_0 : List Int) : Option (List Int) :=
 gd ((0 : Int) ≤ (s_0.length : Int) ∧ (s_0.length : Int) ≤ (s_0.length : Int)) (
 lt (s_0.take (s_0.length : Int).toNat) (fun y8_2 =>
 some y8_2))
noncomputable def state_reader_numbers (r_0 : StateReader) (r_0_dec : CodecDecP) : Option (List Int × CodecDecP × StateReader) :=
 (Sh.state_reader_many_v7 r_0 r_0_dec ([] : List Int)).bind (fun y6_3 =>
 (Sh.slices_Clip_int_int y6_3.2.2).bind (fun y8_4 =>
 some (y8_4, ⟨y6_3.1.b, y6_3.1.at_, y6_3.1.err⟩, ⟨y6_3.2.1.bad⟩)))
noncomputable def state_reader_state_1 (a_0 : StateStateP) (a_1_ : StateReader) (a_1__dec : CodecDecP) : Option (StateStateP × CodecDecP × StateReader) :=
 (Sh.state_reader_row a_1_ a_1__dec).bind (fun y5_1 =>
 (Sh.state_reader_numbers y5_1.2.2 y5_1.2.1).bind (fun y7_2 =>
 (Sh.codec_Dec_Int y7_2.2.1).bind (fun y12_3 =>
 (Sh.codec_Dec_Text y12_3.2).bind (fun y17_4 =>
 lt [⟨y5_1.1, y7_2.1, y12_3.1, y17_4.1⟩] (fun y19_6 =>
 gd (a_0.commits.length + y19_6.length ≤ 4294967296) (
 lt (a_0.commits ++ y19_6) (fun y20_8 =>
 some (⟨a_0.now_work, a_0.now_index, a_0.now_refs, a_0.now_head_branch, a_0.now_head_commit, a_0.now_seq_kind, a_0.now_seq_other, a_0.now_seq_text, a_0.now_seq_doing, a_0.now_seq_todo, a_0.now_seq_made, a_0.now_seq_branch, a_0.now_seq_head_branch, a_0.now_seq_head_commit, a_0.now_seq_index, a_0.now_seq_work, a_0.now_stash, y20_8, a_0.log_back, a_0.log_forth, a_0.time⟩, ⟨y17_4.2.b, y17_4.2.at_, y17_4.2.err⟩, ⟨y7_2.2.2.bad⟩))))))))
noncomputable def state_reader_many_v6 (r_0 : StateReader) (r_0_dec : CodecDecP) (one_1_0 : StateStateP) : Option (CodecDecP × StateReader × StateStateP) :=
 (Sh.codec_Dec_Int r_0_dec).bind (fun y10_1 =>
 jn (fun (c1_2 : Bool) =>
 iter (fun ((i5_4, c0_5, c1_6, c2_7, c1_8, c0_9, c1_10, c2_11, c3_12, c4_13, c5_14, c6_15, c7_16, c8_17, c9_18, c10_19, c11_20, c12_21, c13_22, c14_23, c15_24, c16_25, c17_26, c18_27, c19_28, c20_29) : Int × List UInt8 × Int × Err × Bool × List FilesFile × List IndexEntry × List NamesRef × Str × Int × Str × Int × Str × List TodoStep × List TodoStep × Int × Str × Str × Int × List IndexEntry × List FilesFile × List ShelfShelfP × List StateCommitP × List Str × List Str × Int) =>
 if i5_4 < y10_1.1 then ((Sh.codec_Dec_Err (⟨c0_5, c1_6, c2_7⟩ : CodecDecP)).bind (fun y30_30 =>
 if y30_30.isNil = true then ((Sh.state_reader_state_1 (⟨c0_9, c1_10, c2_11, c3_12, c4_13, c5_14, c6_15, c7_16, c8_17, c9_18, c10_19, c11_20, c12_21, c13_22, c14_23, c15_24, c16_25, c17_26, c18_27, c19_28, c20_29⟩ : StateStateP) (⟨c1_8⟩ : StateReader) (⟨c0_5, c1_6, c2_7⟩ : CodecDecP)).bind (fun y36_31 =>
 gd (I64 (i5_4 + 1)) (
 go ((i5_4 + 1), y36_31.2.1.b, y36_31.2.1.at_, y36_31.2.1.err, y36_31.2.2.bad, y36_31.1.now_work, y36_31.1.now_index, y36_31.1.now_refs, y36_31.1.now_head_branch, y36_31.1.now_head_commit, y36_31.1.now_seq_kind, y36_31.1.now_seq_other, y36_31.1.now_seq_text, y36_31.1.now_seq_doing, y36_31.1.now_seq_todo, y36_31.1.now_seq_made, y36_31.1.now_seq_branch, y36_31.1.now_seq_head_branch, y36_31.1.now_seq_head_commit, y36_31.1.now_seq_index, y36_31.1.now_seq_work, y36_31.1.now_stash, y36_31.1.commits, y36_31.1.log_back, y36_31.1.log_forth, y36_31.1.time))))
 else (up (some (⟨c0_5, c1_6, c2_7⟩, ⟨c1_8⟩, ⟨c0_9, c1_10, c2_11, c3_12, c4_13, c5_14, c6_15, c7_16, c8_17, c9_18, c10_19, c11_20, c12_21, c13_22, c14_23, c15_24, c16_25, c17_26, c18_27, c19_28, c20_29⟩)))))
 else (up (some (⟨c0_5, c1_6, c2_7⟩, ⟨c1_8⟩, ⟨c0_9, c1_10, c2_11, c3_12, c4_13, c5_14, c6_15, c7_16, c8_17, c9_18, c10_19, c11_20, c12_21, c13_22, c14_23, c15_24, c16_25, c17_26, c18_27, c19_28, c20_29⟩)))) (0, y10_1.2.b, y10_1.2.at_, y10_1.2.err, c1_2, one_1_0.now_work, one_1_0.now_index, one_1_0.now_refs, one_1_0.now_head_branch, one_1_0.now_head_commit, one_1_0.now_seq_kind, one_1_0.now_seq_other, one_1_0.now_seq_text, one_1_0.now_seq_doing, one_1_0.now_seq_todo, one_1_0.now_seq_made, one_1_0.now_seq_branch, one_1_0.now_seq_head_branch, one_1_0.now_seq_head_commit, one_1_0.now_seq_index, one_1_0.now_seq_work, one_1_0.now_stash, one_1_0.commits, one_1_0.log_back, one_1_0.log_forth, one_1_0.time)) (fun k3 => if r_0.bad = true then (k3 true)
 else (k3 (decide (y10_1.1 < 0)))))
noncomputable def slices_Clip_state_Commit_state_Commit (s_0 : List StateCommitP) : Option (List StateCommitP) :=
 gd ((0 : Int) ≤ (s_0.length : Int) ∧ (s_0.length : Int) ≤ (s_0.length : Int)) (
 lt (s_0.take (s_0.length : Int).toNat) (fun y8_2 =>
 some y8_2))
noncomputable def state_reader_texts_1 (a_0 : List Str) (a_1_ : StateReader) (a_1__dec : CodecDecP) : Option (List Str × CodecDecP) :=
 (Sh.codec_Dec_Text a_1__dec).bind (fun y7_1 =>
 lt [y7_1.1] (fun y8_3 =>
 gd (a_0.length + y8_3.length ≤ 4294967296) (
 lt (a_0 ++ y8_3) (fun y9_5 =>
 some (y9_5, ⟨y7_1.2.b, y7_1.2.at_, y7_1.2.err⟩)))))
noncomputable def state_reader_many_v8 (r_0 : StateReader) (r_0_dec : CodecDecP) (one_1_0 : List Str) : Option (CodecDecP × StateReader × List Str) :=
 (Sh.codec_Dec_Int r_0_dec).bind (fun y10_1 =>
 jn (fun (c1_2 : Bool) =>
 iter (fun ((i5_4, c0_5, c1_6, c2_7, c0_8) : Int × List UInt8 × Int × Err × List Str) =>
 if i5_4 < y10_1.1 then ((Sh.codec_Dec_Err (⟨c0_5, c1_6, c2_7⟩ : CodecDecP)).bind (fun y30_9 =>
 if y30_9.isNil = true then ((Sh.state_reader_texts_1 c0_8 (⟨c1_2⟩ : StateReader) (⟨c0_5, c1_6, c2_7⟩ : CodecDecP)).bind (fun y36_10 =>
 gd (I64 (i5_4 + 1)) (
 go ((i5_4 + 1), y36_10.2.b, y36_10.2.at_, y36_10.2.err, y36_10.1))))
 else (up (some (⟨c0_5, c1_6, c2_7⟩, ⟨c1_2⟩, c0_8)))))
 else (up (some (⟨c0_5, c1_6, c2_7⟩, ⟨c1_2⟩, c0_8)))) (0, y10_1.2.b, y10_1.2.at_, y10_1.2.err, one_1_0)) (fun k3 => if r_0.bad = true then (k3 true)
 else (k3 (decide (y10_1.1 < 0)))))
noncomputable def slices_Clip_string_string (s_0 : List Str) : Option (List Str) :=
 gd ((0 : Int) ≤ (s_0.length : Int) ∧ (s_0.length : Int) ≤ (s_0.length : Int)) (
 lt (s_0.take (s_0.length : Int).toNat) (fun y8_2 =>
 some y8_2))
noncomputable def state_reader_texts (r_0 : StateReader) (r_0_dec : CodecDecP) : Option (List Str × CodecDecP × StateReader) :=
 (Sh.state_reader_many_v8 r_0 r_0_dec ([] : List Str)).bind (fun y6_3 =>
 (Sh.slices_Clip_string_string y6_3.2.2).bind (fun y8_4 =>
 some (y8_4, ⟨y6_3.1.b, y6_3.1.at_, y6_3.1.err⟩, ⟨y6_3.2.1.bad⟩)))
noncomputable def state_reader_state (r_0 : StateReader) (r_0_dec : CodecDecP) : Option (StateStateP × CodecDecP × StateReader) :=
 (Sh.state_reader_now r_0 r_0_dec).bind (fun y5_3 =>
 (Sh.state_reader_many_v6 y5_3.2.2 y5_3.2.1 (⟨y5_3.1.work, y5_3.1.index, y5_3.1.refs, y5_3.1.head_branch, y5_3.1.head_commit, y5_3.1.seq_kind, y5_3.1.seq_other, y5_3.1.seq_text, y5_3.1.seq_doing, y5_3.1.seq_todo, y5_3.1.seq_made, y5_3.1.seq_branch, y5_3.1.seq_head_branch, y5_3.1.seq_head_commit, y5_3.1.seq_index, y5_3.1.seq_work, y5_3.1.stash, ([] : List StateCommitP), ([] : List Str), ([] : List Str), 0⟩ : StateStateP)).bind (fun y9_5 =>
 (Sh.slices_Clip_state_Commit_state_Commit y9_5.2.2.commits).bind (fun y12_6 =>
 (Sh.state_reader_texts y9_5.2.1 y9_5.1).bind (fun y15_7 =>
 (Sh.state_reader_texts y15_7.2.2 y15_7.2.1).bind (fun y17_8 =>
 (Sh.codec_Dec_Int y17_8.2.1).bind (fun y24_9 =>
 some (⟨y9_5.2.2.now_work, y9_5.2.2.now_index, y9_5.2.2.now_refs, y9_5.2.2.now_head_branch, y9_5.2.2.now_head_commit, y9_5.2.2.now_seq_kind, y9_5.2.2.now_seq_other, y9_5.2.2.now_seq_text, y9_5.2.2.now_seq_doing, y9_5.2.2.now_seq_todo, y9_5.2.2.now_seq_made, y9_5.2.2.now_seq_branch, y9_5.2.2.now_seq_head_branch, y9_5.2.2.now_seq_head_commit, y9_5.2.2.now_seq_index, y9_5.2.2.now_seq_work, y9_5.2.2.now_stash, y12_6, y15_7.1, y17_8.1, y24_9.1⟩, ⟨y24_9.2.b, y24_9.2.at_, y24_9.2.err⟩, ⟨y17_8.2.2.bad⟩)))))))
noncomputable def codec_Dec_Left (d_0 : CodecDecP) : Option Int :=
 if d_0.err.isNil = true then (gd (I64 ((d_0.b.length : Int) - d_0.at_)) (
 some ((d_0.b.length : Int) - d_0.at_)))
 else (none)
noncomputable def state_reader_end (r_0 : StateReader) (r_0_dec : CodecDecP) : Option Err :=
 (Sh.codec_Dec_Err r_0_dec).bind (fun y8_1 =>
 if y8_1.isNil = true then (jn (fun (x15_2 : Bool) =>
 if x15_2 = true then (none)
 else (some Err.nil)) (fun k3 => if r_0.bad = true then (k3 true)
 else ((Sh.codec_Dec_Left r_0_dec).bind (fun y25_4 =>
 k3 (decide (0 < y25_4))))))
 else (none))
noncomputable def state_Decode (b_0 : List UInt8) : Option (StateStateP × Err) :=
 (Sh.codec_Of b_0).bind (fun y8_2 =>
 (Sh.state_reader_state (⟨false⟩ : StateReader) y8_2).bind (fun y12_4 =>
 (Sh.state_reader_end y12_4.2.2 y12_4.2.1).bind (fun y14_6 =>
 if y14_6.isNil = true then (some (y12_4.1, Err.nil))
 else (none))))
noncomputable def repo_apart (s_0 : StateStateP) : Option StateStateP :=
 (Sh.state_Encode s_0).bind (fun y7_3 =>
 (Sh.state_Decode y7_3).bind (fun y8_4 =>
 if y8_4.2.isNil = true then (some y8_4.1)
 else (none)))
noncomputable def files_Row_Put (r_0 : List FilesFile) (f_1 : FilesFile) : Option (List FilesFile) :=
 (Sh.slices_Clone_files_Row_files_File r_0).bind (fun y9_2 =>
 (Sh.files_Row_find r_0 f_1.path).bind (fun y14_3 =>
 if y14_3.2 = true then ((at_ y9_2 y14_3.1).bind (fun z21_4 =>
 lt (y9_2.set y14_3.1.toNat ⟨f_1.path, f_1.mode, f_1.data⟩) (fun ys4_6 =>
 (Sh.slices_Clip_files_Row_files_File ys4_6).bind (fun y23_7 =>
 some y23_7))))
 else (lt [⟨f_1.path, f_1.mode, f_1.data⟩] (fun y27_9 =>
 gd (((0 : Int) ≤ y14_3.1 ∧ y14_3.1 ≤ (y9_2.length : Int)) ∧ y27_9 ≠ [] ∧ y9_2.length + y27_9.length ≤ 4294967296) (
 lt (y9_2.take y14_3.1.toNat ++ y27_9 ++ y9_2.drop y14_3.1.toNat) (fun y28_11 =>
 (Sh.slices_Clip_files_Row_files_File y28_11).bind (fun y29_12 =>
 some y29_12)))))))
noncomputable def repo_Write (s_0 : StateStateP) (p_1 : Str) (mode_2 : Int) (data_3 : Str) : Option (StateStateP × Err) :=
 (Sh.files_Row_Get s_0.now_work p_1).bind (fun y24_4 =>
 lt [⟨p_1, mode_2, data_3⟩] (fun y28_7 =>
 (Sh.files_Row_Check y28_7).bind (fun y29_8 =>
 (Sh.repo_last y29_8).bind (fun y30_9 =>
 jn (fun (_ : Unit) =>
 if y30_9.isNil = true then ((Sh.repo_apart s_0).bind (fun y67_14 =>
 (Sh.files_Row_Put y67_14.now_work (⟨p_1, mode_2, data_3⟩ : FilesFile)).bind (fun y72_16 =>
 some (⟨y72_16, y67_14.now_index, y67_14.now_refs, y67_14.now_head_branch, y67_14.now_head_commit, y67_14.now_seq_kind, y67_14.now_seq_other, y67_14.now_seq_text, y67_14.now_seq_doing, y67_14.now_seq_todo, y67_14.now_seq_made, y67_14.now_seq_branch, y67_14.now_seq_head_branch, y67_14.now_seq_head_commit, y67_14.now_seq_index, y67_14.now_seq_work, y67_14.now_stash, y67_14.commits, y67_14.log_back, y67_14.log_forth, y67_14.time⟩, Err.nil))))
 else (none)) (fun k10 => if y30_9.isNil = true then ((Sh.files_Row_Clear s_0.now_work p_1).bind (fun y39_11 =>
 if (y39_11.length : Int) < (s_0.now_work.length : Int) then (none)
 else (jn (fun (x47_12 : Bool) =>
 if x47_12 = true then (none)
 else (k10 ())) (fun k13 => if (!y24_4.2) = true then (k13 (decide (64 ≤ (s_0.now_work.length : Int))))
 else (k13 false)))))
 else (k10 ()))))))
noncomputable def rectotop_write (s_0 : StateStateP) (p_1 : Str) (data_2 : Str) : Option StateStateP :=
 (Sh.repo_Write s_0 p_1 1 data_2).bind (fun y13_3 =>
 some y13_3.1)
noncomputable def internal_stringslite_Cut (s_0 : Str) (sep_1 : Str) : Option (Str × Str × Bool) :=
 (Sh.internal_stringslite_Index s_0 sep_1).bind (fun y10_1 =>
 if 0 ≤ y10_1 then (gd ((0 : Int) ≤ y10_1 ∧ y10_1 ≤ (s_0.length : Int)) (
 lt (s_0.take y10_1.toNat) (fun y15_2 =>
 gd (I64 (y10_1 + (sep_1.length : Int))) (
 gd ((0 : Int) ≤ (y10_1 + (sep_1.length : Int)) ∧ (y10_1 + (sep_1.length : Int)) ≤ (s_0.length : Int)) (
 lt (s_0.drop (y10_1 + (sep_1.length : Int)).toNat) (fun y21_3 =>
 some (y15_2, y21_3, true)))))))
 else (some (s_0, [], false)))
noncomputable def strings_Cut (s_0 : Str) (sep_1 : Str) : Option (Str × Str × Bool) :=
 (Sh.internal_stringslite_Cut s_0 sep_1).bind (fun y9_1 =>
 some (y9_1.1, y9_1.2.1, y9_1.2.2))
noncomputable def cmd_first (w_0 : List Str) : Option Str :=
 if (w_0.length : Int) = 0 then (none)
 else ((at_ w_0 0).bind (fun z7_1 =>
 some z7_1))
noncomputable def cmd_digit (s_0 : Str) : Option Bool :=
 if s_0 = [] then (some false)
 else ((at_ s_0 0).bind (fun z7_1 =>
 if 48 ≤ (z7_1.toNat : Int) then ((at_ s_0 0).bind (fun z12_2 =>
 some (decide ((z12_2.toNat : Int) ≤ 57))))
 else (some false)))
noncomputable def cmd_words (c_0 : CmdCmdP) (w_1 : List Str) : Option (Bool × CmdCmdP) :=
 jn (fun ((w1_1, c4_2) : List Str × Bool) =>
 jn (fun ((want5_11, ok6_12, c1_13) : Int × Bool × Str) =>
 if ok6_12 = true then (some ((decide ((w1_1.length : Int) = want5_11)), ⟨c_0.verb, c1_13, c_0.n, c_0.text, c4_2, c_0.todo⟩))
 else (some (false, ⟨c_0.verb, c1_13, c_0.n, c_0.text, c4_2, c_0.todo⟩))) (fun k14 => jn (fun (_ : Unit) =>
 none) (fun k15 => jn (fun (_ : Unit) =>
 none) (fun k16 => jn (fun (_ : Unit) =>
 (Sh.cmd_first w1_1).bind (fun y70_21 =>
 (Sh.cmd_digit y70_21).bind (fun y71_22 =>
 if y71_22 = true then (none)
 else ((Sh.cmd_first w1_1).bind (fun y83_23 =>
 k14 (1, (!decide (y83_23 = [])), y83_23)))))) (fun k17 => jn (fun (_ : Unit) =>
 (Sh.cmd_first w1_1).bind (fun y61_20 =>
 k14 (1, (!decide (y61_20 = [])), y61_20))) (fun k18 => if c_0.verb = [97, 100, 100] then (if (w1_1.length : Int) = 0 then (k14 (0, true, c_0.name))
 else (k18 ()))
 else (jn (fun (_ : Unit) =>
 if c_0.verb = [115, 119, 105, 116, 99, 104] then (k17 ())
 else (if c_0.verb = [114, 101, 115, 101, 116] then (k16 ())
 else (if c_0.verb = [112, 105, 99, 107] then (if c_0.verb = [112, 105, 99, 107] then (k15 ())
 else (k14 (0, true, c_0.name)))
 else (if c_0.verb = [114, 101, 118, 101, 114, 116] then (if c_0.verb = [114, 101, 118, 101, 114, 116] then (k15 ())
 else (k14 (0, true, c_0.name)))
 else (if c_0.verb = [112, 111, 112] then (if c_0.verb = [112, 111, 112] then (k15 ())
 else (k14 (0, true, c_0.name)))
 else (if c_0.verb = [97, 112, 112, 108, 121] then (if c_0.verb = [97, 112, 112, 108, 121] then (k15 ())
 else (k14 (0, true, c_0.name)))
 else (if c_0.verb = [115, 104, 101, 108, 118, 101] then (if c_0.verb = [115, 104, 101, 108, 118, 101] then (k15 ())
 else (k14 (0, true, c_0.name)))
 else (if c_0.verb = [114, 101, 98, 97, 115, 101] then (k15 ())
 else (k14 (0, true, c_0.name)))))))))) (fun k19 => if c_0.verb = [114, 109] then (if c_0.verb = [114, 109] then (k18 ())
 else (k19 ()))
 else (if c_0.verb = [98, 114, 97, 110, 99, 104] then (if c_0.verb = [98, 114, 97, 110, 99, 104] then (k18 ())
 else (k19 ()))
 else (if c_0.verb = [100, 101, 108, 101, 116, 101] then (if c_0.verb = [100, 101, 108, 101, 116, 101] then (k18 ())
 else (k19 ()))
 else (if c_0.verb = [109, 101, 114, 103, 101] then (k18 ())
 else (k19 ())))))))))))) (fun k3 => jn (fun (x11_4 : Bool) =>
 if x11_4 = true then (jn (fun (x25_6 : Bool) =>
 if x25_6 = true then (gd (I64 ((w_1.length : Int) - 1)) (
 gd ((0 : Int) ≤ ((w_1.length : Int) - 1) ∧ ((w_1.length : Int) - 1) ≤ (w_1.length : Int)) (
 lt (w_1.take ((w_1.length : Int) - 1).toNat) (fun y31_10 =>
 k3 (y31_10, true)))))
 else (k3 (w_1, c_0.force))) (fun k7 => if 1 < (w_1.length : Int) then (gd (I64 ((w_1.length : Int) - 1)) (
 (at_ w_1 ((w_1.length : Int) - 1)).bind (fun z22_8 =>
 k7 (decide (z22_8 = [45, 102])))))
 else (k7 false)))
 else (k3 (w_1, c_0.force))) (fun k5 => if c_0.verb = [114, 109] then (k5 (decide (c_0.verb = [114, 109])))
 else (k5 (decide (c_0.verb = [115, 119, 105, 116, 99, 104])))))
noncomputable def cmd_read (line_0 : Str) : Option (CmdCmdP × Bool) :=
 (Sh.strings_Cut line_0 [32]).bind (fun y12_2 =>
 jn (fun (x23_4 : Bool) =>
 if x23_4 = true then (if (!y12_2.2.2) = true then (some (⟨y12_2.1, [], 0, y12_2.2.1, false, []⟩, true))
 else (some (⟨y12_2.1, [], 0, y12_2.2.1, false, []⟩, (!decide (y12_2.2.1 = [])))))
 else (jn (fun (w8_6 : List Str) =>
 (Sh.cmd_words (⟨y12_2.1, [], 0, [], false, ([] : List TodoStep)⟩ : CmdCmdP) w8_6).bind (fun y37_9 =>
 some (⟨y37_9.2.verb, y37_9.2.name, y37_9.2.n, y37_9.2.text, y37_9.2.force, y37_9.2.todo⟩, y37_9.1))) (fun k7 => if y12_2.2.2 = true then ((Sh.strings_Split y12_2.2.1 [32]).bind (fun y35_8 =>
 k7 y35_8))
 else (k7 [])))) (fun k5 => if y12_2.1 = [99, 111, 109, 109, 105, 116] then (k5 true)
 else (k5 (decide (y12_2.1 = [115, 116, 97, 115, 104])))))
noncomputable def cmd_Verbs  : Option (List Str) :=
 lt [[97, 100, 100], [114, 109], [99, 111, 109, 109, 105, 116], [98, 114, 97, 110, 99, 104], [100, 101, 108, 101, 116, 101], [115, 119, 105, 116, 99, 104], [114, 101, 115, 101, 116], [109, 101, 114, 103, 101], [112, 105, 99, 107], [114, 101, 118, 101, 114, 116], [115, 116, 97, 115, 104], [112, 111, 112], [97, 112, 112, 108, 121], [115, 104, 101, 108, 118, 101], [114, 101, 98, 97, 115, 101], [99, 111, 110, 116, 105, 110, 117, 101], [115, 107, 105, 112], [97, 98, 111, 114, 116], [117, 110, 100, 111], [114, 101, 100, 111]] (fun y1_2 =>
 some y1_2)
noncomputable def slices_Index_string_string (s_0 : List Str) (v_1 : Str) : Option Int :=
 iter (fun (x8_1 : Int) =>
 if x8_1 < (s_0.length : Int) then ((at_ s_0 x8_1).bind (fun z14_2 =>
 if v_1 = z14_2 then (up (some x8_1))
 else (gd (I64 (x8_1 + 1)) (
 go (x8_1 + 1)))))
 else (up (some (-1)))) 0
noncomputable def cmd_place (verb_0 : Str) : Option Int :=
 (Sh.cmd_Verbs).bind (fun y3_1 =>
 (Sh.slices_Index_string_string y3_1 verb_0).bind (fun y5_2 =>
 some y5_2))
noncomputable def names_Good (name_0 : Str) : Option Bool :=
 gd (name_0.length ≤ 4294967296) (
 lt name_0 (fun y6_2 =>
 iter (fun (x8_3 : Int) =>
 if x8_3 < (y6_2.length : Int) then ((at_ y6_2 x8_3).bind (fun z11_4 =>
 jn (fun (x34_5 : Bool) =>
 if x34_5 = true then (none)
 else (gd (I64 (x8_3 + 1)) (
 go (x8_3 + 1)))) (fun k6 => if (z11_4.toNat : Int) < 97 then (if x8_3 = 0 then (k6 true)
 else (if (z11_4.toNat : Int) = 45 then (k6 false)
 else (if (z11_4.toNat : Int) < 48 then (k6 true)
 else (k6 (decide (57 < (z11_4.toNat : Int)))))))
 else (if 122 < (z11_4.toNat : Int) then (if x8_3 = 0 then (k6 true)
 else (if (z11_4.toNat : Int) = 45 then (k6 false)
 else (if (z11_4.toNat : Int) < 48 then (k6 true)
 else (k6 (decide (57 < (z11_4.toNat : Int)))))))
 else (k6 false)))))
 else (up (if 1 ≤ (name_0.length : Int) then (some (decide ((name_0.length : Int) ≤ 32)))
 else (some false)))) 0))
noncomputable def cmd_name (c_0 : CmdCmdP) : Option Int :=
 jn (fun (ok3_2 : Bool) =>
 if (!ok3_2) = true then (none)
 else (some 0)) (fun k3 => jn (fun (_ : Unit) =>
 none) (fun k4 => jn (fun (_ : Unit) =>
 if c_0.name = [] then (k3 true)
 else ((Sh.names_Good c_0.name).bind (fun y33_11 =>
 k3 y33_11))) (fun k5 => jn (fun (_ : Unit) =>
 (Sh.names_Good c_0.name).bind (fun y26_10 =>
 k3 y26_10)) (fun k6 => jn (fun (_ : Unit) =>
 (Sh.path_Check c_0.name).bind (fun y23_9 =>
 some y23_9)) (fun k7 => if c_0.verb = [97, 100, 100] then (if c_0.name = [] then (none)
 else (k7 ()))
 else (if c_0.verb = [114, 109] then (k7 ())
 else (jn (fun (_ : Unit) =>
 if c_0.verb = [115, 119, 105, 116, 99, 104] then (k5 ())
 else (if c_0.verb = [114, 101, 115, 101, 116] then (k4 ())
 else (k3 true))) (fun k8 => if c_0.verb = [98, 114, 97, 110, 99, 104] then (if c_0.verb = [98, 114, 97, 110, 99, 104] then (k6 ())
 else (k8 ()))
 else (if c_0.verb = [100, 101, 108, 101, 116, 101] then (if c_0.verb = [100, 101, 108, 101, 116, 101] then (k6 ())
 else (k8 ()))
 else (if c_0.verb = [109, 101, 114, 103, 101] then (k6 ())
 else (k8 ())))))))))))
noncomputable def cmd_number (c_0 : CmdCmdP) : Option Int :=
 jn (fun (_ : Unit) =>
 if c_0.n < c_0.n then (none)
 else (some 0)) (fun k2 => jn (fun (_ : Unit) =>
 if c_0.verb = [115, 119, 105, 116, 99, 104] then (if c_0.name = [] then (none)
 else (k2 ()))
 else (if c_0.verb = [112, 105, 99, 107] then (if c_0.verb = [112, 105, 99, 107] then (none)
 else (k2 ()))
 else (if c_0.verb = [114, 101, 118, 101, 114, 116] then (if c_0.verb = [114, 101, 118, 101, 114, 116] then (none)
 else (k2 ()))
 else (if c_0.verb = [114, 101, 98, 97, 115, 101] then (if c_0.verb = [114, 101, 98, 97, 115, 101] then (none)
 else (k2 ()))
 else (if c_0.verb = [114, 101, 115, 101, 116] then (none)
 else (k2 ())))))) (fun k3 => if c_0.verb = [112, 111, 112] then (if c_0.verb = [112, 111, 112] then (none)
 else (k3 ()))
 else (if c_0.verb = [97, 112, 112, 108, 121] then (if c_0.verb = [97, 112, 112, 108, 121] then (none)
 else (k3 ()))
 else (if c_0.verb = [115, 104, 101, 108, 118, 101] then (none)
 else (k3 ())))))
noncomputable def strings_Contains (s_0 : Str) (substr_1 : Str) : Option Bool :=
 (Sh.strings_Index s_0 substr_1).bind (fun y7_1 =>
 some (decide (0 ≤ y7_1)))
noncomputable def cmd_text (s_0 : Str) (must_1 : Bool) : Option Int :=
 if 256 < (s_0.length : Int) then (none)
 else (jn (fun (x9_1 : Bool) =>
 if x9_1 = true then (none)
 else ((Sh.strings_Contains s_0 [10]).bind (fun y17_3 =>
 if y17_3 = true then (none)
 else (some 0)))) (fun k2 => if must_1 = true then (k2 (decide (s_0 = [])))
 else (k2 false)))
noncomputable def cmd_more (c_0 : CmdCmdP) : Option Int :=
 jn (fun (x5_2 : Bool) =>
 if x5_2 = true then ((Sh.cmd_text c_0.text (decide (c_0.verb = [99, 111, 109, 109, 105, 116]))).bind (fun y13_4 =>
 some y13_4))
 else (if c_0.verb = [114, 101, 98, 97, 115, 101] then (none)
 else (some 0))) (fun k3 => if c_0.verb = [99, 111, 109, 109, 105, 116] then (k3 (decide (c_0.verb = [99, 111, 109, 109, 105, 116])))
 else (k3 (decide (c_0.verb = [115, 116, 97, 115, 104]))))
noncomputable def cmd_Check (c_0 : CmdCmdP) : Option Err :=
 (Sh.cmd_place c_0.verb).bind (fun y7_2 =>
 if y7_2 < 0 then (none)
 else ((Sh.cmd_name c_0).bind (fun y13_3 =>
 (Sh.cmd_number c_0).bind (fun y15_4 =>
 (Sh.cmd_more c_0).bind (fun y17_5 =>
 lt [y13_3, y15_4, y17_5] (fun y18_7 =>
 iter (fun (x20_8 : Int) =>
 if x20_8 < (y18_7.length : Int) then ((at_ y18_7 x20_8).bind (fun z22_9 =>
 if z22_9 = 0 then (gd (I64 (x20_8 + 1)) (
 go (x20_8 + 1)))
 else (none)))
 else (up (some Err.nil))) 0))))))
noncomputable def cmd_Parse (s_0 : Str) : Option (CmdCmdP × Err) :=
 (Sh.strings_Cut s_0 [10]).bind (fun y14_2 =>
 (Sh.cmd_read y14_2.1).bind (fun y20_3 =>
 (Sh.cmd_place y20_3.1.verb).bind (fun y26_5 =>
 if y26_5 < 0 then (none)
 else (jn (fun (x32_6 : Bool) =>
 if x32_6 = true then (none)
 else (if y20_3.1.verb = [114, 101, 98, 97, 115, 101] then (none)
 else ((Sh.cmd_Check y20_3.1).bind (fun y65_8 =>
 if y65_8.isNil = true then (some (⟨y20_3.1.verb, y20_3.1.name, y20_3.1.n, y20_3.1.text, y20_3.1.force, y20_3.1.todo⟩, Err.nil))
 else (none))))) (fun k7 => if (!y20_3.2) = true then (k7 true)
 else (if y14_2.2.2 = true then (k7 (!decide (y20_3.1.verb = [114, 101, 98, 97, 115, 101])))
 else (k7 false)))))))
noncomputable def repo_known (l_0 : List IndexEntry) (p_1 : Str) : Option Bool :=
 none
noncomputable def slices_Clone_index_Entry_index_Entry (s_0 : List IndexEntry) : Option (List IndexEntry) :=
 lt ([] : List IndexEntry) (fun y5_2 =>
 gd (y5_2.length + s_0.length ≤ 4294967296) (
 lt (y5_2 ++ s_0) (fun y7_4 =>
 some y7_4)))
noncomputable def index_gives (x_0 : IndexEntry) (e_1 : IndexEntry) : Option Bool :=
 (Sh.path_Clash x_0.path e_1.path).bind (fun y10_3 =>
 if y10_3 = true then (none)
 else (if x_0.path = e_1.path then (jn (fun (_ : Unit) =>
 none) (fun k4 => if e_1.stage = 1 then (k4 ())
 else (if e_1.stage = 2 then (k4 ())
 else (if e_1.stage = 3 then (k4 ())
 else (some true)))))
 else (some false)))
noncomputable def index_Put_1 (x_0 : IndexEntry) (a_1 : IndexEntry) : Option Bool :=
 (Sh.index_gives x_0 a_1).bind (fun y6_2 =>
 some y6_2)
noncomputable def slices_IndexFunc_index_Entry_index_Entry (s_0 : List IndexEntry) (f_1_0 : IndexEntry) : Option Int :=
 iter (fun (x8_1 : Int) =>
 if x8_1 < (s_0.length : Int) then ((at_ s_0 x8_1).bind (fun z14_2 =>
 (Sh.index_Put_1 z14_2 f_1_0).bind (fun y16_3 =>
 if y16_3 = true then (up (some x8_1))
 else (gd (I64 (x8_1 + 1)) (
 go (x8_1 + 1))))))
 else (up (some (-1)))) 0
noncomputable def slices_DeleteFunc_index_Entry_index_Entry (s_0 : List IndexEntry) (del_1_0 : IndexEntry) : Option (List IndexEntry) :=
 (Sh.slices_IndexFunc_index_Entry_index_Entry s_0 del_1_0).bind (fun y10_1 =>
 if y10_1 = (-1) then (some s_0)
 else (gd (I64 (y10_1 + 1)) (
 iter (fun ((s0_2, i5_3, j6_4) : List IndexEntry × Int × Int) =>
 if j6_4 < (s0_2.length : Int) then (jn (fun ((s0_5, i5_6) : List IndexEntry × Int) =>
 gd (I64 (j6_4 + 1)) (
 go (s0_5, i5_6, (j6_4 + 1)))) (fun k7 => (at_ s0_2 j6_4).bind (fun z24_8 =>
 (Sh.index_Put_1 z24_8 del_1_0).bind (fun y28_10 =>
 if (!y28_10) = true then ((at_ s0_2 i5_3).bind (fun z33_11 =>
 lt (s0_2.set i5_3.toNat ⟨z24_8.path, z24_8.stage, z24_8.mode, z24_8.data, z24_8.time, z24_8.size⟩) (fun ys4_13 =>
 gd (I64 (i5_3 + 1)) (
 k7 (ys4_13, (i5_3 + 1))))))
 else (k7 (s0_2, i5_3))))))
 else (up (gd ((0 : Int) ≤ i5_3 ∧ i5_3 ≤ (s0_2.length : Int)) (
 lt (s0_2.take i5_3.toNat) (fun ys3_16 =>
 some ys3_16))))) (s_0, y10_1, (y10_1 + 1)))))
noncomputable def cmp_isNaN_int (x_0 : Int) : Option Bool :=
 some (!decide (x_0 = x_0))
noncomputable def cmp_Compare_int (x_0 : Int) (y_1 : Int) : Option Int :=
 (Sh.cmp_isNaN_int x_0).bind (fun y8_1 =>
 (Sh.cmp_isNaN_int y_1).bind (fun y10_2 =>
 if y8_1 = true then (if y10_2 = true then (some 0)
 else (some (-1)))
 else (if y10_2 = true then (some 1)
 else (if x_0 < y_1 then (some (-1))
 else (if y_1 < x_0 then (some 1)
 else (some 0))))))
noncomputable def cmp_Or_int (vals_0 : List Int) : Option Int :=
 iter (fun (x8_1 : Int) =>
 if x8_1 < (vals_0.length : Int) then ((at_ vals_0 x8_1).bind (fun z10_2 =>
 if z10_2 = 0 then (gd (I64 (x8_1 + 1)) (
 go (x8_1 + 1)))
 else (up (some z10_2))))
 else (up (some 0))) 0
noncomputable def index_compare (a_0 : IndexEntry) (b_1 : IndexEntry) : Option Int :=
 (Sh.path_Compare a_0.path b_1.path).bind (fun y9_3 =>
 (Sh.cmp_Compare_int a_0.stage b_1.stage).bind (fun y14_4 =>
 lt [y9_3, y14_4] (fun y15_6 =>
 (Sh.cmp_Or_int y15_6).bind (fun y16_7 =>
 some y16_7))))
noncomputable def index_Put (l_0 : List IndexEntry) (e_1 : IndexEntry) : Option (List IndexEntry) :=
 (Sh.slices_Clone_index_Entry_index_Entry l_0).bind (fun y8_2 =>
 (Sh.slices_DeleteFunc_index_Entry_index_Entry y8_2 e_1).bind (fun y10_3 =>
 jn (fun (i6_4 : Int) =>
 lt [⟨e_1.path, e_1.stage, e_1.mode, e_1.data, e_1.time, e_1.size⟩] (fun y29_10 =>
 gd (((0 : Int) ≤ i6_4 ∧ i6_4 ≤ (y10_3.length : Int)) ∧ y29_10 ≠ [] ∧ y10_3.length + y29_10.length ≤ 4294967296) (
 lt (y10_3.take i6_4.toNat ++ y29_10 ++ y10_3.drop i6_4.toNat) (fun y30_12 =>
 (Sh.slices_Clip_index_Entry_index_Entry y30_12).bind (fun y31_13 =>
 some y31_13))))) (fun k5 => iter (fun (i6_6 : Int) =>
 if i6_6 < (y10_3.length : Int) then ((at_ y10_3 i6_6).bind (fun z18_7 =>
 (Sh.index_compare z18_7 e_1).bind (fun y21_8 =>
 if y21_8 < 0 then (gd (I64 (i6_6 + 1)) (
 go (i6_6 + 1)))
 else (up (k5 i6_6)))))
 else (up (k5 i6_6))) 0)))
noncomputable def repo_next (l_0 : List IndexEntry) (work_1 : List FilesFile) (p_2 : Str) : Option (List IndexEntry) :=
 (Sh.files_Row_Get work_1 p_2).bind (fun y12_1 =>
 if (!y12_1.2) = true then (none)
 else ((Sh.index_Put l_0 (⟨p_2, 0, y12_1.1.mode, y12_1.1.data, 0, 0⟩ : IndexEntry)).bind (fun y27_3 =>
 some y27_3)))
noncomputable def index_Same_1 (x_0 : IndexEntry) (y_1 : IndexEntry) : Option Bool :=
 if x_0.path = y_1.path then (if x_0.stage = y_1.stage then (if x_0.mode = y_1.mode then (some (decide (x_0.data = y_1.data)))
 else (some false))
 else (some false))
 else (some false)
noncomputable def slices_EqualFunc_index_Entry_index_Entry_index_Entry_index_Entry (s1_0 : List IndexEntry) (s2_1 : List IndexEntry) : Option Bool :=
 if (s1_0.length : Int) = (s2_1.length : Int) then (iter (fun (x17_1 : Int) =>
 if x17_1 < (s1_0.length : Int) then ((at_ s1_0 x17_1).bind (fun z20_2 =>
 (at_ s2_1 x17_1).bind (fun z24_4 =>
 (Sh.index_Same_1 z20_2 z24_4).bind (fun y29_6 =>
 if (!y29_6) = true then (up (some false))
 else (gd (I64 (x17_1 + 1)) (
 go (x17_1 + 1)))))))
 else (up (some true))) 0)
 else (some false)
noncomputable def index_Same (a_0 : List IndexEntry) (b_1 : List IndexEntry) : Option Bool :=
 (Sh.slices_EqualFunc_index_Entry_index_Entry_index_Entry_index_Entry a_0 b_1).bind (fun y7_1 =>
 some y7_1)
noncomputable def repo_add (s_0 : StateStateP) (name_1 : Str) : Option (StateStateP × Err) :=
 lt [name_1] (fun y13_4 =>
 (Sh.files_Row_Get s_0.now_work name_1).bind (fun y19_5 =>
 if name_1 = [] then (none)
 else (jn (fun (x32_7 : Bool) =>
 if x32_7 = true then (none)
 else (iter (fun ((x48_11, c1_12) : Int × List IndexEntry) =>
 if x48_11 < (y13_4.length : Int) then ((at_ y13_4 x48_11).bind (fun z50_13 =>
 (Sh.repo_next c1_12 s_0.now_work z50_13).bind (fun y59_14 =>
 gd (I64 (x48_11 + 1)) (
 go ((x48_11 + 1), y59_14)))))
 else (up ((Sh.index_Same c1_12 s_0.now_index).bind (fun y70_15 =>
 if y70_15 = true then (none)
 else (if 256 < (c1_12.length : Int) then (none)
 else (some (⟨s_0.now_work, c1_12, s_0.now_refs, s_0.now_head_branch, s_0.now_head_commit, s_0.now_seq_kind, s_0.now_seq_other, s_0.now_seq_text, s_0.now_seq_doing, s_0.now_seq_todo, s_0.now_seq_made, s_0.now_seq_branch, s_0.now_seq_head_branch, s_0.now_seq_head_commit, s_0.now_seq_index, s_0.now_seq_work, s_0.now_stash, s_0.commits, s_0.log_back, s_0.log_forth, s_0.time⟩, Err.nil))))))) (0, s_0.now_index))) (fun k8 => if (!y19_5.2) = true then ((Sh.repo_known s_0.now_index name_1).bind (fun y40_9 =>
 k8 (!y40_9)))
 else (k8 false)))))
noncomputable def index_Stage (l_0 : List IndexEntry) (n_1 : Int) : Option (List FilesFile) :=
 iter (fun ((out5_1, x10_2) : List FilesFile × Int) =>
 if x10_2 < (l_0.length : Int) then ((at_ l_0 x10_2).bind (fun z12_3 =>
 if z12_3.stage = n_1 then (lt [⟨z12_3.path, z12_3.mode, z12_3.data⟩] (fun y26_6 =>
 gd (out5_1.length + y26_6.length ≤ 4294967296) (
 lt (out5_1 ++ y26_6) (fun y27_8 =>
 gd (I64 (x10_2 + 1)) (
 go (y27_8, (x10_2 + 1)))))))
 else (gd (I64 (x10_2 + 1)) (
 go (out5_1, (x10_2 + 1))))))
 else (up ((Sh.slices_Clip_files_Row_files_File out5_1).bind (fun y30_9 =>
 some y30_9)))) ([], 0)
noncomputable def index_Conflicts (l_0 : List IndexEntry) : Option (List Str) :=
 iter (fun (x8_1 : Int) =>
 if x8_1 < (l_0.length : Int) then ((at_ l_0 x8_1).bind (fun z10_2 =>
 if z10_2.stage = 0 then (gd (I64 (x8_1 + 1)) (
 go (x8_1 + 1)))
 else (none)))
 else (up (gd (([] : List Str).length ≤ 4294967296) (
 lt (sortS ([] : List Str)) (fun y22_5 =>
 gd (([] : List Str).length ≤ 4294967296) (
 lt (compactS ([] : List Str)) (fun y24_7 =>
 (Sh.slices_Clip_string_string y24_7).bind (fun y25_8 =>
 some y25_8)))))))) 0
noncomputable def state_has (s_0 : StateStateP) (id_1 : Int) : Option Bool :=
 if 1 ≤ id_1 then (some (decide (id_1 ≤ (s_0.commits.length : Int))))
 else (some false)
noncomputable def state_Tree (s_0 : StateStateP) (commit_1 : Int) : Option (List FilesFile) :=
 (Sh.state_has s_0 commit_1).bind (fun y7_2 =>
 if (!y7_2) = true then (some [])
 else (gd (I64 (commit_1 - 1)) (
 (at_ s_0.commits (commit_1 - 1)).bind (fun z13_3 =>
 (Sh.slices_Clone_files_Row_files_File z13_3.tree).bind (fun y16_4 =>
 (Sh.slices_Clip_files_Row_files_File y16_4).bind (fun y17_5 =>
 some y17_5))))))
noncomputable def repo_head (s_0 : StateStateP) : Option (List FilesFile) :=
 (Sh.state_Tree s_0 s_0.now_head_commit).bind (fun y8_2 =>
 some y8_2)
noncomputable def slices_Equal_files_Row_files_File (s1_0 : List FilesFile) (s2_1 : List FilesFile) : Option Bool :=
 if (s1_0.length : Int) = (s2_1.length : Int) then (iter (fun (x13_1 : Int) =>
 if x13_1 < (s1_0.length : Int) then ((at_ s1_0 x13_1).bind (fun z18_2 =>
 (at_ s2_1 x13_1).bind (fun z22_3 =>
 if z18_2.path = z22_3.path ∧ z18_2.mode = z22_3.mode ∧ z18_2.data = z22_3.data then (gd (I64 (x13_1 + 1)) (
 go (x13_1 + 1)))
 else (up (some false)))))
 else (up (some true))) 0)
 else (some false)
noncomputable def files_Row_Same (r_0 : List FilesFile) (q_1 : List FilesFile) : Option Bool :=
 (Sh.slices_Equal_files_Row_files_File r_0 q_1).bind (fun y7_1 =>
 some y7_1)
noncomputable def repo_find_1 (r_0 : NamesRef) (n_1 : Str) : Option Int :=
 (Sh.cmp_Compare_string r_0.name n_1).bind (fun y8_2 =>
 some y8_2)
noncomputable def slices_BinarySearchFunc_names_Ref_names_Ref_string (x_0 : List NamesRef) (target_1 : Str) : Option (Int × Bool) :=
 iter (fun ((i9_1, j10_2) : Int × Int) =>
 if i9_1 < j10_2 then (gd (I64 (i9_1 + j10_2)) (
 (at_ x_0 (IntKind.wrap .i64 (sHr .u64 (IntKind.wrap .u64 (i9_1 + j10_2)) 1))).bind (fun z27_3 =>
 (Sh.repo_find_1 z27_3 target_1).bind (fun y30_4 =>
 if y30_4 < 0 then (gd (I64 ((IntKind.wrap .i64 (sHr .u64 (IntKind.wrap .u64 (i9_1 + j10_2)) 1)) + 1)) (
 go (((IntKind.wrap .i64 (sHr .u64 (IntKind.wrap .u64 (i9_1 + j10_2)) 1)) + 1), j10_2)))
 else (go (i9_1, (IntKind.wrap .i64 (sHr .u64 (IntKind.wrap .u64 (i9_1 + j10_2)) 1))))))))
 else (up (if i9_1 < (x_0.length : Int) then ((at_ x_0 i9_1).bind (fun z43_5 =>
 (Sh.repo_find_1 z43_5 target_1).bind (fun y46_6 =>
 some (i9_1, (decide (y46_6 = 0))))))
 else (some (i9_1, false))))) (0, (x_0.length : Int))
noncomputable def repo_find (s_0 : StateStateP) (name_1 : Str) : Option (Int × Bool) :=
 (Sh.slices_BinarySearchFunc_names_Ref_names_Ref_string s_0.now_refs name_1).bind (fun y10_2 =>
 some (y10_2.1, y10_2.2))
noncomputable def repo_branches (s_0 : StateStateP) : Option Bool :=
 (Sh.repo_find s_0 s_0.now_head_branch).bind (fun y11_2 =>
 if y11_2.2 = true then (some true)
 else (if s_0.now_head_branch = [] then (some true)
 else (some (decide ((s_0.now_refs.length : Int) < 64)))))
noncomputable def repo_room (s_0 : StateStateP) : Option Bool :=
 if (s_0.commits.length : Int) < 1024 then ((Sh.repo_branches s_0).bind (fun y9_2 =>
 some y9_2))
 else (some false)
noncomputable def repo_parents_1 (n_0 : Int) : Option Bool :=
 some (decide (n_0 < 1))
noncomputable def slices_IndexFunc_int_int (s_0 : List Int) : Option Int :=
 iter (fun (x8_1 : Int) =>
 if x8_1 < (s_0.length : Int) then ((at_ s_0 x8_1).bind (fun z14_2 =>
 (Sh.repo_parents_1 z14_2).bind (fun y16_3 =>
 if y16_3 = true then (up (some x8_1))
 else (gd (I64 (x8_1 + 1)) (
 go (x8_1 + 1))))))
 else (up (some (-1)))) 0
noncomputable def slices_DeleteFunc_int_int (s_0 : List Int) : Option (List Int) :=
 (Sh.slices_IndexFunc_int_int s_0).bind (fun y10_1 =>
 if y10_1 = (-1) then (some s_0)
 else (gd (I64 (y10_1 + 1)) (
 iter (fun ((s0_2, i5_3, j6_4) : List Int × Int × Int) =>
 if j6_4 < (s0_2.length : Int) then (jn (fun ((s0_5, i5_6) : List Int × Int) =>
 gd (I64 (j6_4 + 1)) (
 go (s0_5, i5_6, (j6_4 + 1)))) (fun k7 => (at_ s0_2 j6_4).bind (fun z24_8 =>
 (Sh.repo_parents_1 z24_8).bind (fun y28_9 =>
 if (!y28_9) = true then ((at_ s0_2 i5_3).bind (fun z33_10 =>
 lt (s0_2.set i5_3.toNat z24_8) (fun ys4_12 =>
 gd (I64 (i5_3 + 1)) (
 k7 (ys4_12, (i5_3 + 1))))))
 else (k7 (s0_2, i5_3))))))
 else (up (gd ((0 : Int) ≤ i5_3 ∧ i5_3 ≤ (s0_2.length : Int)) (
 lt (s0_2.take i5_3.toNat) (fun ys3_15 =>
 some ys3_15))))) (s_0, y10_1, (y10_1 + 1)))))
noncomputable def repo_parents (s_0 : StateStateP) (other_1 : Int) : Option (List Int) :=
 lt [s_0.now_head_commit, other_1] (fun y10_3 =>
 (Sh.slices_DeleteFunc_int_int y10_3).bind (fun y11_4 =>
 some y11_4))
noncomputable def slices_Clone_state_Commit_state_Commit (s_0 : List StateCommitP) : Option (List StateCommitP) :=
 lt ([] : List StateCommitP) (fun y5_2 =>
 gd (y5_2.length + s_0.length ≤ 4294967296) (
 lt (y5_2 ++ s_0) (fun y7_4 =>
 some y7_4)))
noncomputable def slices_Clone_names_Ref_names_Ref (s_0 : List NamesRef) : Option (List NamesRef) :=
 lt ([] : List NamesRef) (fun y5_2 =>
 gd (y5_2.length + s_0.length ≤ 4294967296) (
 lt (y5_2 ++ s_0) (fun y7_4 =>
 some y7_4)))
noncomputable def repo_set (s_0 : StateStateP) (name_1 : Str) (commit_2 : Int) : Option StateStateP :=
 (Sh.slices_Clone_names_Ref_names_Ref s_0.now_refs).bind (fun y12_3 =>
 (Sh.repo_find (⟨s_0.now_work, s_0.now_index, y12_3, s_0.now_head_branch, s_0.now_head_commit, s_0.now_seq_kind, s_0.now_seq_other, s_0.now_seq_text, s_0.now_seq_doing, s_0.now_seq_todo, s_0.now_seq_made, s_0.now_seq_branch, s_0.now_seq_head_branch, s_0.now_seq_head_commit, s_0.now_seq_index, s_0.now_seq_work, s_0.now_stash, s_0.commits, s_0.log_back, s_0.log_forth, s_0.time⟩ : StateStateP) name_1).bind (fun y18_4 =>
 jn (fun (x21_5 : Bool) =>
 if x21_5 = true then (none)
 else (if y18_4.2 = true then ((at_ y12_3 y18_4.1).bind (fun z43_7 =>
 lt (y12_3.set y18_4.1.toNat ⟨z43_7.name, commit_2⟩) (fun ys7_9 =>
 some ⟨s_0.now_work, s_0.now_index, ys7_9, s_0.now_head_branch, s_0.now_head_commit, s_0.now_seq_kind, s_0.now_seq_other, s_0.now_seq_text, s_0.now_seq_doing, s_0.now_seq_todo, s_0.now_seq_made, s_0.now_seq_branch, s_0.now_seq_head_branch, s_0.now_seq_head_commit, s_0.now_seq_index, s_0.now_seq_work, s_0.now_stash, s_0.commits, s_0.log_back, s_0.log_forth, s_0.time⟩)))
 else (if 0 < commit_2 then (lt [⟨name_1, commit_2⟩] (fun y55_11 =>
 gd (((0 : Int) ≤ y18_4.1 ∧ y18_4.1 ≤ (y12_3.length : Int)) ∧ y55_11 ≠ [] ∧ y12_3.length + y55_11.length ≤ 4294967296) (
 lt (y12_3.take y18_4.1.toNat ++ y55_11 ++ y12_3.drop y18_4.1.toNat) (fun y56_13 =>
 some ⟨s_0.now_work, s_0.now_index, y56_13, s_0.now_head_branch, s_0.now_head_commit, s_0.now_seq_kind, s_0.now_seq_other, s_0.now_seq_text, s_0.now_seq_doing, s_0.now_seq_todo, s_0.now_seq_made, s_0.now_seq_branch, s_0.now_seq_head_branch, s_0.now_seq_head_commit, s_0.now_seq_index, s_0.now_seq_work, s_0.now_stash, s_0.commits, s_0.log_back, s_0.log_forth, s_0.time⟩))))
 else (some ⟨s_0.now_work, s_0.now_index, y12_3, s_0.now_head_branch, s_0.now_head_commit, s_0.now_seq_kind, s_0.now_seq_other, s_0.now_seq_text, s_0.now_seq_doing, s_0.now_seq_todo, s_0.now_seq_made, s_0.now_seq_branch, s_0.now_seq_head_branch, s_0.now_seq_head_commit, s_0.now_seq_index, s_0.now_seq_work, s_0.now_stash, s_0.commits, s_0.log_back, s_0.log_forth, s_0.time⟩)))) (fun k6 => if y18_4.2 = true then (k6 (decide (commit_2 = 0)))
 else (k6 false))))
noncomputable def repo_move (s_0 : StateStateP) (commit_1 : Int) : Option StateStateP :=
 if s_0.now_head_branch = [] then (some ⟨s_0.now_work, s_0.now_index, s_0.now_refs, s_0.now_head_branch, commit_1, s_0.now_seq_kind, s_0.now_seq_other, s_0.now_seq_text, s_0.now_seq_doing, s_0.now_seq_todo, s_0.now_seq_made, s_0.now_seq_branch, s_0.now_seq_head_branch, s_0.now_seq_head_commit, s_0.now_seq_index, s_0.now_seq_work, s_0.now_stash, s_0.commits, s_0.log_back, s_0.log_forth, s_0.time⟩)
 else ((Sh.repo_set (⟨s_0.now_work, s_0.now_index, s_0.now_refs, s_0.now_head_branch, commit_1, s_0.now_seq_kind, s_0.now_seq_other, s_0.now_seq_text, s_0.now_seq_doing, s_0.now_seq_todo, s_0.now_seq_made, s_0.now_seq_branch, s_0.now_seq_head_branch, s_0.now_seq_head_commit, s_0.now_seq_index, s_0.now_seq_work, s_0.now_stash, s_0.commits, s_0.log_back, s_0.log_forth, s_0.time⟩ : StateStateP) s_0.now_head_branch commit_1).bind (fun y20_3 =>
 some y20_3))
noncomputable def repo_made (s_0 : StateStateP) (tree_1 : List FilesFile) (parents_2 : List Int) (text_3 : Str) : Option StateStateP :=
 lt [⟨tree_1, parents_2, s_0.time, text_3⟩] (fun y18_3 =>
 (Sh.slices_Clone_state_Commit_state_Commit s_0.commits).bind (fun y11_4 =>
 gd (y11_4.length + y18_3.length ≤ 4294967296) (
 lt (y11_4 ++ y18_3) (fun y19_6 =>
 (Sh.repo_move (⟨s_0.now_work, s_0.now_index, s_0.now_refs, s_0.now_head_branch, s_0.now_head_commit, s_0.now_seq_kind, s_0.now_seq_other, s_0.now_seq_text, s_0.now_seq_doing, s_0.now_seq_todo, s_0.now_seq_made, s_0.now_seq_branch, s_0.now_seq_head_branch, s_0.now_seq_head_commit, s_0.now_seq_index, s_0.now_seq_work, s_0.now_stash, y19_6, s_0.log_back, s_0.log_forth, s_0.time⟩ : StateStateP) (y19_6.length : Int)).bind (fun y25_7 =>
 some y25_7)))))
noncomputable def repo_record (s_0 : StateStateP) (tree_1 : List FilesFile) (text_2 : Str) : Option (StateStateP × Err) :=
 (Sh.files_Row_Check tree_1).bind (fun y12_3 =>
 if y12_3.isNil = true then ((Sh.repo_room s_0).bind (fun y19_4 =>
 if (!y19_4) = true then (none)
 else (if s_0.now_seq_kind = [109, 101, 114, 103, 101] then (none)
 else ((Sh.repo_parents s_0 0).bind (fun y36_5 =>
 (Sh.repo_made s_0 tree_1 y36_5 text_2).bind (fun y38_6 =>
 if y38_6.now_seq_kind = [114, 101, 98, 97, 115, 101] then (some (y38_6, Err.nil))
 else (some (⟨y38_6.now_work, y38_6.now_index, y38_6.now_refs, y38_6.now_head_branch, y38_6.now_head_commit, [], 0, [], [], [], 0, [], [], 0, [], [], y38_6.now_stash, y38_6.commits, y38_6.log_back, y38_6.log_forth, y38_6.time⟩, Err.nil))))))))
 else (none))
noncomputable def repo_commit (s_0 : StateStateP) (text_1 : Str) : Option (StateStateP × Err) :=
 (Sh.index_Stage s_0.now_index 0).bind (fun y10_3 =>
 (Sh.index_Conflicts s_0.now_index).bind (fun y15_4 =>
 if 0 < (y15_4.length : Int) then (none)
 else (jn (fun (x20_5 : Bool) =>
 if x20_5 = true then (none)
 else (jn (fun (x36_7 : Bool) =>
 if x36_7 = true then (none)
 else ((Sh.repo_record s_0 y10_3 text_1).bind (fun y53_11 =>
 some (y53_11.1, y53_11.2)))) (fun k8 => if s_0.now_seq_kind = [109, 101, 114, 103, 101] then (k8 false)
 else ((Sh.repo_head s_0).bind (fun y45_9 =>
 (Sh.files_Row_Same y10_3 y45_9).bind (fun y46_10 =>
 k8 y46_10)))))) (fun k6 => if s_0.now_seq_kind = [114, 101, 98, 97, 115, 101] then (k6 (decide (0 < (s_0.now_seq_doing.length : Int))))
 else (k6 false)))))
noncomputable def repo_branch (s_0 : StateStateP) (name_1 : Str) : Option (StateStateP × Err) :=
 (Sh.repo_find s_0 name_1).bind (fun y11_3 =>
 if s_0.now_head_commit = 0 then (none)
 else (if y11_3.2 = true then (none)
 else (if 64 ≤ (s_0.now_refs.length : Int) then (none)
 else ((Sh.repo_set s_0 name_1 s_0.now_head_commit).bind (fun y40_4 =>
 some (y40_4, Err.nil))))))
noncomputable def repo_to (s_0 : StateStateP) (c_1 : CmdCmdP) : Option (NamesHead × Err) :=
 if c_1.name = [] then (none)
 else ((Sh.repo_find s_0 c_1.name).bind (fun y31_4 =>
 if (!y31_4.2) = true then (none)
 else ((at_ s_0.now_refs y31_4.1).bind (fun z44_5 =>
 some (⟨c_1.name, z44_5.commit⟩, Err.nil)))))
noncomputable def plan_of (r_0 : List FilesFile) (p_1 : Str) : Option PlanOne :=
 (Sh.files_Row_Get r_0 p_1).bind (fun y10_2 =>
 some ⟨y10_2.1.path, y10_2.1.mode, y10_2.1.data, y10_2.2⟩)
noncomputable def plan_known (ix_0 : List IndexEntry) (p_1 : Str) : Option Bool :=
 none
noncomputable def index_Of (r_0 : List FilesFile) : Option (List IndexEntry) :=
 iter (fun ((out3_1, x8_2) : List IndexEntry × Int) =>
 if x8_2 < (r_0.length : Int) then ((at_ r_0 x8_2).bind (fun z10_3 =>
 lt [⟨z10_3.path, 0, z10_3.mode, z10_3.data, 0, 0⟩] (fun y20_6 =>
 gd (out3_1.length + y20_6.length ≤ 4294967296) (
 lt (out3_1 ++ y20_6) (fun y21_8 =>
 gd (I64 (x8_2 + 1)) (
 go (y21_8, (x8_2 + 1))))))))
 else (up ((Sh.slices_Clip_index_Entry_index_Entry out3_1).bind (fun y24_9 =>
 some y24_9)))) ([], 0)
noncomputable def plan_Force (head_0 : List FilesFile) (to_1 : List FilesFile) (ix_2 : List IndexEntry) (work_3 : List FilesFile) : Option (List IndexEntry × List FilesFile) :=
 iter (fun (x17_1 : Int) =>
 if x17_1 < (work_3.length : Int) then ((at_ work_3 x17_1).bind (fun z19_2 =>
 jn (fun (x33_4 : Bool) =>
 if x33_4 = true then (none)
 else (gd (I64 (x17_1 + 1)) (
 go (x17_1 + 1)))) (fun k5 => (Sh.plan_of head_0 z19_2.path).bind (fun y24_6 =>
 if (!y24_6.is) = true then ((Sh.plan_known ix_2 z19_2.path).bind (fun y31_7 =>
 k5 (!y31_7)))
 else (k5 false)))))
 else (up (iter (fun ((out10_8, x41_9) : List FilesFile × Int) =>
 if x41_9 < (to_1.length : Int) then ((at_ to_1 x41_9).bind (fun z43_10 =>
 (Sh.files_Row_Clear out10_8 z43_10.path).bind (fun y48_12 =>
 (Sh.files_Row_Put y48_12 z43_10).bind (fun y50_13 =>
 gd (I64 (x41_9 + 1)) (
 go (y50_13, (x41_9 + 1)))))))
 else (up ((Sh.index_Of to_1).bind (fun y53_14 =>
 (Sh.slices_Clip_files_Row_files_File out10_8).bind (fun y55_15 =>
 some (y53_14, y55_15)))))) ([], 0)))) 0
noncomputable def repo_forced (s_0 : StateStateP) (to_1 : List FilesFile) : Option StateStateP :=
 (Sh.repo_head s_0).bind (fun y7_3 =>
 (Sh.plan_Force y7_3 to_1 s_0.now_index s_0.now_work).bind (fun y15_4 =>
 some ⟨y15_4.2, y15_4.1, s_0.now_refs, s_0.now_head_branch, s_0.now_head_commit, s_0.now_seq_kind, s_0.now_seq_other, s_0.now_seq_text, s_0.now_seq_doing, s_0.now_seq_todo, s_0.now_seq_made, s_0.now_seq_branch, s_0.now_seq_head_branch, s_0.now_seq_head_commit, s_0.now_seq_index, s_0.now_seq_work, s_0.now_stash, s_0.commits, s_0.log_back, s_0.log_forth, s_0.time⟩))
noncomputable def files_Paths (l_0 : List (List FilesFile)) : Option (List Str) :=
 iter (fun ((x11_2, acc_3) : Int × List Str) =>
 if x11_2 < (l_0.length : Int) then ((at_ l_0 x11_2).bind (fun z13_4 =>
 iter (fun ((x17_5, acc_6) : Int × List Str) =>
 if x17_5 < (z13_4.length : Int) then ((at_ z13_4 x17_5).bind (fun z19_7 =>
 gd (acc_6.length ≤ 4294967296 ∧ z19_7.path.length ≤ 4294967296) (
 lt (z19_7.path :: acc_6) (fun accs3_9 =>
 gd (I64 (x17_5 + 1)) (
 go ((x17_5 + 1), accs3_9))))))
 else (up (gd (I64 (x11_2 + 1)) (
 go ((x11_2 + 1), acc_6))))) (0, acc_3)))
 else (up (gd (acc_3.length ≤ 4294967296) (
 lt (keysS acc_3) (fun y28_12 =>
 (Sh.slices_Clip_string_string y28_12).bind (fun y29_13 =>
 some y29_13)))))) (0, ([] : List Str))
noncomputable def plan_touched (head_0 : List FilesFile) (r_1 : TmergeResultP) : Option (List Str) :=
 lt [head_0, r_1.files] (fun y11_3 =>
 (Sh.files_Paths y11_3).bind (fun y12_4 =>
 iter (fun ((out5_5, x14_6) : List Str × Int) =>
 if x14_6 < (y12_4.length : Int) then ((at_ y12_4 x14_6).bind (fun z16_7 =>
 (Sh.plan_of head_0 z16_7).bind (fun y20_8 =>
 (Sh.plan_of r_1.files z16_7).bind (fun y24_9 =>
 if y20_8.file_path = y24_9.file_path ∧ y20_8.file_mode = y24_9.file_mode ∧ y20_8.file_data = y24_9.file_data ∧ y20_8.is = y24_9.is then (gd (I64 (x14_6 + 1)) (
 go (out5_5, (x14_6 + 1))))
 else (lt [z16_7] (fun y28_11 =>
 gd (out5_5.length + y28_11.length ≤ 4294967296) (
 lt (out5_5 ++ y28_11) (fun y29_13 =>
 gd (I64 (x14_6 + 1)) (
 go (y29_13, (x14_6 + 1)))))))))))
 else (up (gd (out5_5.length + r_1.conflicts.length ≤ 4294967296) (
 lt (out5_5 ++ r_1.conflicts) (fun y34_15 =>
 gd (y34_15.length ≤ 4294967296) (
 lt (sortS y34_15) (fun y36_17 =>
 gd (y36_17.length ≤ 4294967296) (
 lt (compactS y36_17) (fun y38_19 =>
 some y38_19))))))))) ([], 0)))
noncomputable def slices_Contains_string_string (s_0 : List Str) (v_1 : Str) : Option Bool :=
 (Sh.slices_Index_string_string s_0 v_1).bind (fun y7_1 =>
 some (decide (0 ≤ y7_1)))
noncomputable def plan_safe (head_0 : List FilesFile) (ix_1 : List IndexEntry) (work_2 : List FilesFile) (p_3 : Str) : Option Bool :=
 (Sh.index_Stage ix_1 0).bind (fun y11_1 =>
 (Sh.plan_of y11_1 p_3).bind (fun y13_2 =>
 (Sh.plan_of work_2 p_3).bind (fun y16_4 =>
 if y16_4.file_path = y13_2.file_path ∧ y16_4.file_mode = y13_2.file_mode ∧ y16_4.file_data = y13_2.file_data ∧ y16_4.is = y13_2.is then ((Sh.plan_of head_0 p_3).bind (fun y23_5 =>
 if y13_2.file_path = y23_5.file_path ∧ y13_2.file_mode = y23_5.file_mode ∧ y13_2.file_data = y23_5.file_data ∧ y13_2.is = y23_5.is then ((Sh.index_Conflicts ix_1).bind (fun y28_6 =>
 (Sh.slices_Contains_string_string y28_6 p_3).bind (fun y30_7 =>
 some (!y30_7))))
 else (some false)))
 else (some false))))
noncomputable def plan_Lost_1 (p_0 : Str) (a_1 : TmergeResultP) (a_2 : FilesFile) : Option Bool :=
 (Sh.plan_of a_1.files p_0).bind (fun y8_1 =>
 if y8_1.is = true then ((Sh.path_Clash p_0 a_2.path).bind (fun y14_2 =>
 some y14_2))
 else (some false))
noncomputable def slices_IndexFunc_string_string (s_0 : List Str) (f_1_0 : TmergeResultP) (f_1_1 : FilesFile) : Option Int :=
 iter (fun (x8_1 : Int) =>
 if x8_1 < (s_0.length : Int) then ((at_ s_0 x8_1).bind (fun z14_2 =>
 (Sh.plan_Lost_1 z14_2 f_1_0 f_1_1).bind (fun y16_3 =>
 if y16_3 = true then (up (some x8_1))
 else (gd (I64 (x8_1 + 1)) (
 go (x8_1 + 1))))))
 else (up (some (-1)))) 0
noncomputable def slices_ContainsFunc_string_string (s_0 : List Str) (f_1_0 : TmergeResultP) (f_1_1 : FilesFile) : Option Bool :=
 (Sh.slices_IndexFunc_string_string s_0 f_1_0 f_1_1).bind (fun y7_1 =>
 some (decide (0 ≤ y7_1)))
noncomputable def plan_Lost (head_0 : List FilesFile) (r_1 : TmergeResultP) (ix_2 : List IndexEntry) (work_3 : List FilesFile) : Option (List Str) :=
 (Sh.plan_touched head_0 r_1).bind (fun y17_2 =>
 iter (fun ((out10_3, x20_4) : List Str × Int) =>
 if x20_4 < (y17_2.length : Int) then ((at_ y17_2 x20_4).bind (fun z22_5 =>
 (Sh.plan_safe head_0 ix_2 work_3 z22_5).bind (fun y28_6 =>
 if (!y28_6) = true then (lt [z22_5] (fun y32_8 =>
 gd (out10_3.length + y32_8.length ≤ 4294967296) (
 lt (out10_3 ++ y32_8) (fun y33_10 =>
 gd (I64 (x20_4 + 1)) (
 go (y33_10, (x20_4 + 1)))))))
 else (gd (I64 (x20_4 + 1)) (
 go (out10_3, (x20_4 + 1)))))))
 else (up (iter (fun (x37_11 : Int) =>
 if x37_11 < (work_3.length : Int) then ((at_ work_3 x37_11).bind (fun z39_12 =>
 jn (fun (_ : Unit) =>
 (Sh.slices_ContainsFunc_string_string y17_2 r_1 z39_12).bind (fun y56_17 =>
 if y56_17 = true then (none)
 else (gd (I64 (x37_11 + 1)) (
 go (x37_11 + 1))))) (fun k14 => (Sh.slices_Contains_string_string y17_2 z39_12.path).bind (fun y44_15 =>
 if y44_15 = true then ((Sh.plan_of r_1.files z39_12.path).bind (fun y50_16 =>
 if (!y50_16.is) = true then (gd (I64 (x37_11 + 1)) (
 go (x37_11 + 1)))
 else (k14 ())))
 else (k14 ())))))
 else (up (gd (out10_3.length ≤ 4294967296) (
 lt (sortS out10_3) (fun y64_19 =>
 gd (y64_19.length ≤ 4294967296) (
 lt (compactS y64_19) (fun y66_21 =>
 (Sh.slices_Clip_string_string y66_21).bind (fun y67_22 =>
 some y67_22)))))))) 0))) ([], 0))
noncomputable def index_Drop_1 (x_0 : IndexEntry) (a_1 : Str) : Option Bool :=
 some (decide (x_0.path = a_1))
noncomputable def slices_IndexFunc_index_Entry_index_Entry_v2 (s_0 : List IndexEntry) (f_1_0 : Str) : Option Int :=
 iter (fun (x8_1 : Int) =>
 if x8_1 < (s_0.length : Int) then ((at_ s_0 x8_1).bind (fun z14_2 =>
 (Sh.index_Drop_1 z14_2 f_1_0).bind (fun y16_3 =>
 if y16_3 = true then (up (some x8_1))
 else (gd (I64 (x8_1 + 1)) (
 go (x8_1 + 1))))))
 else (up (some (-1)))) 0
noncomputable def slices_DeleteFunc_index_Entry_index_Entry_v2 (s_0 : List IndexEntry) (del_1_0 : Str) : Option (List IndexEntry) :=
 (Sh.slices_IndexFunc_index_Entry_index_Entry_v2 s_0 del_1_0).bind (fun y10_1 =>
 if y10_1 = (-1) then (some s_0)
 else (gd (I64 (y10_1 + 1)) (
 iter (fun ((s0_2, i5_3, j6_4) : List IndexEntry × Int × Int) =>
 if j6_4 < (s0_2.length : Int) then (jn (fun ((s0_5, i5_6) : List IndexEntry × Int) =>
 gd (I64 (j6_4 + 1)) (
 go (s0_5, i5_6, (j6_4 + 1)))) (fun k7 => (at_ s0_2 j6_4).bind (fun z24_8 =>
 (Sh.index_Drop_1 z24_8 del_1_0).bind (fun y28_10 =>
 if (!y28_10) = true then ((at_ s0_2 i5_3).bind (fun z33_11 =>
 lt (s0_2.set i5_3.toNat ⟨z24_8.path, z24_8.stage, z24_8.mode, z24_8.data, z24_8.time, z24_8.size⟩) (fun ys4_13 =>
 gd (I64 (i5_3 + 1)) (
 k7 (ys4_13, (i5_3 + 1))))))
 else (k7 (s0_2, i5_3))))))
 else (up (gd ((0 : Int) ≤ i5_3 ∧ i5_3 ≤ (s0_2.length : Int)) (
 lt (s0_2.take i5_3.toNat) (fun ys3_16 =>
 some ys3_16))))) (s_0, y10_1, (y10_1 + 1)))))
noncomputable def index_Drop (l_0 : List IndexEntry) (p_1 : Str) : Option (List IndexEntry) :=
 (Sh.slices_Clone_index_Entry_index_Entry l_0).bind (fun y6_2 =>
 (Sh.slices_DeleteFunc_index_Entry_index_Entry_v2 y6_2 p_1).bind (fun y8_3 =>
 (Sh.slices_Clip_index_Entry_index_Entry y8_3).bind (fun y9_4 =>
 some y9_4)))
noncomputable def files_Row_Cut_1 (f_0 : FilesFile) (a_1 : Str) : Option Bool :=
 some (decide (f_0.path = a_1))
noncomputable def slices_IndexFunc_files_Row_files_File_v3 (s_0 : List FilesFile) (f_1_0 : Str) : Option Int :=
 iter (fun (x8_1 : Int) =>
 if x8_1 < (s_0.length : Int) then ((at_ s_0 x8_1).bind (fun z14_2 =>
 (Sh.files_Row_Cut_1 z14_2 f_1_0).bind (fun y16_3 =>
 if y16_3 = true then (up (some x8_1))
 else (gd (I64 (x8_1 + 1)) (
 go (x8_1 + 1))))))
 else (up (some (-1)))) 0
noncomputable def slices_DeleteFunc_files_Row_files_File_v2 (s_0 : List FilesFile) (del_1_0 : Str) : Option (List FilesFile) :=
 (Sh.slices_IndexFunc_files_Row_files_File_v3 s_0 del_1_0).bind (fun y10_1 =>
 if y10_1 = (-1) then (some s_0)
 else (gd (I64 (y10_1 + 1)) (
 iter (fun ((s0_2, i5_3, j6_4) : List FilesFile × Int × Int) =>
 if j6_4 < (s0_2.length : Int) then (jn (fun ((s0_5, i5_6) : List FilesFile × Int) =>
 gd (I64 (j6_4 + 1)) (
 go (s0_5, i5_6, (j6_4 + 1)))) (fun k7 => (at_ s0_2 j6_4).bind (fun z24_8 =>
 (Sh.files_Row_Cut_1 z24_8 del_1_0).bind (fun y28_10 =>
 if (!y28_10) = true then ((at_ s0_2 i5_3).bind (fun z33_11 =>
 lt (s0_2.set i5_3.toNat ⟨z24_8.path, z24_8.mode, z24_8.data⟩) (fun ys4_13 =>
 gd (I64 (i5_3 + 1)) (
 k7 (ys4_13, (i5_3 + 1))))))
 else (k7 (s0_2, i5_3))))))
 else (up (gd ((0 : Int) ≤ i5_3 ∧ i5_3 ≤ (s0_2.length : Int)) (
 lt (s0_2.take i5_3.toNat) (fun ys3_16 =>
 some ys3_16))))) (s_0, y10_1, (y10_1 + 1)))))
noncomputable def files_Row_Cut (r_0 : List FilesFile) (p_1 : Str) : Option (List FilesFile) :=
 (Sh.slices_Clone_files_Row_files_File r_0).bind (fun y6_2 =>
 (Sh.slices_DeleteFunc_files_Row_files_File_v2 y6_2 p_1).bind (fun y8_3 =>
 (Sh.slices_Clip_files_Row_files_File y8_3).bind (fun y9_4 =>
 some y9_4)))
noncomputable def plan_lay (r_0 : TmergeResultP) (ix_1 : List IndexEntry) (p_2 : Str) : Option (List IndexEntry) :=
 (Sh.slices_Contains_string_string r_0.conflicts p_2).bind (fun y13_2 =>
 if y13_2 = true then (none)
 else ((Sh.plan_of r_0.files p_2).bind (fun y33_3 =>
 if (!y33_3.is) = true then (some ix_1)
 else ((Sh.index_Put ix_1 (⟨p_2, 0, y33_3.file_mode, y33_3.file_data, 0, 0⟩ : IndexEntry)).bind (fun y47_5 =>
 some y47_5)))))
noncomputable def plan_Apply (head_0 : List FilesFile) (r_1 : TmergeResultP) (ix_2 : List IndexEntry) (work_3 : List FilesFile) : Option (List IndexEntry × List FilesFile × Err) :=
 (Sh.plan_Lost head_0 r_1 ix_2 work_3).bind (fun y22_2 =>
 if 0 < (y22_2.length : Int) then ((Sh.slices_Clone_index_Entry_index_Entry ix_2).bind (fun y27_3 =>
 (Sh.slices_Clip_index_Entry_index_Entry y27_3).bind (fun y28_4 =>
 (Sh.slices_Clone_files_Row_files_File work_3).bind (fun y30_5 =>
 (Sh.slices_Clip_files_Row_files_File y30_5).bind (fun y31_6 =>
 some (y28_4, y31_6, (Err.fault [112, 97, 116, 104] (y22_2.length : Int) (Err.no 8))))))))
 else ((Sh.plan_touched head_0 r_1).bind (fun y40_8 =>
 (Sh.slices_Clone_index_Entry_index_Entry ix_2).bind (fun y42_9 =>
 (Sh.slices_Clone_files_Row_files_File work_3).bind (fun y44_10 =>
 iter (fun ((ix2_11, work3_12, x47_13) : List IndexEntry × List FilesFile × Int) =>
 if x47_13 < (y40_8.length : Int) then ((at_ y40_8 x47_13).bind (fun z49_14 =>
 (Sh.index_Drop ix2_11 z49_14).bind (fun y53_15 =>
 (Sh.files_Row_Cut work3_12 z49_14).bind (fun y56_16 =>
 gd (I64 (x47_13 + 1)) (
 go (y53_15, y56_16, (x47_13 + 1)))))))
 else (up (iter (fun ((ix2_17, work3_18, x60_19) : List IndexEntry × List FilesFile × Int) =>
 if x60_19 < (y40_8.length : Int) then ((at_ y40_8 x60_19).bind (fun z62_20 =>
 (Sh.plan_lay r_1 ix2_17 z62_20).bind (fun y67_21 =>
 (Sh.plan_of r_1.files z62_20).bind (fun y71_22 =>
 if y71_22.is = true then ((Sh.files_Row_Put work3_18 (⟨y71_22.file_path, y71_22.file_mode, y71_22.file_data⟩ : FilesFile)).bind (fun y77_24 =>
 gd (I64 (x60_19 + 1)) (
 go (y67_21, y77_24, (x60_19 + 1)))))
 else (gd (I64 (x60_19 + 1)) (
 go (y67_21, work3_18, (x60_19 + 1))))))))
 else (up ((Sh.slices_Clip_index_Entry_index_Entry ix2_17).bind (fun y80_25 =>
 (Sh.slices_Clip_files_Row_files_File work3_18).bind (fun y82_26 =>
 some (y80_25, y82_26, Err.nil)))))) (ix2_11, work3_12, 0)))) (y42_9, y44_10, 0))))))
noncomputable def repo_full (s_0 : StateStateP) : Option Bool :=
 some (decide (64 < (s_0.now_work.length : Int)))
noncomputable def repo_laid (s_0 : StateStateP) (r_1 : TmergeResultP) : Option (StateStateP × Err) :=
 (Sh.repo_head s_0).bind (fun y11_4 =>
 (Sh.plan_Apply y11_4 r_1 s_0.now_index s_0.now_work).bind (fun y19_5 =>
 if y19_5.2.2.isNil = true then ((Sh.repo_full (⟨y19_5.2.1, y19_5.1, s_0.now_refs, s_0.now_head_branch, s_0.now_head_commit, s_0.now_seq_kind, s_0.now_seq_other, s_0.now_seq_text, s_0.now_seq_doing, s_0.now_seq_todo, s_0.now_seq_made, s_0.now_seq_branch, s_0.now_seq_head_branch, s_0.now_seq_head_commit, s_0.now_seq_index, s_0.now_seq_work, s_0.now_stash, s_0.commits, s_0.log_back, s_0.log_forth, s_0.time⟩ : StateStateP)).bind (fun y34_6 =>
 if y34_6 = true then (none)
 else (some (⟨y19_5.2.1, y19_5.1, s_0.now_refs, s_0.now_head_branch, s_0.now_head_commit, s_0.now_seq_kind, s_0.now_seq_other, s_0.now_seq_text, s_0.now_seq_doing, s_0.now_seq_todo, s_0.now_seq_made, s_0.now_seq_branch, s_0.now_seq_head_branch, s_0.now_seq_head_commit, s_0.now_seq_index, s_0.now_seq_work, s_0.now_stash, s_0.commits, s_0.log_back, s_0.log_forth, s_0.time⟩, Err.nil))))
 else (some (s_0, y19_5.2.2))))
noncomputable def repo_change (s_0 : StateStateP) (c_1 : CmdCmdP) : Option (StateStateP × Err) :=
 (Sh.repo_to s_0 c_1).bind (fun y13_4 =>
 if y13_4.2.isNil = true then ((Sh.state_Tree s_0 y13_4.1.commit).bind (fun y23_6 =>
 jn (fun ((c0_8, c1_9, c2_10, c3_11, c4_12, c5_13, c6_14, c7_15, c8_16, c9_17, c10_18, c11_19, c12_20, c13_21, c14_22, c15_23, c16_24, c17_25, c18_26, c19_27, c20_28) : List FilesFile × List IndexEntry × List NamesRef × Str × Int × Str × Int × Str × List TodoStep × List TodoStep × Int × Str × Str × Int × List IndexEntry × List FilesFile × List ShelfShelfP × List StateCommitP × List Str × List Str × Int) =>
 jn (fun (x59_33 : Bool) =>
 if x59_33 = true then (none)
 else (some (⟨c0_8, c1_9, c2_10, y13_4.1.branch, y13_4.1.commit, c5_13, c6_14, c7_15, c8_16, c9_17, c10_18, c11_19, c12_20, c13_21, c14_22, c15_23, c16_24, c17_25, c18_26, c19_27, c20_28⟩, Err.nil))) (fun k34 => (Sh.repo_full (⟨c0_8, c1_9, c2_10, c3_11, c4_12, c5_13, c6_14, c7_15, c8_16, c9_17, c10_18, c11_19, c12_20, c13_21, c14_22, c15_23, c16_24, c17_25, c18_26, c19_27, c20_28⟩ : StateStateP)).bind (fun y52_35 =>
 if y52_35 = true then (k34 true)
 else (k34 (decide (256 < (c1_9.length : Int))))))) (fun k29 => if c_1.force = true then ((Sh.repo_forced s_0 y23_6).bind (fun y41_30 =>
 k29 (y41_30.now_work, y41_30.now_index, y41_30.now_refs, y41_30.now_head_branch, y41_30.now_head_commit, y41_30.now_seq_kind, y41_30.now_seq_other, y41_30.now_seq_text, y41_30.now_seq_doing, y41_30.now_seq_todo, y41_30.now_seq_made, y41_30.now_seq_branch, y41_30.now_seq_head_branch, y41_30.now_seq_head_commit, y41_30.now_seq_index, y41_30.now_seq_work, y41_30.now_stash, y41_30.commits, y41_30.log_back, y41_30.log_forth, y41_30.time)))
 else ((Sh.index_Conflicts s_0.now_index).bind (fun y46_31 =>
 if 0 < (y46_31.length : Int) then (none)
 else ((Sh.repo_laid s_0 (⟨y23_6, [], []⟩ : TmergeResultP)).bind (fun y29_32 =>
 if y29_32.2.isNil = true then (k29 (y29_32.1.now_work, y29_32.1.now_index, y29_32.1.now_refs, y29_32.1.now_head_branch, y29_32.1.now_head_commit, y29_32.1.now_seq_kind, y29_32.1.now_seq_other, y29_32.1.now_seq_text, y29_32.1.now_seq_doing, y29_32.1.now_seq_todo, y29_32.1.now_seq_made, y29_32.1.now_seq_branch, y29_32.1.now_seq_head_branch, y29_32.1.now_seq_head_commit, y29_32.1.now_seq_index, y29_32.1.now_seq_work, y29_32.1.now_stash, y29_32.1.commits, y29_32.1.log_back, y29_32.1.log_forth, y29_32.1.time))
 else (some (s_0, y29_32.2)))))))))
 else (none))
noncomputable def slices_Clone_int_int (s_0 : List Int) : Option (List Int) :=
 lt ([] : List Int) (fun y5_2 =>
 gd (y5_2.length + s_0.length ≤ 4294967296) (
 lt (y5_2 ++ s_0) (fun y7_4 =>
 some y7_4)))
noncomputable def slices_Clip_graph_Graph_int (s_0 : List (List Int)) : Option (List (List Int)) :=
 gd ((0 : Int) ≤ (s_0.length : Int) ∧ (s_0.length : Int) ≤ (s_0.length : Int)) (
 lt (s_0.take (s_0.length : Int).toNat) (fun y8_2 =>
 some y8_2))
noncomputable def state_Graph (s_0 : StateStateP) : Option (List (List Int)) :=
 iter (fun ((out3_2, x9_3) : List (List Int) × Int) =>
 if x9_3 < (s_0.commits.length : Int) then ((at_ s_0.commits x9_3).bind (fun z11_4 =>
 (Sh.slices_Clone_int_int z11_4.parents).bind (fun y16_6 =>
 (Sh.slices_Clip_int_int y16_6).bind (fun y17_7 =>
 lt [y17_7] (fun y18_9 =>
 gd (out3_2.length + y18_9.length ≤ 4294967296) (
 lt (out3_2 ++ y18_9) (fun y19_11 =>
 gd (I64 (x9_3 + 1)) (
 go (y19_11, (x9_3 + 1))))))))))
 else (up ((Sh.slices_Clip_graph_Graph_int out3_2).bind (fun y22_12 =>
 some y22_12)))) ([], 0)
noncomputable def repo_clean (s_0 : StateStateP) : Option Bool :=
 (Sh.repo_head s_0).bind (fun y7_2 =>
 (Sh.index_Of y7_2).bind (fun y8_3 =>
 (Sh.index_Same s_0.now_index y8_3).bind (fun y9_4 =>
 some y9_4)))
noncomputable def graph_Graph_seen (g_0 : List (List Int)) (c_1 : List Int) : Option (List Bool) :=
 gd (I64 ((g_0.length : Int) + 1)) (
 gd ((0 : Int) ≤ ((g_0.length : Int) + 1) ∧ ((g_0.length : Int) + 1) ≤ 4294967296) (
 lt (List.replicate ((g_0.length : Int) + 1).toNat false) (fun y11_2 =>
 (Sh.slices_Clone_int_int c_1).bind (fun y13_3 =>
 iter (fun ((out5_4, wait6_5) : List Bool × List Int) =>
 if 0 < (wait6_5.length : Int) then (gd (I64 ((wait6_5.length : Int) - 1)) (
 (at_ wait6_5 ((wait6_5.length : Int) - 1)).bind (fun z21_6 =>
 gd (I64 ((wait6_5.length : Int) - 1)) (
 gd ((0 : Int) ≤ ((wait6_5.length : Int) - 1) ∧ ((wait6_5.length : Int) - 1) ≤ (wait6_5.length : Int)) (
 lt (wait6_5.take ((wait6_5.length : Int) - 1).toNat) (fun y27_8 =>
 if z21_6 < 1 then (go (out5_4, y27_8))
 else (if (g_0.length : Int) < z21_6 then (go (out5_4, y27_8))
 else ((at_ out5_4 z21_6).bind (fun z39_9 =>
 if z39_9 = true then (go (out5_4, y27_8))
 else ((at_ out5_4 z21_6).bind (fun z44_10 =>
 lt (out5_4.set z21_6.toNat true) (fun ys3_12 =>
 gd (I64 (z21_6 - 1)) (
 (at_ g_0 (z21_6 - 1)).bind (fun z49_13 =>
 gd (y27_8.length + z49_13.length ≤ 4294967296) (
 lt (y27_8 ++ z49_13) (fun y51_15 =>
 go (ys3_12, y51_15)))))))))))))))))
 else (up (some out5_4))) (y11_2, y13_3)))))
noncomputable def graph_Graph_Is (g_0 : List (List Int)) (a_1 : Int) (c_2 : Int) : Option Bool :=
 if 1 ≤ a_1 then (if a_1 ≤ (g_0.length : Int) then (lt [c_2] (fun y18_2 =>
 (Sh.graph_Graph_seen g_0 y18_2).bind (fun y19_3 =>
 (at_ y19_3 a_1).bind (fun z21_4 =>
 some z21_4))))
 else (some false))
 else (some false)
noncomputable def graph_row (l_0 : List Bool) : Option (List Int) :=
 iter (fun ((out3_1, x8_2) : List Int × Int) =>
 if x8_2 < (l_0.length : Int) then ((at_ l_0 x8_2).bind (fun z11_3 =>
 if z11_3 = true then (lt [x8_2] (fun y16_5 =>
 gd (out3_1.length + y16_5.length ≤ 4294967296) (
 lt (out3_1 ++ y16_5) (fun y17_7 =>
 gd (I64 (x8_2 + 1)) (
 go (y17_7, (x8_2 + 1)))))))
 else (gd (I64 (x8_2 + 1)) (
 go (out3_1, (x8_2 + 1))))))
 else (up ((Sh.slices_Clip_int_int out3_1).bind (fun y20_8 =>
 some y20_8)))) ([], 0)
noncomputable def graph_Graph_Bases (g_0 : List (List Int)) (a_1 : Int) (b_2 : Int) : Option (List Int) :=
 lt [a_1] (fun y15_2 =>
 (Sh.graph_Graph_seen g_0 y15_2).bind (fun y16_3 =>
 lt [b_2] (fun y19_5 =>
 (Sh.graph_Graph_seen g_0 y19_5).bind (fun y20_6 =>
 iter (fun ((x7_7, parents9_8, x23_9) : List Bool × List Int × Int) =>
 if x23_9 < (y16_3.length : Int) then (jn (fun (x7_10 : List Bool) =>
 (at_ x7_10 x23_9).bind (fun z41_20 =>
 if z41_20 = true then (gd (I64 (x23_9 - 1)) (
 (at_ g_0 (x23_9 - 1)).bind (fun z47_21 =>
 gd (parents9_8.length + z47_21.length ≤ 4294967296) (
 lt (parents9_8 ++ z47_21) (fun y49_23 =>
 gd (I64 (x23_9 + 1)) (
 go (x7_10, y49_23, (x23_9 + 1))))))))
 else (gd (I64 (x23_9 + 1)) (
 go (x7_10, parents9_8, (x23_9 + 1)))))) (fun k11 => (at_ x7_7 x23_9).bind (fun z30_12 =>
 if z30_12 = true then ((at_ y20_6 x23_9).bind (fun z35_13 =>
 (at_ x7_7 x23_9).bind (fun z38_14 =>
 lt (x7_7.set x23_9.toNat z35_13) (fun ys13_16 =>
 k11 ys13_16))))
 else ((at_ x7_7 x23_9).bind (fun z38_17 =>
 lt (x7_7.set x23_9.toNat false) (fun ys13_19 =>
 k11 ys13_19))))))
 else (up ((Sh.graph_Graph_seen g_0 parents9_8).bind (fun y53_24 =>
 iter (fun ((x7_25, x56_26) : List Bool × Int) =>
 if x56_26 < (x7_7.length : Int) then ((at_ x7_25 x56_26).bind (fun z63_27 =>
 if z63_27 = true then ((at_ y53_24 x56_26).bind (fun z68_28 =>
 (at_ x7_25 x56_26).bind (fun z72_29 =>
 lt (x7_25.set x56_26.toNat (!z68_28)) (fun ys14_31 =>
 gd (I64 (x56_26 + 1)) (
 go (ys14_31, (x56_26 + 1)))))))
 else ((at_ x7_25 x56_26).bind (fun z72_32 =>
 lt (x7_25.set x56_26.toNat false) (fun ys14_34 =>
 gd (I64 (x56_26 + 1)) (
 go (ys14_34, (x56_26 + 1))))))))
 else (up ((Sh.graph_row x7_25).bind (fun y75_35 =>
 some y75_35)))) (x7_7, 0))))) (y16_3, [], 0)))))
noncomputable def graph_Graph_Base (g_0 : List (List Int)) (a_1 : Int) (b_2 : Int) : Option Int :=
 (Sh.graph_Graph_Bases g_0 a_1 b_2).bind (fun y11_1 =>
 if (y11_1.length : Int) = 0 then (none)
 else (gd (I64 ((y11_1.length : Int) - 1)) (
 (at_ y11_1 ((y11_1.length : Int) - 1)).bind (fun z19_2 =>
 some z19_2))))
noncomputable def tmerge_of (r_0 : List FilesFile) (p_1 : Str) : Option TmergeOne :=
 (Sh.files_Row_Get r_0 p_1).bind (fun y10_2 =>
 some ⟨y10_2.1.path, y10_2.1.mode, y10_2.1.data, y10_2.2⟩)
noncomputable def tmerge_One (p_0 : Str) (base_1 : List FilesFile) (ours_2 : List FilesFile) (theirs_3 : List FilesFile) (a_4 : Str) (b_5 : Str) : Option (FilesFile × Bool × Bool) :=
 (Sh.tmerge_of base_1 p_0).bind (fun y20_2 =>
 (Sh.tmerge_of ours_2 p_0).bind (fun y23_3 =>
 (Sh.tmerge_of theirs_3 p_0).bind (fun y26_4 =>
 jn (fun (x27_8 : Bool) =>
 if x27_8 = true then (some (⟨y23_3.file_path, y23_3.file_mode, y23_3.file_data⟩, y23_3.is, false))
 else (if y20_2.file_path = y23_3.file_path ∧ y20_2.file_mode = y23_3.file_mode ∧ y20_2.file_data = y23_3.file_data ∧ y20_2.is = y23_3.is then (some (⟨y26_4.file_path, y26_4.file_mode, y26_4.file_data⟩, y26_4.is, false))
 else (jn (fun (x48_10 : Bool) =>
 if x48_10 = true then (none)
 else (if y23_3.is = true then (none)
 else (none))) (fun k11 => if y23_3.is = true then (k11 y26_4.is)
 else (k11 false))))) (fun k9 => if y23_3.file_path = y26_4.file_path ∧ y23_3.file_mode = y26_4.file_mode ∧ y23_3.file_data = y26_4.file_data ∧ y23_3.is = y26_4.is then (k9 true)
 else (k9 (decide (y20_2.file_path = y26_4.file_path ∧ y20_2.file_mode = y26_4.file_mode ∧ y20_2.file_data = y26_4.file_data ∧ y20_2.is = y26_4.is)))))))
noncomputable def tmerge_fault_1 (g_0 : FilesFile) (a_1 : FilesFile) : Option Bool :=
 (Sh.path_Clash g_0.path a_1.path).bind (fun y8_2 =>
 some y8_2)
noncomputable def slices_IndexFunc_files_Row_files_File_v4 (s_0 : List FilesFile) (f_1_0 : FilesFile) : Option Int :=
 iter (fun (x8_1 : Int) =>
 if x8_1 < (s_0.length : Int) then ((at_ s_0 x8_1).bind (fun z14_2 =>
 (Sh.tmerge_fault_1 z14_2 f_1_0).bind (fun y16_3 =>
 if y16_3 = true then (up (some x8_1))
 else (gd (I64 (x8_1 + 1)) (
 go (x8_1 + 1))))))
 else (up (some (-1)))) 0
noncomputable def slices_ContainsFunc_files_Row_files_File_v2 (s_0 : List FilesFile) (f_1_0 : FilesFile) : Option Bool :=
 (Sh.slices_IndexFunc_files_Row_files_File_v4 s_0 f_1_0).bind (fun y7_1 =>
 some (decide (0 ≤ y7_1)))
noncomputable def tmerge_fault (r_0 : List FilesFile) : Option Err :=
 if 64 < (r_0.length : Int) then (none)
 else (iter (fun (x14_1 : Int) =>
 if x14_1 < (r_0.length : Int) then ((at_ r_0 x14_1).bind (fun z17_2 =>
 gd ((0 : Int) ≤ x14_1 ∧ x14_1 ≤ (r_0.length : Int)) (
 lt (r_0.take x14_1.toNat) (fun y21_5 =>
 (Sh.slices_ContainsFunc_files_Row_files_File_v2 y21_5 z17_2).bind (fun y23_6 =>
 if y23_6 = true then (none)
 else (gd (I64 (x14_1 + 1)) (
 go (x14_1 + 1))))))))
 else (up (some Err.nil))) 0)
noncomputable def tmerge_Merge (base_0 : List FilesFile) (ours_1 : List FilesFile) (theirs_2 : List FilesFile) (a_3 : Str) (b_4 : Str) : Option (TmergeResultP × Err) :=
 lt [base_0, ours_1, theirs_2] (fun y25_3 =>
 iter (fun (x27_4 : Int) =>
 if x27_4 < (y25_3.length : Int) then ((at_ y25_3 x27_4).bind (fun z29_5 =>
 (Sh.files_Row_Check z29_5).bind (fun y32_6 =>
 if y32_6.isNil = true then (gd (I64 (x27_4 + 1)) (
 go (x27_4 + 1)))
 else (none))))
 else (up (lt [base_0, ours_1, theirs_2] (fun y41_9 =>
 (Sh.files_Paths y41_9).bind (fun y42_10 =>
 iter (fun ((x44_11, c0_12) : Int × List FilesFile) =>
 if x44_11 < (y42_10.length : Int) then ((at_ y42_10 x44_11).bind (fun z46_13 =>
 (Sh.tmerge_One z46_13 base_0 ours_1 theirs_2 a_3 b_4).bind (fun y55_14 =>
 jn (fun (c0_16 : List FilesFile) =>
 if y55_14.2.2 = true then (none)
 else (gd (I64 (x44_11 + 1)) (
 go ((x44_11 + 1), c0_16)))) (fun k17 => if y55_14.2.1 = true then (lt [⟨y55_14.1.path, y55_14.1.mode, y55_14.1.data⟩] (fun y63_19 =>
 gd (c0_12.length + y63_19.length ≤ 4294967296) (
 lt (c0_12 ++ y63_19) (fun y64_21 =>
 k17 y64_21))))
 else (k17 c0_12)))))
 else (up ((Sh.tmerge_fault c0_12).bind (fun y86_22 =>
 if y86_22.isNil = true then ((Sh.slices_Clip_files_Row_files_File c0_12).bind (fun y93_23 =>
 (Sh.slices_Clip_index_Entry_index_Entry []).bind (fun y96_24 =>
 (Sh.slices_Clip_string_string []).bind (fun y99_25 =>
 some (⟨y93_23, y96_24, y99_25⟩, Err.nil)))))
 else (none))))) (0, ([] : List FilesFile))))))) 0)
noncomputable def repo_merged (s_0 : StateStateP) (base_1 : List FilesFile) (theirs_2 : List FilesFile) (name_3 : Str) : Option (StateStateP × TmergeResultP × Err) :=
 (Sh.repo_head s_0).bind (fun y17_4 =>
 (Sh.tmerge_Merge base_1 y17_4 theirs_2 [72, 69, 65, 68] name_3).bind (fun y20_5 =>
 if y20_5.2.isNil = true then ((Sh.repo_laid s_0 y20_5.1).bind (fun y31_7 =>
 some (y31_7.1, ⟨y20_5.1.files, y20_5.1.entries, y20_5.1.conflicts⟩, y31_7.2)))
 else (none)))
noncomputable def repo_merge (s_0 : StateStateP) (name_1 : Str) : Option (StateStateP × Bool × Err) :=
 (Sh.repo_find s_0 name_1).bind (fun y18_3 =>
 (Sh.state_Graph s_0).bind (fun y26_4 =>
 if (!y18_3.2) = true then (none)
 else (if s_0.now_head_commit = 0 then (none)
 else ((Sh.repo_clean s_0).bind (fun y39_5 =>
 if (!y39_5) = true then (none)
 else ((at_ s_0.now_refs y18_3.1).bind (fun z47_6 =>
 (Sh.graph_Graph_Is y26_4 z47_6.commit s_0.now_head_commit).bind (fun y53_7 =>
 if y53_7 = true then (some (s_0, false, (Err.no 10)))
 else ((Sh.state_Tree s_0 z47_6.commit).bind (fun y58_8 =>
 (Sh.graph_Graph_Is y26_4 s_0.now_head_commit z47_6.commit).bind (fun y62_9 =>
 if y62_9 = true then ((Sh.repo_laid s_0 (⟨y58_8, [], []⟩ : TmergeResultP)).bind (fun y67_10 =>
 if y67_10.2.isNil = true then ((Sh.repo_move y67_10.1 z47_6.commit).bind (fun y76_11 =>
 some (y76_11, false, Err.nil)))
 else (none)))
 else ((Sh.graph_Graph_Base y26_4 s_0.now_head_commit z47_6.commit).bind (fun y83_12 =>
 (Sh.state_Tree s_0 y83_12).bind (fun y84_13 =>
 (Sh.repo_merged s_0 y84_13 y58_8 name_1).bind (fun y87_14 =>
 gd ([109, 101, 114, 103, 101, 32].length + name_1.length ≤ 9223372036854775807) (
 lt ([109, 101, 114, 103, 101, 32] ++ name_1) (fun y92_15 =>
 if y87_14.2.2.isNil = true then (if 0 < (y87_14.2.1.conflicts.length : Int) then (none)
 else ((Sh.repo_room y87_14.1).bind (fun y113_16 =>
 if (!y113_16) = true then (none)
 else (lt [s_0.now_head_commit, z47_6.commit] (fun y122_18 =>
 (Sh.repo_made y87_14.1 y87_14.2.1.files y122_18 y92_15).bind (fun y124_19 =>
 some (y124_19, false, Err.nil)))))))
 else (none))))))))))))))))))
noncomputable def repo_idle (s_0 : StateStateP) (c_1 : CmdCmdP) : Option (StateStateP × Bool × Err) :=
 jn (fun ((err6_4, c0_5, c1_6, c2_7, c3_8, c4_9, c5_10, c6_11, c7_12, c8_13, c9_14, c10_15, c11_16, c12_17, c13_18, c14_19, c15_20, c16_21, c17_22, c18_23, c19_24, c20_25) : Err × List FilesFile × List IndexEntry × List NamesRef × Str × Int × Str × Int × Str × List TodoStep × List TodoStep × Int × Str × Str × Int × List IndexEntry × List FilesFile × List ShelfShelfP × List StateCommitP × List Str × List Str × Int) =>
 some (⟨c0_5, c1_6, c2_7, c3_8, c4_9, c5_10, c6_11, c7_12, c8_13, c9_14, c10_15, c11_16, c12_17, c13_18, c14_19, c15_20, c16_21, c17_22, c18_23, c19_24, c20_25⟩, false, err6_4)) (fun k26 => jn (fun (_ : Unit) =>
 none) (fun k27 => jn (fun (_ : Unit) =>
 none) (fun k28 => if c_1.verb = [98, 114, 97, 110, 99, 104] then ((Sh.repo_branch s_0 c_1.name).bind (fun y35_29 =>
 k26 (y35_29.2, y35_29.1.now_work, y35_29.1.now_index, y35_29.1.now_refs, y35_29.1.now_head_branch, y35_29.1.now_head_commit, y35_29.1.now_seq_kind, y35_29.1.now_seq_other, y35_29.1.now_seq_text, y35_29.1.now_seq_doing, y35_29.1.now_seq_todo, y35_29.1.now_seq_made, y35_29.1.now_seq_branch, y35_29.1.now_seq_head_branch, y35_29.1.now_seq_head_commit, y35_29.1.now_seq_index, y35_29.1.now_seq_work, y35_29.1.now_stash, y35_29.1.commits, y35_29.1.log_back, y35_29.1.log_forth, y35_29.1.time)))
 else (if c_1.verb = [100, 101, 108, 101, 116, 101] then (none)
 else (if c_1.verb = [115, 119, 105, 116, 99, 104] then ((Sh.repo_change s_0 c_1).bind (fun y48_30 =>
 k26 (y48_30.2, y48_30.1.now_work, y48_30.1.now_index, y48_30.1.now_refs, y48_30.1.now_head_branch, y48_30.1.now_head_commit, y48_30.1.now_seq_kind, y48_30.1.now_seq_other, y48_30.1.now_seq_text, y48_30.1.now_seq_doing, y48_30.1.now_seq_todo, y48_30.1.now_seq_made, y48_30.1.now_seq_branch, y48_30.1.now_seq_head_branch, y48_30.1.now_seq_head_commit, y48_30.1.now_seq_index, y48_30.1.now_seq_work, y48_30.1.now_stash, y48_30.1.commits, y48_30.1.log_back, y48_30.1.log_forth, y48_30.1.time)))
 else (if c_1.verb = [114, 101, 115, 101, 116] then (none)
 else (if c_1.verb = [115, 116, 97, 115, 104] then (none)
 else (if c_1.verb = [115, 104, 101, 108, 118, 101] then (none)
 else (if c_1.verb = [109, 101, 114, 103, 101] then ((Sh.repo_merge s_0 c_1.name).bind (fun y74_31 =>
 some (y74_31.1, y74_31.2.1, y74_31.2.2)))
 else (if c_1.verb = [114, 101, 118, 101, 114, 116] then (k28 ())
 else (if c_1.verb = [112, 105, 99, 107] then (k28 ())
 else (if c_1.verb = [112, 111, 112] then (k27 ())
 else (if c_1.verb = [97, 112, 112, 108, 121] then (k27 ())
 else (none))))))))))))))
noncomputable def repo_run (s_0 : StateStateP) (c_1 : CmdCmdP) : Option (StateStateP × Bool × Err) :=
 jn (fun ((err6_4, c0_5, c1_6, c2_7, c3_8, c4_9, c5_10, c6_11, c7_12, c8_13, c9_14, c10_15, c11_16, c12_17, c13_18, c14_19, c15_20, c16_21, c17_22, c18_23, c19_24, c20_25) : Err × List FilesFile × List IndexEntry × List NamesRef × Str × Int × Str × Int × Str × List TodoStep × List TodoStep × Int × Str × Str × Int × List IndexEntry × List FilesFile × List ShelfShelfP × List StateCommitP × List Str × List Str × Int) =>
 some (⟨c0_5, c1_6, c2_7, c3_8, c4_9, c5_10, c6_11, c7_12, c8_13, c9_14, c10_15, c11_16, c12_17, c13_18, c14_19, c15_20, c16_21, c17_22, c18_23, c19_24, c20_25⟩, false, err6_4)) (fun k26 => if c_1.verb = [97, 100, 100] then ((Sh.repo_add s_0 c_1.name).bind (fun y28_27 =>
 k26 (y28_27.2, y28_27.1.now_work, y28_27.1.now_index, y28_27.1.now_refs, y28_27.1.now_head_branch, y28_27.1.now_head_commit, y28_27.1.now_seq_kind, y28_27.1.now_seq_other, y28_27.1.now_seq_text, y28_27.1.now_seq_doing, y28_27.1.now_seq_todo, y28_27.1.now_seq_made, y28_27.1.now_seq_branch, y28_27.1.now_seq_head_branch, y28_27.1.now_seq_head_commit, y28_27.1.now_seq_index, y28_27.1.now_seq_work, y28_27.1.now_stash, y28_27.1.commits, y28_27.1.log_back, y28_27.1.log_forth, y28_27.1.time)))
 else (if c_1.verb = [114, 109] then (none)
 else (if c_1.verb = [99, 111, 109, 109, 105, 116] then ((Sh.repo_commit s_0 c_1.text).bind (fun y45_28 =>
 k26 (y45_28.2, y45_28.1.now_work, y45_28.1.now_index, y45_28.1.now_refs, y45_28.1.now_head_branch, y45_28.1.now_head_commit, y45_28.1.now_seq_kind, y45_28.1.now_seq_other, y45_28.1.now_seq_text, y45_28.1.now_seq_doing, y45_28.1.now_seq_todo, y45_28.1.now_seq_made, y45_28.1.now_seq_branch, y45_28.1.now_seq_head_branch, y45_28.1.now_seq_head_commit, y45_28.1.now_seq_index, y45_28.1.now_seq_work, y45_28.1.now_stash, y45_28.1.commits, y45_28.1.log_back, y45_28.1.log_forth, y45_28.1.time)))
 else (if c_1.verb = [99, 111, 110, 116, 105, 110, 117, 101] then (none)
 else (if c_1.verb = [115, 107, 105, 112] then (none)
 else (if c_1.verb = [97, 98, 111, 114, 116] then (none)
 else (if c_1.verb = [117, 110, 100, 111] then (none)
 else (if c_1.verb = [114, 101, 100, 111] then (none)
 else (if s_0.now_seq_kind = [] then ((Sh.repo_idle s_0 c_1).bind (fun y18_29 =>
 some (y18_29.1, y18_29.2.1, y18_29.2.2)))
 else (none))))))))))
noncomputable def state_Mark (n_0 : StateNowP) : Option Str :=
 (Sh.state_writer_now (⟨([] : List UInt8)⟩ : StateWriterP) n_0).bind (fun y5_3 =>
 (Sh.codec_Enc_Bytes y5_3).bind (fun y7_4 =>
 some y7_4))
noncomputable def slices_Clone_string_string (s_0 : List Str) : Option (List Str) :=
 lt ([] : List Str) (fun y5_2 =>
 gd (y5_2.length + s_0.length ≤ 4294967296) (
 lt (y5_2 ++ s_0) (fun y7_4 =>
 some y7_4)))
noncomputable def oplog_push (l_0 : List Str) (s_1 : Str) : Option (List Str) :=
 (Sh.slices_Clone_string_string l_0).bind (fun y7_1 =>
 lt [s_1] (fun y9_3 =>
 gd (y7_1.length + y9_3.length ≤ 4294967296) (
 lt (y7_1 ++ y9_3) (fun y10_5 =>
 gd (I64 ((y10_5.length : Int) - 64)) (
 gd ((0 : Int) ≤ (max ((y10_5.length : Int) - 64) 0) ∧ (max ((y10_5.length : Int) - 64) 0) ≤ (y10_5.length : Int)) (
 lt (y10_5.drop (max ((y10_5.length : Int) - 64) 0).toNat) (fun y16_7 =>
 (Sh.slices_Clip_string_string y16_7).bind (fun y17_8 =>
 some y17_8))))))))
noncomputable def oplog_Log_Do (l_0 : OplogLogP) (now_1 : Str) : Option OplogLogP :=
 (Sh.oplog_push l_0.back now_1).bind (fun y8_3 =>
 some ⟨y8_3, []⟩)
noncomputable def repo_Do (s_0 : StateStateP) (c_1 : CmdCmdP) : Option (StateStateP × Err) :=
 (Sh.cmd_Check c_1).bind (fun y11_4 =>
 if y11_4.isNil = true then ((Sh.repo_run s_0 c_1).bind (fun y20_5 =>
 jn (fun (err9_7 : Err) =>
 jn (fun ((c18_13, c19_14) : List Str × List Str) =>
 (Sh.repo_apart (⟨y20_5.1.now_work, y20_5.1.now_index, y20_5.1.now_refs, y20_5.1.now_head_branch, y20_5.1.now_head_commit, y20_5.1.now_seq_kind, y20_5.1.now_seq_other, y20_5.1.now_seq_text, y20_5.1.now_seq_doing, y20_5.1.now_seq_todo, y20_5.1.now_seq_made, y20_5.1.now_seq_branch, y20_5.1.now_seq_head_branch, y20_5.1.now_seq_head_commit, y20_5.1.now_seq_index, y20_5.1.now_seq_work, y20_5.1.now_stash, y20_5.1.commits, c18_13, c19_14, y20_5.1.time⟩ : StateStateP)).bind (fun y55_20 =>
 some (y55_20, err9_7))) (fun k15 => jn (fun (x46_16 : Bool) =>
 if x46_16 = true then ((Sh.state_Mark (⟨s_0.now_work, s_0.now_index, s_0.now_refs, s_0.now_head_branch, s_0.now_head_commit, s_0.now_seq_kind, s_0.now_seq_other, s_0.now_seq_text, s_0.now_seq_doing, s_0.now_seq_todo, s_0.now_seq_made, s_0.now_seq_branch, s_0.now_seq_head_branch, s_0.now_seq_head_commit, s_0.now_seq_index, s_0.now_seq_work, s_0.now_stash⟩ : StateNowP)).bind (fun y51_18 =>
 (Sh.oplog_Log_Do (⟨s_0.log_back, s_0.log_forth⟩ : OplogLogP) y51_18).bind (fun y52_19 =>
 k15 (y52_19.back, y52_19.forth))))
 else (k15 (y20_5.1.log_back, y20_5.1.log_forth))) (fun k17 => if c_1.verb = [117, 110, 100, 111] then (k17 false)
 else (k17 (!decide (c_1.verb = [114, 101, 100, 111])))))) (fun k8 => if y20_5.2.2.isNil = true then (k8 y20_5.2.2)
 else ((Sh.cmd_Verbs).bind (fun y26_9 =>
 (Sh.slices_Index_string_string y26_9 c_1.verb).bind (fun y29_10 =>
 if (!y20_5.2.1) = true then ((Sh.repo_apart s_0).bind (fun y37_12 =>
 some (y37_12, (Err.fault [100, 111] y29_10 y20_5.2.2))))
 else (k8 (Err.fault [100, 111] y29_10 y20_5.2.2))))))))
 else (none))
noncomputable def rectotop_say (s_0 : StateStateP) (line_1 : Str) : Option (StateStateP × Err) :=
 (Sh.cmd_Parse line_1).bind (fun y10_3 =>
 if y10_3.2.isNil = true then ((Sh.repo_Do s_0 y10_3.1).bind (fun y19_5 =>
 some (y19_5.1, y19_5.2)))
 else (none))
noncomputable def rectotop_saved (s_0 : StateStateP) (p_1 : Str) (data_2 : Str) (text_3 : Str) : Option StateStateP :=
 (Sh.rectotop_write s_0 p_1 data_2).bind (fun y12_3 =>
 gd ([97, 100, 100, 32].length + p_1.length ≤ 9223372036854775807) (
 lt ([97, 100, 100, 32] ++ p_1) (fun y16_4 =>
 (Sh.rectotop_say y12_3 y16_4).bind (fun y17_5 =>
 gd ([99, 111, 109, 109, 105, 116, 32].length + text_3.length ≤ 9223372036854775807) (
 lt ([99, 111, 109, 109, 105, 116, 32] ++ text_3) (fun y23_6 =>
 (Sh.rectotop_say y17_5.1 y23_6).bind (fun y24_7 =>
 some y24_7.1)))))))
noncomputable def rectotop_work (s_0 : StateStateP) (p_1 : Str) : Option Str :=
 (Sh.files_Row_Get s_0.now_work p_1).bind (fun y12_2 =>
 if (!y12_2.2) = true then (some [45])
 else (some y12_2.1.data))
noncomputable def rectotop_known  : Option Bool :=
 (Sh.state_New).bind (fun y6_1 =>
 (Sh.rectotop_saved y6_1 [97] [120, 10] [111, 110, 101]).bind (fun y7_2 =>
 (Sh.rectotop_say y7_2 [98, 114, 97, 110, 99, 104, 32, 100, 101, 118]).bind (fun y10_4 =>
 (Sh.rectotop_saved y10_4.1 [98] [121, 10] [116, 119, 111]).bind (fun y14_5 =>
 (Sh.rectotop_say y14_5 [115, 119, 105, 116, 99, 104, 32, 100, 101, 118]).bind (fun y17_6 =>
 (Sh.rectotop_work y17_6.1 [98]).bind (fun y21_7 =>
 (Sh.rectotop_saved y17_6.1 [99] [122, 10] [116, 104, 114, 101, 101]).bind (fun y23_8 =>
 (Sh.rectotop_say y23_8 [109, 101, 114, 103, 101, 32, 109, 97, 105, 110]).bind (fun y26_9 =>
 if y10_4.2.isNil = true then (if y17_6.2.isNil = true then (if y26_9.2.isNil = true then (if y21_7 = [45] then ((Sh.rectotop_work y26_9.1 [98]).bind (fun y45_10 =>
 if y45_10 = [121, 10] then (if (y26_9.1.commits.length : Int) = 4 then ((at_ y26_9.1.commits 3).bind (fun z57_11 =>
 some (decide ((z57_11.parents.length : Int) = 2))))
 else (some false))
 else (some false)))
 else (some false))
 else (some false))
 else (some false))
 else (some false)))))))))
noncomputable def rectotop_word (n_0 : Int) : Option Str :=
 gd ((0 : Int) ≤ n_0 ∧ (26 : Int) ≠ 0) (
 gd (0 ≤ 97 + (n_0 % 26) ∧ 97 + (n_0 % 26) ≤ 255) (
 gd ((0 : Int) ≤ (97 + (n_0 % 26)) ∧ (97 + (n_0 % 26)) ≤ 255) (
 lt (UInt8.ofNat (97 + (n_0 % 26)).toNat) (fun u6_2 =>
 lt [u6_2] (fun y6_3 =>
 gd ([119].length + y6_3.length ≤ 9223372036854775807) (
 lt ([119] ++ y6_3) (fun y8_4 =>
 some y8_4)))))))
noncomputable def slices_Equal_names_Ref_names_Ref (s1_0 : List NamesRef) (s2_1 : List NamesRef) : Option Bool :=
 if (s1_0.length : Int) = (s2_1.length : Int) then (iter (fun (x13_1 : Int) =>
 if x13_1 < (s1_0.length : Int) then ((at_ s1_0 x13_1).bind (fun z18_2 =>
 (at_ s2_1 x13_1).bind (fun z22_3 =>
 if z18_2.name = z22_3.name ∧ z18_2.commit = z22_3.commit then (gd (I64 (x13_1 + 1)) (
 go (x13_1 + 1)))
 else (up (some false)))))
 else (up (some true))) 0)
 else (some false)
noncomputable def slices_Equal_todo_Step_todo_Step (s1_0 : List TodoStep) (s2_1 : List TodoStep) : Option Bool :=
 if (s1_0.length : Int) = (s2_1.length : Int) then (iter (fun (x13_1 : Int) =>
 if x13_1 < (s1_0.length : Int) then ((at_ s1_0 x13_1).bind (fun z18_2 =>
 (at_ s2_1 x13_1).bind (fun z22_3 =>
 if z18_2.verb = z22_3.verb ∧ z18_2.commit = z22_3.commit ∧ z18_2.text = z22_3.text then (gd (I64 (x13_1 + 1)) (
 go (x13_1 + 1)))
 else (up (some false)))))
 else (up (some true))) 0)
 else (some false)
noncomputable def state_sameSeq (a_0 : StateSeqP) (b_1 : StateSeqP) : Option Bool :=
 if a_0.kind = b_1.kind then (if a_0.other = b_1.other then (if a_0.text = b_1.text then ((Sh.slices_Equal_todo_Step_todo_Step a_0.doing b_1.doing).bind (fun y29_3 =>
 if y29_3 = true then ((Sh.slices_Equal_todo_Step_todo_Step a_0.todo b_1.todo).bind (fun y36_4 =>
 if y36_4 = true then (if a_0.made = b_1.made then (if a_0.branch = b_1.branch then (if a_0.head_branch = b_1.head_branch ∧ a_0.head_commit = b_1.head_commit then ((Sh.index_Same a_0.index b_1.index).bind (fun y64_5 =>
 if y64_5 = true then ((Sh.files_Row_Same a_0.work b_1.work).bind (fun y71_6 =>
 some y71_6))
 else (some false)))
 else (some false))
 else (some false))
 else (some false))
 else (some false)))
 else (some false)))
 else (some false))
 else (some false))
 else (some false)
noncomputable def shelf_Stack_Same_1 (x_0 : ShelfShelfP) (y_1 : ShelfShelfP) : Option Bool :=
 none
noncomputable def slices_EqualFunc_shelf_Stack_shelf_Stack_shelf_Shelf_shelf_Shelf (s1_0 : List ShelfShelfP) (s2_1 : List ShelfShelfP) : Option Bool :=
 if (s1_0.length : Int) = (s2_1.length : Int) then (iter (fun (x17_1 : Int) =>
 if x17_1 < (s1_0.length : Int) then ((at_ s1_0 x17_1).bind (fun z20_2 =>
 (at_ s2_1 x17_1).bind (fun z24_4 =>
 (Sh.shelf_Stack_Same_1 z20_2 z24_4).bind (fun y29_6 =>
 if (!y29_6) = true then (up (some false))
 else (gd (I64 (x17_1 + 1)) (
 go (x17_1 + 1)))))))
 else (up (some true))) 0)
 else (some false)
noncomputable def shelf_Stack_Same (s_0 : List ShelfShelfP) (t_1 : List ShelfShelfP) : Option Bool :=
 (Sh.slices_EqualFunc_shelf_Stack_shelf_Stack_shelf_Shelf_shelf_Shelf s_0 t_1).bind (fun y7_1 =>
 some y7_1)
noncomputable def state_sameNow (a_0 : StateNowP) (b_1 : StateNowP) : Option Bool :=
 (Sh.files_Row_Same a_0.work b_1.work).bind (fun y9_3 =>
 if y9_3 = true then ((Sh.index_Same a_0.index b_1.index).bind (fun y15_4 =>
 if y15_4 = true then ((Sh.slices_Equal_names_Ref_names_Ref a_0.refs b_1.refs).bind (fun y22_5 =>
 if y22_5 = true then (if a_0.head_branch = b_1.head_branch ∧ a_0.head_commit = b_1.head_commit then ((Sh.state_sameSeq (⟨a_0.seq_kind, a_0.seq_other, a_0.seq_text, a_0.seq_doing, a_0.seq_todo, a_0.seq_made, a_0.seq_branch, a_0.seq_head_branch, a_0.seq_head_commit, a_0.seq_index, a_0.seq_work⟩ : StateSeqP) (⟨b_1.seq_kind, b_1.seq_other, b_1.seq_text, b_1.seq_doing, b_1.seq_todo, b_1.seq_made, b_1.seq_branch, b_1.seq_head_branch, b_1.seq_head_commit, b_1.seq_index, b_1.seq_work⟩ : StateSeqP)).bind (fun y36_6 =>
 if y36_6 = true then ((Sh.shelf_Stack_Same a_0.stash b_1.stash).bind (fun y43_7 =>
 some y43_7))
 else (some false)))
 else (some false))
 else (some false)))
 else (some false)))
 else (some false))
noncomputable def slices_Equal_int_int (s1_0 : List Int) (s2_1 : List Int) : Option Bool :=
 if (s1_0.length : Int) = (s2_1.length : Int) then (iter (fun (x13_1 : Int) =>
 if x13_1 < (s1_0.length : Int) then ((at_ s1_0 x13_1).bind (fun z18_2 =>
 (at_ s2_1 x13_1).bind (fun z22_3 =>
 if z18_2 = z22_3 then (gd (I64 (x13_1 + 1)) (
 go (x13_1 + 1)))
 else (up (some false)))))
 else (up (some true))) 0)
 else (some false)
noncomputable def state_sameCommit (a_0 : StateCommitP) (b_1 : StateCommitP) : Option Bool :=
 (Sh.files_Row_Same a_0.tree b_1.tree).bind (fun y9_3 =>
 if y9_3 = true then ((Sh.slices_Equal_int_int a_0.parents b_1.parents).bind (fun y15_4 =>
 if y15_4 = true then (if a_0.time = b_1.time then (some (decide (a_0.text = b_1.text)))
 else (some false))
 else (some false)))
 else (some false))
noncomputable def slices_EqualFunc_state_Commit_state_Commit_state_Commit_state_Commit (s1_0 : List StateCommitP) (s2_1 : List StateCommitP) : Option Bool :=
 if (s1_0.length : Int) = (s2_1.length : Int) then (iter (fun (x17_1 : Int) =>
 if x17_1 < (s1_0.length : Int) then ((at_ s1_0 x17_1).bind (fun z20_2 =>
 (at_ s2_1 x17_1).bind (fun z24_4 =>
 (Sh.state_sameCommit z20_2 z24_4).bind (fun y29_6 =>
 if (!y29_6) = true then (up (some false))
 else (gd (I64 (x17_1 + 1)) (
 go (x17_1 + 1)))))))
 else (up (some true))) 0)
 else (some false)
noncomputable def state_Unmark (s_0 : Str) : Option (StateNowP × Err) :=
 gd (s_0.length ≤ 4294967296) (
 lt s_0 (fun y8_3 =>
 (Sh.codec_Of y8_3).bind (fun y9_4 =>
 (Sh.state_reader_now (⟨false⟩ : StateReader) y9_4).bind (fun y13_6 =>
 (Sh.state_reader_end y13_6.2.2 y13_6.2.1).bind (fun y15_8 =>
 if y15_8.isNil = true then (some (y13_6.1, Err.nil))
 else (none))))))
noncomputable def state_sameMark (a_0 : Str) (b_1 : Str) : Option Bool :=
 (Sh.state_Unmark a_0).bind (fun y11_1 =>
 (Sh.state_Unmark b_1).bind (fun y16_3 =>
 jn (fun (x24_5 : Bool) =>
 if x24_5 = true then (none)
 else ((Sh.state_sameNow y11_1.1 y16_3.1).bind (fun y30_7 =>
 some y30_7))) (fun k6 => if y11_1.2.isNil = true then (k6 (!decide (y16_3.2.isNil = true)))
 else (k6 true))))
noncomputable def slices_EqualFunc_string_string_string_string (s1_0 : List Str) (s2_1 : List Str) : Option Bool :=
 if (s1_0.length : Int) = (s2_1.length : Int) then (iter (fun (x17_1 : Int) =>
 if x17_1 < (s1_0.length : Int) then ((at_ s1_0 x17_1).bind (fun z20_2 =>
 (at_ s2_1 x17_1).bind (fun z24_3 =>
 (Sh.state_sameMark z20_2 z24_3).bind (fun y29_4 =>
 if (!y29_4) = true then (up (some false))
 else (gd (I64 (x17_1 + 1)) (
 go (x17_1 + 1)))))))
 else (up (some true))) 0)
 else (some false)
noncomputable def state_Same (a_0 : StateStateP) (b_1 : StateStateP) : Option Bool :=
 (Sh.state_sameNow (⟨a_0.now_work, a_0.now_index, a_0.now_refs, a_0.now_head_branch, a_0.now_head_commit, a_0.now_seq_kind, a_0.now_seq_other, a_0.now_seq_text, a_0.now_seq_doing, a_0.now_seq_todo, a_0.now_seq_made, a_0.now_seq_branch, a_0.now_seq_head_branch, a_0.now_seq_head_commit, a_0.now_seq_index, a_0.now_seq_work, a_0.now_stash⟩ : StateNowP) (⟨b_1.now_work, b_1.now_index, b_1.now_refs, b_1.now_head_branch, b_1.now_head_commit, b_1.now_seq_kind, b_1.now_seq_other, b_1.now_seq_text, b_1.now_seq_doing, b_1.now_seq_todo, b_1.now_seq_made, b_1.now_seq_branch, b_1.now_seq_head_branch, b_1.now_seq_head_commit, b_1.now_seq_index, b_1.now_seq_work, b_1.now_stash⟩ : StateNowP)).bind (fun y9_3 =>
 if y9_3 = true then ((Sh.slices_EqualFunc_state_Commit_state_Commit_state_Commit_state_Commit a_0.commits b_1.commits).bind (fun y15_4 =>
 if y15_4 = true then (if a_0.time = b_1.time then ((Sh.slices_EqualFunc_string_string_string_string a_0.log_back b_1.log_back).bind (fun y31_5 =>
 if y31_5 = true then ((Sh.slices_EqualFunc_string_string_string_string a_0.log_forth b_1.log_forth).bind (fun y40_6 =>
 some y40_6))
 else (some false)))
 else (some false))
 else (some false)))
 else (some false))
noncomputable def rectotop_TopForward (n_0 : Int) : Option Bool :=
 (Sh.rectotop_known).bind (fun y10_1 =>
 if (!y10_1) = true then (none)
 else ((Sh.state_New).bind (fun y12_2 =>
 (Sh.rectotop_saved y12_2 [102] [48] [98, 97, 115, 101]).bind (fun y13_3 =>
 (Sh.rectotop_say y13_3 [98, 114, 97, 110, 99, 104, 32, 100, 101, 118]).bind (fun y16_5 =>
 (Sh.rectotop_say y16_5.1 [115, 119, 105, 116, 99, 104, 32, 100, 101, 118]).bind (fun y21_6 =>
 gd ((0 : Int) ≤ n_0 ∧ (6 : Int) ≠ 0) (
 iter (fun ((i5_7, c0_8, c1_9, c2_10, c3_11, c4_12, c5_13, c6_14, c7_15, c8_16, c9_17, c10_18, c11_19, c12_20, c13_21, c14_22, c15_23, c16_24, c17_25, c18_26, c19_27, c20_28) : Int × List FilesFile × List IndexEntry × List NamesRef × Str × Int × Str × Int × Str × List TodoStep × List TodoStep × Int × Str × Str × Int × List IndexEntry × List FilesFile × List ShelfShelfP × List StateCommitP × List Str × List Str × Int) =>
 if i5_7 ≤ (IntKind.wrap .i64 (n_0 % 6)) then (gd (0 ≤ i5_7 ∧ i5_7 ≤ 255) (
 (Sh.rectotop_word i5_7).bind (fun y35_29 =>
 (Sh.rectotop_saved (⟨c0_8, c1_9, c2_10, c3_11, c4_12, c5_13, c6_14, c7_15, c8_16, c9_17, c10_18, c11_19, c12_20, c13_21, c14_22, c15_23, c16_24, c17_25, c18_26, c19_27, c20_28⟩ : StateStateP) [102] y35_29 [109, 111, 114, 101]).bind (fun y36_30 =>
 gd (I64 (i5_7 + 1)) (
 go ((i5_7 + 1), y36_30.now_work, y36_30.now_index, y36_30.now_refs, y36_30.now_head_branch, y36_30.now_head_commit, y36_30.now_seq_kind, y36_30.now_seq_other, y36_30.now_seq_text, y36_30.now_seq_doing, y36_30.now_seq_todo, y36_30.now_seq_made, y36_30.now_seq_branch, y36_30.now_seq_head_branch, y36_30.now_seq_head_commit, y36_30.now_seq_index, y36_30.now_seq_work, y36_30.now_stash, y36_30.commits, y36_30.log_back, y36_30.log_forth, y36_30.time))))))
 else (up ((Sh.rectotop_say (⟨c0_8, c1_9, c2_10, c3_11, c4_12, c5_13, c6_14, c7_15, c8_16, c9_17, c10_18, c11_19, c12_20, c13_21, c14_22, c15_23, c16_24, c17_25, c18_26, c19_27, c20_28⟩ : StateStateP) [115, 119, 105, 116, 99, 104, 32, 109, 97, 105, 110]).bind (fun y39_31 =>
 (Sh.rectotop_say y39_31.1 [109, 101, 114, 103, 101, 32, 100, 101, 118]).bind (fun y44_32 =>
 if (IntKind.wrap .i64 (n_0 % 6)) = 0 then (if endNo y44_32.2 = some 10 then ((Sh.state_Same y39_31.1 y44_32.1).bind (fun y55_34 =>
 some y55_34))
 else (some false))
 else ((Sh.rectotop_say y44_32.1 [109, 101, 114, 103, 101, 32, 100, 101, 118]).bind (fun y59_35 =>
 if y44_32.2.isNil = true then (gd (I64 ((IntKind.wrap .i64 (n_0 % 6)) + 1)) (
 if (y44_32.1.commits.length : Int) = ((IntKind.wrap .i64 (n_0 % 6)) + 1) then (if y44_32.1.now_head_branch = [109, 97, 105, 110] then (gd (I64 ((IntKind.wrap .i64 (n_0 % 6)) + 1)) (
 if y44_32.1.now_head_commit = ((IntKind.wrap .i64 (n_0 % 6)) + 1) then ((Sh.rectotop_work y44_32.1 [102]).bind (fun y90_37 =>
 gd (0 ≤ (IntKind.wrap .i64 (n_0 % 6)) ∧ (IntKind.wrap .i64 (n_0 % 6)) ≤ 255) (
 (Sh.rectotop_word (IntKind.wrap .i64 (n_0 % 6))).bind (fun y93_38 =>
 if y90_37 = y93_38 then (some (decide (endNo y59_35.2 = some 10)))
 else (some false)))))
 else (some false)))
 else (some false))
 else (some false)))
 else (some false)))))))) (1, y21_6.1.now_work, y21_6.1.now_index, y21_6.1.now_refs, y21_6.1.now_head_branch, y21_6.1.now_head_commit, y21_6.1.now_seq_kind, y21_6.1.now_seq_other, y21_6.1.now_seq_text, y21_6.1.now_seq_doing, y21_6.1.now_seq_todo, y21_6.1.now_seq_made, y21_6.1.now_seq_branch, y21_6.1.now_seq_head_branch, y21_6.1.now_seq_head_commit, y21_6.1.now_seq_index, y21_6.1.now_seq_work, y21_6.1.now_stash, y21_6.1.commits, y21_6.1.log_back, y21_6.1.log_forth, y21_6.1.time))))))))
noncomputable def rectotop_TopDirty (a_0 : Int) (touched_1 : Bool) : Option Bool :=
 (Sh.rectotop_known).bind (fun y11_1 =>
 if (!y11_1) = true then (none)
 else ((Sh.state_New).bind (fun y13_2 =>
 (Sh.rectotop_saved y13_2 [102] [48] [98, 97, 115, 101]).bind (fun y14_3 =>
 (Sh.rectotop_saved y14_3 [103] [48] [98, 97, 115, 101]).bind (fun y16_5 =>
 (Sh.rectotop_say y16_5 [98, 114, 97, 110, 99, 104, 32, 100, 101, 118]).bind (fun y19_6 =>
 (Sh.rectotop_say y19_6.1 [115, 119, 105, 116, 99, 104, 32, 100, 101, 118]).bind (fun y24_7 =>
 jn (fun (p6_8 : Str) =>
 (Sh.rectotop_saved y24_7.1 p6_8 [49] [100, 101, 118]).bind (fun y30_10 =>
 (Sh.rectotop_say y30_10 [115, 119, 105, 116, 99, 104, 32, 109, 97, 105, 110]).bind (fun y33_11 =>
 (Sh.rectotop_word a_0).bind (fun y38_12 =>
 gd ([109, 105, 110, 101].length + y38_12.length ≤ 9223372036854775807) (
 lt ([109, 105, 110, 101] ++ y38_12) (fun y39_13 =>
 (Sh.rectotop_write y33_11.1 [102] y39_13).bind (fun y40_14 =>
 (Sh.rectotop_say y40_14 [115, 119, 105, 116, 99, 104, 32, 100, 101, 118]).bind (fun y43_15 =>
 if touched_1 = true then ((Sh.rectotop_say y40_14 [115, 119, 105, 116, 99, 104, 32, 100, 101, 118, 32, 45, 102]).bind (fun y49_17 =>
 if endNo y43_15.2 = some 8 then ((Sh.state_Same y40_14 y43_15.1).bind (fun y58_19 =>
 if y58_19 = true then (if y49_17.2.isNil = true then ((Sh.rectotop_work y49_17.1 [102]).bind (fun y66_20 =>
 some (decide (y66_20 = [49]))))
 else (some false))
 else (some false)))
 else (some false)))
 else (if y43_15.2.isNil = true then ((Sh.rectotop_work y43_15.1 [102]).bind (fun y73_21 =>
 (Sh.rectotop_word a_0).bind (fun y75_22 =>
 gd ([109, 105, 110, 101].length + y75_22.length ≤ 9223372036854775807) (
 lt ([109, 105, 110, 101] ++ y75_22) (fun y76_23 =>
 if y73_21 = y76_23 then ((Sh.rectotop_work y43_15.1 [103]).bind (fun y81_24 =>
 if y81_24 = [49] then (some (decide (y43_15.1.now_head_branch = [100, 101, 118])))
 else (some false)))
 else (some false))))))
 else (some false)))))))))) (fun k9 => if touched_1 = true then (k9 [102])
 else (k9 [103])))))))))
end Go.S.Sh
end

section
set_option linter.unusedVariables false
set_option linter.unusedSimpArgs false
set_option linter.unusedSectionVars false
namespace Go.V
open Go.RowKit Go.S
section
variable {P : Program} {N : Nat} {c : Cx} {ops : Array Oper} {Q Q1 : Exit → Act → World → Prop} {rest : List Oper} {o : Oper} {ρ : Env} {M M' M1 M0 : Mo} {E E1 F : Ow} {v u : Value}
  {d : Nat} {od : Option Nat} {ty : TypeId} {pos : String} {after : Array Edge} {gd : Option (Nat × Bool)} {x y m' : Operand} {t t' e k : TypeId} {f : FuncId}
end
end Go.V
end

section
namespace Go.V
open Go.RowKit Go.S
end Go.V
end

section
namespace Go.V
open Go.RowKit Go.S
def undefs : List Nat → Env → Env
  | [], ρ => ρ
  | d :: l, ρ => (d, undef) :: undefs l ρ
theorem undefs_in {t : Nat} {ρ : Env} : ∀ {l : List Nat}, t ∈ l → (undefs l ρ).get t = some undef
  | d :: l, h => by
    simp only [undefs, Env.get]
    cases hb : Nat.beq d t with
    | true => rfl
    | false =>
      rcases List.mem_cons.1 h with e | e
      · subst e; simp at hb
      · exact undefs_in e
theorem undefs_out {t : Nat} {ρ : Env} : ∀ {l : List Nat}, t ∉ l → (undefs l ρ).get t = ρ.get t
  | [], _ => rfl
  | d :: l, h => by
    simp only [undefs, Env.get]
    cases hb : Nat.beq d t with
    | true => exact absurd (Nat.eq_of_beq_eq_true hb) fun e => h (by subst e; exact List.mem_cons_self)
    | false => exact undefs_out fun q => h (List.mem_cons_of_mem _ q)
def isU : Value → Bool
  | .tuple ⟨[]⟩ => true
  | _ => false
theorem isU_eq {v : Value} (h : isU v = true) : v = undef := by
  unfold isU at h
  split at h
  · rfl
  · cases h
def memb (t : Nat) : List Nat → Bool
  | [] => false
  | d :: l => Nat.beq d t || memb t l
theorem memb_mem {t : Nat} : ∀ {l : List Nat}, memb t l = true → t ∈ l
  | d :: l, h => by
    simp only [memb, Bool.or_eq_true] at h
    rcases h with e | e
    · exact List.mem_cons.2 (.inl (Nat.eq_of_beq_eq_true e).symm)
    · exact List.mem_cons_of_mem _ (memb_mem e)
def offB (ds : List Nat) (ρ : Env) (w : Bool) : Option Nat → Bool
  | some t => memb t ds || (match ρ.get t with
    | some (.bool b) => (match b, w with | true, false => true | false, true => true | _, _ => false)
    | some v => isU v
    | none => false)
  | none => false
def noneB : Option Value → Bool
  | none => true
  | some _ => false
def skipB (N : Nat) (ops : List Oper) (us : List Nat) (ρ : Env) : Nat → List Oper → List Nat → Bool
  | 0, _, ds => us.all fun u => memb u ds
  | n + 1, ⟨some d, _, _, _, _, some (j, w)⟩ :: l, ds => (Nat.blt d N && offB ds ρ w ((ops[j]?).bind (·.dst)) && (memb d us || noneB (ρ.get d))) && skipB N ops us ρ n l (d :: ds)
  | _ + 1, _, _ => false
theorem wanted_off {ops : Array Oper} {N : Nat} {ρ : Env} {ds : List Nat} {w : Bool} {a : Act} (ha : Agr N (undefs ds ρ) a) {j : Nat} (h : offB ds ρ w ((ops[j]?).bind (·.dst)) = true) (o : Oper) (hg : o.guard = some (j, w)) : Region.wanted o (yielded ops a.tmps) = false := by
  cases hj : (ops[j]?).bind (·.dst) with
  | none => rw [hj] at h; cases h
  | some t =>
    rw [hj] at h
    simp only [offB, Bool.or_eq_true] at h
    by_cases m : t ∈ ds
    · exact wanted_un hj ha (undefs_in m) o hg
    · rcases h with h | h
      · exact absurd (memb_mem h) m
      · have e := undefs_out (ρ := ρ) m
        split at h
        · rename_i b hb
          rw [wanted_of hj ha (e.trans hb) o hg]
          cases b <;> cases w <;> simp_all
        · rename_i v hv hb
          exact wanted_un hj ha (e.trans (hb.trans (congrArg some (isU_eq h)))) o hg
        · cases h
theorem VL.skips1 {P : Program} {N : Nat} {c : Cx} {ops : Array Oper} {Q : Exit → Act → World → Prop} {ρ : Env} {M : Mo} {E : Ow} (us : List Nat) : ∀ (n : Nat) (l : List Oper) (ds : List Nat), (∀ d ∈ ds, d ∈ us ∨ ρ.get d = none) → skipB N ops.toList us ρ n l ds = true → VL P N c ops Q (l.drop n) (undefs us ρ) M E → ∀ a w, Agr N (undefs ds ρ) a → St c M E w → wpList P ops Q l a w
  | 0, l, ds, hd, hs, k, a, w, x, y => by
    refine k a w (x.sub fun t v h => ?_) y
    have hu : ∀ u ∈ us, u ∈ ds := fun u m => by
      have := List.all_eq_true.1 hs u m
      exact memb_mem this
    by_cases m : t ∈ us
    · rw [undefs_in m] at h
      rw [undefs_in (hu t m)]; exact h
    · rw [undefs_out m] at h
      by_cases m2 : t ∈ ds
      · rcases hd t m2 with e | e
        · exact absurd e m
        · rw [e] at h; cases h
      · rw [undefs_out m2]; exact h
  | n + 1, ⟨some d, op, ty, pos, after, some (j, g)⟩ :: l, ds, hd, hs, k, a, w, x, y => by
    simp only [skipB, Bool.and_eq_true] at hs
    obtain ⟨⟨⟨h1, h2⟩, h3⟩, h4⟩ := hs
    unfold wpList
    rw [if_neg (by rw [wanted_off x (by rw [← Array.getElem?_toList]; exact h2) _ rfl]; simp)]
    refine VL.skips1 us n l (d :: ds) ?_ h4 k _ _ (x.put (Nat.lt_of_lt_of_le (Nat.lt_of_succ_le (Nat.le_of_ble_eq_true h1)) (Nat.le_refl _)) undef) y
    intro d' m
    rcases List.mem_cons.1 m with e | e
    · subst e
      simp only [Bool.or_eq_true] at h3
      rcases h3 with q | q
      · exact .inl (memb_mem q)
      · right
        cases hq : ρ.get d' with
        | none => rfl
        | some v => rw [hq] at q; cases q
    · exact hd d' e
  | n + 1, [], ds, hd, hs, k, a, w, x, y => by simp [skipB] at hs
  | n + 1, ⟨none, op, ty, pos, after, g⟩ :: l, ds, hd, hs, k, a, w, x, y => by simp [skipB] at hs
  | n + 1, ⟨some d, op, ty, pos, after, none⟩ :: l, ds, hd, hs, k, a, w, x, y => by simp [skipB] at hs
theorem VL.skips {P : Program} {N : Nat} {c : Cx} {ops : Array Oper} {rest : List Oper} {Q : Exit → Act → World → Prop} {ρ : Env} {M : Mo} {E : Ow} (n : Nat) (us : List Nat) (h : skipB N ops.toList us ρ n rest [] = true) (k : VL P N c ops Q (rest.drop n) (undefs us ρ) M E) : VL P N c ops Q rest ρ M E :=
  fun a w x y => VL.skips1 us n rest [] (by intro d m; cases m) h k a w x y
end Go.V
end

section
namespace Go.Proofs
open Go.Shelf
def Tryz.lays156_ren : Go.Shelf.Ren := ⟨fun | 156 => 375 | 165 => 381 | 166 => 363 | 169 => 366 | 240 => 373 | 241 => 388 | 276 => 379 | 277 => 395 | n => n, fun | 31 => 37 | 9 => 9 | 3 => 3 | 4 => 4 | 0 => 0 | 20 => 20 | 72 => 412 | 76 => 415 | 70 => 410 | 37 => 64 | 75 => 45 | 127 => 427 | 164 => 229 | 5 => 5 | 80 => 222 | n => n, fun | n => n⟩
theorem Tryz.lays156 : Go.Proofs.Lays.n156 Tryz.prog Tryz.lays156_ren := {
  mixed := by kernel_rfl
  f156 := Tryz.func375.trans (congrArg some (by kernel_rfl))
  f165 := Tryz.func381.trans (congrArg some (by kernel_rfl))
  f166 := Tryz.func363.trans (congrArg some (by kernel_rfl))
  f169 := Tryz.func366.trans (congrArg some (by kernel_rfl))
  f240 := Tryz.func373.trans (congrArg some (by kernel_rfl))
  f241 := Tryz.func388.trans (congrArg some (by kernel_rfl))
  f276 := Tryz.func379.trans (congrArg some (by kernel_rfl))
  f277 := Tryz.func395.trans (congrArg some (by kernel_rfl))
  t0 := Tryz.underlying0
  a0 := Tryz.isAgg0
  z0 := Tryz.sizeOf0
  v0 := Tryz.zeroValue0
  t3 := Tryz.underlying3
  a3 := Tryz.isAgg3
  z3 := Tryz.sizeOf3
  v3 := Tryz.zeroValue3
  t4 := Tryz.underlying4
  a4 := Tryz.isAgg4
  z4 := Tryz.sizeOf4
  v4 := Tryz.zeroValue4
  t9 := Tryz.underlying9
  a9 := Tryz.isAgg9
  z9 := Tryz.sizeOf9
  v9 := Tryz.zeroValue9
  t20 := Tryz.underlying20
  a20 := Tryz.isAgg20
  z20 := Tryz.sizeOf20
  v20 := Tryz.zeroValue20
  t31 := Tryz.underlying37
  a31 := Tryz.isAgg37
  z31 := Tryz.sizeOf37
  v31 := Tryz.zeroValue37
  t37 := Tryz.underlying64
  a37 := Tryz.isAgg64
  z37 := Tryz.sizeOf64
  v37 := Tryz.zeroValue64
  t70 := Tryz.underlying410
  a70 := Tryz.isAgg410
  z70 := Tryz.sizeOf410
  v70 := Tryz.zeroValue410
  t72 := Tryz.underlying412
  a72 := Tryz.isAgg412
  z72 := Tryz.sizeOf412
  v72 := Tryz.zeroValue412
  t75 := Tryz.underlying45
  a75 := Tryz.isAgg45
  z75 := Tryz.sizeOf45
  v75 := Tryz.zeroValue45
  t76 := Tryz.underlying415
  a76 := Tryz.isAgg415
  z76 := Tryz.sizeOf415
  v76 := Tryz.zeroValue415
  t127 := Tryz.underlying427
  a127 := Tryz.isAgg427
  z127 := Tryz.sizeOf427
  v127 := Tryz.zeroValue427
  t164 := Tryz.underlying229
  a164 := Tryz.isAgg229
  z164 := Tryz.sizeOf229
  v164 := Tryz.zeroValue229 }
theorem Tryz.Builder_Extra_156 : Builder.Extra Tryz.prog Tryz.lays156_ren := {
  sizeBuilder := by kernel_rfl
  liesBuilder := by kernel_rfl
  t5 := Tryz.underlying5
  a5 := Tryz.isAgg5
  z5 := Tryz.sizeOf5
  v5 := Tryz.zeroValue5
  infoByte := by kernel_rfl
  cellsByte := by kernel_rfl
  sizeByte := by kernel_rfl
  neB5 := by decide }
open Go.RowKit in
/-- No element: the empty string; the world is as it was. (Whatever the slice's address and capacity: a nil slice too.) (LAID: no walk: one application.) -/
theorem Tryz.strings_Join_none (a : Option Addr) (c : Nat) (sep : ByteArray) (w : World) :
    Calls Tryz.prog 375 #[.slice a 0 c, .string sep] w fun e w' => e = .returned (.string ⟨#[]⟩) ∧ w' = w := Any.strings_Join_none Tryz.lays156 Tryz.Builder_Extra_156 a c sep w
open Go.RowKit in
/-- strings.Join: "Join concatenates the elements of its first argument to create a single string. The separator string sep is placed between elements in the resulting string.": HOWEVER MANY ELEMENTS. Below the heap's end the world is as it was. (LAID: no walk: one application.) -/
theorem Tryz.strings_Join (bk o c : Nat) (xs : List ByteArray) (sep : ByteArray) (w : World) (hcells : ∀ (j : Nat) x, xs[j]? = some x → w.cell? ⟨bk, o + j, none⟩ = some (.string x)) (hbk : bk < w.heap.size) (hN : xs.length ≤ 140737488355328) (hcap : xs.length ≤ c) (hlen : (Lib.join (xs.map (·.data.toList)) sep.data.toList).length ≤ 140737488355328) :
    Calls Tryz.prog 375 #[.slice (some ⟨bk, o, none⟩) xs.length c, .string sep] w fun e w' => e = .returned (.string ⟨(Lib.join (xs.map (·.data.toList)) sep.data.toList).toArray⟩) ∧ Below w.heap.size w w' := Any.strings_Join Tryz.lays156 Tryz.Builder_Extra_156 bk o c xs sep w hcells hbk hN hcap hlen
def Tryz.laysM171_ren : Go.Shelf.Ren := ⟨fun | 171 => 213 | 243 => 277 | 246 => 323 | 283 => 342 | 284 => 343 | 285 => 344 | 286 => 345 | 129 => 317 | 317 => 355 | 318 => 356 | 319 => 357 | 320 => 358 | 337 => 367 | 338 => 368 | n => n, fun | 3 => 3 | 9 => 9 | 2 => 2 | 4 => 4 | 171 => 388 | 0 => 0 | 53 => 297 | 37 => 64 | 5 => 5 | 173 => 390 | 212 => 402 | 51 => 308 | 20 => 20 | 213 => 403 | 46 => 228 | 232 => 428 | 233 => 429 | n => n, fun | 17 => 4 | 18 => 5 | 19 => 6 | n => n⟩
theorem Tryz.laysM171 : Go.Proofs.LaysM.n171 Tryz.prog Tryz.laysM171_ren := {
  mixed := by kernel_rfl
  f129 := Tryz.func317.trans (congrArg some (by kernel_rfl))
  f171 := Tryz.func213.trans (congrArg some (by kernel_rfl))
  f243 := Tryz.func277.trans (congrArg some (by kernel_rfl))
  f246 := Tryz.func323.trans (congrArg some (by kernel_rfl))
  f283 := Tryz.func342.trans (congrArg some (by kernel_rfl))
  f284 := Tryz.func343.trans (congrArg some (by kernel_rfl))
  f285 := Tryz.func344.trans (congrArg some (by kernel_rfl))
  f286 := Tryz.func345.trans (congrArg some (by kernel_rfl))
  f317 := Tryz.func355.trans (congrArg some (by kernel_rfl))
  f318 := Tryz.func356.trans (congrArg some (by kernel_rfl))
  f319 := Tryz.func357.trans (congrArg some (by kernel_rfl))
  f320 := Tryz.func358.trans (congrArg some (by kernel_rfl))
  f337 := Tryz.func367.trans (congrArg some (by kernel_rfl))
  f338 := Tryz.func368.trans (congrArg some (by kernel_rfl))
  t0 := Tryz.underlying0
  a0 := Tryz.isAgg0
  z0 := Tryz.sizeOf0
  v0 := Tryz.zeroValue0
  t2 := Tryz.underlying2
  a2 := Tryz.isAgg2
  z2 := Tryz.sizeOf2
  v2 := Tryz.zeroValue2
  t3 := Tryz.underlying3
  a3 := Tryz.isAgg3
  z3 := Tryz.sizeOf3
  v3 := Tryz.zeroValue3
  t4 := Tryz.underlying4
  a4 := Tryz.isAgg4
  z4 := Tryz.sizeOf4
  v4 := Tryz.zeroValue4
  t5 := Tryz.underlying5
  a5 := Tryz.isAgg5
  z5 := Tryz.sizeOf5
  v5 := Tryz.zeroValue5
  t9 := Tryz.underlying9
  a9 := Tryz.isAgg9
  z9 := Tryz.sizeOf9
  v9 := Tryz.zeroValue9
  t20 := Tryz.underlying20
  a20 := Tryz.isAgg20
  z20 := Tryz.sizeOf20
  v20 := Tryz.zeroValue20
  t37 := Tryz.underlying64
  a37 := Tryz.isAgg64
  z37 := Tryz.sizeOf64
  v37 := Tryz.zeroValue64
  t46 := Tryz.underlying228
  a46 := Tryz.isAgg228
  z46 := Tryz.sizeOf228
  v46 := Tryz.zeroValue228
  t51 := Tryz.underlying308
  a51 := Tryz.isAgg308
  z51 := Tryz.sizeOf308
  v51 := Tryz.zeroValue308
  t53 := Tryz.underlying297
  a53 := Tryz.isAgg297
  z53 := Tryz.sizeOf297
  v53 := Tryz.zeroValue297
  t171 := Tryz.underlying388
  a171 := Tryz.isAgg388
  z171 := Tryz.sizeOf388
  v171 := Tryz.zeroValue388
  t173 := Tryz.underlying390
  a173 := Tryz.isAgg390
  z173 := Tryz.sizeOf390
  v173 := Tryz.zeroValue390
  t212 := Tryz.underlying402
  a212 := Tryz.isAgg402
  z212 := Tryz.sizeOf402
  v212 := Tryz.zeroValue402
  t213 := Tryz.underlying403
  a213 := Tryz.isAgg403
  z213 := Tryz.sizeOf403
  t232 := Tryz.underlying428
  a232 := Tryz.isAgg428
  z232 := Tryz.sizeOf428
  v232 := Tryz.zeroValue428
  t233 := Tryz.underlying429
  a233 := Tryz.isAgg429
  z233 := Tryz.sizeOf429
  v233 := Tryz.zeroValue429
  g17 := by kernel_rfl
  g18 := by kernel_rfl
  g19 := by kernel_rfl
  i0 := by kernel_rfl
  i2 := by kernel_rfl
  i3 := by kernel_rfl
  i4 := by kernel_rfl
  i5 := by kernel_rfl
  i9 := by kernel_rfl
  i20 := by kernel_rfl
  i37 := by kernel_rfl
  i46 := by kernel_rfl
  i51 := by kernel_rfl
  i53 := by kernel_rfl
  i171 := by kernel_rfl
  i173 := by kernel_rfl
  i212 := by kernel_rfl
  i232 := by kernel_rfl
  i233 := by kernel_rfl
  m17 := by kernel_rfl
  m18 := by kernel_rfl
  m19 := by kernel_rfl }
open Go.RowKit Go.Sort Go.Lib in
/-- strconv.Itoa: "Itoa is equivalent to FormatInt(int64(i), 10).": i's DECIMAL NUMERAL ('Lib.itoa': a '-' where i is negative, then the digits), FOR EVERY int. The world behind the call: the world before it, new blocks behind the heap (the library's 'var a [24]byte'), draws. (LAID: no walk: one application.) -/
theorem Tryz.strconv_Itoa (n : Int) (h0 : -9223372036854775808 ≤ n) (h1 : n ≤ 9223372036854775807) (w : World) (htab : Lib.TabIs Tryz.prog w "internal/strconv.uint64pow10" .u64 Lib.pow10Tab) :
    Calls Tryz.prog 213 #[.int .i64 n] w fun e w' => e = .returned (.string ⟨(Lib.itoa n).toArray⟩) ∧ ∃ k os, w' = grow (w.drewN k) os := Any.strconv_Itoa Tryz.laysM171 n h0 h1 w htab
def Tryz.lays190_ren : Go.Shelf.Ren := ⟨fun | 190 => 202 | 125 => 269 | 258 => 268 | 128 => 316 | 129 => 317 | 302 => 307 | 303 => 308 | 304 => 309 | 305 => 310 | 306 => 311 | 307 => 312 | 308 => 313 | 309 => 314 | 310 => 315 | 333 => 334 | 329 => 335 | 330 => 336 | 334 => 337 | 335 => 338 | 336 => 244 | 344 => 352 | n => n, fun | 31 => 37 | 9 => 9 | 3 => 3 | 46 => 228 | 0 => 0 | 51 => 308 | 53 => 297 | 4 => 4 | 183 => 358 | 182 => 357 | 131 => 119 | 5 => 5 | 218 => 378 | 222 => 382 | 228 => 395 | 229 => 396 | n => n, fun | n => n⟩
theorem Tryz.lays190 : Go.Proofs.Lays.n190 Tryz.prog Tryz.lays190_ren := {
  mixed := by kernel_rfl
  f125 := Tryz.func269.trans (congrArg some (by kernel_rfl))
  f128 := Tryz.func316.trans (congrArg some (by kernel_rfl))
  f129 := Tryz.func317.trans (congrArg some (by kernel_rfl))
  f190 := Tryz.func202.trans (congrArg some (by kernel_rfl))
  f258 := Tryz.func268.trans (congrArg some (by kernel_rfl))
  f302 := Tryz.func307.trans (congrArg some (by kernel_rfl))
  f303 := Tryz.func308.trans (congrArg some (by kernel_rfl))
  f304 := Tryz.func309.trans (congrArg some (by kernel_rfl))
  f305 := Tryz.func310.trans (congrArg some (by kernel_rfl))
  f306 := Tryz.func311.trans (congrArg some (by kernel_rfl))
  f307 := Tryz.func312.trans (congrArg some (by kernel_rfl))
  f308 := Tryz.func313.trans (congrArg some (by kernel_rfl))
  f309 := Tryz.func314.trans (congrArg some (by kernel_rfl))
  f310 := Tryz.func315.trans (congrArg some (by kernel_rfl))
  f329 := Tryz.func335.trans (congrArg some (by kernel_rfl))
  f330 := Tryz.func336.trans (congrArg some (by kernel_rfl))
  f333 := Tryz.func334.trans (congrArg some (by kernel_rfl))
  f334 := Tryz.func337.trans (congrArg some (by kernel_rfl))
  f335 := Tryz.func338.trans (congrArg some (by kernel_rfl))
  f336 := Tryz.func244.trans (congrArg some (by kernel_rfl))
  f344 := Tryz.func352.trans (congrArg some (by kernel_rfl))
  t0 := Tryz.underlying0
  a0 := Tryz.isAgg0
  z0 := Tryz.sizeOf0
  v0 := Tryz.zeroValue0
  t3 := Tryz.underlying3
  a3 := Tryz.isAgg3
  z3 := Tryz.sizeOf3
  v3 := Tryz.zeroValue3
  t4 := Tryz.underlying4
  a4 := Tryz.isAgg4
  z4 := Tryz.sizeOf4
  v4 := Tryz.zeroValue4
  t5 := Tryz.underlying5
  a5 := Tryz.isAgg5
  z5 := Tryz.sizeOf5
  v5 := Tryz.zeroValue5
  t9 := Tryz.underlying9
  a9 := Tryz.isAgg9
  z9 := Tryz.sizeOf9
  v9 := Tryz.zeroValue9
  t31 := Tryz.underlying37
  a31 := Tryz.isAgg37
  z31 := Tryz.sizeOf37
  v31 := Tryz.zeroValue37
  t46 := Tryz.underlying228
  a46 := Tryz.isAgg228
  z46 := Tryz.sizeOf228
  v46 := Tryz.zeroValue228
  t51 := Tryz.underlying308
  a51 := Tryz.isAgg308
  z51 := Tryz.sizeOf308
  v51 := Tryz.zeroValue308
  t53 := Tryz.underlying297
  a53 := Tryz.isAgg297
  z53 := Tryz.sizeOf297
  v53 := Tryz.zeroValue297
  t131 := Tryz.underlying119
  a131 := Tryz.isAgg119
  z131 := Tryz.sizeOf119
  v131 := Tryz.zeroValue119
  t182 := Tryz.underlying357
  a182 := Tryz.isAgg357
  z182 := Tryz.sizeOf357
  v182 := Tryz.zeroValue357
  t183 := Tryz.underlying358
  a183 := Tryz.isAgg358
  z183 := Tryz.sizeOf358
  v183 := Tryz.zeroValue358
  t218 := Tryz.underlying378
  a218 := Tryz.isAgg378
  z218 := Tryz.sizeOf378
  v218 := Tryz.zeroValue378
  t222 := Tryz.underlying382
  a222 := Tryz.isAgg382
  z222 := Tryz.sizeOf382
  v222 := Tryz.zeroValue382
  t228 := Tryz.underlying395
  a228 := Tryz.isAgg395
  z228 := Tryz.sizeOf395
  v228 := Tryz.zeroValue395
  t229 := Tryz.underlying396
  a229 := Tryz.isAgg396
  z229 := Tryz.sizeOf396
  v229 := Tryz.zeroValue396 }
open Go.Sort Go.RowKit in
theorem Tryz.slices_Sort_string (blk off cap : Nat) (ss : List (List UInt8)) (w : World) (hH : Holds encStr w blk off ss.toArray) (hblk : blk < w.heap.size) (hsz : ss.length < 4611686018427387904) :
    Calls Tryz.prog 202 #[.slice (some ⟨blk, off, none⟩) ss.length cap] w fun e w' =>
      e = .returned (.tuple #[]) ∧ ∃ n os, w' = grow (putRow encStr (Sort.ahead w n) blk off (ss.mergeSort fun x y => decide (x ≤ y)).toArray) os := Any.slices_Sort_string Tryz.lays190 blk off cap ss w hH hblk hsz
def Tryz.lays194_ren : Go.Shelf.Ren := ⟨fun | 194 => 203 | n => n, fun | 31 => 37 | 9 => 9 | 3 => 3 | 4 => 4 | 0 => 0 | n => n, fun | n => n⟩
theorem Tryz.lays194 : Go.Proofs.Lays.n194 Tryz.prog Tryz.lays194_ren := {
  mixed := by kernel_rfl
  f194 := Tryz.func203.trans (congrArg some (by kernel_rfl))
  t0 := Tryz.underlying0
  a0 := Tryz.isAgg0
  z0 := Tryz.sizeOf0
  v0 := Tryz.zeroValue0
  t3 := Tryz.underlying3
  a3 := Tryz.isAgg3
  z3 := Tryz.sizeOf3
  v3 := Tryz.zeroValue3
  t4 := Tryz.underlying4
  a4 := Tryz.isAgg4
  z4 := Tryz.sizeOf4
  v4 := Tryz.zeroValue4
  t9 := Tryz.underlying9
  a9 := Tryz.isAgg9
  z9 := Tryz.sizeOf9
  v9 := Tryz.zeroValue9
  t31 := Tryz.underlying37
  a31 := Tryz.isAgg37
  z31 := Tryz.sizeOf37
  v31 := Tryz.zeroValue37 }
open Go.RowKit Go.Lib Go.Sort in
/-- slices.Compact at []string, over an array: the library's two loops are walked. (LAID: no walk: one application.) -/
theorem Tryz.slices_Compact_string_arr (blk off cap : Nat) (d : Array (List UInt8)) (w : World) (hH : Holds encStr w blk off d) (hsz : d.size ≤ 9223372036854775807) (hcap : d.size ≤ cap) :
    Calls Tryz.prog 203 #[.slice (some ⟨blk, off, none⟩) d.size cap] w fun e w' => e = .returned (.slice (some ⟨blk, off, none⟩) (compactUpTo d d.size).length cap) ∧ ∃ q, w' = putRow encStr (Sort.ahead w q) blk off (compactUpTo d d.size ++ List.replicate (d.size - (compactUpTo d d.size).length) []).toArray := Any.slices_Compact_string_arr Tryz.lays194 blk off cap d w hH hsz hcap
open Go.RowKit Go.Lib Go.Sort in
/-- slices.Compact at []string: "Compact replaces consecutive runs of equal elements with a single copy. This is like the uniq command found on Unix. Compact modifies the contents of the slice s and returns the modified slice, which may have a smaller length. Compact zeroes the elements between the new length and the original length. The result preserves the nilness of s.": IT RETURNS THE SLICE CUT TO 'Lib.compact zs'; ITS CELLS HOLD 'Lib.compact zs', THEN ZERO VALUES up to the old length; all else is as it was, but for the count of draws. IN THE WORDS OF slices.Sort's CONTRACT ('Holds', 'putRow'): so the everyday 'slices.Sort(xs); xs = slices.Compact(xs)' goes from the one contract to the other. It asks 'zs.length ≤ cap' (every slice's: the reslicing 's[:k]' looks at it). Length 0, nil: '.._empty'. (LAID: no walk: one application.) -/
theorem Tryz.slices_Compact_string (blk off cap : Nat) (zs : List (List UInt8)) (w : World) (hH : Holds encStr w blk off zs.toArray) (hsz : zs.length ≤ 9223372036854775807) (hcap : zs.length ≤ cap) :
    Calls Tryz.prog 203 #[.slice (some ⟨blk, off, none⟩) zs.length cap] w fun e w' => e = .returned (.slice (some ⟨blk, off, none⟩) (Lib.compact zs).length cap) ∧ ∃ q, w' = putRow encStr (Sort.ahead w q) blk off (Lib.compact zs ++ List.replicate (zs.length - (Lib.compact zs).length) []).toArray := Any.slices_Compact_string Tryz.lays194 blk off cap zs w hH hsz hcap
open Go.RowKit Go.Lib Go.Sort in
/-- The same at a slice of length 0, a nil one too: it comes back as it is. (LAID: no walk: one application.) -/
theorem Tryz.slices_Compact_string_empty (a : Option Addr) (cap : Nat) (w : World) :
    Calls Tryz.prog 203 #[.slice a 0 cap] w fun e w' => e = .returned (.slice a 0 cap) ∧ w' = w := Any.slices_Compact_string_empty Tryz.lays194 a cap w
open Go.RowKit Go.Sort in
/-- .. and plain. (LAID: no walk: one application.) -/
theorem Tryz.slices_Sort_string_none (p : Option Addr) (cap : Nat) (w : World) :
    Calls Tryz.prog 202 #[.slice p 0 cap] w fun e w' => e = .returned (.tuple #[]) ∧ w' = w := Any.slices_Sort_string_none Tryz.lays190 p cap w
end Go.Proofs
end

section
namespace Go.Proofs
open Go.Shelf
def Tryz.keys261_ren : Go.Shelf.Ren := ⟨fun | 7 => 261 | 10 => 302 | n => n, fun | 23 => 314 | 26 => 9 | 3 => 4 | 28 => 317 | 0 => 0 | 27 => 316 | 33 => 174 | 4 => 4 | n => n, fun | n => n⟩
theorem Tryz.keys261 : Go.Proofs.SlLaysZ.n7 Tryz.prog Tryz.keys261_ren := {
  mixed := by kernel_rfl
  f7 := ⟨Tryz.f261.name, by decide, Tryz.func261.trans (congrArg some (by kernel_rfl))⟩
  f10 := ⟨Tryz.f302.name, by decide, Tryz.func302.trans (congrArg some (by kernel_rfl))⟩
  t0 := Tryz.underlying0
  a0 := Tryz.isAgg0
  z0 := Tryz.sizeOf0
  v0 := Tryz.zeroValue0
  t4 := Tryz.underlying4
  a4 := Tryz.isAgg4
  z4 := Tryz.sizeOf4
  v4 := Tryz.zeroValue4
  t23 := Tryz.underlying314
  a23 := Tryz.isAgg314
  z23 := Tryz.sizeOf314
  v23 := Tryz.zeroValue314
  t26 := Tryz.underlying9
  a26 := Tryz.isAgg9
  z26 := Tryz.sizeOf9
  v26 := Tryz.zeroValue9
  t27 := Tryz.underlying316
  a27 := Tryz.isAgg316
  z27 := Tryz.sizeOf316
  v27 := Tryz.zeroValue316
  t28 := Tryz.underlying317
  a28 := Tryz.isAgg317
  z28 := Tryz.sizeOf317
  v28 := Tryz.zeroValue317
  t33 := Tryz.underlying174
  a33 := Tryz.isAgg174
  z33 := Tryz.sizeOf174
  v33 := Tryz.zeroValue174 }
def Tryz.sorted260_ren : Go.Shelf.Ren := ⟨fun | 6 => 260 | 8 => 301 | 9 => 202 | 11 => 331 | 13 => 269 | 12 => 268 | 23 => 316 | 24 => 317 | 14 => 307 | 15 => 308 | 16 => 309 | 17 => 310 | 18 => 311 | 19 => 312 | 20 => 313 | 21 => 314 | 22 => 315 | 25 => 334 | 26 => 335 | 27 => 336 | 28 => 337 | 29 => 338 | 30 => 244 | 31 => 352 | n => n, fun | 26 => 9 | 28 => 317 | 24 => 37 | 0 => 0 | 3 => 3 | 37 => 228 | 48 => 308 | 50 => 297 | 4 => 4 | 40 => 358 | 39 => 357 | 45 => 119 | 5 => 5 | 9 => 9 | 51 => 378 | 55 => 382 | 57 => 395 | 58 => 396 | 33 => 174 | n => n, fun | n => n⟩
theorem Tryz.sorted260 : Go.Proofs.SlLaysZ.n6 Tryz.prog Tryz.sorted260_ren := {
  mixed := by kernel_rfl
  f6 := ⟨Tryz.f260.name, by decide, Tryz.func260.trans (congrArg some (by kernel_rfl))⟩
  f8 := ⟨Tryz.f301.name, by decide, Tryz.func301.trans (congrArg some (by kernel_rfl))⟩
  f11 := ⟨Tryz.f331.name, by decide, Tryz.func331.trans (congrArg some (by kernel_rfl))⟩
  t0 := Tryz.underlying0
  a0 := Tryz.isAgg0
  z0 := Tryz.sizeOf0
  v0 := Tryz.zeroValue0
  t24 := Tryz.underlying37
  a24 := Tryz.isAgg37
  z24 := Tryz.sizeOf37
  v24 := Tryz.zeroValue37
  t26 := Tryz.underlying9
  a26 := Tryz.isAgg9
  z26 := Tryz.sizeOf9
  v26 := Tryz.zeroValue9
  t28 := Tryz.underlying317
  a28 := Tryz.isAgg317
  z28 := Tryz.sizeOf317
  v28 := Tryz.zeroValue317
  i26 := by kernel_rfl }
def Tryz.sort202_ren : Go.Shelf.Ren := ⟨fun | 6 => 202 | 8 => 269 | 9 => 268 | 19 => 316 | 20 => 317 | 21 => 307 | 22 => 308 | 23 => 309 | 24 => 310 | 25 => 311 | 26 => 312 | 27 => 313 | 28 => 314 | 29 => 315 | 36 => 334 | 31 => 335 | 32 => 336 | 37 => 337 | 38 => 338 | 39 => 244 | 41 => 352 | n => n, fun | 27 => 37 | 29 => 9 | 3 => 3 | 32 => 228 | 26 => 37 | 0 => 0 | 44 => 308 | 46 => 297 | 4 => 4 | 36 => 358 | 35 => 357 | 41 => 119 | 5 => 5 | 9 => 9 | 53 => 378 | 57 => 382 | 63 => 395 | 64 => 396 | n => n, fun | n => n⟩
theorem Tryz.sort202 : Go.Proofs.SlLaysM.n6 Tryz.prog Tryz.sort202_ren := {
  mixed := by kernel_rfl
  f6 := ⟨Tryz.f202.name, by decide, Tryz.func202.trans (congrArg some (by kernel_rfl))⟩
  f8 := Tryz.func269.trans (congrArg some (by kernel_rfl))
  f9 := ⟨Tryz.f268.name, by decide, Tryz.func268.trans (congrArg some (by kernel_rfl))⟩
  f19 := Tryz.func316.trans (congrArg some (by kernel_rfl))
  f20 := Tryz.func317.trans (congrArg some (by kernel_rfl))
  f21 := ⟨Tryz.f307.name, by decide, Tryz.func307.trans (congrArg some (by kernel_rfl))⟩
  f22 := ⟨Tryz.f308.name, by decide, Tryz.func308.trans (congrArg some (by kernel_rfl))⟩
  f23 := ⟨Tryz.f309.name, by decide, Tryz.func309.trans (congrArg some (by kernel_rfl))⟩
  f24 := ⟨Tryz.f310.name, by decide, Tryz.func310.trans (congrArg some (by kernel_rfl))⟩
  f25 := ⟨Tryz.f311.name, by decide, Tryz.func311.trans (congrArg some (by kernel_rfl))⟩
  f26 := ⟨Tryz.f312.name, by decide, Tryz.func312.trans (congrArg some (by kernel_rfl))⟩
  f27 := ⟨Tryz.f313.name, by decide, Tryz.func313.trans (congrArg some (by kernel_rfl))⟩
  f28 := ⟨Tryz.f314.name, by decide, Tryz.func314.trans (congrArg some (by kernel_rfl))⟩
  f29 := ⟨Tryz.f315.name, by decide, Tryz.func315.trans (congrArg some (by kernel_rfl))⟩
  f31 := Tryz.func335.trans (congrArg some (by kernel_rfl))
  f32 := Tryz.func336.trans (congrArg some (by kernel_rfl))
  f36 := ⟨Tryz.f334.name, by decide, Tryz.func334.trans (congrArg some (by kernel_rfl))⟩
  f37 := ⟨Tryz.f337.name, by decide, Tryz.func337.trans (congrArg some (by kernel_rfl))⟩
  f38 := ⟨Tryz.f338.name, by decide, Tryz.func338.trans (congrArg some (by kernel_rfl))⟩
  f39 := ⟨Tryz.f244.name, by decide, Tryz.func244.trans (congrArg some (by kernel_rfl))⟩
  f41 := ⟨Tryz.f352.name, by decide, Tryz.func352.trans (congrArg some (by kernel_rfl))⟩
  t0 := Tryz.underlying0
  a0 := Tryz.isAgg0
  z0 := Tryz.sizeOf0
  v0 := Tryz.zeroValue0
  t3 := Tryz.underlying3
  a3 := Tryz.isAgg3
  z3 := Tryz.sizeOf3
  v3 := Tryz.zeroValue3
  t4 := Tryz.underlying4
  a4 := Tryz.isAgg4
  z4 := Tryz.sizeOf4
  v4 := Tryz.zeroValue4
  t5 := Tryz.underlying5
  a5 := Tryz.isAgg5
  z5 := Tryz.sizeOf5
  v5 := Tryz.zeroValue5
  t9 := Tryz.underlying9
  a9 := Tryz.isAgg9
  z9 := Tryz.sizeOf9
  v9 := Tryz.zeroValue9
  t26 := Tryz.underlying37
  a26 := Tryz.isAgg37
  z26 := Tryz.sizeOf37
  v26 := Tryz.zeroValue37
  t27 := Tryz.underlying37
  a27 := Tryz.isAgg37
  z27 := Tryz.sizeOf37
  v27 := Tryz.zeroValue37
  t29 := Tryz.underlying9
  a29 := Tryz.isAgg9
  z29 := Tryz.sizeOf9
  v29 := Tryz.zeroValue9
  t32 := Tryz.underlying228
  a32 := Tryz.isAgg228
  z32 := Tryz.sizeOf228
  v32 := Tryz.zeroValue228
  t35 := Tryz.underlying357
  a35 := Tryz.isAgg357
  z35 := Tryz.sizeOf357
  v35 := Tryz.zeroValue357
  t36 := Tryz.underlying358
  a36 := Tryz.isAgg358
  z36 := Tryz.sizeOf358
  v36 := Tryz.zeroValue358
  t41 := Tryz.underlying119
  a41 := Tryz.isAgg119
  z41 := Tryz.sizeOf119
  v41 := Tryz.zeroValue119
  t44 := Tryz.underlying308
  a44 := Tryz.isAgg308
  z44 := Tryz.sizeOf308
  v44 := Tryz.zeroValue308
  t46 := Tryz.underlying297
  a46 := Tryz.isAgg297
  z46 := Tryz.sizeOf297
  v46 := Tryz.zeroValue297
  t53 := Tryz.underlying378
  a53 := Tryz.isAgg378
  z53 := Tryz.sizeOf378
  v53 := Tryz.zeroValue378
  t57 := Tryz.underlying382
  a57 := Tryz.isAgg382
  z57 := Tryz.sizeOf382
  v57 := Tryz.zeroValue382
  t63 := Tryz.underlying395
  a63 := Tryz.isAgg395
  z63 := Tryz.sizeOf395
  v63 := Tryz.zeroValue395
  t64 := Tryz.underlying396
  a64 := Tryz.isAgg396
  z64 := Tryz.sizeOf396
  v64 := Tryz.zeroValue396 }
open Go.RowKit Go.Maps Go.Sort
theorem Tryz.sorts260 (m : Nat) : AnyZ.SortsIn Tryz.prog Tryz.sorted260_ren Fence.wide m :=
  ⟨fun blk off cap ss W hH hblk hsz => callsIn_wide.2 (AnyM.slices_Sort_string Tryz.sort202 blk off cap ss W hH hblk hsz),
   fun p cap W => callsIn_wide.2 (AnyM.slices_Sort_string_none Tryz.sort202 p cap W)⟩
theorem Tryz.maps_Keys_261 (mb : Option Nat) (W : World) : CallsIn Fence.wide 5 Tryz.prog 261 #[.map mb] W fun e w' => e = .returned (.func (.func 302) #[] #[.pointer (some ⟨W.heap.size, 0, none⟩)]) ∧ w' = W.alloc (.cells #[.map mb] 314) :=
  AnyZ.keys_in Tryz.keys261 Fence.wide 5 trivial rfl mb W
set_option maxHeartbeats 1000000 in
theorem Tryz.sortedKeys_260_261 (Bm b nn : Nat) (D0 : DataW Unit) (R : Value → Option (DataW Unit × List MemPlace)) (w : World) (hBm : Bm < w.heap.size) (hm : w.cell? ⟨Bm, 0, none⟩ = some (.map (some b))) (hown : w.ownsMap Tryz.prog 9 R b nn D0) (hmax : Maps.size D0 ≤ maxLen) (hbytes : Maps.size D0 * 16 ≤ 140737488355328) :
    Calls Tryz.prog 260 #[.func (.func 302) #[] #[.pointer (some ⟨Bm, 0, none⟩)]] w fun e w' => ∃ (v : Value) (ss : List (List UInt8)), e = .returned v ∧ ss.Perm (strKeys D0) ∧
      w'.ownsRow w.heap.size 9 1 v ss.length ((ss.mergeSort (fun x y => decide (x ≤ y))).map encStr) ∧ (v = .slice none 0 0 ↔ ss = []) ∧ Below w.heap.size w w' := by
  have hseq : SeqGives Fence.wide 2 Tryz.prog 302 #[.pointer (some ⟨Bm, 0, none⟩)] encStr (fun ss => ss.Perm (strKeys D0)) (Maps.size D0) w :=
    AnyZ.keys_gives (ρ := Tryz.keys261_ren) { Tryz.keys261 with } Fence.wide _ trivial rfl (by omega) Bm b nn D0 _ hBm hm hown
  exact (callsIn_wide (n := 5)).1 (AnyZ.sorted_in Tryz.sorted260 Fence.wide 5 trivial trivial trivial trivial rfl (by omega) (Tryz.sorts260 _) (enters_of Tryz.func202 (by kernel_rfl) rfl) 302 #[.pointer (some ⟨Bm, 0, none⟩)] trivial (enters_of Tryz.func302 (by kernel_rfl) rfl) _ _ hmax hbytes _ hseq)
theorem Tryz.mapsKeys_261 (mb : Option Nat) (W : World) : Calls Tryz.prog 261 #[.map mb] W fun e w' => e = .returned (.func (.func 302) #[] #[.pointer (some ⟨W.heap.size, 0, none⟩)]) ∧ w' = W.alloc (.cells #[.map mb] 314) :=
  (callsIn_wide (n := 5)).1 (Tryz.maps_Keys_261 mb W)
end Go.Proofs
end

section
namespace Go.V
open Go.RowKit
open Go.S hiding Str
instance : ErNo := ⟨50, 91⟩
instance : Dat FilesFile := ⟨3, fun x => [str x.path, i64 x.mode, str x.data], fun _ => rfl, fun _ u h => by simp only [List.mem_cons, List.not_mem_nil, or_false] at h; rcases h with rfl | rfl | rfl <;> first | rfl | exact Er.one _, fun _ => Mo.tt⟩
instance : Flat FilesFile := ⟨fun _ => rfl⟩
instance : Dat NamesRef := ⟨2, fun x => [str x.name, i64 x.commit], fun _ => rfl, fun _ u h => by simp only [List.mem_cons, List.not_mem_nil, or_false] at h; rcases h with rfl | rfl <;> first | rfl | exact Er.one _, fun _ => Mo.tt⟩
instance : Flat NamesRef := ⟨fun _ => rfl⟩
instance : Dat IndexEntry := ⟨6, fun x => [str x.path, i64 x.stage, i64 x.mode, str x.data, i64 x.time, i64 x.size], fun _ => rfl, fun _ u h => by simp only [List.mem_cons, List.not_mem_nil, or_false] at h; rcases h with rfl | rfl | rfl | rfl | rfl | rfl <;> first | rfl | exact Er.one _, fun _ => Mo.tt⟩
instance : Flat IndexEntry := ⟨fun _ => rfl⟩
structure ShelfShelf where
  base : Int
  index : Sv FilesFile
  work : Sv FilesFile
  text : Str
@[reducible] def ShelfShelf.m (x : ShelfShelf) : Mo := (x.index.ok.and x.work.ok)
def ShelfShelf.pl (x : ShelfShelf) : ShelfShelfP := ⟨x.base, x.index.l, x.work.l, x.text⟩
instance : Dat ShelfShelf := ⟨4, fun x => [i64 x.base, x.index.val, x.work.val, str x.text], fun _ => rfl, fun _ u h => by simp only [List.mem_cons, List.not_mem_nil, or_false] at h; rcases h with rfl | rfl | rfl | rfl <;> first | rfl | exact Er.one _, ShelfShelf.m⟩
instance : Dat TodoStep := ⟨3, fun x => [str x.verb, i64 x.commit, str x.text], fun _ => rfl, fun _ u h => by simp only [List.mem_cons, List.not_mem_nil, or_false] at h; rcases h with rfl | rfl | rfl <;> first | rfl | exact Er.one _, fun _ => Mo.tt⟩
instance : Flat TodoStep := ⟨fun _ => rfl⟩
structure StateCommit where
  tree : Sv FilesFile
  parents : Sv Int
  time : Int
  text : Str
@[reducible] def StateCommit.m (x : StateCommit) : Mo := (x.tree.ok.and x.parents.ok)
def StateCommit.pl (x : StateCommit) : StateCommitP := ⟨x.tree.l, x.parents.l, x.time, x.text⟩
instance : Dat StateCommit := ⟨4, fun x => [x.tree.val, x.parents.val, i64 x.time, str x.text], fun _ => rfl, fun _ u h => by simp only [List.mem_cons, List.not_mem_nil, or_false] at h; rcases h with rfl | rfl | rfl | rfl <;> first | rfl | exact Er.one _, StateCommit.m⟩
structure StateState where
  now_work : Sv FilesFile
  now_index : Sv IndexEntry
  now_refs : Sv NamesRef
  now_head_branch : Str
  now_head_commit : Int
  now_seq_kind : Str
  now_seq_other : Int
  now_seq_text : Str
  now_seq_doing : Sv TodoStep
  now_seq_todo : Sv TodoStep
  now_seq_made : Int
  now_seq_branch : Str
  now_seq_head_branch : Str
  now_seq_head_commit : Int
  now_seq_index : Sv IndexEntry
  now_seq_work : Sv FilesFile
  now_stash : Sv ShelfShelf
  commits : Sv StateCommit
  log_back : Sv Str
  log_forth : Sv Str
  time : Int
@[reducible] def StateState.m (x : StateState) : Mo := (x.now_work.ok.and (x.now_index.ok.and (x.now_refs.ok.and (x.now_seq_doing.ok.and (x.now_seq_todo.ok.and (x.now_seq_index.ok.and (x.now_seq_work.ok.and (x.now_stash.ok.and (x.commits.ok.and (x.log_back.ok.and x.log_forth.ok))))))))))
def StateState.pl (x : StateState) : StateStateP := ⟨x.now_work.l, x.now_index.l, x.now_refs.l, x.now_head_branch, x.now_head_commit, x.now_seq_kind, x.now_seq_other, x.now_seq_text, x.now_seq_doing.l, x.now_seq_todo.l, x.now_seq_made, x.now_seq_branch, x.now_seq_head_branch, x.now_seq_head_commit, x.now_seq_index.l, x.now_seq_work.l, (x.now_stash.l.map ShelfShelf.pl), (x.commits.l.map StateCommit.pl), x.log_back.l, x.log_forth.l, x.time⟩
instance : Dat StateState := ⟨21, fun x => [x.now_work.val, x.now_index.val, x.now_refs.val, str x.now_head_branch, i64 x.now_head_commit, str x.now_seq_kind, i64 x.now_seq_other, str x.now_seq_text, x.now_seq_doing.val, x.now_seq_todo.val, i64 x.now_seq_made, str x.now_seq_branch, str x.now_seq_head_branch, i64 x.now_seq_head_commit, x.now_seq_index.val, x.now_seq_work.val, x.now_stash.val, x.commits.val, x.log_back.val, x.log_forth.val, i64 x.time], fun _ => rfl, fun _ u h => by simp only [List.mem_cons, List.not_mem_nil, or_false] at h; rcases h with rfl | rfl | rfl | rfl | rfl | rfl | rfl | rfl | rfl | rfl | rfl | rfl | rfl | rfl | rfl | rfl | rfl | rfl | rfl | rfl | rfl <;> first | rfl | exact Er.one _, StateState.m⟩
structure StateWriter where
  enc_b : Sv UInt8
@[reducible] def StateWriter.m (x : StateWriter) : Mo := x.enc_b.ok
def StateWriter.pl (x : StateWriter) : StateWriterP := ⟨x.enc_b.l⟩
instance : Dat StateWriter := ⟨1, fun x => [x.enc_b.val], fun _ => rfl, fun _ u h => by simp only [List.mem_cons, List.not_mem_nil, or_false] at h; rcases h with rfl <;> first | rfl | exact Er.one _, StateWriter.m⟩
structure StateNow where
  work : Sv FilesFile
  index : Sv IndexEntry
  refs : Sv NamesRef
  head_branch : Str
  head_commit : Int
  seq_kind : Str
  seq_other : Int
  seq_text : Str
  seq_doing : Sv TodoStep
  seq_todo : Sv TodoStep
  seq_made : Int
  seq_branch : Str
  seq_head_branch : Str
  seq_head_commit : Int
  seq_index : Sv IndexEntry
  seq_work : Sv FilesFile
  stash : Sv ShelfShelf
@[reducible] def StateNow.m (x : StateNow) : Mo := (x.work.ok.and (x.index.ok.and (x.refs.ok.and (x.seq_doing.ok.and (x.seq_todo.ok.and (x.seq_index.ok.and (x.seq_work.ok.and x.stash.ok)))))))
def StateNow.pl (x : StateNow) : StateNowP := ⟨x.work.l, x.index.l, x.refs.l, x.head_branch, x.head_commit, x.seq_kind, x.seq_other, x.seq_text, x.seq_doing.l, x.seq_todo.l, x.seq_made, x.seq_branch, x.seq_head_branch, x.seq_head_commit, x.seq_index.l, x.seq_work.l, (x.stash.l.map ShelfShelf.pl)⟩
instance : Dat StateNow := ⟨17, fun x => [x.work.val, x.index.val, x.refs.val, str x.head_branch, i64 x.head_commit, str x.seq_kind, i64 x.seq_other, str x.seq_text, x.seq_doing.val, x.seq_todo.val, i64 x.seq_made, str x.seq_branch, str x.seq_head_branch, i64 x.seq_head_commit, x.seq_index.val, x.seq_work.val, x.stash.val], fun _ => rfl, fun _ u h => by simp only [List.mem_cons, List.not_mem_nil, or_false] at h; rcases h with rfl | rfl | rfl | rfl | rfl | rfl | rfl | rfl | rfl | rfl | rfl | rfl | rfl | rfl | rfl | rfl | rfl <;> first | rfl | exact Er.one _, StateNow.m⟩
instance : Dat NamesHead := ⟨2, fun x => [str x.branch, i64 x.commit], fun _ => rfl, fun _ u h => by simp only [List.mem_cons, List.not_mem_nil, or_false] at h; rcases h with rfl | rfl <;> first | rfl | exact Er.one _, fun _ => Mo.tt⟩
instance : Flat NamesHead := ⟨fun _ => rfl⟩
structure StateSeq where
  kind : Str
  other : Int
  text : Str
  doing : Sv TodoStep
  todo : Sv TodoStep
  made : Int
  branch : Str
  head_branch : Str
  head_commit : Int
  index : Sv IndexEntry
  work : Sv FilesFile
@[reducible] def StateSeq.m (x : StateSeq) : Mo := (x.doing.ok.and (x.todo.ok.and (x.index.ok.and x.work.ok)))
def StateSeq.pl (x : StateSeq) : StateSeqP := ⟨x.kind, x.other, x.text, x.doing.l, x.todo.l, x.made, x.branch, x.head_branch, x.head_commit, x.index.l, x.work.l⟩
instance : Dat StateSeq := ⟨11, fun x => [str x.kind, i64 x.other, str x.text, x.doing.val, x.todo.val, i64 x.made, str x.branch, str x.head_branch, i64 x.head_commit, x.index.val, x.work.val], fun _ => rfl, fun _ u h => by simp only [List.mem_cons, List.not_mem_nil, or_false] at h; rcases h with rfl | rfl | rfl | rfl | rfl | rfl | rfl | rfl | rfl | rfl | rfl <;> first | rfl | exact Er.one _, StateSeq.m⟩
structure CodecDec where
  b : Sv UInt8
  at_ : Int
  err : Er
@[reducible] def CodecDec.m (x : CodecDec) : Mo := (x.b.ok.and x.err.ok)
def CodecDec.pl (x : CodecDec) : CodecDecP := ⟨x.b.l, x.at_, x.err.pl⟩
instance : Dat CodecDec := ⟨3, fun x => [x.b.val, i64 x.at_, x.err.val], fun _ => rfl, fun _ u h => by simp only [List.mem_cons, List.not_mem_nil, or_false] at h; rcases h with rfl | rfl | rfl <;> first | rfl | exact Er.one _, CodecDec.m⟩
structure CmdCmd where
  verb : Str
  name : Str
  n : Int
  text : Str
  force : Bool
  todo : Sv TodoStep
@[reducible] def CmdCmd.m (x : CmdCmd) : Mo := x.todo.ok
def CmdCmd.pl (x : CmdCmd) : CmdCmdP := ⟨x.verb, x.name, x.n, x.text, x.force, x.todo.l⟩
instance : Dat CmdCmd := ⟨6, fun x => [str x.verb, str x.name, i64 x.n, str x.text, .bool x.force, x.todo.val], fun _ => rfl, fun _ u h => by simp only [List.mem_cons, List.not_mem_nil, or_false] at h; rcases h with rfl | rfl | rfl | rfl | rfl | rfl <;> first | rfl | exact Er.one _, CmdCmd.m⟩
instance : Dat PlanOne := ⟨4, fun x => [str x.file_path, i64 x.file_mode, str x.file_data, .bool x.is], fun _ => rfl, fun _ u h => by simp only [List.mem_cons, List.not_mem_nil, or_false] at h; rcases h with rfl | rfl | rfl | rfl <;> first | rfl | exact Er.one _, fun _ => Mo.tt⟩
instance : Flat PlanOne := ⟨fun _ => rfl⟩
structure TmergeResult where
  files : Sv FilesFile
  entries : Sv IndexEntry
  conflicts : Sv Str
@[reducible] def TmergeResult.m (x : TmergeResult) : Mo := (x.files.ok.and (x.entries.ok.and x.conflicts.ok))
def TmergeResult.pl (x : TmergeResult) : TmergeResultP := ⟨x.files.l, x.entries.l, x.conflicts.l⟩
instance : Dat TmergeResult := ⟨3, fun x => [x.files.val, x.entries.val, x.conflicts.val], fun _ => rfl, fun _ u h => by simp only [List.mem_cons, List.not_mem_nil, or_false] at h; rcases h with rfl | rfl | rfl <;> first | rfl | exact Er.one _, TmergeResult.m⟩
instance : Dat TmergeOne := ⟨4, fun x => [str x.file_path, i64 x.file_mode, str x.file_data, .bool x.is], fun _ => rfl, fun _ u h => by simp only [List.mem_cons, List.not_mem_nil, or_false] at h; rcases h with rfl | rfl | rfl | rfl <;> first | rfl | exact Er.one _, fun _ => Mo.tt⟩
instance : Flat TmergeOne := ⟨fun _ => rfl⟩
structure OplogLog where
  back : Sv Str
  forth : Sv Str
@[reducible] def OplogLog.m (x : OplogLog) : Mo := (x.back.ok.and x.forth.ok)
def OplogLog.pl (x : OplogLog) : OplogLogP := ⟨x.back.l, x.forth.l⟩
instance : Dat OplogLog := ⟨2, fun x => [x.back.val, x.forth.val], fun _ => rfl, fun _ u h => by simp only [List.mem_cons, List.not_mem_nil, or_false] at h; rcases h with rfl | rfl <;> first | rfl | exact Er.one _, OplogLog.m⟩
@[reducible] def zStateState (x : StateState) : List Value := [x.now_work.val, x.now_index.val, x.now_refs.val, str x.now_head_branch, i64 x.now_head_commit, str x.now_seq_kind, i64 x.now_seq_other, str x.now_seq_text, x.now_seq_doing.val, x.now_seq_todo.val, i64 x.now_seq_made, str x.now_seq_branch, str x.now_seq_head_branch, i64 x.now_seq_head_commit, x.now_seq_index.val, x.now_seq_work.val, x.now_stash.val, x.commits.val, x.log_back.val, x.log_forth.val, i64 x.time]
@[reducible] def zStateNow (x : StateNow) : List Value := [x.work.val, x.index.val, x.refs.val, str x.head_branch, i64 x.head_commit, str x.seq_kind, i64 x.seq_other, str x.seq_text, x.seq_doing.val, x.seq_todo.val, i64 x.seq_made, str x.seq_branch, str x.seq_head_branch, i64 x.seq_head_commit, x.seq_index.val, x.seq_work.val, x.stash.val]
@[reducible] def zStateSeq (x : StateSeq) : List Value := [str x.kind, i64 x.other, str x.text, x.doing.val, x.todo.val, i64 x.made, str x.branch, str x.head_branch, i64 x.head_commit, x.index.val, x.work.val]
end Go.V
end
