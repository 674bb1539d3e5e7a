/- Part of the proofs of: The laws on plans hold for every input: what is laid into a folder keeps what was changed, a clean folder takes any tree, and by force the index is the tree. -/
import Derived.Sort.Walk0
import Derived.Lib.SlicesCompact
import Derived.Sort.Row
import Derived.Sort.Grow
import Derived.Sort.EncStr
import Derived.Maps.Own
import Derived.Maps.Views
import Derived.Sort.KeysCollected
import Derived.StringKeys
import Derived.Shelf.Strings.OnBuilder
import Derived.Shelf.LaysM
import Derived.Shelf.Strconv.Itoa3
import Derived.Shelf.Sort.Plain
import Derived.Shelf.Slices.CompactS
import Derived.Shelf.Slices.In.SortNone
import Derived.Test.YtpmhinamcndmeaaGreatDoorProg
import Derived.Shelf.SlIter.Nil
import Derived.Shelf.SortM.Plain
import Derived.Shelf.SortM.SortNone
import Derived.Test.YtpmhinamcndmeaaGreatDoorRows
import Derived.Test.YtpmhinamcndmeaaGreatDoorPA
set_option linter.unusedVariables false
set_option linter.unusedSimpArgs false
set_option linter.unusedSectionVars false
section
namespace Go.S
open Go
def insS (x : List UInt8) : List (List UInt8) → List (List UInt8)
  | [] => [x]
  | y :: r => if Op.bytesLess y x = true then y :: insS x r else x :: y :: r
def sortS : List (List UInt8) → List (List UInt8)
  | [] => []
  | x :: r => insS x (sortS r)
theorem insS_perm (x : List UInt8) : ∀ l, (insS x l).Perm (x :: l)
  | [] => List.Perm.refl _
  | y :: r => by
    unfold insS
    split
    · exact ((insS_perm x r).cons y).trans (List.Perm.swap x y r)
    · exact List.Perm.refl _
theorem sortS_perm : ∀ l, (sortS l).Perm l
  | [] => List.Perm.refl _
  | x :: r => (insS_perm x _).trans ((sortS_perm r).cons x)
theorem insS_sorted (x : List UInt8) : ∀ l : List (List UInt8), l.Pairwise (· ≤ ·) → (insS x l).Pairwise (· ≤ ·)
  | [], _ => by simp [insS]
  | y :: r, h => by
    unfold insS
    have h1 := List.pairwise_cons.1 h
    split
    · next hb =>
      rw [Go.Proofs.bytesLess_eq, decide_eq_true_eq] at hb
      refine List.pairwise_cons.2 ⟨fun z hz => ?_, insS_sorted x r h1.2⟩
      rcases List.mem_cons.1 ((insS_perm x r).mem_iff.1 hz) with q | q
      · rw [q]; exact List.le_of_lt hb
      · exact h1.1 z q
    · next hb =>
      rw [Go.Proofs.bytesLess_eq, decide_eq_true_eq] at hb
      have hxy : x ≤ y := List.not_lt.1 hb
      refine List.pairwise_cons.2 ⟨fun z hz => ?_, h⟩
      rcases List.mem_cons.1 hz with q | q
      · rw [q]; exact hxy
      · exact List.le_trans hxy (h1.1 z q)
theorem sortS_sorted : ∀ l : List (List UInt8), (sortS l).Pairwise (· ≤ ·)
  | [] => List.Pairwise.nil
  | x :: r => insS_sorted x _ (sortS_sorted r)
theorem sortS_eq (l : List (List UInt8)) : sortS l = l.mergeSort (fun x y => decide (x ≤ y)) := by
  have tr : ∀ a b c : List UInt8, decide (a ≤ b) = true → decide (b ≤ c) = true → decide (a ≤ c) = true := fun a b c h1 h2 => by simp only [decide_eq_true_eq] at *; exact List.le_trans h1 h2
  have to : ∀ a b : List UInt8, (decide (a ≤ b) || decide (b ≤ a)) = true := fun a b => by simp only [Bool.or_eq_true, decide_eq_true_eq]; exact List.le_total a b
  refine List.Perm.eq_of_pairwise (le := fun a b => decide (a ≤ b) = true) (fun a b _ _ h1 h2 => ?_) ((sortS_sorted l).imp fun h => decide_eq_true h) (List.pairwise_mergeSort tr to l) ((sortS_perm l).trans (List.mergeSort_perm l _).symm)
  simp only [decide_eq_true_eq] at h1 h2
  exact List.le_antisymm h1 h2
def cstep (acc : List (List UInt8)) (z : List UInt8) : List (List UInt8) := if acc.getLast? = some z then acc else acc ++ [z]
def compactS (l : List (List UInt8)) : List (List UInt8) := l.foldl cstep []
theorem compact_upto (l : List (List UInt8)) : ∀ m, m ≤ l.length → Lib.compactUpTo l.toArray m = (l.take m).foldl cstep [] ∧ (Lib.compactUpTo l.toArray m).getLast? = if m = 0 then none else l[m - 1]?
  | 0, _ => by simp [Lib.compactUpTo]
  | m + 1, h => by
    obtain ⟨h1, h2⟩ := compact_upto l m (by omega)
    have hm : m < l.length := by omega
    have hg : l.toArray[m]! = l[m] := by simp [hm]
    rw [Lib.compactUpTo_succ, List.take_add_one, List.getElem?_eq_getElem hm, List.foldl_append, ← h1]
    simp only [Option.toList, List.foldl_cons, List.foldl_nil, cstep, h2, hg]
    by_cases h0 : m = 0
    · subst h0
      simp [Lib.keeps]
    · have hp : m - 1 < l.length := by omega
      have hg2 : l.toArray[m - 1]! = l[m - 1] := by simp [hp]
      simp only [if_neg h0, List.getElem?_eq_getElem hp, Option.some.injEq]
      by_cases he : l[m - 1] = l[m]
      · have hk : Lib.keeps l.toArray m = false := Lib.keeps_neg (by omega) (by rw [hg, hg2, he])
        simp only [hk, if_pos he, Bool.false_eq_true, if_false, List.append_nil, h2, if_neg h0, List.getElem?_eq_getElem hp]
        simp [he, hm]
      · have hk : Lib.keeps l.toArray m = true := Lib.keeps_pos (by rw [hg, hg2]; exact fun e => he e.symm)
        simp only [hk, if_neg he, if_true]
        simp [hm]
theorem compactS_eq (l : List (List UInt8)) : compactS l = Lib.compact l := by
  have := (compact_upto l l.length (Nat.le_refl _)).1
  rw [List.take_length] at this
  exact this.symm
theorem compact_len (l : List (List UInt8)) : (compactS l).length ≤ l.length := by
  unfold compactS
  suffices h : ∀ (acc : List (List UInt8)) (l : List (List UInt8)), (l.foldl cstep acc).length ≤ acc.length + l.length by simpa using h [] l
  intro acc l
  induction l generalizing acc with
  | nil => simp
  | cons x r ih =>
    refine Nat.le_trans (ih (cstep acc x)) ?_
    have : (cstep acc x).length ≤ acc.length + 1 := by unfold cstep; split <;> simp
    simp only [List.length_cons]; omega
theorem cstep_sorted (acc : List (List UInt8)) (z : List UInt8) (h : acc.Pairwise (· < ·)) (hz : ∀ y ∈ acc, y ≤ z) : (cstep acc z).Pairwise (· < ·) ∧ ∀ y, y ∈ cstep acc z ↔ y ∈ acc ∨ y = z := by
  unfold cstep
  split
  · next he =>
    refine ⟨h, fun y => ⟨.inl, fun q => q.elim id fun q => ?_⟩⟩
    rw [q]; exact List.mem_of_getLast? he
  · next hne =>
    refine ⟨List.pairwise_append.2 ⟨h, List.pairwise_singleton _ _, fun a ha c hc => ?_⟩, fun y => by simp⟩
    rw [List.mem_singleton.1 hc]
    have hle := hz a ha
    by_cases hlt : a < z
    · exact hlt
    · have hza : z = a := List.le_antisymm (List.not_lt.1 hlt) hle
      subst hza
      -- the last one is at least as great as z, and not z: no
      exfalso
      have hnil : acc ≠ [] := fun q => by rw [q] at ha; cases ha
      have hl : acc.getLast? = some (acc.getLast hnil) := List.getLast?_eq_some_getLast hnil
      have hm := List.getLast_mem hnil
      have hle2 := hz _ hm
      rw [hl] at hne
      have hcat : acc = acc.dropLast ++ [acc.getLast hnil] := (List.dropLast_concat_getLast hnil).symm
      rw [hcat] at ha h
      rcases List.mem_append.1 ha with q | q
      · have hq := (List.pairwise_append.1 h).2.2 z q _ (List.mem_singleton_self _)
        exact absurd hle2 (List.not_le.2 hq)
      · exact hne (congrArg some (List.mem_singleton.1 q).symm)
theorem compact_sorted : ∀ (l acc : List (List UInt8)), acc.Pairwise (· < ·) → (∀ y ∈ acc, ∀ z ∈ l, y ≤ z) → l.Pairwise (· ≤ ·) → (l.foldl cstep acc).Pairwise (· < ·) ∧ ∀ y, y ∈ l.foldl cstep acc ↔ y ∈ acc ∨ y ∈ l
  | [], acc, h, _, _ => ⟨h, fun y => by simp⟩
  | z :: r, acc, h, h1, h2 => by
    have hs := cstep_sorted acc z h (fun y hy => h1 y hy z (List.mem_cons_self ..))
    have hp := List.pairwise_cons.1 h2
    have ih := compact_sorted r (cstep acc z) hs.1 (fun y hy w hw => by
      rcases (hs.2 y).1 hy with q | q
      · exact h1 y q w (List.mem_cons_of_mem _ hw)
      · rw [q]; exact hp.1 w hw) hp.2
    refine ⟨ih.1, fun y => ?_⟩
    rw [List.foldl_cons, ih.2 y, hs.2 y, List.mem_cons]
    constructor
    · rintro ((q | q) | q)
      · exact .inl q
      · exact .inr (.inl q)
      · exact .inr (.inr q)
    · rintro (q | q | q)
      · exact .inl (.inl q)
      · exact .inl (.inr q)
      · exact .inr q
def keysS (l : List (List UInt8)) : List (List UInt8) := compactS (sortS l)
theorem keysS_lt (l : List (List UInt8)) : (keysS l).Pairwise (· < ·) := (compact_sorted (sortS l) [] List.Pairwise.nil (fun y h => by cases h) (sortS_sorted l)).1
theorem keysS_mem (l : List (List UInt8)) (y : List UInt8) : y ∈ keysS l ↔ y ∈ l := by
  have := (compact_sorted (sortS l) [] List.Pairwise.nil (fun y h => by cases h) (sortS_sorted l)).2 y
  rw [show keysS l = (sortS l).foldl cstep [] from rfl, this]
  simp [(sortS_perm l).mem_iff]
theorem keysS_len (l : List (List UInt8)) : (keysS l).length ≤ l.length := by
  have h1 := compact_len (sortS l)
  rw [(sortS_perm l).length_eq] at h1
  exact h1
theorem keysS_of {l ss : List (List UInt8)} (hn : ss.Nodup) (hm : ∀ y, y ∈ ss ↔ y ∈ l) : ss.mergeSort (fun x y => decide (x ≤ y)) = keysS l := by
  rw [← sortS_eq]
  have hk : (keysS l).Nodup := (keysS_lt l).imp (fun {a b} (h : a < b) (e : a = b) => List.lt_irrefl b (e ▸ h))
  refine List.Perm.eq_of_pairwise (le := fun a b => decide (a ≤ b) = true) (fun a b _ _ h1 h2 => ?_) ((sortS_sorted ss).imp fun h => decide_eq_true h) ((keysS_lt l).imp fun h => decide_eq_true (List.le_of_lt h)) ((sortS_perm ss).trans ((List.perm_ext_iff_of_nodup hn hk).2 fun y => (hm y).trans (keysS_mem l y).symm))
  simp only [decide_eq_true_eq] at h1 h2
  exact List.le_antisymm h1 h2
end Go.S
end

section
set_option linter.unusedVariables false
set_option linter.unusedSimpArgs false
set_option linter.unusedSectionVars false
namespace Go.V
open Go.RowKit Go.S Go.Sort
theorem putCells_toList {enc : Str → Value} (d : List Str) (cur : Array Value) (h : d.length ≤ cur.size) : (putCells enc 0 d.toArray cur).toList = d.map enc ++ cur.toList.drop d.length := by
  apply List.ext_getElem?
  intro j
  unfold putCells
  rw [Array.getElem?_toList, Array.getElem?_mapIdx]
  by_cases hj : j < d.length
  · have hc : j < cur.size := by omega
    rw [List.getElem?_append_left (by simpa using hj)]
    simp [hc, hj]
  · rw [List.getElem?_append_right (by simp; omega)]
    simp only [List.length_map, List.getElem?_drop, Array.getElem?_toList, List.size_toArray]
    rw [show d.length + (j - d.length) = j by omega]
    cases hc : cur[j]? with
    | none => rfl
    | some x => simp; omega
theorem Ct.sort {P : Program} {f : FuncId} (he : ∀ (xs : Array Value) (w : World), (callFunc f xs).run P w = .ok (.enter f xs) w)
    (hc : ∀ (blk off cap : Nat) (ss : List (List UInt8)) (w : World), Holds Go.Proofs.encStr w blk off ss.toArray → blk < w.heap.size → ss.length < 4611686018427387904 →
      Calls P f #[.slice (some ⟨blk, off, none⟩) ss.length cap] w fun e w' => e = .returned (.tuple #[]) ∧ ∃ n os, w' = grow (putRow Go.Proofs.encStr (Sort.ahead w n) blk off (ss.mergeSort fun x y => decide (x ≤ y)).toArray) os)
    (hn : ∀ (p : Option Addr) (cap : Nat) (w : World), Calls P f #[.slice p 0 cap] w fun e w' => e = .returned (.tuple #[]) ∧ w' = w)
    (s : Sv Str) (T : TypeId) (hb : s.l.length ≤ 4294967296) :
    Ct P f [s.val] Mo.tt (s.own T) (X := Sv Str) (fun _ => .tuple #[]) (fun q => q.l = sortS s.l ∧ q.val = s.val) (fun _ => Mo.tt) (fun q => q.own T) :=
  ⟨he, fun w hp z m hA d l k => by
    have hA0 := hA
    obtain ⟨hlc, hcm, ⟨hl0, hc0⟩ | ⟨b, cur, hsa, hg, hcs, ht⟩⟩ := hA
    · have e1 : s.val = .slice s.a 0 s.c := by unfold Sv.val; rw [hl0]; rfl
      rw [e1]
      refine (hn s.a s.c w).mono fun e w' ⟨h1, h2⟩ => ⟨_, h1, s, rfl, ⟨by rw [hl0]; rfl, e1⟩, ?_⟩
      subst h2
      exact ⟨⟨hp, z, trivial, hA0, d, l, k, Hp.le.refl hp, fun b hb => .inl hb, fun b hb => .inl hb⟩, fun b _ _ => rfl, rfl, rfl, rfl, Nat.le_refl _⟩
    · have hw : w.heap[b]? = some (.cells cur T (0, 0)) := k _ _ hg
      have hsz : Dat.sz Str = 1 := rfl
      rw [hsz, Nat.mul_one] at hcs ht
      have hfl : s.l.flatMap Dat.enc = s.l.map Go.Proofs.encStr := by
        rw [List.map_eq_flatMap]; rfl
      rw [hfl] at ht
      have hH : Holds Go.Proofs.encStr w b 0 s.l.toArray := fun j hj => by
        have hj' : j < s.l.length := by simpa using hj
        have h1 : cur[j]? = some (Go.Proofs.encStr s.l[j]) := by
          have := congrArg (fun l => l[j]?) ht
          simp only [List.getElem?_take, if_pos hj', List.getElem?_map, List.getElem?_eq_getElem hj', Option.map_some] at this
          rw [← Array.getElem?_toList]; exact this
        refine ⟨?_, by simp [World.frozen?, hw]⟩
        simp only [World.cell?, hw, Nat.zero_add, h1]
        simp [hj']
      have hlt := (Array.getElem?_eq_some_iff.1 hw).1
      have e1 : s.val = .slice (some ⟨b, 0, none⟩) s.l.length s.c := by unfold Sv.val; rw [hsa]
      rw [e1]
      have hlen : (sortS s.l).length = s.l.length := (sortS_perm s.l).length_eq
      refine (hc b 0 s.c s.l w hH hlt (by omega)).mono fun e w' ⟨h1, n, os, h2⟩ => ⟨_, h1, ⟨s.a, s.c, sortS s.l⟩, rfl, ⟨rfl, by unfold Sv.val; rw [hlen, hsa]⟩, ?_⟩
      rw [← sortS_eq] at h2
      have hw1 : (putRow Go.Proofs.encStr (Sort.ahead w n) b 0 (sortS s.l).toArray).heap[b]? = some (.cells (putCells Go.Proofs.encStr 0 (sortS s.l).toArray cur) T (0, 0)) := by
        unfold putRow mapBlock
        simp only [Array.getElem?_modify, if_true]
        show (w.heap[b]?).map _ = _
        rw [hw]; rfl
      have ho1 : ∀ i, i ≠ b → (putRow Go.Proofs.encStr (Sort.ahead w n) b 0 (sortS s.l).toArray).heap[i]? = w.heap[i]? := fun i hi => by
        unfold putRow mapBlock
        simp only [Array.getElem?_modify, if_neg (Ne.symm hi)]
        rfl
      have hs1 : (putRow Go.Proofs.encStr (Sort.ahead w n) b 0 (sortS s.l).toArray).heap.size = w.heap.size := by rw [size_putRow]; rfl
      have hst : St ⟨w, hp, fun i => z i ≠ none⟩ Mo.tt ((⟨s.a, s.c, sortS s.l⟩ : Sv Str).own T) (putRow Go.Proofs.encStr (Sort.ahead w n) b 0 (sortS s.l).toArray) := by
        refine St.turn (A := Sv.own _ T) hg d trivial l ⟨by rw [hlen]; exact hlc, hcm, .inr ⟨b, _, hsa, Hp.one_self _ _, ?_, ?_⟩⟩ hs1 hw1 ho1 rfl rfl rfl
        · rw [hsz, Nat.mul_one]; simp [putCells, hcs]
        · rw [hsz, Nat.mul_one, putCells_toList (sortS s.l) cur (by rw [hlen, hcs]; exact hlc), hlen]
          rw [List.take_append_of_le_length (by simp [hlen]), List.take_of_length_le (by simp [hlen])]
          rw [List.map_eq_flatMap]; rfl
      rw [h2]
      refine hst.grow ⟨rfl, rfl, rfl, ?_, fun k hk => ?_⟩
      · simp [grow]
      · unfold grow; exact Array.getElem?_append_left hk⟩
theorem Ct.compact {P : Program} {f : FuncId} (he : ∀ (xs : Array Value) (w : World), (callFunc f xs).run P w = .ok (.enter f xs) w)
    (hc : ∀ (blk off cap : Nat) (ss : List (List UInt8)) (w : World), Holds Go.Proofs.encStr w blk off ss.toArray → ss.length ≤ 9223372036854775807 → ss.length ≤ cap →
      Calls P f #[.slice (some ⟨blk, off, none⟩) ss.length cap] w fun e w' => e = .returned (.slice (some ⟨blk, off, none⟩) (Lib.compact ss).length cap) ∧ ∃ q, w' = putRow Go.Proofs.encStr (Sort.ahead w q) blk off (Lib.compact ss ++ List.replicate (ss.length - (Lib.compact ss).length) []).toArray)
    (hn : ∀ (p : Option Addr) (cap : Nat) (w : World), Calls P f #[.slice p 0 cap] w fun e w' => e = .returned (.slice p 0 cap) ∧ w' = w)
    (s : Sv Str) (T : TypeId) (hb : s.l.length ≤ 4294967296) :
    Ct P f [s.val] Mo.tt (s.own T) (X := Sv Str) (fun q => q.val) (fun q => q.l = compactS s.l) (fun _ => Mo.tt) (fun q => q.own T) :=
  ⟨he, fun w hp z m hA d l k => by
    have hA0 := hA
    obtain ⟨hlc, hcm, ⟨hl0, hc0⟩ | ⟨b, cur, hsa, hg, hcs, ht⟩⟩ := hA
    · have e1 : s.val = .slice s.a 0 s.c := by unfold Sv.val; rw [hl0]; rfl
      rw [e1]
      refine (hn s.a s.c w).mono fun e w' ⟨h1, h2⟩ => ⟨_, h1, s, e1.symm, by show s.l = compactS s.l; rw [hl0]; rfl, ?_⟩
      subst h2
      exact ⟨⟨hp, z, trivial, hA0, d, l, k, Hp.le.refl hp, fun b hb => .inl hb, fun b hb => .inl hb⟩, fun b _ _ => rfl, rfl, rfl, rfl, Nat.le_refl _⟩
    · have hw : w.heap[b]? = some (.cells cur T (0, 0)) := k _ _ hg
      have hsz : Dat.sz Str = 1 := rfl
      rw [hsz, Nat.mul_one] at hcs ht
      have hfl : ∀ l : List Str, l.flatMap Dat.enc = l.map Go.Proofs.encStr := fun l => by
        rw [List.map_eq_flatMap]; rfl
      rw [hfl] at ht
      have hH : Holds Go.Proofs.encStr w b 0 s.l.toArray := fun j hj => by
        have hj' : j < s.l.length := by simpa using hj
        have h1 : cur[j]? = some (Go.Proofs.encStr s.l[j]) := by
          have := congrArg (fun l => l[j]?) ht
          simp only [List.getElem?_take, if_pos hj', List.getElem?_map, List.getElem?_eq_getElem hj', Option.map_some] at this
          rw [← Array.getElem?_toList]; exact this
        refine ⟨?_, by simp [World.frozen?, hw]⟩
        simp only [World.cell?, hw, Nat.zero_add, h1]
        simp [hj']
      have e1 : s.val = .slice (some ⟨b, 0, none⟩) s.l.length s.c := by unfold Sv.val; rw [hsa]
      rw [e1]
      have hle := compact_len s.l
      refine (hc b 0 s.c s.l w hH (by omega) hlc).mono fun e w' ⟨h1, n, h2⟩ => ⟨_, h1, ⟨s.a, s.c, compactS s.l⟩, by unfold Sv.val; rw [compactS_eq, hsa], rfl, ?_⟩
      rw [← compactS_eq] at h2
      have hlen : (compactS s.l ++ List.replicate (s.l.length - (compactS s.l).length) []).length = s.l.length := by simp; omega
      generalize hD : compactS s.l ++ List.replicate (s.l.length - (compactS s.l).length) [] = D at h2 hlen
      have hw1 : (putRow Go.Proofs.encStr (Sort.ahead w n) b 0 D.toArray).heap[b]? = some (.cells (putCells Go.Proofs.encStr 0 D.toArray cur) T (0, 0)) := by
        unfold putRow mapBlock
        simp only [Array.getElem?_modify, if_true]
        show (w.heap[b]?).map _ = _
        rw [hw]; rfl
      have ho1 : ∀ i, i ≠ b → (putRow Go.Proofs.encStr (Sort.ahead w n) b 0 D.toArray).heap[i]? = w.heap[i]? := fun i hi => by
        unfold putRow mapBlock
        simp only [Array.getElem?_modify, if_neg (Ne.symm hi)]
        rfl
      have hs1 : (putRow Go.Proofs.encStr (Sort.ahead w n) b 0 D.toArray).heap.size = w.heap.size := by rw [size_putRow]; rfl
      rw [h2]
      refine St.turn (A := Sv.own _ T) hg d trivial l ⟨Nat.le_trans hle hlc, hcm, .inr ⟨b, _, hsa, Hp.one_self _ _, ?_, ?_⟩⟩ hs1 hw1 ho1 rfl rfl rfl
      · rw [hsz, Nat.mul_one]; simp [putCells, hcs]
      · rw [hsz, Nat.mul_one, putCells_toList D cur (by rw [hlen, hcs]; exact hlc), hfl, ← hD, List.map_append, List.append_assoc]
        rw [List.take_append_of_le_length (by simp), List.take_of_length_le (by simp)]⟩
end Go.V
end

section
set_option linter.unusedVariables false
set_option linter.unusedSimpArgs false
set_option linter.unusedSectionVars false
namespace Go.V
open Go.RowKit Go.S Go.Sort Go.Maps
open Go.WideElems (Fit rg)
def MpK (P : Program) (k e : TypeId) (b : Nat) (l : List Str) : Ow := fun z => ∃ es clock, z b = some (.map es clock) ∧ Fit (H := Unit) P k (plainElem P e) es clock ∧ es.size ≤ l.length ∧ ∀ x : Str, has (H := Unit) (.map ((es.toList.map (rg P k (plainElem P e))).foldr DataW.insert [])) (.string x) = true ↔ x ∈ l
theorem MpK.owns {P : Program} {k e : TypeId} {b : Nat} {l : List Str} {z : Hp} {w : World} (h : MpK P k e b l z) (lz : z.le (wh w)) : ∃ D : DataW Unit, w.ownsMap P k (plainElem P e) b l.length D ∧ ∀ x : Str, has D (.string x) = true ↔ x ∈ l := by
  obtain ⟨es, clock, h1, h2, h3, h4⟩ := h
  exact ⟨_, ⟨es, clock, lz _ _ h1, h2, h3, rfl⟩, h4⟩
section
variable {P : Program} {N : Nat} {c : Cx} {ops : Array Oper} {Q Q1 : Exit → Act → World → Prop} {rest : List Oper} {o : Oper} {ρ : Env} {M M' M1 M0 : Mo} {E E1 F A : Ow} {v u : Value} {X S T R : Type}
  {d : Nat} {od : Option Nat} {ty : TypeId} {pos : String} {after : Array Edge} {gd : Option (Nat × Bool)} {x y m' : Operand} {t t' e k : TypeId} {f : FuncId}
theorem VL.mkmap (hd : d < N) (kk : ∀ b : Nat, VL P N c ops Q rest ((d, .map (some b)) :: ρ) M (Ow.star (MpK P k e b []) E)) : VL P N c ops Q (⟨some d, .makeMap t none, ty, pos, after, none⟩ :: rest) ρ M E :=
  VL.newO (S := Nat) (val := fun b => .map (some b)) (φ := fun _ => True) (A := fun b => MpK P k e b []) (fun a w g => by
    refine ⟨w.heap.size, w.alloc (.map #[] 0), .map #[] 0, ?_, trivial, Gr.alloc w _, heap_alloc_new w _, ?_⟩
    · simp only [execOp, Option.map_none, Sem.run_bind, run_makeMap, Result.andThen_ok, Sem.run_pure]
    · obtain ⟨es, clock, h1, h2, h3, h4⟩ := World.ownsMap_made (H := Unit) w P k (plainElem P e)
      have h5 := heap_alloc_new w (.map #[] 0)
      rw [h5] at h1
      cases h1
      exact ⟨#[], 0, Hp.one_self _ _, h2, Nat.le_refl _, fun x => by simp [has]⟩) hd fun b _ => kk b
theorem St.turnG {w w' : World} {h z : Hp} {b : Nat} {o o' : Obj} (hz : z b = some o) (hoff : h.off z) (hm : M.on h) (l : h.le (wh w)) (hA : A (Hp.one b o')) (hs : w.heap.size ≤ w'.heap.size) (hb : w'.heap[b]? = some o') (ho : ∀ i, i < w.heap.size → i ≠ b → w'.heap[i]? = w.heap[i]?) (e1 : w'.os = w.os) (e2 : w'.tape = w.tape) (e3 : w'.output = w.output) :
    St ⟨w, h, fun i => z i ≠ none⟩ M A w' := by
  have hbn : h b = none := (hoff b).resolve_right (by rw [hz]; simp)
  refine ⟨⟨h, Hp.one b o', hm, hA, fun i => ?_, fun i p hp => ?_, fun i p hp => ?_, Hp.le.refl h, fun i hi => .inl hi, fun i hi => .inl ?_⟩, fun i hi hd => ho i hi ?_, e1, e2, e3, hs⟩
  · by_cases hib : i = b
    · subst hib; exact .inl hbn
    · right; unfold Hp.one; rw [if_neg hib]
  · have hib : i ≠ b := fun q => by rw [q, hbn] at hp; cases hp
    have hlt := (Array.getElem?_eq_some_iff.1 (l i p hp)).1
    show w'.heap[i]? = _
    rw [ho i hlt hib]
    exact l i p hp
  · unfold Hp.one at hp
    split at hp
    · next q => subst q; cases hp; exact hb
    · cases hp
  · have : i = b := by
      unfold Hp.one at hi
      split at hi
      · assumption
      · exact absurd rfl hi
    subst this; show z i ≠ none; rw [hz]; simp
  · intro q; subst q; exact hd (by show z i ≠ none; rw [hz]; simp)
theorem VL.mapset {b : Nat} {l : List Str} {s : Str} (hk : P.underlying k = some .string) (he : P.underlying e = some .bool) (ht : P.underlying t = some (.map k e)) (hE : Foc E (MpK P k e b l) F)
    (e0 : ρ.ev m' = some (.map (some b))) (e1 : ρ.ev x = some (str s)) (e2 : ρ.ev y = some (.bool true)) (hl : l.length ≤ 4294967296 ∧ s.length ≤ 4294967296)
    (kk : VL P N c ops Q rest ρ M (Ow.star (MpK P k e b (s :: l)) F)) : VL P N c ops Q (⟨none, .mapUpdate t m' x y, ty, pos, after, none⟩ :: rest) ρ M E := by
  refine VL.bigS (A2 := MpK P k e b (s :: l)) hE (fun a w h z g hoff hm hA lh lz => ?_) kk
  obtain ⟨D, hown, hD⟩ := hA.owns lz
  obtain ⟨es0, clock0, hz0, _⟩ := hA
  obtain ⟨w', hrun, hown', hg⟩ := hown.update (string_keyed hk) ht (by unfold maxLen; omega) (Go.WideMaps.keyOf_string_mk (s := ⟨⟨s⟩⟩) hk (by show s.length ≤ maxLen; unfold maxLen; omega)) (plainElem_bool he true)
  obtain ⟨es, clock, h1, h2, h3, h4⟩ := hown'
  have hm2 : IsMap D := by obtain ⟨_, _, _, _, _, q⟩ := hown; exact ⟨_, q⟩
  refine ⟨w', ?_, St.turnG (A := MpK P k e b (s :: l)) hz0 hoff trivial lh ⟨es, clock, Hp.one_self _ _, h2, by simpa using h3, fun y => ?_⟩ hg.size h1 (fun i hi hib => hg.block i hi (fun q => hib (Option.some.inj q))) hg.os hg.tape hg.output⟩
  · simp only [execOp, g.ev e0, g.ev e1, g.ev e2, Sem.run_bind, hrun, Result.andThen_ok, Sem.run_pure]
  · rw [← h4]
    by_cases hy : y = s
    · subst hy
      exact ⟨fun _ => List.mem_cons_self .., fun _ => has_put_same (k := .string y) hm2 (show Go.WideAt.IsKeyLit (.string y) from True.intro) _⟩
    · rw [has_put_other (by simpa using hy), hD y]
      simp [hy]
theorem Ct.mapKeys {it T b : Nat} (he : ∀ (xs : Array Value) (w : World), (callFunc f xs).run P w = .ok (.enter f xs) w)
    (hc : ∀ (mb : Option Nat) (W : World), Calls P f #[.map mb] W fun e w' => e = .returned (.func (.func it) #[] #[.pointer (some ⟨W.heap.size, 0, none⟩)]) ∧ w' = W.alloc (.cells #[.map mb] T)) :
    Ct P f [.map (some b)] Mo.tt Ow.emp (X := Nat) (fun B => .func (.func it) #[] #[ptr B 0]) (fun _ => True) (fun _ => Mo.tt) (fun B => Blk B [.map (some b)] T) :=
  ⟨he, fun w hp z m _ d l k => (hc (some b) w).mono fun e w' ⟨h1, h2⟩ => ⟨_, h1, w.heap.size, rfl, trivial, by
    subst h2
    exact St.newO (A := Blk w.heap.size [.map (some b)] T) (Hp.one_self _ _) trivial l (Gr.alloc w _) (heap_alloc_new w _)⟩⟩
theorem Ct.sortedKeys {it T b B : Nat} {l : List Str} (he : ∀ (xs : Array Value) (w : World), (callFunc f xs).run P w = .ok (.enter f xs) w) (hk : P.underlying k = some .string)
    (hc : ∀ (D0 : DataW Unit) (nn : Nat) (W : World), B < W.heap.size → W.cell? ⟨B, 0, none⟩ = some (.map (some b)) → W.ownsMap P k (plainElem P e) b nn D0 → Maps.size D0 ≤ maxLen → Maps.size D0 * 16 ≤ 140737488355328 →
      Calls P f #[.func (.func it) #[] #[.pointer (some ⟨B, 0, none⟩)]] W fun en w' => ∃ (v : Value) (ss : List (List UInt8)), en = .returned v ∧ ss.Perm (strKeys D0) ∧ w'.ownsRow W.heap.size k 1 v ss.length ((ss.mergeSort (fun x y => decide (x ≤ y))).map Go.Proofs.encStr) ∧ (v = .slice none 0 0 ↔ ss = []) ∧ Below W.heap.size W w')
    (hb : l.length ≤ 4294967296) :
    Ct P f [.func (.func it) #[] #[ptr B 0]] Mo.tt (Ow.star (Blk B [.map (some b)] T) (MpK P k e b l)) (X := Sv Str) (fun q => q.val) (fun q => q.l = keysS l) (fun _ => Mo.tt) (fun q => q.own k) :=
  ⟨he, fun w hp z m hA d lh lz => by
    obtain ⟨z1, z2, doff, rfl, hB, hM⟩ := hA
    have lz2 : z2.le (wh w) := (Hp.le_join_right doff).trans lz
    have hBw : w.heap[B]? = some (.cells #[.map (some b)] T (0, 0)) := lz _ _ (Hp.le_join_left z1 z2 _ _ hB)
    obtain ⟨D, hown, hD⟩ := hM.owns lz2
    obtain ⟨es, hDe, hpw, hko⟩ := hown.entries (string_keyed hk)
    have hsz : Maps.size D ≤ l.length := by
      obtain ⟨es', clock, _, _, h3, h4⟩ := hown
      rw [h4]
      show (List.foldr DataW.insert [] (es'.toList.map (rg P k (plainElem P e)))).length ≤ _
      rw [length_sorted]
      simpa using h3
    refine (hc D l.length w (Array.getElem?_eq_some_iff.1 hBw).1 (by simp [World.cell?, hBw]) hown (by unfold maxLen; omega) (by omega)).mono fun en w' ⟨v, ss, h1, h2, h3, h4, h5⟩ => ?_
    have hcol : ∀ x, x ∈ ss ↔ x ∈ l := fun x => by
      rw [h2.mem_iff, ← hD x]
      obtain ⟨es2, hD2, hko2⟩ := hown.keysOf
      subst hD2
      rw [has_eq, List.any_eq_true]
      show x ∈ es2.map (fun p => strOf p.1) ↔ _
      rw [List.mem_map]
      constructor
      · rintro ⟨p, hp', rfl⟩
        obtain ⟨v', hv'⟩ := hko2 p hp'
        obtain ⟨a, _, ha, _⟩ := Maps.keyOf_str hk hv'
        exact ⟨p, hp', by rw [ha]; simp [Lit.sameKey, strOf]⟩
      · rintro ⟨p, hp', hs⟩
        obtain ⟨v', hv'⟩ := hko2 p hp'
        obtain ⟨a, _, ha, _⟩ := Maps.keyOf_str hk hv'
        rw [ha] at hs
        exact ⟨p, hp', by rw [ha]; simpa [Lit.sameKey, strOf] using hs⟩
    have hnd : ss.Nodup := by
      refine h2.nodup_iff.2 ?_
      obtain ⟨es2, hD2, hko2⟩ := hown.keysOf
      rw [hDe] at hD2
      obtain rfl : es = es2 := by simpa using hD2
      rw [hDe]
      show (es.map fun p => strOf p.1).Nodup
      refine List.pairwise_map.2 (hpw.imp_of_mem fun {p q} hp' hq' hne e' => hne ?_)
      obtain ⟨v1, hv1⟩ := hko2 p hp'
      obtain ⟨a, _, ha, _⟩ := Maps.keyOf_str hk hv1
      obtain ⟨v2, hv2⟩ := hko2 q hq'
      obtain ⟨b', _, hb', _⟩ := Maps.keyOf_str hk hv2
      rw [ha, hb'] at e' ⊢
      exact congrArg _ e'
    have hkeys := keysS_of hnd hcol
    rw [hkeys] at h3
    have hlk : (keysS l).length = ss.length := by rw [← hkeys]; exact (List.mergeSort_perm ss _).length_eq
    have hsz1 : Dat.sz Str = 1 := rfl
    have hfl : ∀ l : List Str, l.flatMap Dat.enc = l.map Go.Proofs.encStr := fun l => by rw [List.map_eq_flatMap]; rfl
    obtain ⟨r1, ⟨rfl, r2⟩ | ⟨g, cap, cur, rfl, r2, r3, r4, r5, r6, r7⟩⟩ := h3
    · refine ⟨_, h1, ⟨none, 0, []⟩, rfl, ?_, ?_⟩
      · show [] = keysS l
        exact (List.length_eq_zero_iff.1 (hlk.trans r2)).symm
      · have hgr := Gr.of_below h5
        refine ⟨⟨hp, Hp.nil, trivial, ⟨Nat.le_refl _, by simp [maxLen], .inl ⟨rfl, rfl⟩⟩, Hp.nil_off _, lh.trans hgr.le, (fun b p q => by cases q), Hp.le.refl hp, (fun b q => .inl q), (fun b q => absurd rfl q)⟩, fun b hb _ => hgr.block b hb, hgr.os, hgr.tape, hgr.output, hgr.size⟩
    · refine ⟨_, h1, ⟨some ⟨g, 0, none⟩, cap, keysS l⟩, by show Value.slice _ ss.length _ = Value.slice _ (keysS l).length _; rw [hlk], rfl, ?_⟩
      have hgr := Gr.of_below h5
      refine ⟨⟨hp, Hp.one g (.cells cur k (0, 0)), trivial, ⟨by rw [hlk]; exact r4, r5, .inr ⟨g, cur, rfl, Hp.one_self _ _, by rw [hsz1, r6], by rw [hsz1, hlk, hfl]; exact r7⟩⟩, fun i => ?_, lh.trans hgr.le, fun i p hp' => ?_, Hp.le.refl hp, fun i hi => .inl hi, fun i hi => .inr ?_⟩, fun i hi _ => hgr.block i hi, hgr.os, hgr.tape, hgr.output, hgr.size⟩
      · by_cases hig : i = g
        · left
          cases hq : hp i with
          | none => rfl
          | some o =>
            have := (Array.getElem?_eq_some_iff.1 (lh i o hq)).1
            omega
        · right; unfold Hp.one; rw [if_neg hig]
      · unfold Hp.one at hp'
        split at hp'
        · next q => subst q; cases hp'; exact r3
        · cases hp'
      · have : i = g := by
          unfold Hp.one at hi
          split at hi
          · assumption
          · exact absurd rfl hi
        subst this; exact r2⟩
theorem run_append_ty {e' : TypeId} (ht : P.underlying t = some (.slice e)) (ht' : P.underlying t' = some (.slice e')) (a1 a2 : Option Addr) (n1 c1 n2 c2 : Nat) (w : World) : (Builtin.append_ #[t, t'] ty #[.slice a1 n1 c1, .slice a2 n2 c2]).run P w = (Builtin.append_ #[t, t] ty #[.slice a1 n1 c1, .slice a2 n2 c2]).run P w := by
  simp [Builtin.append_, run_underlying ht, run_underlying ht']
theorem VL.app2 {α : Type} [Dat α] {s r : Sv α} {xs : List Operand} {bt : Nat} {e' : TypeId} (hu : P.underlying t = some (.slice e)) (hu' : P.underlying t' = some (.slice e')) (hi : ((P.info? e).map fun i => (i.size, i.bytes, (i.zero.map fun z => z.cells.size))) = some (Dat.sz α, bt, some (Dat.sz α))) (hpos : 0 < Dat.sz α)
    (ha : ρ.evs xs = some [s.val, r.val]) (hE : Foc E (s.own e) F) [hr : InM M r.ok] (hlen : s.l.length + r.l.length ≤ 9007199254740992) (hb : (s.l.length + r.l.length) * bt ≤ 140737488355328) (hd : d < N)
    (k : ∀ s' : Sv α, s'.l = s.l ++ r.l → VL P N c ops Q rest ((d, s'.val) :: ρ) M (Ow.star (s'.own e) F)) :
    VL P N c ops Q (⟨some d, .call { callee := .builtin .append, args := xs.toArray, argTypes := #[t, t'] }, ty, pos, after, none⟩ :: rest) ρ M E := by
  cases hj : P.info? e with
  | none => rw [hj] at hi; cases hi
  | some j =>
    rw [hj] at hi
    simp only [Option.map_some, Option.some.injEq, Prod.mk.injEq] at hi
    obtain ⟨h1, h2, h3⟩ := hi
    cases hz : j.zero with
    | none => rw [hz] at h3; cases h3
    | some zv =>
      rw [hz] at h3
      have h3' : zv.cells.size = j.size := by rw [h1]; simpa using h3
      refine VL.big (X := Sv α) (φ := fun s' => s'.l = s.l ++ r.l) (val := Sv.val) (M2 := fun _ => Mo.tt) (A2 := fun s' => s'.own e) hE (fun a w h z g hoff m hA l kk => ?_) hd fun s' hs' => VL.strip (k s' hs')
      obtain ⟨s', w', q1, q2, q3⟩ := run_app (P := P) (ts := ty) hu hj hz h1 h3' hpos hoff l kk hA (r.ok.up (Hp.le_join_left h z) (hr.out h m)) hlen (by rw [h2]; exact hb)
      have q1 := (run_append_ty (ty := ty) hu hu' s.a r.a s.l.length s.c r.l.length r.c w).trans q1
      refine ⟨s'.val, w', ?_, s', q2, rfl, q3⟩
      simp only [execOp, resolve, List.map_toArray, g.evs ha, Sem.run_bind, Sem.run_pure, Result.andThen_ok, invoke, builtin]
      unfold Sv.val
      simp only [q1, Sem.run_pure, Result.andThen_ok]
      rfl
end
end Go.V
end

section
set_option linter.unusedVariables false
namespace Go.S.Sh
open Go
noncomputable def slices_Clip_index_Entry_index_Entry (s_0 : List IndexEntry) : Option (List IndexEntry) :=
 gd ((0 : Int) ≤ (s_0.length : Int) ∧ (s_0.length : Int) ≤ (s_0.length : Int)) (
 lt (s_0.take (s_0.length : Int).toNat) (fun y8_2 =>
 some y8_2))
noncomputable def index_Of (r_0 : List FilesFile) : Option (List IndexEntry) :=
 iter (fun ((out3_1, x8_2) : List IndexEntry × Int) =>
 if x8_2 < (r_0.length : Int) then ((at_ r_0 x8_2).bind (fun z10_3 =>
 lt [⟨z10_3.path, 0, z10_3.mode, z10_3.data, 0, 0⟩] (fun y20_6 =>
 gd (out3_1.length + y20_6.length ≤ 4294967296) (
 lt (out3_1 ++ y20_6) (fun y21_8 =>
 gd (I64 (x8_2 + 1)) (
 go (y21_8, (x8_2 + 1))))))))
 else (up ((Sh.slices_Clip_index_Entry_index_Entry out3_1).bind (fun y24_9 =>
 some y24_9)))) ([], 0)
noncomputable def slices_Clip_string_string (s_0 : List Str) : Option (List Str) :=
 gd ((0 : Int) ≤ (s_0.length : Int) ∧ (s_0.length : Int) ≤ (s_0.length : Int)) (
 lt (s_0.take (s_0.length : Int).toNat) (fun y8_2 =>
 some y8_2))
noncomputable def files_Paths (l_0 : List (List FilesFile)) : Option (List Str) :=
 iter (fun ((x11_2, acc_3) : Int × List Str) =>
 if x11_2 < (l_0.length : Int) then ((at_ l_0 x11_2).bind (fun z13_4 =>
 iter (fun ((x17_5, acc_6) : Int × List Str) =>
 if x17_5 < (z13_4.length : Int) then ((at_ z13_4 x17_5).bind (fun z19_7 =>
 gd (acc_6.length ≤ 4294967296 ∧ z19_7.path.length ≤ 4294967296) (
 lt (z19_7.path :: acc_6) (fun accs3_9 =>
 gd (I64 (x17_5 + 1)) (
 go ((x17_5 + 1), accs3_9))))))
 else (up (gd (I64 (x11_2 + 1)) (
 go ((x11_2 + 1), acc_6))))) (0, acc_3)))
 else (up (gd (acc_3.length ≤ 4294967296) (
 lt (keysS acc_3) (fun y28_12 =>
 (Sh.slices_Clip_string_string y28_12).bind (fun y29_13 =>
 some y29_13)))))) (0, ([] : List Str))
noncomputable def cmp_isNaN_string (x_0 : Str) : Option Bool :=
 some (!decide (x_0 = x_0))
noncomputable def cmp_Compare_string (x_0 : Str) (y_1 : Str) : Option Int :=
 (Sh.cmp_isNaN_string x_0).bind (fun y8_1 =>
 (Sh.cmp_isNaN_string y_1).bind (fun y10_2 =>
 if y8_1 = true then (if y10_2 = true then (some 0)
 else (some (-1)))
 else (if y10_2 = true then (some 1)
 else (if (Op.bytesLess x_0 y_1) = true then (some (-1))
 else (if (!(Op.bytesLess x_0 y_1 || decide (x_0 = y_1))) = true then (some 1)
 else (some 0))))))
noncomputable def path_Compare (a_0 : Str) (b_1 : Str) : Option Int :=
 (Sh.cmp_Compare_string a_0 b_1).bind (fun y7_1 =>
 some y7_1)
noncomputable def files_Row_find_1 (f_0 : FilesFile) (p_1 : Str) : Option Int :=
 (Sh.path_Compare f_0.path p_1).bind (fun y8_2 =>
 some y8_2)
noncomputable def slices_BinarySearchFunc_files_Row_files_File_string (x_0 : List FilesFile) (target_1 : Str) : Option (Int × Bool) :=
 iter (fun ((i9_1, j10_2) : Int × Int) =>
 if i9_1 < j10_2 then (gd (I64 (i9_1 + j10_2)) (
 (at_ x_0 (IntKind.wrap .i64 (sHr .u64 (IntKind.wrap .u64 (i9_1 + j10_2)) 1))).bind (fun z27_3 =>
 (Sh.files_Row_find_1 z27_3 target_1).bind (fun y30_4 =>
 if y30_4 < 0 then (gd (I64 ((IntKind.wrap .i64 (sHr .u64 (IntKind.wrap .u64 (i9_1 + j10_2)) 1)) + 1)) (
 go (((IntKind.wrap .i64 (sHr .u64 (IntKind.wrap .u64 (i9_1 + j10_2)) 1)) + 1), j10_2)))
 else (go (i9_1, (IntKind.wrap .i64 (sHr .u64 (IntKind.wrap .u64 (i9_1 + j10_2)) 1))))))))
 else (up (if i9_1 < (x_0.length : Int) then ((at_ x_0 i9_1).bind (fun z43_5 =>
 (Sh.files_Row_find_1 z43_5 target_1).bind (fun y46_6 =>
 some (i9_1, (decide (y46_6 = 0))))))
 else (some (i9_1, false))))) (0, (x_0.length : Int))
noncomputable def files_Row_find (r_0 : List FilesFile) (p_1 : Str) : Option (Int × Bool) :=
 (Sh.slices_BinarySearchFunc_files_Row_files_File_string r_0 p_1).bind (fun y8_1 =>
 some (y8_1.1, y8_1.2))
noncomputable def files_Row_Get (r_0 : List FilesFile) (p_1 : Str) : Option (FilesFile × Bool) :=
 (Sh.files_Row_find r_0 p_1).bind (fun y11_2 =>
 if (!y11_2.2) = true then (some (⟨[], 0, []⟩, false))
 else ((at_ r_0 y11_2.1).bind (fun z19_3 =>
 some (⟨z19_3.path, z19_3.mode, z19_3.data⟩, true))))
noncomputable def plan_of (r_0 : List FilesFile) (p_1 : Str) : Option PlanOne :=
 (Sh.files_Row_Get r_0 p_1).bind (fun y10_2 =>
 some ⟨y10_2.1.path, y10_2.1.mode, y10_2.1.data, y10_2.2⟩)
noncomputable def plan_touched (head_0 : List FilesFile) (r_1 : TmergeResultP) : Option (List Str) :=
 lt [head_0, r_1.files] (fun y11_3 =>
 (Sh.files_Paths y11_3).bind (fun y12_4 =>
 iter (fun ((out5_5, x14_6) : List Str × Int) =>
 if x14_6 < (y12_4.length : Int) then ((at_ y12_4 x14_6).bind (fun z16_7 =>
 (Sh.plan_of head_0 z16_7).bind (fun y20_8 =>
 (Sh.plan_of r_1.files z16_7).bind (fun y24_9 =>
 if y20_8.file_path = y24_9.file_path ∧ y20_8.file_mode = y24_9.file_mode ∧ y20_8.file_data = y24_9.file_data ∧ y20_8.is = y24_9.is then (gd (I64 (x14_6 + 1)) (
 go (out5_5, (x14_6 + 1))))
 else (lt [z16_7] (fun y28_11 =>
 gd (out5_5.length + y28_11.length ≤ 4294967296) (
 lt (out5_5 ++ y28_11) (fun y29_13 =>
 gd (I64 (x14_6 + 1)) (
 go (y29_13, (x14_6 + 1)))))))))))
 else (up (gd (out5_5.length + r_1.conflicts.length ≤ 4294967296) (
 lt (out5_5 ++ r_1.conflicts) (fun y34_15 =>
 gd (y34_15.length ≤ 4294967296) (
 lt (sortS y34_15) (fun y36_17 =>
 gd (y36_17.length ≤ 4294967296) (
 lt (compactS y36_17) (fun y38_19 =>
 some y38_19))))))))) ([], 0)))
noncomputable def slices_Clip_files_Row_files_File (s_0 : List FilesFile) : Option (List FilesFile) :=
 gd ((0 : Int) ≤ (s_0.length : Int) ∧ (s_0.length : Int) ≤ (s_0.length : Int)) (
 lt (s_0.take (s_0.length : Int).toNat) (fun y8_2 =>
 some y8_2))
noncomputable def index_Stage (l_0 : List IndexEntry) (n_1 : Int) : Option (List FilesFile) :=
 iter (fun ((out5_1, x10_2) : List FilesFile × Int) =>
 if x10_2 < (l_0.length : Int) then ((at_ l_0 x10_2).bind (fun z12_3 =>
 if z12_3.stage = n_1 then (lt [⟨z12_3.path, z12_3.mode, z12_3.data⟩] (fun y26_6 =>
 gd (out5_1.length + y26_6.length ≤ 4294967296) (
 lt (out5_1 ++ y26_6) (fun y27_8 =>
 gd (I64 (x10_2 + 1)) (
 go (y27_8, (x10_2 + 1)))))))
 else (gd (I64 (x10_2 + 1)) (
 go (out5_1, (x10_2 + 1))))))
 else (up ((Sh.slices_Clip_files_Row_files_File out5_1).bind (fun y30_9 =>
 some y30_9)))) ([], 0)
noncomputable def index_Conflicts (l_0 : List IndexEntry) : Option (List Str) :=
 iter (fun ((out3_1, x8_2) : List Str × Int) =>
 if x8_2 < (l_0.length : Int) then ((at_ l_0 x8_2).bind (fun z10_3 =>
 if z10_3.stage = 0 then (gd (I64 (x8_2 + 1)) (
 go (out3_1, (x8_2 + 1))))
 else (lt [z10_3.path] (fun y18_6 =>
 gd (out3_1.length + y18_6.length ≤ 4294967296) (
 lt (out3_1 ++ y18_6) (fun y19_8 =>
 gd (I64 (x8_2 + 1)) (
 go (y19_8, (x8_2 + 1)))))))))
 else (up (gd (out3_1.length ≤ 4294967296) (
 lt (sortS out3_1) (fun y22_10 =>
 gd (y22_10.length ≤ 4294967296) (
 lt (compactS y22_10) (fun y24_12 =>
 (Sh.slices_Clip_string_string y24_12).bind (fun y25_13 =>
 some y25_13)))))))) ([], 0)
noncomputable def slices_Index_string_string (s_0 : List Str) (v_1 : Str) : Option Int :=
 iter (fun (x8_1 : Int) =>
 if x8_1 < (s_0.length : Int) then ((at_ s_0 x8_1).bind (fun z14_2 =>
 if v_1 = z14_2 then (up (some x8_1))
 else (gd (I64 (x8_1 + 1)) (
 go (x8_1 + 1)))))
 else (up (some (-1)))) 0
noncomputable def slices_Contains_string_string (s_0 : List Str) (v_1 : Str) : Option Bool :=
 (Sh.slices_Index_string_string s_0 v_1).bind (fun y7_1 =>
 some (decide (0 ≤ y7_1)))
noncomputable def plan_safe (head_0 : List FilesFile) (ix_1 : List IndexEntry) (work_2 : List FilesFile) (p_3 : Str) : Option Bool :=
 (Sh.index_Stage ix_1 0).bind (fun y11_1 =>
 (Sh.plan_of y11_1 p_3).bind (fun y13_2 =>
 (Sh.plan_of work_2 p_3).bind (fun y16_4 =>
 if y16_4.file_path = y13_2.file_path ∧ y16_4.file_mode = y13_2.file_mode ∧ y16_4.file_data = y13_2.file_data ∧ y16_4.is = y13_2.is then ((Sh.plan_of head_0 p_3).bind (fun y23_5 =>
 if y13_2.file_path = y23_5.file_path ∧ y13_2.file_mode = y23_5.file_mode ∧ y13_2.file_data = y23_5.file_data ∧ y13_2.is = y23_5.is then ((Sh.index_Conflicts ix_1).bind (fun y28_6 =>
 (Sh.slices_Contains_string_string y28_6 p_3).bind (fun y30_7 =>
 some (!y30_7))))
 else (some false)))
 else (some false))))
noncomputable def internal_stringslite_HasPrefix (s_0 : Str) (prefix_1 : Str) : Option Bool :=
 if (prefix_1.length : Int) ≤ (s_0.length : Int) then (gd ((0 : Int) ≤ (prefix_1.length : Int) ∧ (prefix_1.length : Int) ≤ (s_0.length : Int)) (
 lt (s_0.take (prefix_1.length : Int).toNat) (fun y14_1 =>
 some (decide (y14_1 = prefix_1)))))
 else (some false)
noncomputable def strings_HasPrefix (s_0 : Str) (prefix_1 : Str) : Option Bool :=
 (Sh.internal_stringslite_HasPrefix s_0 prefix_1).bind (fun y7_1 =>
 some y7_1)
noncomputable def path_Under (p_0 : Str) (dir_1 : Str) : Option Bool :=
 if dir_1 = [] then (some (!decide (p_0 = [])))
 else (gd (I64 ((dir_1.length : Int) + 1)) (
 if ((dir_1.length : Int) + 1) < (p_0.length : Int) then (gd (dir_1.length + [47].length ≤ 9223372036854775807) (
 lt (dir_1 ++ [47]) (fun y18_1 =>
 (Sh.strings_HasPrefix p_0 y18_1).bind (fun y19_2 =>
 some y19_2))))
 else (some false)))
noncomputable def path_Clash (a_0 : Str) (b_1 : Str) : Option Bool :=
 if a_0 = [] then (some false)
 else (if b_1 = [] then (some false)
 else ((Sh.path_Under a_0 b_1).bind (fun y14_1 =>
 if y14_1 = true then (some true)
 else ((Sh.path_Under b_1 a_0).bind (fun y18_2 =>
 some y18_2)))))
noncomputable def plan_Lost_1 (p_0 : Str) (a_1 : TmergeResultP) (a_2 : FilesFile) : Option Bool :=
 (Sh.plan_of a_1.files p_0).bind (fun y8_1 =>
 if y8_1.is = true then ((Sh.path_Clash p_0 a_2.path).bind (fun y14_2 =>
 some y14_2))
 else (some false))
noncomputable def slices_IndexFunc_string_string (s_0 : List Str) (f_1_0 : TmergeResultP) (f_1_1 : FilesFile) : Option Int :=
 iter (fun (x8_1 : Int) =>
 if x8_1 < (s_0.length : Int) then ((at_ s_0 x8_1).bind (fun z14_2 =>
 (Sh.plan_Lost_1 z14_2 f_1_0 f_1_1).bind (fun y16_3 =>
 if y16_3 = true then (up (some x8_1))
 else (gd (I64 (x8_1 + 1)) (
 go (x8_1 + 1))))))
 else (up (some (-1)))) 0
noncomputable def slices_ContainsFunc_string_string (s_0 : List Str) (f_1_0 : TmergeResultP) (f_1_1 : FilesFile) : Option Bool :=
 (Sh.slices_IndexFunc_string_string s_0 f_1_0 f_1_1).bind (fun y7_1 =>
 some (decide (0 ≤ y7_1)))
noncomputable def plan_Lost (head_0 : List FilesFile) (r_1 : TmergeResultP) (ix_2 : List IndexEntry) (work_3 : List FilesFile) : Option (List Str) :=
 (Sh.plan_touched head_0 r_1).bind (fun y17_2 =>
 iter (fun ((out10_3, x20_4) : List Str × Int) =>
 if x20_4 < (y17_2.length : Int) then ((at_ y17_2 x20_4).bind (fun z22_5 =>
 (Sh.plan_safe head_0 ix_2 work_3 z22_5).bind (fun y28_6 =>
 if (!y28_6) = true then (lt [z22_5] (fun y32_8 =>
 gd (out10_3.length + y32_8.length ≤ 4294967296) (
 lt (out10_3 ++ y32_8) (fun y33_10 =>
 gd (I64 (x20_4 + 1)) (
 go (y33_10, (x20_4 + 1)))))))
 else (gd (I64 (x20_4 + 1)) (
 go (out10_3, (x20_4 + 1)))))))
 else (up (iter (fun ((out10_11, x37_12) : List Str × Int) =>
 if x37_12 < (work_3.length : Int) then ((at_ work_3 x37_12).bind (fun z39_13 =>
 jn (fun (_ : Unit) =>
 (Sh.slices_ContainsFunc_string_string y17_2 r_1 z39_13).bind (fun y56_18 =>
 if y56_18 = true then (lt [z39_13.path] (fun y60_20 =>
 gd (out10_11.length + y60_20.length ≤ 4294967296) (
 lt (out10_11 ++ y60_20) (fun y61_22 =>
 gd (I64 (x37_12 + 1)) (
 go (y61_22, (x37_12 + 1)))))))
 else (gd (I64 (x37_12 + 1)) (
 go (out10_11, (x37_12 + 1)))))) (fun k15 => (Sh.slices_Contains_string_string y17_2 z39_13.path).bind (fun y44_16 =>
 if y44_16 = true then ((Sh.plan_of r_1.files z39_13.path).bind (fun y50_17 =>
 if (!y50_17.is) = true then (gd (I64 (x37_12 + 1)) (
 go (out10_11, (x37_12 + 1))))
 else (k15 ())))
 else (k15 ())))))
 else (up (gd (out10_11.length ≤ 4294967296) (
 lt (sortS out10_11) (fun y64_24 =>
 gd (y64_24.length ≤ 4294967296) (
 lt (compactS y64_24) (fun y66_26 =>
 (Sh.slices_Clip_string_string y66_26).bind (fun y67_27 =>
 some y67_27)))))))) (out10_3, 0)))) ([], 0))
noncomputable def slices_Clone_index_Entry_index_Entry (s_0 : List IndexEntry) : Option (List IndexEntry) :=
 lt ([] : List IndexEntry) (fun y5_2 =>
 gd (y5_2.length + s_0.length ≤ 4294967296) (
 lt (y5_2 ++ s_0) (fun y7_4 =>
 some y7_4)))
noncomputable def slices_Clone_files_Row_files_File (s_0 : List FilesFile) : Option (List FilesFile) :=
 lt ([] : List FilesFile) (fun y5_2 =>
 gd (y5_2.length + s_0.length ≤ 4294967296) (
 lt (y5_2 ++ s_0) (fun y7_4 =>
 some y7_4)))
noncomputable def index_Drop_1 (x_0 : IndexEntry) (a_1 : Str) : Option Bool :=
 some (decide (x_0.path = a_1))
noncomputable def slices_IndexFunc_index_Entry_index_Entry (s_0 : List IndexEntry) (f_1_0 : Str) : Option Int :=
 iter (fun (x8_1 : Int) =>
 if x8_1 < (s_0.length : Int) then ((at_ s_0 x8_1).bind (fun z14_2 =>
 (Sh.index_Drop_1 z14_2 f_1_0).bind (fun y16_3 =>
 if y16_3 = true then (up (some x8_1))
 else (gd (I64 (x8_1 + 1)) (
 go (x8_1 + 1))))))
 else (up (some (-1)))) 0
noncomputable def slices_DeleteFunc_index_Entry_index_Entry (s_0 : List IndexEntry) (del_1_0 : Str) : Option (List IndexEntry) :=
 (Sh.slices_IndexFunc_index_Entry_index_Entry s_0 del_1_0).bind (fun y10_1 =>
 if y10_1 = (-1) then (some s_0)
 else (gd (I64 (y10_1 + 1)) (
 iter (fun ((s0_2, i5_3, j6_4) : List IndexEntry × Int × Int) =>
 if j6_4 < (s0_2.length : Int) then (jn (fun ((s0_5, i5_6) : List IndexEntry × Int) =>
 gd (I64 (j6_4 + 1)) (
 go (s0_5, i5_6, (j6_4 + 1)))) (fun k7 => (at_ s0_2 j6_4).bind (fun z24_8 =>
 (Sh.index_Drop_1 z24_8 del_1_0).bind (fun y28_10 =>
 if (!y28_10) = true then ((at_ s0_2 i5_3).bind (fun z33_11 =>
 lt (s0_2.set i5_3.toNat ⟨z24_8.path, z24_8.stage, z24_8.mode, z24_8.data, z24_8.time, z24_8.size⟩) (fun ys4_13 =>
 gd (I64 (i5_3 + 1)) (
 k7 (ys4_13, (i5_3 + 1))))))
 else (k7 (s0_2, i5_3))))))
 else (up (gd ((0 : Int) ≤ i5_3 ∧ i5_3 ≤ (s0_2.length : Int)) (
 lt (s0_2.take i5_3.toNat) (fun ys3_16 =>
 some ys3_16))))) (s_0, y10_1, (y10_1 + 1)))))
noncomputable def index_Drop (l_0 : List IndexEntry) (p_1 : Str) : Option (List IndexEntry) :=
 (Sh.slices_Clone_index_Entry_index_Entry l_0).bind (fun y6_2 =>
 (Sh.slices_DeleteFunc_index_Entry_index_Entry y6_2 p_1).bind (fun y8_3 =>
 (Sh.slices_Clip_index_Entry_index_Entry y8_3).bind (fun y9_4 =>
 some y9_4)))
noncomputable def files_Row_Cut_1 (f_0 : FilesFile) (a_1 : Str) : Option Bool :=
 some (decide (f_0.path = a_1))
noncomputable def slices_IndexFunc_files_Row_files_File (s_0 : List FilesFile) (f_1_0 : Str) : Option Int :=
 iter (fun (x8_1 : Int) =>
 if x8_1 < (s_0.length : Int) then ((at_ s_0 x8_1).bind (fun z14_2 =>
 (Sh.files_Row_Cut_1 z14_2 f_1_0).bind (fun y16_3 =>
 if y16_3 = true then (up (some x8_1))
 else (gd (I64 (x8_1 + 1)) (
 go (x8_1 + 1))))))
 else (up (some (-1)))) 0
noncomputable def slices_DeleteFunc_files_Row_files_File (s_0 : List FilesFile) (del_1_0 : Str) : Option (List FilesFile) :=
 (Sh.slices_IndexFunc_files_Row_files_File s_0 del_1_0).bind (fun y10_1 =>
 if y10_1 = (-1) then (some s_0)
 else (gd (I64 (y10_1 + 1)) (
 iter (fun ((s0_2, i5_3, j6_4) : List FilesFile × Int × Int) =>
 if j6_4 < (s0_2.length : Int) then (jn (fun ((s0_5, i5_6) : List FilesFile × Int) =>
 gd (I64 (j6_4 + 1)) (
 go (s0_5, i5_6, (j6_4 + 1)))) (fun k7 => (at_ s0_2 j6_4).bind (fun z24_8 =>
 (Sh.files_Row_Cut_1 z24_8 del_1_0).bind (fun y28_10 =>
 if (!y28_10) = true then ((at_ s0_2 i5_3).bind (fun z33_11 =>
 lt (s0_2.set i5_3.toNat ⟨z24_8.path, z24_8.mode, z24_8.data⟩) (fun ys4_13 =>
 gd (I64 (i5_3 + 1)) (
 k7 (ys4_13, (i5_3 + 1))))))
 else (k7 (s0_2, i5_3))))))
 else (up (gd ((0 : Int) ≤ i5_3 ∧ i5_3 ≤ (s0_2.length : Int)) (
 lt (s0_2.take i5_3.toNat) (fun ys3_16 =>
 some ys3_16))))) (s_0, y10_1, (y10_1 + 1)))))
noncomputable def files_Row_Cut (r_0 : List FilesFile) (p_1 : Str) : Option (List FilesFile) :=
 (Sh.slices_Clone_files_Row_files_File r_0).bind (fun y6_2 =>
 (Sh.slices_DeleteFunc_files_Row_files_File y6_2 p_1).bind (fun y8_3 =>
 (Sh.slices_Clip_files_Row_files_File y8_3).bind (fun y9_4 =>
 some y9_4)))
noncomputable def index_gives (x_0 : IndexEntry) (e_1 : IndexEntry) : Option Bool :=
 (Sh.path_Clash x_0.path e_1.path).bind (fun y10_3 =>
 if y10_3 = true then (some true)
 else (if x_0.path = e_1.path then (jn (fun (_ : Unit) =>
 if x_0.stage = 0 then (some true)
 else (some (decide (x_0.stage = e_1.stage)))) (fun k4 => if e_1.stage = 1 then (k4 ())
 else (if e_1.stage = 2 then (k4 ())
 else (if e_1.stage = 3 then (k4 ())
 else (some true)))))
 else (some false)))
noncomputable def index_Put_1 (x_0 : IndexEntry) (a_1 : IndexEntry) : Option Bool :=
 (Sh.index_gives x_0 a_1).bind (fun y6_2 =>
 some y6_2)
noncomputable def slices_IndexFunc_index_Entry_index_Entry_v2 (s_0 : List IndexEntry) (f_1_0 : IndexEntry) : Option Int :=
 iter (fun (x8_1 : Int) =>
 if x8_1 < (s_0.length : Int) then ((at_ s_0 x8_1).bind (fun z14_2 =>
 (Sh.index_Put_1 z14_2 f_1_0).bind (fun y16_3 =>
 if y16_3 = true then (up (some x8_1))
 else (gd (I64 (x8_1 + 1)) (
 go (x8_1 + 1))))))
 else (up (some (-1)))) 0
noncomputable def slices_DeleteFunc_index_Entry_index_Entry_v2 (s_0 : List IndexEntry) (del_1_0 : IndexEntry) : Option (List IndexEntry) :=
 (Sh.slices_IndexFunc_index_Entry_index_Entry_v2 s_0 del_1_0).bind (fun y10_1 =>
 if y10_1 = (-1) then (some s_0)
 else (gd (I64 (y10_1 + 1)) (
 iter (fun ((s0_2, i5_3, j6_4) : List IndexEntry × Int × Int) =>
 if j6_4 < (s0_2.length : Int) then (jn (fun ((s0_5, i5_6) : List IndexEntry × Int) =>
 gd (I64 (j6_4 + 1)) (
 go (s0_5, i5_6, (j6_4 + 1)))) (fun k7 => (at_ s0_2 j6_4).bind (fun z24_8 =>
 (Sh.index_Put_1 z24_8 del_1_0).bind (fun y28_10 =>
 if (!y28_10) = true then ((at_ s0_2 i5_3).bind (fun z33_11 =>
 lt (s0_2.set i5_3.toNat ⟨z24_8.path, z24_8.stage, z24_8.mode, z24_8.data, z24_8.time, z24_8.size⟩) (fun ys4_13 =>
 gd (I64 (i5_3 + 1)) (
 k7 (ys4_13, (i5_3 + 1))))))
 else (k7 (s0_2, i5_3))))))
 else (up (gd ((0 : Int) ≤ i5_3 ∧ i5_3 ≤ (s0_2.length : Int)) (
 lt (s0_2.take i5_3.toNat) (fun ys3_16 =>
 some ys3_16))))) (s_0, y10_1, (y10_1 + 1)))))
noncomputable def cmp_isNaN_int (x_0 : Int) : Option Bool :=
 some (!decide (x_0 = x_0))
noncomputable def cmp_Compare_int (x_0 : Int) (y_1 : Int) : Option Int :=
 (Sh.cmp_isNaN_int x_0).bind (fun y8_1 =>
 (Sh.cmp_isNaN_int y_1).bind (fun y10_2 =>
 if y8_1 = true then (if y10_2 = true then (some 0)
 else (some (-1)))
 else (if y10_2 = true then (some 1)
 else (if x_0 < y_1 then (some (-1))
 else (if y_1 < x_0 then (some 1)
 else (some 0))))))
noncomputable def cmp_Or_int (vals_0 : List Int) : Option Int :=
 iter (fun (x8_1 : Int) =>
 if x8_1 < (vals_0.length : Int) then ((at_ vals_0 x8_1).bind (fun z10_2 =>
 if z10_2 = 0 then (gd (I64 (x8_1 + 1)) (
 go (x8_1 + 1)))
 else (up (some z10_2))))
 else (up (some 0))) 0
noncomputable def index_compare (a_0 : IndexEntry) (b_1 : IndexEntry) : Option Int :=
 (Sh.path_Compare a_0.path b_1.path).bind (fun y9_3 =>
 (Sh.cmp_Compare_int a_0.stage b_1.stage).bind (fun y14_4 =>
 lt [y9_3, y14_4] (fun y15_6 =>
 (Sh.cmp_Or_int y15_6).bind (fun y16_7 =>
 some y16_7))))
noncomputable def index_Put (l_0 : List IndexEntry) (e_1 : IndexEntry) : Option (List IndexEntry) :=
 (Sh.slices_Clone_index_Entry_index_Entry l_0).bind (fun y8_2 =>
 (Sh.slices_DeleteFunc_index_Entry_index_Entry_v2 y8_2 e_1).bind (fun y10_3 =>
 jn (fun (i6_4 : Int) =>
 lt [⟨e_1.path, e_1.stage, e_1.mode, e_1.data, e_1.time, e_1.size⟩] (fun y29_10 =>
 gd (((0 : Int) ≤ i6_4 ∧ i6_4 ≤ (y10_3.length : Int)) ∧ y29_10 ≠ [] ∧ y10_3.length + y29_10.length ≤ 4294967296) (
 lt (y10_3.take i6_4.toNat ++ y29_10 ++ y10_3.drop i6_4.toNat) (fun y30_12 =>
 (Sh.slices_Clip_index_Entry_index_Entry y30_12).bind (fun y31_13 =>
 some y31_13))))) (fun k5 => iter (fun (i6_6 : Int) =>
 if i6_6 < (y10_3.length : Int) then ((at_ y10_3 i6_6).bind (fun z18_7 =>
 (Sh.index_compare z18_7 e_1).bind (fun y21_8 =>
 if y21_8 < 0 then (gd (I64 (i6_6 + 1)) (
 go (i6_6 + 1)))
 else (up (k5 i6_6)))))
 else (up (k5 i6_6))) 0)))
noncomputable def plan_lay (r_0 : TmergeResultP) (ix_1 : List IndexEntry) (p_2 : Str) : Option (List IndexEntry) :=
 (Sh.slices_Contains_string_string r_0.conflicts p_2).bind (fun y13_2 =>
 if y13_2 = true then (iter (fun ((ix1_3, x17_4) : List IndexEntry × Int) =>
 if x17_4 < (r_0.entries.length : Int) then ((at_ r_0.entries x17_4).bind (fun z19_5 =>
 if z19_5.path = p_2 then ((Sh.index_Put ix1_3 z19_5).bind (fun y27_7 =>
 gd (I64 (x17_4 + 1)) (
 go (y27_7, (x17_4 + 1)))))
 else (gd (I64 (x17_4 + 1)) (
 go (ix1_3, (x17_4 + 1))))))
 else (up (some ix1_3))) (ix_1, 0))
 else ((Sh.plan_of r_0.files p_2).bind (fun y33_8 =>
 if (!y33_8.is) = true then (some ix_1)
 else ((Sh.index_Put ix_1 (⟨p_2, 0, y33_8.file_mode, y33_8.file_data, 0, 0⟩ : IndexEntry)).bind (fun y47_10 =>
 some y47_10)))))
noncomputable def files_Row_Put (r_0 : List FilesFile) (f_1 : FilesFile) : Option (List FilesFile) :=
 (Sh.slices_Clone_files_Row_files_File r_0).bind (fun y9_2 =>
 (Sh.files_Row_find r_0 f_1.path).bind (fun y14_3 =>
 if y14_3.2 = true then ((at_ y9_2 y14_3.1).bind (fun z21_4 =>
 lt (y9_2.set y14_3.1.toNat ⟨f_1.path, f_1.mode, f_1.data⟩) (fun ys4_6 =>
 (Sh.slices_Clip_files_Row_files_File ys4_6).bind (fun y23_7 =>
 some y23_7))))
 else (lt [⟨f_1.path, f_1.mode, f_1.data⟩] (fun y27_9 =>
 gd (((0 : Int) ≤ y14_3.1 ∧ y14_3.1 ≤ (y9_2.length : Int)) ∧ y27_9 ≠ [] ∧ y9_2.length + y27_9.length ≤ 4294967296) (
 lt (y9_2.take y14_3.1.toNat ++ y27_9 ++ y9_2.drop y14_3.1.toNat) (fun y28_11 =>
 (Sh.slices_Clip_files_Row_files_File y28_11).bind (fun y29_12 =>
 some y29_12)))))))
noncomputable def plan_Apply (head_0 : List FilesFile) (r_1 : TmergeResultP) (ix_2 : List IndexEntry) (work_3 : List FilesFile) : Option (List IndexEntry × List FilesFile × Err) :=
 (Sh.plan_Lost head_0 r_1 ix_2 work_3).bind (fun y22_2 =>
 if 0 < (y22_2.length : Int) then ((Sh.slices_Clone_index_Entry_index_Entry ix_2).bind (fun y27_3 =>
 (Sh.slices_Clip_index_Entry_index_Entry y27_3).bind (fun y28_4 =>
 (Sh.slices_Clone_files_Row_files_File work_3).bind (fun y30_5 =>
 (Sh.slices_Clip_files_Row_files_File y30_5).bind (fun y31_6 =>
 some (y28_4, y31_6, (Err.fault [112, 97, 116, 104] (y22_2.length : Int) (Err.no 8))))))))
 else ((Sh.plan_touched head_0 r_1).bind (fun y40_8 =>
 (Sh.slices_Clone_index_Entry_index_Entry ix_2).bind (fun y42_9 =>
 (Sh.slices_Clone_files_Row_files_File work_3).bind (fun y44_10 =>
 iter (fun ((ix2_11, work3_12, x47_13) : List IndexEntry × List FilesFile × Int) =>
 if x47_13 < (y40_8.length : Int) then ((at_ y40_8 x47_13).bind (fun z49_14 =>
 (Sh.index_Drop ix2_11 z49_14).bind (fun y53_15 =>
 (Sh.files_Row_Cut work3_12 z49_14).bind (fun y56_16 =>
 gd (I64 (x47_13 + 1)) (
 go (y53_15, y56_16, (x47_13 + 1)))))))
 else (up (iter (fun ((ix2_17, work3_18, x60_19) : List IndexEntry × List FilesFile × Int) =>
 if x60_19 < (y40_8.length : Int) then ((at_ y40_8 x60_19).bind (fun z62_20 =>
 (Sh.plan_lay r_1 ix2_17 z62_20).bind (fun y67_21 =>
 (Sh.plan_of r_1.files z62_20).bind (fun y71_22 =>
 if y71_22.is = true then ((Sh.files_Row_Put work3_18 (⟨y71_22.file_path, y71_22.file_mode, y71_22.file_data⟩ : FilesFile)).bind (fun y77_24 =>
 gd (I64 (x60_19 + 1)) (
 go (y67_21, y77_24, (x60_19 + 1)))))
 else (gd (I64 (x60_19 + 1)) (
 go (y67_21, work3_18, (x60_19 + 1))))))))
 else (up ((Sh.slices_Clip_index_Entry_index_Entry ix2_17).bind (fun y80_25 =>
 (Sh.slices_Clip_files_Row_files_File work3_18).bind (fun y82_26 =>
 some (y80_25, y82_26, Err.nil)))))) (ix2_11, work3_12, 0)))) (y42_9, y44_10, 0))))))
noncomputable def plan_known_1 (e_0 : IndexEntry) (a_1 : Str) : Option Bool :=
 some (decide (e_0.path = a_1))
noncomputable def slices_IndexFunc_index_Entry_index_Entry_v3 (s_0 : List IndexEntry) (f_1_0 : Str) : Option Int :=
 iter (fun (x8_1 : Int) =>
 if x8_1 < (s_0.length : Int) then ((at_ s_0 x8_1).bind (fun z14_2 =>
 (Sh.plan_known_1 z14_2 f_1_0).bind (fun y16_3 =>
 if y16_3 = true then (up (some x8_1))
 else (gd (I64 (x8_1 + 1)) (
 go (x8_1 + 1))))))
 else (up (some (-1)))) 0
noncomputable def slices_ContainsFunc_index_Entry_index_Entry (s_0 : List IndexEntry) (f_1_0 : Str) : Option Bool :=
 (Sh.slices_IndexFunc_index_Entry_index_Entry_v3 s_0 f_1_0).bind (fun y7_1 =>
 some (decide (0 ≤ y7_1)))
noncomputable def plan_known (ix_0 : List IndexEntry) (p_1 : Str) : Option Bool :=
 (Sh.slices_ContainsFunc_index_Entry_index_Entry ix_0 p_1).bind (fun y7_2 =>
 some y7_2)
noncomputable def files_Row_Clear_1 (f_0 : FilesFile) (a_1 : Str) : Option Bool :=
 (Sh.path_Clash f_0.path a_1).bind (fun y7_2 =>
 some y7_2)
noncomputable def slices_IndexFunc_files_Row_files_File_v2 (s_0 : List FilesFile) (f_1_0 : Str) : Option Int :=
 iter (fun (x8_1 : Int) =>
 if x8_1 < (s_0.length : Int) then ((at_ s_0 x8_1).bind (fun z14_2 =>
 (Sh.files_Row_Clear_1 z14_2 f_1_0).bind (fun y16_3 =>
 if y16_3 = true then (up (some x8_1))
 else (gd (I64 (x8_1 + 1)) (
 go (x8_1 + 1))))))
 else (up (some (-1)))) 0
noncomputable def slices_DeleteFunc_files_Row_files_File_v2 (s_0 : List FilesFile) (del_1_0 : Str) : Option (List FilesFile) :=
 (Sh.slices_IndexFunc_files_Row_files_File_v2 s_0 del_1_0).bind (fun y10_1 =>
 if y10_1 = (-1) then (some s_0)
 else (gd (I64 (y10_1 + 1)) (
 iter (fun ((s0_2, i5_3, j6_4) : List FilesFile × Int × Int) =>
 if j6_4 < (s0_2.length : Int) then (jn (fun ((s0_5, i5_6) : List FilesFile × Int) =>
 gd (I64 (j6_4 + 1)) (
 go (s0_5, i5_6, (j6_4 + 1)))) (fun k7 => (at_ s0_2 j6_4).bind (fun z24_8 =>
 (Sh.files_Row_Clear_1 z24_8 del_1_0).bind (fun y28_10 =>
 if (!y28_10) = true then ((at_ s0_2 i5_3).bind (fun z33_11 =>
 lt (s0_2.set i5_3.toNat ⟨z24_8.path, z24_8.mode, z24_8.data⟩) (fun ys4_13 =>
 gd (I64 (i5_3 + 1)) (
 k7 (ys4_13, (i5_3 + 1))))))
 else (k7 (s0_2, i5_3))))))
 else (up (gd ((0 : Int) ≤ i5_3 ∧ i5_3 ≤ (s0_2.length : Int)) (
 lt (s0_2.take i5_3.toNat) (fun ys3_16 =>
 some ys3_16))))) (s_0, y10_1, (y10_1 + 1)))))
noncomputable def files_Row_Clear (r_0 : List FilesFile) (p_1 : Str) : Option (List FilesFile) :=
 (Sh.slices_Clone_files_Row_files_File r_0).bind (fun y6_2 =>
 (Sh.slices_DeleteFunc_files_Row_files_File_v2 y6_2 p_1).bind (fun y8_3 =>
 (Sh.slices_Clip_files_Row_files_File y8_3).bind (fun y9_4 =>
 some y9_4)))
noncomputable def plan_Force (head_0 : List FilesFile) (to_1 : List FilesFile) (ix_2 : List IndexEntry) (work_3 : List FilesFile) : Option (List IndexEntry × List FilesFile) :=
 iter (fun ((out10_1, x17_2) : List FilesFile × Int) =>
 if x17_2 < (work_3.length : Int) then ((at_ work_3 x17_2).bind (fun z19_3 =>
 jn (fun (x33_5 : Bool) =>
 if x33_5 = true then (lt [⟨z19_3.path, z19_3.mode, z19_3.data⟩] (fun y36_10 =>
 gd (out10_1.length + y36_10.length ≤ 4294967296) (
 lt (out10_1 ++ y36_10) (fun y37_12 =>
 gd (I64 (x17_2 + 1)) (
 go (y37_12, (x17_2 + 1)))))))
 else (gd (I64 (x17_2 + 1)) (
 go (out10_1, (x17_2 + 1))))) (fun k6 => (Sh.plan_of head_0 z19_3.path).bind (fun y24_7 =>
 if (!y24_7.is) = true then ((Sh.plan_known ix_2 z19_3.path).bind (fun y31_8 =>
 k6 (!y31_8)))
 else (k6 false)))))
 else (up (iter (fun ((out10_13, x41_14) : List FilesFile × Int) =>
 if x41_14 < (to_1.length : Int) then ((at_ to_1 x41_14).bind (fun z43_15 =>
 (Sh.files_Row_Clear out10_13 z43_15.path).bind (fun y48_17 =>
 (Sh.files_Row_Put y48_17 z43_15).bind (fun y50_18 =>
 gd (I64 (x41_14 + 1)) (
 go (y50_18, (x41_14 + 1)))))))
 else (up ((Sh.index_Of to_1).bind (fun y53_19 =>
 (Sh.slices_Clip_files_Row_files_File out10_13).bind (fun y55_20 =>
 some (y53_19, y55_20)))))) (out10_1, 0)))) ([], 0)
noncomputable def rectolaw20_known  : Option Bool :=
 lt [⟨[97], 1, [120]⟩] (fun y13_2 =>
 lt [⟨[97], 1, [121]⟩] (fun y15_4 =>
 (Sh.index_Of y13_2).bind (fun y21_6 =>
 (Sh.plan_Apply y13_2 (⟨y15_4, [], []⟩ : TmergeResultP) y21_6 y13_2).bind (fun y23_7 =>
 (Sh.index_Of y13_2).bind (fun y31_8 =>
 lt [⟨[97], 1, [122]⟩] (fun y33_9 =>
 (Sh.plan_Apply y13_2 (⟨y15_4, [], []⟩ : TmergeResultP) y31_8 y33_9).bind (fun y34_12 =>
 (Sh.index_Of y13_2).bind (fun y41_13 =>
 (Sh.plan_Lost y13_2 (⟨y15_4, [], []⟩ : TmergeResultP) y41_13 []).bind (fun y42_14 =>
 (Sh.index_Of y13_2).bind (fun y46_15 =>
 (Sh.plan_Force y13_2 [] y46_15 y13_2).bind (fun y48_16 =>
 if y23_7.2.2.isNil = true then (if y34_12.2.2.isNil = true then (some false)
 else (if (y23_7.1.length : Int) = 1 then ((at_ y23_7.1 0).bind (fun z64_17 =>
 if z64_17.data = [121] then (if (y23_7.2.1.length : Int) = 1 then ((at_ y23_7.2.1 0).bind (fun z76_18 =>
 if z76_18.data = [121] then (if (y42_14.length : Int) = 1 then (if (y48_16.1.length : Int) = 0 then (some (decide ((y48_16.2.length : Int) = 0)))
 else (some false))
 else (some false))
 else (some false)))
 else (some false))
 else (some false)))
 else (some false)))
 else (some false))))))))))))
noncomputable def rectolaw14_Few (r_0 : List FilesFile) : Option Bool :=
 if 80 < (r_0.length : Int) then (some false)
 else (iter (fun (i3_1 : Int) =>
 if i3_1 < (r_0.length : Int) then (jn (fun (x28_2 : Bool) =>
 if x28_2 = true then (up (some false))
 else (gd (I64 (i3_1 + 1)) (
 go (i3_1 + 1)))) (fun k3 => (at_ r_0 i3_1).bind (fun z15_4 =>
 if 100 < (z15_4.path.length : Int) then (k3 true)
 else ((at_ r_0 i3_1).bind (fun z23_5 =>
 k3 (decide (5000 < (z23_5.data.length : Int))))))))
 else (up (some true))) 0)
noncomputable def rectolaw15_Few (l_0 : List IndexEntry) : Option Bool :=
 if 80 < (l_0.length : Int) then (some false)
 else (iter (fun (i3_1 : Int) =>
 if i3_1 < (l_0.length : Int) then (jn (fun (x28_2 : Bool) =>
 if x28_2 = true then (up (some false))
 else (gd (I64 (i3_1 + 1)) (
 go (i3_1 + 1)))) (fun k3 => (at_ l_0 i3_1).bind (fun z15_4 =>
 if 100 < (z15_4.path.length : Int) then (k3 true)
 else ((at_ l_0 i3_1).bind (fun z23_5 =>
 k3 (decide (5000 < (z23_5.data.length : Int))))))))
 else (up (some true))) 0)
noncomputable def unicode_utf8_RuneCountInString (s_0 : Str) : Option Int :=
 none
noncomputable def unicode_utf8_decodeRuneInStringSlow (s_0 : Str) : Option (Int × Int) :=
 if (s_0.length : Int) < 1 then (some (65533, 0))
 else ((at_ s_0 0).bind (fun z18_1 =>
 none))
noncomputable def unicode_utf8_DecodeRuneInString (s_0 : Str) : Option (Int × Int) :=
 jn (fun (x10_1 : Bool) =>
 if x10_1 = true then ((at_ s_0 0).bind (fun z12_4 =>
 some ((z12_4.toNat : Int), 1)))
 else ((Sh.unicode_utf8_decodeRuneInStringSlow s_0).bind (fun y16_5 =>
 some (y16_5.1, y16_5.2)))) (fun k2 => if s_0 = [] then (k2 false)
 else ((at_ s_0 0).bind (fun z8_3 =>
 k2 (decide ((z8_3.toNat : Int) < 128)))))
noncomputable def strings_explode (s_0 : Str) (n_1 : Int) : Option (List Str) :=
 (Sh.unicode_utf8_RuneCountInString s_0).bind (fun y11_1 =>
 jn (fun (n1_2 : Int) =>
 gd ((0 : Int) ≤ n1_2 ∧ n1_2 ≤ 4294967296) (
 lt (List.replicate n1_2.toNat []) (fun y21_7 =>
 iter (fun ((s0_8, a6_9, i7_10) : Str × List Str × Int) =>
 gd (I64 (n1_2 - 1)) (
 if i7_10 < (n1_2 - 1) then ((Sh.unicode_utf8_DecodeRuneInString s0_8).bind (fun y30_11 =>
 gd ((0 : Int) ≤ y30_11.2 ∧ y30_11.2 ≤ (s0_8.length : Int)) (
 lt (s0_8.take y30_11.2.toNat) (fun y37_12 =>
 (at_ a6_9 i7_10).bind (fun z38_13 =>
 lt (a6_9.set i7_10.toNat y37_12) (fun ys6_15 =>
 gd ((0 : Int) ≤ y30_11.2 ∧ y30_11.2 ≤ (s0_8.length : Int)) (
 lt (s0_8.drop y30_11.2.toNat) (fun y41_16 =>
 gd (I64 (i7_10 + 1)) (
 go (y41_16, ys6_15, (i7_10 + 1)))))))))))
 else (up (if 0 < n1_2 then (gd (I64 (n1_2 - 1)) (
 (at_ a6_9 (n1_2 - 1)).bind (fun z48_17 =>
 lt (a6_9.set (n1_2 - 1).toNat s0_8) (fun ys5_19 =>
 some ys5_19))))
 else (some a6_9))))) (s_0, y21_7, 0)))) (fun k3 => jn (fun (x18_4 : Bool) =>
 if x18_4 = true then (k3 y11_1)
 else (k3 n_1)) (fun k5 => if n_1 < 0 then (k5 true)
 else (k5 (decide (y11_1 < n_1))))))
noncomputable def internal_stringslite_IndexByte (s_0 : Str) (c_1 : Int) : Option Int :=
 some (ixB s_0 c_1)
noncomputable def internal_stringslite_Index (s_0 : Str) (substr_1 : Str) : Option Int :=
 jn (fun (x16_1 : Bool) =>
 if x16_1 = true then (some 0)
 else (if (substr_1.length : Int) = 1 then ((at_ substr_1 0).bind (fun z29_3 =>
 (Sh.internal_stringslite_IndexByte s_0 (z29_3.toNat : Int)).bind (fun y30_4 =>
 some y30_4)))
 else (if (s_0.length : Int) ≤ (substr_1.length : Int) then (some (-1))
 else (none)))) (fun k2 => if (substr_1.length : Int) = 0 then (k2 true)
 else (k2 (decide (substr_1 = s_0))))
noncomputable def strings_Index (s_0 : Str) (substr_1 : Str) : Option Int :=
 (Sh.internal_stringslite_Index s_0 substr_1).bind (fun y7_1 =>
 some y7_1)
noncomputable def strings_Count (s_0 : Str) (substr_1 : Str) : Option Int :=
 if (substr_1.length : Int) = 0 then ((Sh.unicode_utf8_RuneCountInString s_0).bind (fun y11_1 =>
 gd (I64 (y11_1 + 1)) (
 some (y11_1 + 1))))
 else (if (substr_1.length : Int) = 1 then ((at_ substr_1 0).bind (fun z18_2 =>
 some (cntB s_0 (z18_2.toNat : Int))))
 else (iter (fun ((s0_3, n5_4) : Str × Int) =>
 (Sh.strings_Index s0_3 substr_1).bind (fun y22_5 =>
 if y22_5 = (-1) then (up (some n5_4))
 else (gd (I64 (n5_4 + 1)) (
 gd (I64 (y22_5 + (substr_1.length : Int))) (
 gd ((0 : Int) ≤ (y22_5 + (substr_1.length : Int)) ∧ (y22_5 + (substr_1.length : Int)) ≤ (s0_3.length : Int)) (
 lt (s0_3.drop (y22_5 + (substr_1.length : Int)).toNat) (fun y33_6 =>
 go (y33_6, (n5_4 + 1))))))))) (s_0, 0)))
noncomputable def strings_genSplit (s_0 : Str) (sep_1 : Str) (sepSave_2 : Int) (n_3 : Int) : Option (List Str) :=
 if n_3 = 0 then (some [])
 else (if sep_1 = [] then ((Sh.strings_explode s_0 n_3).bind (fun y18_1 =>
 some y18_1))
 else (jn (fun (n3_2 : Int) =>
 gd (I64 ((s_0.length : Int) + 1)) (
 gd ((0 : Int) ≤ (min n3_2 ((s_0.length : Int) + 1)) ∧ (min n3_2 ((s_0.length : Int) + 1)) ≤ 4294967296) (
 lt (List.replicate (min n3_2 ((s_0.length : Int) + 1)).toNat []) (fun y31_6 =>
 gd (I64 ((min n3_2 ((s_0.length : Int) + 1)) - 1)) (
 jn (fun ((s0_7, a9_8, i10_9) : Str × List Str × Int) =>
 (at_ a9_8 i10_9).bind (fun z61_20 =>
 lt (a9_8.set i10_9.toNat s0_7) (fun ys4_22 =>
 gd (I64 (i10_9 + 1)) (
 gd ((0 : Int) ≤ (i10_9 + 1) ∧ (i10_9 + 1) ≤ (ys4_22.length : Int)) (
 lt (ys4_22.take (i10_9 + 1).toNat) (fun y65_24 =>
 some y65_24)))))) (fun k10 => iter (fun ((s0_11, a9_12, i10_13) : Str × List Str × Int) =>
 if i10_13 < ((min n3_2 ((s_0.length : Int) + 1)) - 1) then ((Sh.strings_Index s0_11 sep_1).bind (fun y39_14 =>
 if y39_14 < 0 then (up (k10 (s0_11, a9_12, i10_13)))
 else (gd (I64 (y39_14 + sepSave_2)) (
 gd ((0 : Int) ≤ (y39_14 + sepSave_2) ∧ (y39_14 + sepSave_2) ≤ (s0_11.length : Int)) (
 lt (s0_11.take (y39_14 + sepSave_2).toNat) (fun y48_15 =>
 (at_ a9_12 i10_13).bind (fun z49_16 =>
 lt (a9_12.set i10_13.toNat y48_15) (fun ys8_18 =>
 gd (I64 (y39_14 + (sep_1.length : Int))) (
 gd ((0 : Int) ≤ (y39_14 + (sep_1.length : Int)) ∧ (y39_14 + (sep_1.length : Int)) ≤ (s0_11.length : Int)) (
 lt (s0_11.drop (y39_14 + (sep_1.length : Int)).toNat) (fun y55_19 =>
 gd (I64 (i10_13 + 1)) (
 go (y55_19, ys8_18, (i10_13 + 1))))))))))))))
 else (up (k10 (s0_11, a9_12, i10_13)))) (s_0, y31_6, 0))))))) (fun k3 => if n_3 < 0 then ((Sh.strings_Count s_0 sep_1).bind (fun y23_4 =>
 gd (I64 (y23_4 + 1)) (
 k3 (y23_4 + 1))))
 else (k3 n_3))))
noncomputable def strings_Split (s_0 : Str) (sep_1 : Str) : Option (List Str) :=
 (Sh.strings_genSplit s_0 sep_1 0 (-1)).bind (fun y7_1 =>
 some y7_1)
noncomputable def path_good (c_0 : Int) : Option Bool :=
 jn (fun (_ : Unit) =>
 if 97 ≤ c_0 then (if c_0 ≤ 122 then (some true)
 else (if 48 ≤ c_0 then (some (decide (c_0 ≤ 57)))
 else (some false)))
 else (if 48 ≤ c_0 then (some (decide (c_0 ≤ 57)))
 else (some false))) (fun k1 => jn (fun (_ : Unit) =>
 some true) (fun k2 => if c_0 = 46 then (k2 ())
 else (if c_0 = 45 then (k2 ())
 else (if c_0 = 95 then (k2 ())
 else (k1 ())))))
noncomputable def path_part (s_0 : Str) : Option Bool :=
 jn (fun (x14_1 : Bool) =>
 if x14_1 = true then (some false)
 else (gd (s_0.length ≤ 4294967296) (
 lt s_0 (fun y16_4 =>
 iter (fun (x18_5 : Int) =>
 if x18_5 < (y16_4.length : Int) then ((at_ y16_4 x18_5).bind (fun z20_6 =>
 (Sh.path_good (z20_6.toNat : Int)).bind (fun y23_7 =>
 if (!y23_7) = true then (up (some false))
 else (gd (I64 (x18_5 + 1)) (
 go (x18_5 + 1))))))
 else (up (some true))) 0)))) (fun k2 => if s_0 = [] then (k2 true)
 else (if s_0 = [46] then (k2 true)
 else (k2 (decide (s_0 = [46, 46])))))
noncomputable def path_Check (p_0 : Str) : Option Int :=
 if 64 < (p_0.length : Int) then (some 4)
 else ((Sh.strings_Split p_0 [47]).bind (fun y9_1 =>
 iter (fun (x11_2 : Int) =>
 if x11_2 < (y9_1.length : Int) then ((at_ y9_1 x11_2).bind (fun z13_3 =>
 (Sh.path_part z13_3).bind (fun y16_4 =>
 if (!y16_4) = true then (up (some 5))
 else (gd (I64 (x11_2 + 1)) (
 go (x11_2 + 1))))))
 else (up (some 0))) 0))
noncomputable def files_Row_wrong_1 (g_0 : FilesFile) (a_1 : FilesFile) : Option Bool :=
 (Sh.path_Clash g_0.path a_1.path).bind (fun y8_2 =>
 some y8_2)
noncomputable def slices_IndexFunc_files_Row_files_File_v3 (s_0 : List FilesFile) (f_1_0 : FilesFile) : Option Int :=
 iter (fun (x8_1 : Int) =>
 if x8_1 < (s_0.length : Int) then ((at_ s_0 x8_1).bind (fun z14_2 =>
 (Sh.files_Row_wrong_1 z14_2 f_1_0).bind (fun y16_3 =>
 if y16_3 = true then (up (some x8_1))
 else (gd (I64 (x8_1 + 1)) (
 go (x8_1 + 1))))))
 else (up (some (-1)))) 0
noncomputable def slices_ContainsFunc_files_Row_files_File (s_0 : List FilesFile) (f_1_0 : FilesFile) : Option Bool :=
 (Sh.slices_IndexFunc_files_Row_files_File_v3 s_0 f_1_0).bind (fun y7_1 =>
 some (decide (0 ≤ y7_1)))
noncomputable def files_Row_wrong (r_0 : List FilesFile) (i_1 : Int) : Option Int :=
 (at_ r_0 i_1).bind (fun z9_1 =>
 (Sh.path_Check z9_1.path).bind (fun y13_3 =>
 if y13_3 = 0 then (jn (fun (x17_4 : Bool) =>
 if x17_4 = true then (some 1)
 else (if 4096 < (z9_1.data.length : Int) then (some 4)
 else (jn (fun (x31_6 : Bool) =>
 if x31_6 = true then (some 6)
 else (gd ((0 : Int) ≤ i_1 ∧ i_1 ≤ (r_0.length : Int)) (
 lt (r_0.take i_1.toNat) (fun y49_11 =>
 (Sh.slices_ContainsFunc_files_Row_files_File y49_11 z9_1).bind (fun y51_12 =>
 if y51_12 = true then (some 11)
 else (some 0)))))) (fun k7 => if 0 < i_1 then (gd (I64 (i_1 - 1)) (
 (at_ r_0 (i_1 - 1)).bind (fun z38_8 =>
 (Sh.path_Compare z38_8.path z9_1.path).bind (fun y43_9 =>
 k7 (decide (0 ≤ y43_9))))))
 else (k7 false))))) (fun k5 => if z9_1.mode = 1 then (k5 false)
 else (k5 (!decide (z9_1.mode = 2)))))
 else (some y13_3)))
noncomputable def files_Row_Check (r_0 : List FilesFile) : Option Err :=
 if 64 < (r_0.length : Int) then (some (Err.fault [102, 105, 108, 101] 64 (Err.no 4)))
 else (iter (fun (x14_2 : Int) =>
 if x14_2 < (r_0.length : Int) then ((Sh.files_Row_wrong r_0 x14_2).bind (fun y19_3 =>
 if y19_3 = 0 then (gd (I64 (x14_2 + 1)) (
 go (x14_2 + 1)))
 else (up (some (Err.fault [102, 105, 108, 101] x14_2 (Err.no y19_3))))))
 else (up (some Err.nil))) 0)
noncomputable def index_beside (a_0 : IndexEntry) (b_1 : IndexEntry) : Option Bool :=
 if a_0.path = b_1.path then (if a_0.stage = 0 then (some true)
 else (some (decide (b_1.stage = 0))))
 else (some false)
noncomputable def index_wrong_1 (x_0 : IndexEntry) (a_1 : IndexEntry) : Option Bool :=
 (Sh.index_beside x_0 a_1).bind (fun y6_2 =>
 some y6_2)
noncomputable def slices_IndexFunc_index_Entry_index_Entry_v4 (s_0 : List IndexEntry) (f_1_0 : IndexEntry) : Option Int :=
 iter (fun (x8_1 : Int) =>
 if x8_1 < (s_0.length : Int) then ((at_ s_0 x8_1).bind (fun z14_2 =>
 (Sh.index_wrong_1 z14_2 f_1_0).bind (fun y16_3 =>
 if y16_3 = true then (up (some x8_1))
 else (gd (I64 (x8_1 + 1)) (
 go (x8_1 + 1))))))
 else (up (some (-1)))) 0
noncomputable def slices_ContainsFunc_index_Entry_index_Entry_v2 (s_0 : List IndexEntry) (f_1_0 : IndexEntry) : Option Bool :=
 (Sh.slices_IndexFunc_index_Entry_index_Entry_v4 s_0 f_1_0).bind (fun y7_1 =>
 some (decide (0 ≤ y7_1)))
noncomputable def index_wrong_2 (x_0 : IndexEntry) (a_1 : IndexEntry) : Option Bool :=
 (Sh.path_Clash x_0.path a_1.path).bind (fun y8_2 =>
 some y8_2)
noncomputable def slices_IndexFunc_index_Entry_index_Entry_v5 (s_0 : List IndexEntry) (f_1_0 : IndexEntry) : Option Int :=
 iter (fun (x8_1 : Int) =>
 if x8_1 < (s_0.length : Int) then ((at_ s_0 x8_1).bind (fun z14_2 =>
 (Sh.index_wrong_2 z14_2 f_1_0).bind (fun y16_3 =>
 if y16_3 = true then (up (some x8_1))
 else (gd (I64 (x8_1 + 1)) (
 go (x8_1 + 1))))))
 else (up (some (-1)))) 0
noncomputable def slices_ContainsFunc_index_Entry_index_Entry_v3 (s_0 : List IndexEntry) (f_1_0 : IndexEntry) : Option Bool :=
 (Sh.slices_IndexFunc_index_Entry_index_Entry_v5 s_0 f_1_0).bind (fun y7_1 =>
 some (decide (0 ≤ y7_1)))
noncomputable def index_wrong (l_0 : List IndexEntry) (i_1 : Int) : Option Int :=
 (at_ l_0 i_1).bind (fun z9_1 =>
 (Sh.path_Check z9_1.path).bind (fun y13_3 =>
 if y13_3 = 0 then (jn (fun (x17_4 : Bool) =>
 if x17_4 = true then (some 1)
 else (if 4096 < (z9_1.data.length : Int) then (some 4)
 else (jn (fun (x51_6 : Bool) =>
 if x51_6 = true then (some 6)
 else (gd ((0 : Int) ≤ i_1 ∧ i_1 ≤ (l_0.length : Int)) (
 lt (l_0.take i_1.toNat) (fun y72_16 =>
 (Sh.slices_ContainsFunc_index_Entry_index_Entry_v3 y72_16 z9_1).bind (fun y74_17 =>
 if y74_17 = true then (some 11)
 else (some 0)))))) (fun k7 => jn (fun (x51_8 : Bool) =>
 if x51_8 = true then (k7 x51_8)
 else (gd ((0 : Int) ≤ i_1 ∧ i_1 ≤ (l_0.length : Int)) (
 lt (l_0.take i_1.toNat) (fun y66_13 =>
 (Sh.slices_ContainsFunc_index_Entry_index_Entry_v2 y66_13 z9_1).bind (fun y68_14 =>
 k7 y68_14))))) (fun k9 => if 0 < i_1 then (gd (I64 (i_1 - 1)) (
 (at_ l_0 (i_1 - 1)).bind (fun z58_10 =>
 (Sh.index_compare z58_10 z9_1).bind (fun y61_11 =>
 k9 (decide (0 ≤ y61_11))))))
 else (k9 false)))))) (fun k5 => if z9_1.stage < 0 then (k5 true)
 else (if 3 < z9_1.stage then (k5 true)
 else (if z9_1.mode = 1 then (if z9_1.time < 0 then (k5 true)
 else (k5 (decide (z9_1.size < 0))))
 else (if z9_1.mode = 2 then (if z9_1.time < 0 then (k5 true)
 else (k5 (decide (z9_1.size < 0))))
 else (k5 true))))))
 else (some y13_3)))
noncomputable def index_Check (l_0 : List IndexEntry) : Option Err :=
 if 256 < (l_0.length : Int) then (some (Err.fault [101, 110, 116, 114, 121] 256 (Err.no 4)))
 else (iter (fun (x14_2 : Int) =>
 if x14_2 < (l_0.length : Int) then ((Sh.index_wrong l_0 x14_2).bind (fun y19_3 =>
 if y19_3 = 0 then (gd (I64 (x14_2 + 1)) (
 go (x14_2 + 1)))
 else (up (some (Err.fault [101, 110, 116, 114, 121] x14_2 (Err.no y19_3))))))
 else (up (some Err.nil))) 0)
noncomputable def rectolaw1_texts (a_0 : List Str) (b_1 : List Str) : Option Bool :=
 if (a_0.length : Int) = (b_1.length : Int) then (iter (fun (i5_1 : Int) =>
 if i5_1 < (a_0.length : Int) then ((at_ a_0 i5_1).bind (fun z19_2 =>
 (at_ b_1 i5_1).bind (fun z23_3 =>
 if z19_2 = z23_3 then (gd (I64 (i5_1 + 1)) (
 go (i5_1 + 1)))
 else (up (some false)))))
 else (up (some true))) 0)
 else (some false)
noncomputable def rectolaw1_Texts (a_0 : List Str) (b_1 : List Str) : Option Bool :=
 (Sh.rectolaw1_texts a_0 b_1).bind (fun y7_1 =>
 some y7_1)
noncomputable def rectolaw20_Few (h_0 : List FilesFile) (r_1 : TmergeResultP) (ix_2 : List IndexEntry) (w_3 : List FilesFile) : Option Bool :=
 (Sh.rectolaw14_Few h_0).bind (fun y10_2 =>
 if y10_2 = true then ((Sh.rectolaw14_Few r_1.files).bind (fun y14_3 =>
 if y14_3 = true then ((Sh.rectolaw15_Few r_1.entries).bind (fun y19_4 =>
 if y19_4 = true then (if (r_1.conflicts.length : Int) ≤ 40 then ((Sh.rectolaw15_Few ix_2).bind (fun y29_5 =>
 if y29_5 = true then ((Sh.rectolaw14_Few w_3).bind (fun y33_6 =>
 if y33_6 = true then ((Sh.files_Row_Check h_0).bind (fun y37_7 =>
 if y37_7.isNil = true then ((Sh.files_Row_Check r_1.files).bind (fun y43_8 =>
 if y43_8.isNil = true then ((Sh.index_Check ix_2).bind (fun y48_9 =>
 if y48_9.isNil = true then ((Sh.files_Row_Check w_3).bind (fun y53_10 =>
 if y53_10.isNil = true then ((Sh.index_Check r_1.entries).bind (fun y59_11 =>
 if y59_11.isNil = true then ((Sh.index_Conflicts r_1.entries).bind (fun y65_12 =>
 (Sh.rectolaw1_Texts y65_12 r_1.conflicts).bind (fun y68_13 =>
 some y68_13)))
 else (some false)))
 else (some false)))
 else (some false)))
 else (some false)))
 else (some false)))
 else (some false)))
 else (some false)))
 else (some false))
 else (some false)))
 else (some false)))
 else (some false))
noncomputable def rectolaw14_Of (r_0 : List FilesFile) : Option (List Rectoref14File) :=
 iter (fun ((out3_1, i4_2) : List Rectoref14File × Int) =>
 if i4_2 < (r_0.length : Int) then ((at_ r_0 i4_2).bind (fun z14_3 =>
 (at_ r_0 i4_2).bind (fun z19_4 =>
 (at_ r_0 i4_2).bind (fun z24_5 =>
 lt [⟨z14_3.path, z19_4.mode, z24_5.data⟩] (fun y28_7 =>
 gd (out3_1.length + y28_7.length ≤ 4294967296) (
 lt (out3_1 ++ y28_7) (fun y29_9 =>
 gd (I64 (i4_2 + 1)) (
 go (y29_9, (i4_2 + 1))))))))))
 else (up (some out3_1))) ([], 0)
noncomputable def rectolaw15_Of (l_0 : List IndexEntry) : Option (List Rectoref14Entry) :=
 iter (fun ((out3_1, i4_2) : List Rectoref14Entry × Int) =>
 if i4_2 < (l_0.length : Int) then ((at_ l_0 i4_2).bind (fun z14_3 =>
 lt [⟨z14_3.path, z14_3.stage, z14_3.mode, z14_3.data, z14_3.time, z14_3.size⟩] (fun y30_6 =>
 gd (out3_1.length + y30_6.length ≤ 4294967296) (
 lt (out3_1 ++ y30_6) (fun y31_8 =>
 gd (I64 (i4_2 + 1)) (
 go (y31_8, (i4_2 + 1))))))))
 else (up (some out3_1))) ([], 0)
noncomputable def rectoref14_Stage (l_0 : List Rectoref14Entry) (n_1 : Int) : Option (List Rectoref14File) :=
 iter (fun ((out5_1, i6_2) : List Rectoref14File × Int) =>
 if i6_2 < (l_0.length : Int) then (jn (fun (out5_3 : List Rectoref14File) =>
 gd (I64 (i6_2 + 1)) (
 go (out5_3, (i6_2 + 1)))) (fun k4 => (at_ l_0 i6_2).bind (fun z15_5 =>
 if z15_5.stage = n_1 then ((at_ l_0 i6_2).bind (fun z23_6 =>
 (at_ l_0 i6_2).bind (fun z28_7 =>
 (at_ l_0 i6_2).bind (fun z33_8 =>
 lt [⟨z23_6.path, z28_7.mode, z33_8.data⟩] (fun y37_10 =>
 gd (out5_1.length + y37_10.length ≤ 4294967296) (
 lt (out5_1 ++ y37_10) (fun y38_12 =>
 k4 y38_12)))))))
 else (k4 out5_1))))
 else (up (some out5_1))) ([], 0)
noncomputable def rectoref14_Put (r_0 : List Rectoref14File) (f_1 : Rectoref14File) : Option (List Rectoref14File) :=
 iter (fun ((out5_2, put6_3, i7_4) : List Rectoref14File × Bool × Int) =>
 if i7_4 < (r_0.length : Int) then (jn (fun ((out5_5, put6_6) : List Rectoref14File × Bool) =>
 gd (I64 (i7_4 + 1)) (
 go (out5_5, put6_6, (i7_4 + 1)))) (fun k7 => jn (fun ((out5_8, put6_9) : List Rectoref14File × Bool) =>
 (at_ r_0 i7_4).bind (fun z32_18 =>
 if z32_18.path = f_1.path then (k7 (out5_8, put6_9))
 else ((at_ r_0 i7_4).bind (fun z41_19 =>
 lt [⟨z41_19.path, z41_19.mode, z41_19.data⟩] (fun y43_21 =>
 gd (out5_8.length + y43_21.length ≤ 4294967296) (
 lt (out5_8 ++ y43_21) (fun y44_23 =>
 k7 (y44_23, put6_9)))))))) (fun k10 => jn (fun (x25_11 : Bool) =>
 if x25_11 = true then (lt [⟨f_1.path, f_1.mode, f_1.data⟩] (fun y28_15 =>
 gd (out5_2.length + y28_15.length ≤ 4294967296) (
 lt (out5_2 ++ y28_15) (fun y29_17 =>
 k10 (y29_17, true)))))
 else (k10 (out5_2, put6_3))) (fun k12 => if (!put6_3) = true then ((at_ r_0 i7_4).bind (fun z19_13 =>
 k12 (!Op.bytesLess z19_13.path f_1.path)))
 else (k12 false)))))
 else (up (if (!put6_3) = true then (lt [⟨f_1.path, f_1.mode, f_1.data⟩] (fun y49_25 =>
 gd (out5_2.length + y49_25.length ≤ 4294967296) (
 lt (out5_2 ++ y49_25) (fun y50_27 =>
 some y50_27))))
 else (some out5_2)))) ([], false, 0)
noncomputable def rectoref14_Paths (l_0 : List (List Rectoref14File)) : Option (List Str) :=
 iter (fun ((r3_1, i4_2) : List Rectoref14File × Int) =>
 if i4_2 < (l_0.length : Int) then (iter (fun ((r3_3, k5_4) : List Rectoref14File × Int) =>
 (at_ l_0 i4_2).bind (fun z17_5 =>
 if k5_4 < (z17_5.length : Int) then ((at_ l_0 i4_2).bind (fun z26_6 =>
 (at_ z26_6 k5_4).bind (fun z29_7 =>
 (Sh.rectoref14_Put r3_3 (⟨z29_7.path, 0, []⟩ : Rectoref14File)).bind (fun y33_8 =>
 gd (I64 (k5_4 + 1)) (
 go (y33_8, (k5_4 + 1)))))))
 else (up (gd (I64 (i4_2 + 1)) (
 go (r3_3, (i4_2 + 1))))))) (r3_1, 0))
 else (up (iter (fun ((out6_9, i7_10) : List Str × Int) =>
 if i7_10 < (r3_1.length : Int) then ((at_ r3_1 i7_10).bind (fun z43_11 =>
 lt [z43_11.path] (fun y46_13 =>
 gd (out6_9.length + y46_13.length ≤ 4294967296) (
 lt (out6_9 ++ y46_13) (fun y47_15 =>
 gd (I64 (i7_10 + 1)) (
 go (y47_15, (i7_10 + 1))))))))
 else (up (some out6_9))) ([], 0)))) ([], 0)
noncomputable def rectoref14_Tracked (head_0 : List Rectoref14File) (ix_1 : List Rectoref14Entry) : Option (List Str) :=
 (Sh.rectoref14_Stage ix_1 0).bind (fun y7_1 =>
 (Sh.rectoref14_Stage ix_1 1).bind (fun y9_2 =>
 (Sh.rectoref14_Stage ix_1 2).bind (fun y11_3 =>
 (Sh.rectoref14_Stage ix_1 3).bind (fun y13_4 =>
 lt [head_0, y7_1, y9_2, y11_3, y13_4] (fun y14_6 =>
 (Sh.rectoref14_Paths y14_6).bind (fun y15_7 =>
 some y15_7))))))
noncomputable def rectoref14_Cut (r_0 : List Rectoref14File) (p_1 : Str) : Option (List Rectoref14File) :=
 iter (fun ((out5_1, i6_2) : List Rectoref14File × Int) =>
 if i6_2 < (r_0.length : Int) then (jn (fun (out5_3 : List Rectoref14File) =>
 gd (I64 (i6_2 + 1)) (
 go (out5_3, (i6_2 + 1)))) (fun k4 => (at_ r_0 i6_2).bind (fun z15_5 =>
 if z15_5.path = p_1 then (k4 out5_1)
 else ((at_ r_0 i6_2).bind (fun z23_6 =>
 lt [⟨z23_6.path, z23_6.mode, z23_6.data⟩] (fun y25_8 =>
 gd (out5_1.length + y25_8.length ≤ 4294967296) (
 lt (out5_1 ++ y25_8) (fun y26_10 =>
 k4 y26_10))))))))
 else (up (some out5_1))) ([], 0)
noncomputable def rectoref1_Under (p_0 : Str) (dir_1 : Str) : Option Bool :=
 if dir_1 = [] then (some (!decide (p_0 = [])))
 else (gd (I64 ((dir_1.length : Int) + 1)) (
 if ((dir_1.length : Int) + 1) < (p_0.length : Int) then (gd ((0 : Int) ≤ (dir_1.length : Int) ∧ (dir_1.length : Int) ≤ (p_0.length : Int)) (
 lt (p_0.take (dir_1.length : Int).toNat) (fun y19_1 =>
 if y19_1 = dir_1 then ((at_ p_0 (dir_1.length : Int)).bind (fun z27_2 =>
 some (decide ((z27_2.toNat : Int) = 47))))
 else (some false))))
 else (some false)))
noncomputable def rectoref1_Clash (a_0 : Str) (b_1 : Str) : Option Bool :=
 if a_0 = [] then (some false)
 else (if b_1 = [] then (some false)
 else ((Sh.rectoref1_Under a_0 b_1).bind (fun y14_1 =>
 if y14_1 = true then (some true)
 else ((Sh.rectoref1_Under b_1 a_0).bind (fun y18_2 =>
 some y18_2)))))
noncomputable def rectoref14_Clear (r_0 : List Rectoref14File) (p_1 : Str) : Option (List Rectoref14File) :=
 iter (fun ((out5_1, i6_2) : List Rectoref14File × Int) =>
 if i6_2 < (r_0.length : Int) then (jn (fun (out5_3 : List Rectoref14File) =>
 gd (I64 (i6_2 + 1)) (
 go (out5_3, (i6_2 + 1)))) (fun k4 => (at_ r_0 i6_2).bind (fun z15_5 =>
 (Sh.rectoref1_Clash z15_5.path p_1).bind (fun y19_6 =>
 if (!y19_6) = true then ((at_ r_0 i6_2).bind (fun z24_7 =>
 lt [⟨z24_7.path, z24_7.mode, z24_7.data⟩] (fun y26_9 =>
 gd (out5_1.length + y26_9.length ≤ 4294967296) (
 lt (out5_1 ++ y26_9) (fun y27_11 =>
 k4 y27_11)))))
 else (k4 out5_1)))))
 else (up (some out5_1))) ([], 0)
noncomputable def rectoref14_Of (r_0 : List Rectoref14File) : Option (List Rectoref14Entry) :=
 iter (fun ((out3_1, i4_2) : List Rectoref14Entry × Int) =>
 if i4_2 < (r_0.length : Int) then ((at_ r_0 i4_2).bind (fun z14_3 =>
 (at_ r_0 i4_2).bind (fun z19_4 =>
 (at_ r_0 i4_2).bind (fun z24_5 =>
 lt [⟨z14_3.path, 0, z19_4.mode, z24_5.data, 0, 0⟩] (fun y28_7 =>
 gd (out3_1.length + y28_7.length ≤ 4294967296) (
 lt (out3_1 ++ y28_7) (fun y29_9 =>
 gd (I64 (i4_2 + 1)) (
 go (y29_9, (i4_2 + 1))))))))))
 else (up (some out3_1))) ([], 0)
noncomputable def rectoref14_Force (head_0 : List Rectoref14File) (to_1 : List Rectoref14File) (ix_2 : List Rectoref14Entry) (work_3 : List Rectoref14File) : Option (List Rectoref14Entry × List Rectoref14File) :=
 (Sh.rectoref14_Tracked head_0 ix_2).bind (fun y15_1 =>
 iter (fun ((work3_2, i11_3) : List Rectoref14File × Int) =>
 if i11_3 < (y15_1.length : Int) then ((at_ y15_1 i11_3).bind (fun z25_4 =>
 (Sh.rectoref14_Cut work3_2 z25_4).bind (fun y27_5 =>
 gd (I64 (i11_3 + 1)) (
 go (y27_5, (i11_3 + 1))))))
 else (up (iter (fun ((work3_6, i12_7) : List Rectoref14File × Int) =>
 if i12_7 < (to_1.length : Int) then ((at_ to_1 i12_7).bind (fun z37_8 =>
 (at_ to_1 i12_7).bind (fun z43_9 =>
 (Sh.rectoref14_Clear work3_6 z37_8.path).bind (fun y40_10 =>
 (Sh.rectoref14_Put y40_10 (⟨z43_9.path, z43_9.mode, z43_9.data⟩ : Rectoref14File)).bind (fun y45_11 =>
 gd (I64 (i12_7 + 1)) (
 go (y45_11, (i12_7 + 1))))))))
 else (up ((Sh.rectoref14_Of to_1).bind (fun y47_12 =>
 some (y47_12, work3_6))))) (work3_2, 0)))) (work_3, 0))
noncomputable def rectolaw15_All (a_0 : List IndexEntry) (b_1 : List Rectoref14Entry) : Option Bool :=
 (Sh.rectolaw15_Of a_0).bind (fun y8_1 =>
 if (y8_1.length : Int) = (b_1.length : Int) then (iter (fun (i6_2 : Int) =>
 if i6_2 < (y8_1.length : Int) then ((at_ y8_1 i6_2).bind (fun z22_3 =>
 (at_ b_1 i6_2).bind (fun z26_4 =>
 if z22_3.path = z26_4.path ∧ z22_3.stage = z26_4.stage ∧ z22_3.mode = z26_4.mode ∧ z22_3.data = z26_4.data ∧ z22_3.time = z26_4.time ∧ z22_3.size = z26_4.size then (gd (I64 (i6_2 + 1)) (
 go (i6_2 + 1)))
 else (up (some false)))))
 else (up (some true))) 0)
 else (some false))
noncomputable def rectoref14_Same (a_0 : List Rectoref14File) (b_1 : List Rectoref14File) : Option Bool :=
 if (a_0.length : Int) = (b_1.length : Int) then (iter (fun (i5_1 : Int) =>
 if i5_1 < (a_0.length : Int) then ((at_ a_0 i5_1).bind (fun z19_2 =>
 (at_ b_1 i5_1).bind (fun z23_3 =>
 if z19_2.path = z23_3.path ∧ z19_2.mode = z23_3.mode ∧ z19_2.data = z23_3.data then (gd (I64 (i5_1 + 1)) (
 go (i5_1 + 1)))
 else (up (some false)))))
 else (up (some true))) 0)
 else (some false)
noncomputable def index_Same_1 (x_0 : IndexEntry) (y_1 : IndexEntry) : Option Bool :=
 if x_0.path = y_1.path then (if x_0.stage = y_1.stage then (if x_0.mode = y_1.mode then (some (decide (x_0.data = y_1.data)))
 else (some false))
 else (some false))
 else (some false)
noncomputable def slices_EqualFunc_index_Entry_index_Entry_index_Entry_index_Entry (s1_0 : List IndexEntry) (s2_1 : List IndexEntry) : Option Bool :=
 if (s1_0.length : Int) = (s2_1.length : Int) then (iter (fun (x17_1 : Int) =>
 if x17_1 < (s1_0.length : Int) then ((at_ s1_0 x17_1).bind (fun z20_2 =>
 (at_ s2_1 x17_1).bind (fun z24_4 =>
 (Sh.index_Same_1 (⟨z20_2.path, z20_2.stage, z20_2.mode, z20_2.data, z20_2.time, z20_2.size⟩ : IndexEntry) (⟨z24_4.path, z24_4.stage, z24_4.mode, z24_4.data, z24_4.time, z24_4.size⟩ : IndexEntry)).bind (fun y29_6 =>
 if (!y29_6) = true then (up (some false))
 else (gd (I64 (x17_1 + 1)) (
 go (x17_1 + 1)))))))
 else (up (some true))) 0)
 else (some false)
noncomputable def index_Same (a_0 : List IndexEntry) (b_1 : List IndexEntry) : Option Bool :=
 (Sh.slices_EqualFunc_index_Entry_index_Entry_index_Entry_index_Entry a_0 b_1).bind (fun y7_1 =>
 some y7_1)
noncomputable def rectolaw20_PlanForces (h_0 : List FilesFile) (to_1 : List FilesFile) (ix_2 : List IndexEntry) (w_3 : List FilesFile) : Option Bool :=
 (Sh.rectolaw20_known).bind (fun y16_1 =>
 if (!y16_1) = true then (some false)
 else ((Sh.rectolaw20_Few h_0 (⟨to_1, [], []⟩ : TmergeResultP) ix_2 w_3).bind (fun y23_2 =>
 if (!y23_2) = true then (some true)
 else ((Sh.plan_Force h_0 to_1 ix_2 w_3).bind (fun y30_3 =>
 (Sh.rectolaw14_Of h_0).bind (fun y35_4 =>
 (Sh.rectolaw14_Of to_1).bind (fun y37_5 =>
 (Sh.rectolaw15_Of ix_2).bind (fun y39_6 =>
 (Sh.rectolaw14_Of w_3).bind (fun y41_7 =>
 (Sh.rectoref14_Force y35_4 y37_5 y39_6 y41_7).bind (fun y42_8 =>
 jn (fun (x55_9 : Bool) =>
 if x55_9 = true then (some false)
 else (iter (fun (i13_14 : Int) =>
 if i13_14 < (to_1.length : Int) then ((at_ to_1 i13_14).bind (fun z66_15 =>
 (Sh.files_Row_Get y30_3.2 z66_15.path).bind (fun y69_16 =>
 jn (fun (x81_18 : Bool) =>
 if x81_18 = true then (up (some false))
 else (gd (I64 (i13_14 + 1)) (
 go (i13_14 + 1)))) (fun k19 => if (!y69_16.2) = true then (k19 true)
 else ((at_ to_1 i13_14).bind (fun z78_20 =>
 k19 (!decide (y69_16.1.path = z78_20.path ∧ y69_16.1.mode = z78_20.mode ∧ y69_16.1.data = z78_20.data))))))))
 else (up ((Sh.index_Of to_1).bind (fun y84_21 =>
 (Sh.index_Same y30_3.1 y84_21).bind (fun y85_22 =>
 some y85_22))))) 0)) (fun k10 => (Sh.rectolaw15_All y30_3.1 y42_8.1).bind (fun y47_11 =>
 if (!y47_11) = true then (k10 true)
 else ((Sh.rectolaw14_Of y30_3.2).bind (fun y51_12 =>
 (Sh.rectoref14_Same y51_12 y42_8.2).bind (fun y53_13 =>
 k10 (!y53_13))))))))))))))))
noncomputable def slices_Equal_files_Row_files_File (s1_0 : List FilesFile) (s2_1 : List FilesFile) : Option Bool :=
 if (s1_0.length : Int) = (s2_1.length : Int) then (iter (fun (x13_1 : Int) =>
 if x13_1 < (s1_0.length : Int) then ((at_ s1_0 x13_1).bind (fun z18_2 =>
 (at_ s2_1 x13_1).bind (fun z22_3 =>
 if z18_2.path = z22_3.path ∧ z18_2.mode = z22_3.mode ∧ z18_2.data = z22_3.data then (gd (I64 (x13_1 + 1)) (
 go (x13_1 + 1)))
 else (up (some false)))))
 else (up (some true))) 0)
 else (some false)
noncomputable def files_Row_Same (r_0 : List FilesFile) (q_1 : List FilesFile) : Option Bool :=
 (Sh.slices_Equal_files_Row_files_File r_0 q_1).bind (fun y7_1 =>
 some y7_1)
noncomputable def rectolaw20_PlanClean (a_0 : List FilesFile) (b_1 : List FilesFile) : Option Bool :=
 (Sh.rectolaw20_known).bind (fun y10_1 =>
 if (!y10_1) = true then (some false)
 else (jn (fun (x29_2 : Bool) =>
 if x29_2 = true then (some true)
 else ((Sh.index_Of a_0).bind (fun y35_8 =>
 (Sh.plan_Apply a_0 (⟨b_1, [], []⟩ : TmergeResultP) y35_8 a_0).bind (fun y37_9 =>
 (Sh.index_Of a_0).bind (fun y45_10 =>
 (Sh.plan_Force a_0 b_1 y45_10 a_0).bind (fun y47_11 =>
 if y37_9.2.2.isNil = true then ((Sh.files_Row_Same y37_9.2.1 b_1).bind (fun y55_12 =>
 if y55_12 = true then ((Sh.files_Row_Same y47_11.2 b_1).bind (fun y60_13 =>
 if y60_13 = true then ((Sh.index_Of b_1).bind (fun y65_14 =>
 (Sh.index_Same y37_9.1 y65_14).bind (fun y66_15 =>
 if y66_15 = true then ((Sh.index_Of b_1).bind (fun y71_16 =>
 (Sh.rectolaw15_Of y71_16).bind (fun y72_17 =>
 (Sh.rectolaw15_All y47_11.1 y72_17).bind (fun y73_18 =>
 if y73_18 = true then ((Sh.index_Of a_0).bind (fun y80_19 =>
 (Sh.plan_Lost a_0 (⟨b_1, [], []⟩ : TmergeResultP) y80_19 a_0).bind (fun y82_20 =>
 some (decide ((y82_20.length : Int) = 0)))))
 else (some false)))))
 else (some false))))
 else (some false)))
 else (some false)))
 else (some false))))))) (fun k3 => (Sh.rectolaw14_Few a_0).bind (fun y13_4 =>
 if (!y13_4) = true then (k3 true)
 else ((Sh.rectolaw14_Few b_1).bind (fun y17_5 =>
 if (!y17_5) = true then (k3 true)
 else ((Sh.files_Row_Check a_0).bind (fun y22_6 =>
 if y22_6.isNil = true then ((Sh.files_Row_Check b_1).bind (fun y27_7 =>
 k3 (!decide (y27_7.isNil = true))))
 else (k3 true)))))))))
noncomputable def rectoref14_Get (r_0 : List Rectoref14File) (p_1 : Str) : Option (Rectoref14File × Bool) :=
 iter (fun (i6_2 : Int) =>
 if i6_2 < (r_0.length : Int) then ((at_ r_0 i6_2).bind (fun z15_3 =>
 if z15_3.path = p_1 then ((at_ r_0 i6_2).bind (fun z22_4 =>
 up (some (⟨z22_4.path, z22_4.mode, z22_4.data⟩, true))))
 else (gd (I64 (i6_2 + 1)) (
 go (i6_2 + 1)))))
 else (up (some (⟨[], 0, []⟩, false)))) 0
noncomputable def rectoref14_Like (a_0 : List Rectoref14File) (b_1 : List Rectoref14File) (p_2 : Str) : Option Bool :=
 (Sh.rectoref14_Get a_0 p_2).bind (fun y14_1 =>
 (Sh.rectoref14_Get b_1 p_2).bind (fun y20_3 =>
 if y14_1.2 = y20_3.2 then (some (decide (y14_1.1.path = y20_3.1.path ∧ y14_1.1.mode = y20_3.1.mode ∧ y14_1.1.data = y20_3.1.data)))
 else (some false)))
noncomputable def rectolaw20_PlanKeeps (h_0 : List FilesFile) (r_1 : TmergeResultP) (ix_2 : List IndexEntry) (w_3 : List FilesFile) : Option Bool :=
 (Sh.rectolaw20_known).bind (fun y16_2 =>
 if (!y16_2) = true then (some false)
 else ((Sh.rectolaw20_Few h_0 r_1 ix_2 w_3).bind (fun y22_3 =>
 if (!y22_3) = true then (some true)
 else ((Sh.plan_Apply h_0 r_1 ix_2 w_3).bind (fun y29_4 =>
 if y29_4.2.2.isNil = true then ((Sh.rectolaw15_Of ix_2).bind (fun y39_6 =>
 (Sh.rectoref14_Stage y39_6 0).bind (fun y40_7 =>
 iter (fun (i13_8 : Int) =>
 if i13_8 < (w_3.length : Int) then (jn (fun (_ : Unit) =>
 gd (I64 (i13_8 + 1)) (
 go (i13_8 + 1))) (fun k9 => (at_ w_3 i13_8).bind (fun z52_10 =>
 (Sh.rectolaw14_Of w_3).bind (fun y49_11 =>
 (Sh.rectoref14_Like y40_7 y49_11 z52_10.path).bind (fun y55_12 =>
 if y55_12 = true then (k9 ())
 else ((at_ w_3 i13_8).bind (fun z60_13 =>
 (Sh.files_Row_Get y29_4.2.1 z60_13.path).bind (fun y63_14 =>
 jn (fun (x75_16 : Bool) =>
 if x75_16 = true then (up (some false))
 else (k9 ())) (fun k17 => if (!y63_14.2) = true then (k17 true)
 else ((at_ w_3 i13_8).bind (fun z72_18 =>
 k17 (!decide (y63_14.1.path = z72_18.path ∧ y63_14.1.mode = z72_18.mode ∧ y63_14.1.data = z72_18.data)))))))))))))
 else (up (some true))) 0)))
 else ((Sh.files_Row_Same y29_4.2.1 w_3).bind (fun y37_5 =>
 some y37_5)))))))
end Go.S.Sh
end

section
namespace Go.Proofs
open Go.Shelf
def Tryz.lays156_ren : Go.Shelf.Ren := ⟨fun | 156 => 122 | 165 => 202 | 166 => 203 | 169 => 204 | 240 => 262 | 241 => 263 | 276 => 312 | 277 => 313 | n => n, fun | 31 => 32 | 9 => 9 | 3 => 3 | 4 => 4 | 0 => 0 | 20 => 20 | 72 => 274 | 76 => 62 | 70 => 272 | 37 => 61 | 75 => 27 | 127 => 343 | 164 => 260 | 5 => 5 | 80 => 177 | n => n, fun | n => n⟩
theorem Tryz.lays156 : Go.Proofs.Lays.n156 Tryz.prog Tryz.lays156_ren := {
  mixed := by kernel_rfl
  f156 := Tryz.func122.trans (congrArg some (by kernel_rfl))
  f165 := Tryz.func202.trans (congrArg some (by kernel_rfl))
  f166 := Tryz.func203.trans (congrArg some (by kernel_rfl))
  f169 := Tryz.func204.trans (congrArg some (by kernel_rfl))
  f240 := Tryz.func262.trans (congrArg some (by kernel_rfl))
  f241 := Tryz.func263.trans (congrArg some (by kernel_rfl))
  f276 := Tryz.func312.trans (congrArg some (by kernel_rfl))
  f277 := Tryz.func313.trans (congrArg some (by kernel_rfl))
  t0 := Tryz.underlying0
  a0 := Tryz.isAgg0
  z0 := Tryz.sizeOf0
  v0 := Tryz.zeroValue0
  t3 := Tryz.underlying3
  a3 := Tryz.isAgg3
  z3 := Tryz.sizeOf3
  v3 := Tryz.zeroValue3
  t4 := Tryz.underlying4
  a4 := Tryz.isAgg4
  z4 := Tryz.sizeOf4
  v4 := Tryz.zeroValue4
  t9 := Tryz.underlying9
  a9 := Tryz.isAgg9
  z9 := Tryz.sizeOf9
  v9 := Tryz.zeroValue9
  t20 := Tryz.underlying20
  a20 := Tryz.isAgg20
  z20 := Tryz.sizeOf20
  v20 := Tryz.zeroValue20
  t31 := Tryz.underlying32
  a31 := Tryz.isAgg32
  z31 := Tryz.sizeOf32
  v31 := Tryz.zeroValue32
  t37 := Tryz.underlying61
  a37 := Tryz.isAgg61
  z37 := Tryz.sizeOf61
  v37 := Tryz.zeroValue61
  t70 := Tryz.underlying272
  a70 := Tryz.isAgg272
  z70 := Tryz.sizeOf272
  v70 := Tryz.zeroValue272
  t72 := Tryz.underlying274
  a72 := Tryz.isAgg274
  z72 := Tryz.sizeOf274
  v72 := Tryz.zeroValue274
  t75 := Tryz.underlying27
  a75 := Tryz.isAgg27
  z75 := Tryz.sizeOf27
  v75 := Tryz.zeroValue27
  t76 := Tryz.underlying62
  a76 := Tryz.isAgg62
  z76 := Tryz.sizeOf62
  v76 := Tryz.zeroValue62
  t127 := Tryz.underlying343
  a127 := Tryz.isAgg343
  z127 := Tryz.sizeOf343
  v127 := Tryz.zeroValue343
  t164 := Tryz.underlying260
  a164 := Tryz.isAgg260
  z164 := Tryz.sizeOf260
  v164 := Tryz.zeroValue260 }
theorem Tryz.Builder_Extra_156 : Builder.Extra Tryz.prog Tryz.lays156_ren := {
  sizeBuilder := by kernel_rfl
  liesBuilder := by kernel_rfl
  t5 := Tryz.underlying5
  a5 := Tryz.isAgg5
  z5 := Tryz.sizeOf5
  v5 := Tryz.zeroValue5
  infoByte := by kernel_rfl
  cellsByte := by kernel_rfl
  sizeByte := by kernel_rfl
  neB5 := by decide }
open Go.RowKit in
/-- No element: the empty string; the world is as it was. (Whatever the slice's address and capacity: a nil slice too.) (LAID: no walk: one application.) -/
theorem Tryz.strings_Join_none (a : Option Addr) (c : Nat) (sep : ByteArray) (w : World) :
    Calls Tryz.prog 122 #[.slice a 0 c, .string sep] w fun e w' => e = .returned (.string ⟨#[]⟩) ∧ w' = w := Any.strings_Join_none Tryz.lays156 Tryz.Builder_Extra_156 a c sep w
open Go.RowKit in
/-- strings.Join: "Join concatenates the elements of its first argument to create a single string. The separator string sep is placed between elements in the resulting string.": HOWEVER MANY ELEMENTS. Below the heap's end the world is as it was. (LAID: no walk: one application.) -/
theorem Tryz.strings_Join (bk o c : Nat) (xs : List ByteArray) (sep : ByteArray) (w : World) (hcells : ∀ (j : Nat) x, xs[j]? = some x → w.cell? ⟨bk, o + j, none⟩ = some (.string x)) (hbk : bk < w.heap.size) (hN : xs.length ≤ 140737488355328) (hcap : xs.length ≤ c) (hlen : (Lib.join (xs.map (·.data.toList)) sep.data.toList).length ≤ 140737488355328) :
    Calls Tryz.prog 122 #[.slice (some ⟨bk, o, none⟩) xs.length c, .string sep] w fun e w' => e = .returned (.string ⟨(Lib.join (xs.map (·.data.toList)) sep.data.toList).toArray⟩) ∧ Below w.heap.size w w' := Any.strings_Join Tryz.lays156 Tryz.Builder_Extra_156 bk o c xs sep w hcells hbk hN hcap hlen
def Tryz.laysM171_ren : Go.Shelf.Ren := ⟨fun | 171 => 121 | 243 => 201 | 246 => 261 | 283 => 308 | 284 => 309 | 285 => 310 | 286 => 311 | 129 => 235 | 317 => 352 | 318 => 353 | 319 => 354 | 320 => 355 | 337 => 378 | 338 => 379 | n => n, fun | 3 => 3 | 9 => 9 | 2 => 2 | 4 => 4 | 171 => 380 | 0 => 0 | 53 => 304 | 37 => 61 | 5 => 5 | 173 => 382 | 212 => 418 | 51 => 302 | 20 => 20 | 213 => 419 | 46 => 220 | 232 => 455 | 233 => 456 | n => n, fun | 17 => 2 | 18 => 5 | 19 => 6 | n => n⟩
theorem Tryz.laysM171 : Go.Proofs.LaysM.n171 Tryz.prog Tryz.laysM171_ren := {
  mixed := by kernel_rfl
  f129 := Tryz.func235.trans (congrArg some (by kernel_rfl))
  f171 := Tryz.func121.trans (congrArg some (by kernel_rfl))
  f243 := Tryz.func201.trans (congrArg some (by kernel_rfl))
  f246 := Tryz.func261.trans (congrArg some (by kernel_rfl))
  f283 := Tryz.func308.trans (congrArg some (by kernel_rfl))
  f284 := Tryz.func309.trans (congrArg some (by kernel_rfl))
  f285 := Tryz.func310.trans (congrArg some (by kernel_rfl))
  f286 := Tryz.func311.trans (congrArg some (by kernel_rfl))
  f317 := Tryz.func352.trans (congrArg some (by kernel_rfl))
  f318 := Tryz.func353.trans (congrArg some (by kernel_rfl))
  f319 := Tryz.func354.trans (congrArg some (by kernel_rfl))
  f320 := Tryz.func355.trans (congrArg some (by kernel_rfl))
  f337 := Tryz.func378.trans (congrArg some (by kernel_rfl))
  f338 := Tryz.func379.trans (congrArg some (by kernel_rfl))
  t0 := Tryz.underlying0
  a0 := Tryz.isAgg0
  z0 := Tryz.sizeOf0
  v0 := Tryz.zeroValue0
  t2 := Tryz.underlying2
  a2 := Tryz.isAgg2
  z2 := Tryz.sizeOf2
  v2 := Tryz.zeroValue2
  t3 := Tryz.underlying3
  a3 := Tryz.isAgg3
  z3 := Tryz.sizeOf3
  v3 := Tryz.zeroValue3
  t4 := Tryz.underlying4
  a4 := Tryz.isAgg4
  z4 := Tryz.sizeOf4
  v4 := Tryz.zeroValue4
  t5 := Tryz.underlying5
  a5 := Tryz.isAgg5
  z5 := Tryz.sizeOf5
  v5 := Tryz.zeroValue5
  t9 := Tryz.underlying9
  a9 := Tryz.isAgg9
  z9 := Tryz.sizeOf9
  v9 := Tryz.zeroValue9
  t20 := Tryz.underlying20
  a20 := Tryz.isAgg20
  z20 := Tryz.sizeOf20
  v20 := Tryz.zeroValue20
  t37 := Tryz.underlying61
  a37 := Tryz.isAgg61
  z37 := Tryz.sizeOf61
  v37 := Tryz.zeroValue61
  t46 := Tryz.underlying220
  a46 := Tryz.isAgg220
  z46 := Tryz.sizeOf220
  v46 := Tryz.zeroValue220
  t51 := Tryz.underlying302
  a51 := Tryz.isAgg302
  z51 := Tryz.sizeOf302
  v51 := Tryz.zeroValue302
  t53 := Tryz.underlying304
  a53 := Tryz.isAgg304
  z53 := Tryz.sizeOf304
  v53 := Tryz.zeroValue304
  t171 := Tryz.underlying380
  a171 := Tryz.isAgg380
  z171 := Tryz.sizeOf380
  v171 := Tryz.zeroValue380
  t173 := Tryz.underlying382
  a173 := Tryz.isAgg382
  z173 := Tryz.sizeOf382
  v173 := Tryz.zeroValue382
  t212 := Tryz.underlying418
  a212 := Tryz.isAgg418
  z212 := Tryz.sizeOf418
  v212 := Tryz.zeroValue418
  t213 := Tryz.underlying419
  a213 := Tryz.isAgg419
  z213 := Tryz.sizeOf419
  t232 := Tryz.underlying455
  a232 := Tryz.isAgg455
  z232 := Tryz.sizeOf455
  v232 := Tryz.zeroValue455
  t233 := Tryz.underlying456
  a233 := Tryz.isAgg456
  z233 := Tryz.sizeOf456
  v233 := Tryz.zeroValue456
  g17 := by kernel_rfl
  g18 := by kernel_rfl
  g19 := by kernel_rfl
  i0 := by kernel_rfl
  i2 := by kernel_rfl
  i3 := by kernel_rfl
  i4 := by kernel_rfl
  i5 := by kernel_rfl
  i9 := by kernel_rfl
  i20 := by kernel_rfl
  i37 := by kernel_rfl
  i46 := by kernel_rfl
  i51 := by kernel_rfl
  i53 := by kernel_rfl
  i171 := by kernel_rfl
  i173 := by kernel_rfl
  i212 := by kernel_rfl
  i232 := by kernel_rfl
  i233 := by kernel_rfl
  m17 := by kernel_rfl
  m18 := by kernel_rfl
  m19 := by kernel_rfl }
open Go.RowKit Go.Sort Go.Lib in
/-- strconv.Itoa: "Itoa is equivalent to FormatInt(int64(i), 10).": i's DECIMAL NUMERAL ('Lib.itoa': a '-' where i is negative, then the digits), FOR EVERY int. The world behind the call: the world before it, new blocks behind the heap (the library's 'var a [24]byte'), draws. (LAID: no walk: one application.) -/
theorem Tryz.strconv_Itoa (n : Int) (h0 : -9223372036854775808 ≤ n) (h1 : n ≤ 9223372036854775807) (w : World) (htab : Lib.TabIs Tryz.prog w "internal/strconv.uint64pow10" .u64 Lib.pow10Tab) :
    Calls Tryz.prog 121 #[.int .i64 n] w fun e w' => e = .returned (.string ⟨(Lib.itoa n).toArray⟩) ∧ ∃ k os, w' = grow (w.drewN k) os := Any.strconv_Itoa Tryz.laysM171 n h0 h1 w htab
def Tryz.lays190_ren : Go.Shelf.Ren := ⟨fun | 190 => 73 | 125 => 152 | 258 => 151 | 128 => 234 | 129 => 235 | 302 => 225 | 303 => 226 | 304 => 227 | 305 => 228 | 306 => 229 | 307 => 230 | 308 => 231 | 309 => 232 | 310 => 233 | 333 => 286 | 329 => 287 | 330 => 288 | 334 => 289 | 335 => 290 | 336 => 279 | 344 => 329 | n => n, fun | 31 => 32 | 9 => 9 | 3 => 3 | 46 => 220 | 0 => 0 | 51 => 302 | 53 => 304 | 4 => 4 | 183 => 296 | 182 => 295 | 131 => 136 | 5 => 5 | 218 => 358 | 222 => 362 | 228 => 392 | 229 => 393 | n => n, fun | n => n⟩
theorem Tryz.lays190 : Go.Proofs.Lays.n190 Tryz.prog Tryz.lays190_ren := {
  mixed := by kernel_rfl
  f125 := Tryz.func152.trans (congrArg some (by kernel_rfl))
  f128 := Tryz.func234.trans (congrArg some (by kernel_rfl))
  f129 := Tryz.func235.trans (congrArg some (by kernel_rfl))
  f190 := Tryz.func73.trans (congrArg some (by kernel_rfl))
  f258 := Tryz.func151.trans (congrArg some (by kernel_rfl))
  f302 := Tryz.func225.trans (congrArg some (by kernel_rfl))
  f303 := Tryz.func226.trans (congrArg some (by kernel_rfl))
  f304 := Tryz.func227.trans (congrArg some (by kernel_rfl))
  f305 := Tryz.func228.trans (congrArg some (by kernel_rfl))
  f306 := Tryz.func229.trans (congrArg some (by kernel_rfl))
  f307 := Tryz.func230.trans (congrArg some (by kernel_rfl))
  f308 := Tryz.func231.trans (congrArg some (by kernel_rfl))
  f309 := Tryz.func232.trans (congrArg some (by kernel_rfl))
  f310 := Tryz.func233.trans (congrArg some (by kernel_rfl))
  f329 := Tryz.func287.trans (congrArg some (by kernel_rfl))
  f330 := Tryz.func288.trans (congrArg some (by kernel_rfl))
  f333 := Tryz.func286.trans (congrArg some (by kernel_rfl))
  f334 := Tryz.func289.trans (congrArg some (by kernel_rfl))
  f335 := Tryz.func290.trans (congrArg some (by kernel_rfl))
  f336 := Tryz.func279.trans (congrArg some (by kernel_rfl))
  f344 := Tryz.func329.trans (congrArg some (by kernel_rfl))
  t0 := Tryz.underlying0
  a0 := Tryz.isAgg0
  z0 := Tryz.sizeOf0
  v0 := Tryz.zeroValue0
  t3 := Tryz.underlying3
  a3 := Tryz.isAgg3
  z3 := Tryz.sizeOf3
  v3 := Tryz.zeroValue3
  t4 := Tryz.underlying4
  a4 := Tryz.isAgg4
  z4 := Tryz.sizeOf4
  v4 := Tryz.zeroValue4
  t5 := Tryz.underlying5
  a5 := Tryz.isAgg5
  z5 := Tryz.sizeOf5
  v5 := Tryz.zeroValue5
  t9 := Tryz.underlying9
  a9 := Tryz.isAgg9
  z9 := Tryz.sizeOf9
  v9 := Tryz.zeroValue9
  t31 := Tryz.underlying32
  a31 := Tryz.isAgg32
  z31 := Tryz.sizeOf32
  v31 := Tryz.zeroValue32
  t46 := Tryz.underlying220
  a46 := Tryz.isAgg220
  z46 := Tryz.sizeOf220
  v46 := Tryz.zeroValue220
  t51 := Tryz.underlying302
  a51 := Tryz.isAgg302
  z51 := Tryz.sizeOf302
  v51 := Tryz.zeroValue302
  t53 := Tryz.underlying304
  a53 := Tryz.isAgg304
  z53 := Tryz.sizeOf304
  v53 := Tryz.zeroValue304
  t131 := Tryz.underlying136
  a131 := Tryz.isAgg136
  z131 := Tryz.sizeOf136
  v131 := Tryz.zeroValue136
  t182 := Tryz.underlying295
  a182 := Tryz.isAgg295
  z182 := Tryz.sizeOf295
  v182 := Tryz.zeroValue295
  t183 := Tryz.underlying296
  a183 := Tryz.isAgg296
  z183 := Tryz.sizeOf296
  v183 := Tryz.zeroValue296
  t218 := Tryz.underlying358
  a218 := Tryz.isAgg358
  z218 := Tryz.sizeOf358
  v218 := Tryz.zeroValue358
  t222 := Tryz.underlying362
  a222 := Tryz.isAgg362
  z222 := Tryz.sizeOf362
  v222 := Tryz.zeroValue362
  t228 := Tryz.underlying392
  a228 := Tryz.isAgg392
  z228 := Tryz.sizeOf392
  v228 := Tryz.zeroValue392
  t229 := Tryz.underlying393
  a229 := Tryz.isAgg393
  z229 := Tryz.sizeOf393
  v229 := Tryz.zeroValue393 }
open Go.Sort Go.RowKit in
theorem Tryz.slices_Sort_string (blk off cap : Nat) (ss : List (List UInt8)) (w : World) (hH : Holds encStr w blk off ss.toArray) (hblk : blk < w.heap.size) (hsz : ss.length < 4611686018427387904) :
    Calls Tryz.prog 73 #[.slice (some ⟨blk, off, none⟩) ss.length cap] w fun e w' =>
      e = .returned (.tuple #[]) ∧ ∃ n os, w' = grow (putRow encStr (Sort.ahead w n) blk off (ss.mergeSort fun x y => decide (x ≤ y)).toArray) os := Any.slices_Sort_string Tryz.lays190 blk off cap ss w hH hblk hsz
def Tryz.lays194_ren : Go.Shelf.Ren := ⟨fun | 194 => 75 | n => n, fun | 31 => 32 | 9 => 9 | 3 => 3 | 4 => 4 | 0 => 0 | n => n, fun | n => n⟩
theorem Tryz.lays194 : Go.Proofs.Lays.n194 Tryz.prog Tryz.lays194_ren := {
  mixed := by kernel_rfl
  f194 := Tryz.func75.trans (congrArg some (by kernel_rfl))
  t0 := Tryz.underlying0
  a0 := Tryz.isAgg0
  z0 := Tryz.sizeOf0
  v0 := Tryz.zeroValue0
  t3 := Tryz.underlying3
  a3 := Tryz.isAgg3
  z3 := Tryz.sizeOf3
  v3 := Tryz.zeroValue3
  t4 := Tryz.underlying4
  a4 := Tryz.isAgg4
  z4 := Tryz.sizeOf4
  v4 := Tryz.zeroValue4
  t9 := Tryz.underlying9
  a9 := Tryz.isAgg9
  z9 := Tryz.sizeOf9
  v9 := Tryz.zeroValue9
  t31 := Tryz.underlying32
  a31 := Tryz.isAgg32
  z31 := Tryz.sizeOf32
  v31 := Tryz.zeroValue32 }
open Go.RowKit Go.Lib Go.Sort in
/-- slices.Compact at []string, over an array: the library's two loops are walked. (LAID: no walk: one application.) -/
theorem Tryz.slices_Compact_string_arr (blk off cap : Nat) (d : Array (List UInt8)) (w : World) (hH : Holds encStr w blk off d) (hsz : d.size ≤ 9223372036854775807) (hcap : d.size ≤ cap) :
    Calls Tryz.prog 75 #[.slice (some ⟨blk, off, none⟩) d.size cap] w fun e w' => e = .returned (.slice (some ⟨blk, off, none⟩) (compactUpTo d d.size).length cap) ∧ ∃ q, w' = putRow encStr (Sort.ahead w q) blk off (compactUpTo d d.size ++ List.replicate (d.size - (compactUpTo d d.size).length) []).toArray := Any.slices_Compact_string_arr Tryz.lays194 blk off cap d w hH hsz hcap
open Go.RowKit Go.Lib Go.Sort in
/-- slices.Compact at []string: "Compact replaces consecutive runs of equal elements with a single copy. This is like the uniq command found on Unix. Compact modifies the contents of the slice s and returns the modified slice, which may have a smaller length. Compact zeroes the elements between the new length and the original length. The result preserves the nilness of s.": IT RETURNS THE SLICE CUT TO 'Lib.compact zs'; ITS CELLS HOLD 'Lib.compact zs', THEN ZERO VALUES up to the old length; all else is as it was, but for the count of draws. IN THE WORDS OF slices.Sort's CONTRACT ('Holds', 'putRow'): so the everyday 'slices.Sort(xs); xs = slices.Compact(xs)' goes from the one contract to the other. It asks 'zs.length ≤ cap' (every slice's: the reslicing 's[:k]' looks at it). Length 0, nil: '.._empty'. (LAID: no walk: one application.) -/
theorem Tryz.slices_Compact_string (blk off cap : Nat) (zs : List (List UInt8)) (w : World) (hH : Holds encStr w blk off zs.toArray) (hsz : zs.length ≤ 9223372036854775807) (hcap : zs.length ≤ cap) :
    Calls Tryz.prog 75 #[.slice (some ⟨blk, off, none⟩) zs.length cap] w fun e w' => e = .returned (.slice (some ⟨blk, off, none⟩) (Lib.compact zs).length cap) ∧ ∃ q, w' = putRow encStr (Sort.ahead w q) blk off (Lib.compact zs ++ List.replicate (zs.length - (Lib.compact zs).length) []).toArray := Any.slices_Compact_string Tryz.lays194 blk off cap zs w hH hsz hcap
open Go.RowKit Go.Lib Go.Sort in
/-- The same at a slice of length 0, a nil one too: it comes back as it is. (LAID: no walk: one application.) -/
theorem Tryz.slices_Compact_string_empty (a : Option Addr) (cap : Nat) (w : World) :
    Calls Tryz.prog 75 #[.slice a 0 cap] w fun e w' => e = .returned (.slice a 0 cap) ∧ w' = w := Any.slices_Compact_string_empty Tryz.lays194 a cap w
open Go.RowKit Go.Sort in
/-- .. and plain. (LAID: no walk: one application.) -/
theorem Tryz.slices_Sort_string_none (p : Option Addr) (cap : Nat) (w : World) :
    Calls Tryz.prog 73 #[.slice p 0 cap] w fun e w' => e = .returned (.tuple #[]) ∧ w' = w := Any.slices_Sort_string_none Tryz.lays190 p cap w
end Go.Proofs
end

section
namespace Go.Proofs
open Go.Shelf
def Tryz.keys181_ren : Go.Shelf.Ren := ⟨fun | 7 => 181 | 10 => 253 | n => n, fun | 23 => 248 | 26 => 9 | 3 => 4 | 28 => 251 | 0 => 0 | 27 => 250 | 33 => 127 | 4 => 4 | n => n, fun | n => n⟩
theorem Tryz.keys181 : Go.Proofs.SlLaysZ.n7 Tryz.prog Tryz.keys181_ren := {
  mixed := by kernel_rfl
  f7 := ⟨Tryz.f181.name, by decide, Tryz.func181.trans (congrArg some (by kernel_rfl))⟩
  f10 := ⟨Tryz.f253.name, by decide, Tryz.func253.trans (congrArg some (by kernel_rfl))⟩
  t0 := Tryz.underlying0
  a0 := Tryz.isAgg0
  z0 := Tryz.sizeOf0
  v0 := Tryz.zeroValue0
  t4 := Tryz.underlying4
  a4 := Tryz.isAgg4
  z4 := Tryz.sizeOf4
  v4 := Tryz.zeroValue4
  t23 := Tryz.underlying248
  a23 := Tryz.isAgg248
  z23 := Tryz.sizeOf248
  v23 := Tryz.zeroValue248
  t26 := Tryz.underlying9
  a26 := Tryz.isAgg9
  z26 := Tryz.sizeOf9
  v26 := Tryz.zeroValue9
  t27 := Tryz.underlying250
  a27 := Tryz.isAgg250
  z27 := Tryz.sizeOf250
  v27 := Tryz.zeroValue250
  t28 := Tryz.underlying251
  a28 := Tryz.isAgg251
  z28 := Tryz.sizeOf251
  v28 := Tryz.zeroValue251
  t33 := Tryz.underlying127
  a33 := Tryz.isAgg127
  z33 := Tryz.sizeOf127
  v33 := Tryz.zeroValue127 }
def Tryz.sorted180_ren : Go.Shelf.Ren := ⟨fun | 6 => 180 | 8 => 252 | 9 => 73 | 11 => 302 | 13 => 152 | 12 => 151 | 23 => 234 | 24 => 235 | 14 => 225 | 15 => 226 | 16 => 227 | 17 => 228 | 18 => 229 | 19 => 230 | 20 => 231 | 21 => 232 | 22 => 233 | 25 => 286 | 26 => 287 | 27 => 288 | 28 => 289 | 29 => 290 | 30 => 279 | 31 => 329 | n => n, fun | 26 => 9 | 28 => 251 | 24 => 32 | 0 => 0 | 3 => 3 | 37 => 220 | 48 => 302 | 50 => 304 | 4 => 4 | 40 => 296 | 39 => 295 | 45 => 136 | 5 => 5 | 9 => 9 | 51 => 358 | 55 => 362 | 57 => 392 | 58 => 393 | 33 => 127 | n => n, fun | n => n⟩
theorem Tryz.sorted180 : Go.Proofs.SlLaysZ.n6 Tryz.prog Tryz.sorted180_ren := {
  mixed := by kernel_rfl
  f6 := ⟨Tryz.f180.name, by decide, Tryz.func180.trans (congrArg some (by kernel_rfl))⟩
  f8 := ⟨Tryz.f252.name, by decide, Tryz.func252.trans (congrArg some (by kernel_rfl))⟩
  f11 := ⟨Tryz.f302.name, by decide, Tryz.func302.trans (congrArg some (by kernel_rfl))⟩
  t0 := Tryz.underlying0
  a0 := Tryz.isAgg0
  z0 := Tryz.sizeOf0
  v0 := Tryz.zeroValue0
  t24 := Tryz.underlying32
  a24 := Tryz.isAgg32
  z24 := Tryz.sizeOf32
  v24 := Tryz.zeroValue32
  t26 := Tryz.underlying9
  a26 := Tryz.isAgg9
  z26 := Tryz.sizeOf9
  v26 := Tryz.zeroValue9
  t28 := Tryz.underlying251
  a28 := Tryz.isAgg251
  z28 := Tryz.sizeOf251
  v28 := Tryz.zeroValue251
  i26 := by kernel_rfl }
def Tryz.sort73_ren : Go.Shelf.Ren := ⟨fun | 6 => 73 | 8 => 152 | 9 => 151 | 19 => 234 | 20 => 235 | 21 => 225 | 22 => 226 | 23 => 227 | 24 => 228 | 25 => 229 | 26 => 230 | 27 => 231 | 28 => 232 | 29 => 233 | 36 => 286 | 31 => 287 | 32 => 288 | 37 => 289 | 38 => 290 | 39 => 279 | 41 => 329 | n => n, fun | 27 => 32 | 29 => 9 | 3 => 3 | 32 => 220 | 26 => 32 | 0 => 0 | 44 => 302 | 46 => 304 | 4 => 4 | 36 => 296 | 35 => 295 | 41 => 136 | 5 => 5 | 9 => 9 | 53 => 358 | 57 => 362 | 63 => 392 | 64 => 393 | n => n, fun | n => n⟩
theorem Tryz.sort73 : Go.Proofs.SlLaysM.n6 Tryz.prog Tryz.sort73_ren := {
  mixed := by kernel_rfl
  f6 := ⟨Tryz.f73.name, by decide, Tryz.func73.trans (congrArg some (by kernel_rfl))⟩
  f8 := Tryz.func152.trans (congrArg some (by kernel_rfl))
  f9 := ⟨Tryz.f151.name, by decide, Tryz.func151.trans (congrArg some (by kernel_rfl))⟩
  f19 := Tryz.func234.trans (congrArg some (by kernel_rfl))
  f20 := Tryz.func235.trans (congrArg some (by kernel_rfl))
  f21 := ⟨Tryz.f225.name, by decide, Tryz.func225.trans (congrArg some (by kernel_rfl))⟩
  f22 := ⟨Tryz.f226.name, by decide, Tryz.func226.trans (congrArg some (by kernel_rfl))⟩
  f23 := ⟨Tryz.f227.name, by decide, Tryz.func227.trans (congrArg some (by kernel_rfl))⟩
  f24 := ⟨Tryz.f228.name, by decide, Tryz.func228.trans (congrArg some (by kernel_rfl))⟩
  f25 := ⟨Tryz.f229.name, by decide, Tryz.func229.trans (congrArg some (by kernel_rfl))⟩
  f26 := ⟨Tryz.f230.name, by decide, Tryz.func230.trans (congrArg some (by kernel_rfl))⟩
  f27 := ⟨Tryz.f231.name, by decide, Tryz.func231.trans (congrArg some (by kernel_rfl))⟩
  f28 := ⟨Tryz.f232.name, by decide, Tryz.func232.trans (congrArg some (by kernel_rfl))⟩
  f29 := ⟨Tryz.f233.name, by decide, Tryz.func233.trans (congrArg some (by kernel_rfl))⟩
  f31 := Tryz.func287.trans (congrArg some (by kernel_rfl))
  f32 := Tryz.func288.trans (congrArg some (by kernel_rfl))
  f36 := ⟨Tryz.f286.name, by decide, Tryz.func286.trans (congrArg some (by kernel_rfl))⟩
  f37 := ⟨Tryz.f289.name, by decide, Tryz.func289.trans (congrArg some (by kernel_rfl))⟩
  f38 := ⟨Tryz.f290.name, by decide, Tryz.func290.trans (congrArg some (by kernel_rfl))⟩
  f39 := ⟨Tryz.f279.name, by decide, Tryz.func279.trans (congrArg some (by kernel_rfl))⟩
  f41 := ⟨Tryz.f329.name, by decide, Tryz.func329.trans (congrArg some (by kernel_rfl))⟩
  t0 := Tryz.underlying0
  a0 := Tryz.isAgg0
  z0 := Tryz.sizeOf0
  v0 := Tryz.zeroValue0
  t3 := Tryz.underlying3
  a3 := Tryz.isAgg3
  z3 := Tryz.sizeOf3
  v3 := Tryz.zeroValue3
  t4 := Tryz.underlying4
  a4 := Tryz.isAgg4
  z4 := Tryz.sizeOf4
  v4 := Tryz.zeroValue4
  t5 := Tryz.underlying5
  a5 := Tryz.isAgg5
  z5 := Tryz.sizeOf5
  v5 := Tryz.zeroValue5
  t9 := Tryz.underlying9
  a9 := Tryz.isAgg9
  z9 := Tryz.sizeOf9
  v9 := Tryz.zeroValue9
  t26 := Tryz.underlying32
  a26 := Tryz.isAgg32
  z26 := Tryz.sizeOf32
  v26 := Tryz.zeroValue32
  t27 := Tryz.underlying32
  a27 := Tryz.isAgg32
  z27 := Tryz.sizeOf32
  v27 := Tryz.zeroValue32
  t29 := Tryz.underlying9
  a29 := Tryz.isAgg9
  z29 := Tryz.sizeOf9
  v29 := Tryz.zeroValue9
  t32 := Tryz.underlying220
  a32 := Tryz.isAgg220
  z32 := Tryz.sizeOf220
  v32 := Tryz.zeroValue220
  t35 := Tryz.underlying295
  a35 := Tryz.isAgg295
  z35 := Tryz.sizeOf295
  v35 := Tryz.zeroValue295
  t36 := Tryz.underlying296
  a36 := Tryz.isAgg296
  z36 := Tryz.sizeOf296
  v36 := Tryz.zeroValue296
  t41 := Tryz.underlying136
  a41 := Tryz.isAgg136
  z41 := Tryz.sizeOf136
  v41 := Tryz.zeroValue136
  t44 := Tryz.underlying302
  a44 := Tryz.isAgg302
  z44 := Tryz.sizeOf302
  v44 := Tryz.zeroValue302
  t46 := Tryz.underlying304
  a46 := Tryz.isAgg304
  z46 := Tryz.sizeOf304
  v46 := Tryz.zeroValue304
  t53 := Tryz.underlying358
  a53 := Tryz.isAgg358
  z53 := Tryz.sizeOf358
  v53 := Tryz.zeroValue358
  t57 := Tryz.underlying362
  a57 := Tryz.isAgg362
  z57 := Tryz.sizeOf362
  v57 := Tryz.zeroValue362
  t63 := Tryz.underlying392
  a63 := Tryz.isAgg392
  z63 := Tryz.sizeOf392
  v63 := Tryz.zeroValue392
  t64 := Tryz.underlying393
  a64 := Tryz.isAgg393
  z64 := Tryz.sizeOf393
  v64 := Tryz.zeroValue393 }
open Go.RowKit Go.Maps Go.Sort
theorem Tryz.sorts180 (m : Nat) : AnyZ.SortsIn Tryz.prog Tryz.sorted180_ren Fence.wide m :=
  ⟨fun blk off cap ss W hH hblk hsz => callsIn_wide.2 (AnyM.slices_Sort_string Tryz.sort73 blk off cap ss W hH hblk hsz),
   fun p cap W => callsIn_wide.2 (AnyM.slices_Sort_string_none Tryz.sort73 p cap W)⟩
theorem Tryz.maps_Keys_181 (mb : Option Nat) (W : World) : CallsIn Fence.wide 5 Tryz.prog 181 #[.map mb] W fun e w' => e = .returned (.func (.func 253) #[] #[.pointer (some ⟨W.heap.size, 0, none⟩)]) ∧ w' = W.alloc (.cells #[.map mb] 248) :=
  AnyZ.keys_in Tryz.keys181 Fence.wide 5 trivial rfl mb W
set_option maxHeartbeats 1000000 in
theorem Tryz.sortedKeys_180_181 (Bm b nn : Nat) (D0 : DataW Unit) (R : Value → Option (DataW Unit × List MemPlace)) (w : World) (hBm : Bm < w.heap.size) (hm : w.cell? ⟨Bm, 0, none⟩ = some (.map (some b))) (hown : w.ownsMap Tryz.prog 9 R b nn D0) (hmax : Maps.size D0 ≤ maxLen) (hbytes : Maps.size D0 * 16 ≤ 140737488355328) :
    Calls Tryz.prog 180 #[.func (.func 253) #[] #[.pointer (some ⟨Bm, 0, none⟩)]] w fun e w' => ∃ (v : Value) (ss : List (List UInt8)), e = .returned v ∧ ss.Perm (strKeys D0) ∧
      w'.ownsRow w.heap.size 9 1 v ss.length ((ss.mergeSort (fun x y => decide (x ≤ y))).map encStr) ∧ (v = .slice none 0 0 ↔ ss = []) ∧ Below w.heap.size w w' := by
  have hseq : SeqGives Fence.wide 2 Tryz.prog 253 #[.pointer (some ⟨Bm, 0, none⟩)] encStr (fun ss => ss.Perm (strKeys D0)) (Maps.size D0) w :=
    AnyZ.keys_gives (ρ := Tryz.keys181_ren) { Tryz.keys181 with } Fence.wide _ trivial rfl (by omega) Bm b nn D0 _ hBm hm hown
  exact (callsIn_wide (n := 5)).1 (AnyZ.sorted_in Tryz.sorted180 Fence.wide 5 trivial trivial trivial trivial rfl (by omega) (Tryz.sorts180 _) (enters_of Tryz.func73 (by kernel_rfl) rfl) 253 #[.pointer (some ⟨Bm, 0, none⟩)] trivial (enters_of Tryz.func253 (by kernel_rfl) rfl) _ _ hmax hbytes _ hseq)
theorem Tryz.mapsKeys_181 (mb : Option Nat) (W : World) : Calls Tryz.prog 181 #[.map mb] W fun e w' => e = .returned (.func (.func 253) #[] #[.pointer (some ⟨W.heap.size, 0, none⟩)]) ∧ w' = W.alloc (.cells #[.map mb] 248) :=
  (callsIn_wide (n := 5)).1 (Tryz.maps_Keys_181 mb W)
end Go.Proofs
end

section
namespace Go.V
open Go.RowKit
open Go.S hiding Str
instance : ErNo := ⟨105, 104⟩
instance : Dat FilesFile := ⟨3, fun x => [str x.path, i64 x.mode, str x.data], fun _ => rfl, fun _ u h => by simp only [List.mem_cons, List.not_mem_nil, or_false] at h; rcases h with rfl | rfl | rfl <;> first | rfl | exact Er.one _, fun _ => Mo.tt⟩
instance : Flat FilesFile := ⟨fun _ => rfl⟩
instance : Dat IndexEntry := ⟨6, fun x => [str x.path, i64 x.stage, i64 x.mode, str x.data, i64 x.time, i64 x.size], fun _ => rfl, fun _ u h => by simp only [List.mem_cons, List.not_mem_nil, or_false] at h; rcases h with rfl | rfl | rfl | rfl | rfl | rfl <;> first | rfl | exact Er.one _, fun _ => Mo.tt⟩
instance : Flat IndexEntry := ⟨fun _ => rfl⟩
structure TmergeResult where
  files : Sv FilesFile
  entries : Sv IndexEntry
  conflicts : Sv Str
@[reducible] def TmergeResult.m (x : TmergeResult) : Mo := (x.files.ok.and (x.entries.ok.and x.conflicts.ok))
def TmergeResult.pl (x : TmergeResult) : TmergeResultP := ⟨x.files.l, x.entries.l, x.conflicts.l⟩
instance : Dat TmergeResult := ⟨3, fun x => [x.files.val, x.entries.val, x.conflicts.val], fun _ => rfl, fun _ u h => by simp only [List.mem_cons, List.not_mem_nil, or_false] at h; rcases h with rfl | rfl | rfl <;> first | rfl | exact Er.one _, TmergeResult.m⟩
instance : Dat PlanOne := ⟨4, fun x => [str x.file_path, i64 x.file_mode, str x.file_data, .bool x.is], fun _ => rfl, fun _ u h => by simp only [List.mem_cons, List.not_mem_nil, or_false] at h; rcases h with rfl | rfl | rfl | rfl <;> first | rfl | exact Er.one _, fun _ => Mo.tt⟩
instance : Flat PlanOne := ⟨fun _ => rfl⟩
instance : Dat Rectoref14File := ⟨3, fun x => [str x.path, i64 x.mode, str x.data], fun _ => rfl, fun _ u h => by simp only [List.mem_cons, List.not_mem_nil, or_false] at h; rcases h with rfl | rfl | rfl <;> first | rfl | exact Er.one _, fun _ => Mo.tt⟩
instance : Flat Rectoref14File := ⟨fun _ => rfl⟩
instance : Dat Rectoref14Entry := ⟨6, fun x => [str x.path, i64 x.stage, i64 x.mode, str x.data, i64 x.time, i64 x.size], fun _ => rfl, fun _ u h => by simp only [List.mem_cons, List.not_mem_nil, or_false] at h; rcases h with rfl | rfl | rfl | rfl | rfl | rfl <;> first | rfl | exact Er.one _, fun _ => Mo.tt⟩
instance : Flat Rectoref14Entry := ⟨fun _ => rfl⟩
end Go.V
end

section
set_option linter.unusedVariables false
namespace Go.Proofs.YtpmhinamcndmeaaGreatDoor
set_option maxHeartbeats 4000000
set_option maxRecDepth 100000
open Go.RowKit Go.V
open Go.S hiding Str
theorem mixed : Tryz.prog.follows .mixedOrders = true := by kernel_rfl
theorem glit50 : ((Tryz.prog.info? 50).map fun i => (i.size, i.zero.isSome)) = some (3, true) := by kernel_rfl
theorem gsz34 : (Tryz.prog.info? 34).map (·.size) = some 3 := by kernel_rfl
theorem gagg34 : AggOf Tryz.prog 34 3 := aggOf_of Tryz.underlying34 rfl (by kernel_rfl)
theorem gsz50 : (Tryz.prog.info? 50).map (·.size) = some 3 := by kernel_rfl
theorem gagg50 : AggOf Tryz.prog 50 3 := aggOf_of Tryz.underlying50 rfl (by kernel_rfl)
theorem gfa50_0 : FieldAt Tryz.prog 50 0 0 := fieldAt_sz (n := 0) (f := ⟨_, _, 0, _, _, _, _⟩) Tryz.underlying50 rfl (by kernel_rfl)
theorem gone9 : OneCell Tryz.prog 9 := oneCell_of Tryz.underlying9 rfl
theorem gfa50_1 : FieldAt Tryz.prog 50 1 1 := fieldAt_sz (n := 0) (f := ⟨_, _, 1, _, _, _, _⟩) Tryz.underlying50 rfl (by kernel_rfl)
theorem gone3 : OneCell Tryz.prog 3 := oneCell_of Tryz.underlying3 rfl
theorem gfa50_2 : FieldAt Tryz.prog 50 2 2 := fieldAt_sz (n := 0) (f := ⟨_, _, 2, _, _, _, _⟩) Tryz.underlying50 rfl (by kernel_rfl)
theorem glit83 : ((Tryz.prog.info? 83).map fun i => (i.size, i.zero.isSome)) = some (6, true) := by kernel_rfl
theorem gapp83 : ((Tryz.prog.info? 83).map fun i => (i.size, i.bytes, (i.zero.map fun z => z.cells.size))) = some (6, 64, some 6) := by kernel_rfl
theorem gsz83 : (Tryz.prog.info? 83).map (·.size) = some 6 := by kernel_rfl
theorem gfa34_0 : FieldAt Tryz.prog 34 0 0 := fieldAt_sz (n := 0) (f := ⟨_, _, 0, _, _, _, _⟩) Tryz.underlying34 rfl (by kernel_rfl)
theorem gone23 : OneCell Tryz.prog 23 := oneCell_of Tryz.underlying23 rfl
theorem glit23 : ((Tryz.prog.info? 23).map fun i => (i.size, i.zero.isSome)) = some (1, true) := by kernel_rfl
theorem gsz23 : (Tryz.prog.info? 23).map (·.size) = some 1 := by kernel_rfl
theorem gsz9 : (Tryz.prog.info? 9).map (·.size) = some 1 := by kernel_rfl
theorem gsz116 : (Tryz.prog.info? 116).map (·.size) = some 4 := by kernel_rfl
theorem gagg116 : AggOf Tryz.prog 116 4 := aggOf_of Tryz.underlying116 rfl (by kernel_rfl)
theorem geqs116 : ∀ (x0 : List UInt8) (x1 : Int) (x2 : List UInt8) (x3 : Bool) (y0 : List UInt8) (y1 : Int) (y2 : List UInt8) (y3 : Bool) (w : World), (Op.equalIn 10000 116 (.agg #[str x0, i64 x1, str x2, .bool x3]) (.agg #[str y0, i64 y1, str y2, .bool y3])).run Tryz.prog w = .ok (decide (x0 = y0 ∧ x1 = y1 ∧ x2 = y2 ∧ x3 = y3)) w := by
 intro x0 x1 x2 x3 y0 y1 y2 y3 w
 have hS : Tryz.prog.underlying 116 = some (.struct (Tryz.prog.fieldsOf 116)) := by kernel_rfl
 rw [show (10000 : Nat) = 9999 + 1 from rfl, run_equalIn_agg w 9999 116 _ _ hS (by kernel_rfl)]
 simp only [Program.fieldsOf, Tryz.underlying116]
 go_simp
 by_cases h0 : x0 = y0 <;> by_cases h1 : x1 = y1 <;> by_cases h2 : x2 = y2 <;> by_cases h3 : x3 = y3 <;> simp [h0, h1, h2, h3]
theorem geqg116 : Tryz.prog.eqGuardType Tryz.prog.depth 116 = false := by kernel_rfl
theorem glit9 : ((Tryz.prog.info? 9).map fun i => (i.size, i.zero.isSome)) = some (1, true) := by kernel_rfl
theorem gapp9 : ((Tryz.prog.info? 9).map fun i => (i.size, i.bytes, (i.zero.map fun z => z.cells.size))) = some (1, 16, some 1) := by kernel_rfl
theorem gfa34_2 : FieldAt Tryz.prog 34 2 2 := fieldAt_sz (n := 0) (f := ⟨_, _, 2, _, _, _, _⟩) Tryz.underlying34 rfl (by kernel_rfl)
theorem gone32 : OneCell Tryz.prog 32 := oneCell_of Tryz.underlying32 rfl
theorem gagg83 : AggOf Tryz.prog 83 6 := aggOf_of Tryz.underlying83 rfl (by kernel_rfl)
theorem gfa83_1 : FieldAt Tryz.prog 83 1 1 := fieldAt_sz (n := 0) (f := ⟨_, _, 1, _, _, _, _⟩) Tryz.underlying83 rfl (by kernel_rfl)
theorem gfa83_0 : FieldAt Tryz.prog 83 0 0 := fieldAt_sz (n := 0) (f := ⟨_, _, 0, _, _, _, _⟩) Tryz.underlying83 rfl (by kernel_rfl)
theorem gfa83_2 : FieldAt Tryz.prog 83 2 2 := fieldAt_sz (n := 0) (f := ⟨_, _, 2, _, _, _, _⟩) Tryz.underlying83 rfl (by kernel_rfl)
theorem gfa83_3 : FieldAt Tryz.prog 83 3 3 := fieldAt_sz (n := 0) (f := ⟨_, _, 3, _, _, _, _⟩) Tryz.underlying83 rfl (by kernel_rfl)
theorem gapp50 : ((Tryz.prog.info? 50).map fun i => (i.size, i.bytes, (i.zero.map fun z => z.cells.size))) = some (3, 40, some 3) := by kernel_rfl
theorem gone4 : OneCell Tryz.prog 4 := oneCell_of Tryz.underlying4 rfl
theorem ghas83 : ((Tryz.prog.info? 83).map (·.size)).isSome = true := by kernel_rfl
theorem ghas50 : ((Tryz.prog.info? 50).map (·.size)).isSome = true := by kernel_rfl
theorem gzv83 : ∀ w : World, (zeroValue 83).run Tryz.prog w = .ok (.agg #[str [], i64 0, i64 0, str [], i64 0, i64 0]) w := by intro w; kernel_rfl
theorem gzv50 : ∀ w : World, (zeroValue 50).run Tryz.prog w = .ok (.agg #[str [], i64 0, str []]) w := by intro w; kernel_rfl
theorem gfa34_1 : FieldAt Tryz.prog 34 1 1 := fieldAt_sz (n := 0) (f := ⟨_, _, 1, _, _, _, _⟩) Tryz.underlying34 rfl (by kernel_rfl)
theorem gone29 : OneCell Tryz.prog 29 := oneCell_of Tryz.underlying29 rfl
theorem glit3 : ((Tryz.prog.info? 3).map fun i => (i.size, i.zero.isSome)) = some (1, true) := by kernel_rfl
theorem gsz3 : (Tryz.prog.info? 3).map (·.size) = some 1 := by kernel_rfl
theorem gfa116_1 : FieldAt Tryz.prog 116 1 3 := fieldAt_sz (n := 0) (f := ⟨_, _, 3, _, _, _, _⟩) Tryz.underlying116 rfl (by kernel_rfl)
theorem gfa116_0 : FieldAt Tryz.prog 116 0 0 := fieldAt_sz (n := 2) (f := ⟨_, _, 0, _, _, _, _⟩) Tryz.underlying116 rfl (by kernel_rfl)
theorem gmk9 : ((Tryz.prog.info? 9).map fun i => (i.size, i.bytes, i.zero.map fun z => z.cells.toList)) = some (1, 16, some [str []]) := by kernel_rfl
theorem gsz5 : (Tryz.prog.info? 5).map (·.size) = some 1 := by kernel_rfl
theorem gone5 : OneCell Tryz.prog 5 := oneCell_of Tryz.underlying5 rfl
theorem gfa83_4 : FieldAt Tryz.prog 83 4 4 := fieldAt_sz (n := 0) (f := ⟨_, _, 4, _, _, _, _⟩) Tryz.underlying83 rfl (by kernel_rfl)
theorem gfa83_5 : FieldAt Tryz.prog 83 5 5 := fieldAt_sz (n := 0) (f := ⟨_, _, 5, _, _, _, _⟩) Tryz.underlying83 rfl (by kernel_rfl)
theorem glit133 : ((Tryz.prog.info? 133).map fun i => (i.size, i.zero.isSome)) = some (3, true) := by kernel_rfl
theorem gapp133 : ((Tryz.prog.info? 133).map fun i => (i.size, i.bytes, (i.zero.map fun z => z.cells.size))) = some (3, 40, some 3) := by kernel_rfl
theorem glit122 : ((Tryz.prog.info? 122).map fun i => (i.size, i.zero.isSome)) = some (6, true) := by kernel_rfl
theorem gapp122 : ((Tryz.prog.info? 122).map fun i => (i.size, i.bytes, (i.zero.map fun z => z.cells.size))) = some (6, 64, some 6) := by kernel_rfl
theorem gsz122 : (Tryz.prog.info? 122).map (·.size) = some 6 := by kernel_rfl
theorem gfa122_1 : FieldAt Tryz.prog 122 1 1 := fieldAt_sz (n := 0) (f := ⟨_, _, 1, _, _, _, _⟩) Tryz.underlying122 rfl (by kernel_rfl)
theorem gfa122_0 : FieldAt Tryz.prog 122 0 0 := fieldAt_sz (n := 0) (f := ⟨_, _, 0, _, _, _, _⟩) Tryz.underlying122 rfl (by kernel_rfl)
theorem gfa122_2 : FieldAt Tryz.prog 122 2 2 := fieldAt_sz (n := 0) (f := ⟨_, _, 2, _, _, _, _⟩) Tryz.underlying122 rfl (by kernel_rfl)
theorem gfa122_3 : FieldAt Tryz.prog 122 3 3 := fieldAt_sz (n := 0) (f := ⟨_, _, 3, _, _, _, _⟩) Tryz.underlying122 rfl (by kernel_rfl)
theorem glit45 : ((Tryz.prog.info? 45).map fun i => (i.size, i.zero.isSome)) = some (1, true) := by kernel_rfl
theorem gsz45 : (Tryz.prog.info? 45).map (·.size) = some 1 := by kernel_rfl
theorem gone45 : OneCell Tryz.prog 45 := oneCell_of Tryz.underlying45 rfl
theorem gsz133 : (Tryz.prog.info? 133).map (·.size) = some 3 := by kernel_rfl
theorem gfa133_0 : FieldAt Tryz.prog 133 0 0 := fieldAt_sz (n := 0) (f := ⟨_, _, 0, _, _, _, _⟩) Tryz.underlying133 rfl (by kernel_rfl)
theorem gagg133 : AggOf Tryz.prog 133 3 := aggOf_of Tryz.underlying133 rfl (by kernel_rfl)
theorem gfa133_1 : FieldAt Tryz.prog 133 1 1 := fieldAt_sz (n := 0) (f := ⟨_, _, 1, _, _, _, _⟩) Tryz.underlying133 rfl (by kernel_rfl)
theorem gfa133_2 : FieldAt Tryz.prog 133 2 2 := fieldAt_sz (n := 0) (f := ⟨_, _, 2, _, _, _, _⟩) Tryz.underlying133 rfl (by kernel_rfl)
theorem gagg122 : AggOf Tryz.prog 122 6 := aggOf_of Tryz.underlying122 rfl (by kernel_rfl)
theorem geqs122 : ∀ (x0 : List UInt8) (x1 : Int) (x2 : Int) (x3 : List UInt8) (x4 : Int) (x5 : Int) (y0 : List UInt8) (y1 : Int) (y2 : Int) (y3 : List UInt8) (y4 : Int) (y5 : Int) (w : World), (Op.equalIn 10000 122 (.agg #[str x0, i64 x1, i64 x2, str x3, i64 x4, i64 x5]) (.agg #[str y0, i64 y1, i64 y2, str y3, i64 y4, i64 y5])).run Tryz.prog w = .ok (decide (x0 = y0 ∧ x1 = y1 ∧ x2 = y2 ∧ x3 = y3 ∧ x4 = y4 ∧ x5 = y5)) w := by
 intro x0 x1 x2 x3 x4 x5 y0 y1 y2 y3 y4 y5 w
 have hS : Tryz.prog.underlying 122 = some (.struct (Tryz.prog.fieldsOf 122)) := by kernel_rfl
 rw [show (10000 : Nat) = 9999 + 1 from rfl, run_equalIn_agg w 9999 122 _ _ hS (by kernel_rfl)]
 simp only [Program.fieldsOf, Tryz.underlying122]
 go_simp
 by_cases h0 : x0 = y0 <;> by_cases h1 : x1 = y1 <;> by_cases h2 : x2 = y2 <;> by_cases h3 : x3 = y3 <;> by_cases h4 : x4 = y4 <;> by_cases h5 : x5 = y5 <;> simp [h0, h1, h2, h3, h4, h5]
theorem geqg122 : Tryz.prog.eqGuardType Tryz.prog.depth 122 = false := by kernel_rfl
theorem geqs133 : ∀ (x0 : List UInt8) (x1 : Int) (x2 : List UInt8) (y0 : List UInt8) (y1 : Int) (y2 : List UInt8) (w : World), (Op.equalIn 10000 133 (.agg #[str x0, i64 x1, str x2]) (.agg #[str y0, i64 y1, str y2])).run Tryz.prog w = .ok (decide (x0 = y0 ∧ x1 = y1 ∧ x2 = y2)) w := by
 intro x0 x1 x2 y0 y1 y2 w
 have hS : Tryz.prog.underlying 133 = some (.struct (Tryz.prog.fieldsOf 133)) := by kernel_rfl
 rw [show (10000 : Nat) = 9999 + 1 from rfl, run_equalIn_agg w 9999 133 _ _ hS (by kernel_rfl)]
 simp only [Program.fieldsOf, Tryz.underlying133]
 go_simp
 by_cases h0 : x0 = y0 <;> by_cases h1 : x1 = y1 <;> by_cases h2 : x2 = y2 <;> simp [h0, h1, h2]
theorem geqg133 : Tryz.prog.eqGuardType Tryz.prog.depth 133 = false := by kernel_rfl
theorem geqs50 : ∀ (x0 : List UInt8) (x1 : Int) (x2 : List UInt8) (y0 : List UInt8) (y1 : Int) (y2 : List UInt8) (w : World), (Op.equalIn 10000 50 (.agg #[str x0, i64 x1, str x2]) (.agg #[str y0, i64 y1, str y2])).run Tryz.prog w = .ok (decide (x0 = y0 ∧ x1 = y1 ∧ x2 = y2)) w := by
 intro x0 x1 x2 y0 y1 y2 w
 have hS : Tryz.prog.underlying 50 = some (.struct (Tryz.prog.fieldsOf 50)) := by kernel_rfl
 rw [show (10000 : Nat) = 9999 + 1 from rfl, run_equalIn_agg w 9999 50 _ _ hS (by kernel_rfl)]
 simp only [Program.fieldsOf, Tryz.underlying50]
 go_simp
 by_cases h0 : x0 = y0 <;> by_cases h1 : x1 = y1 <;> by_cases h2 : x2 = y2 <;> simp [h0, h1, h2]
theorem geqg50 : Tryz.prog.eqGuardType Tryz.prog.depth 50 = false := by kernel_rfl
open Go.Extern.Stop Go.Stop Go.Extern Go.RowKit in
section
end
namespace As
open Go.Extern Go.Extern.Stop
end As
theorem slices_Clip_index_Entry_index_Entry_ct (s_0 : Sv IndexEntry) {r : List IndexEntry} (hS : Sh.slices_Clip_index_Entry_index_Entry s_0.l = some r) :
 Ct Tryz.prog 53 [s_0.val] s_0.ok (Ow.emp) (X := Sv IndexEntry) (fun x => x.val) (fun x => r = x.l) (fun x => x.ok) (fun x => Ow.emp) := by
 refine Ct.of Tryz.func53 rfl (by kernel_rfl) Tryz.ntmps53 (by simp) fun c => ?_
 unfold Sh.slices_Clip_index_Entry_index_Entry at hS
 refine Zq (Zr ?_)
 refine Za ?_
 refine Zl ?_
 refine Zq (Zr ?_)
 refine Zm ?_
 refine Zm ?_
 refine VL.q (q_ln (s := s_0) Tryz.underlying29 rfl) (by decide) ?_
 refine Zm ?_
 refine VL.q (q_ln (s := s_0) Tryz.underlying29 rfl) (by decide) ?_
 obtain ⟨b8, hS⟩ := gd_s hS
 refine VL.stom Tryz.underlying29 gsz83 rfl rfl rfl b8.1 (b8.2) (by decide) fun s8_1 hs8_1 => ?_
 replace hS := lt_to hs8_1 hS
 refine Za ?_
 refine Zl ?_
 cases hS
 exact VC.ret (fin1 (.inr rfl) rfl rfl s8_1 rfl rfl (by (try dsimp only); exact InM.out) (fun _ _ => trivial))
theorem index_Of_ct (r_0 : Sv FilesFile) {r : List IndexEntry} (hS : Sh.index_Of r_0.l = some r) :
 Ct Tryz.prog 15 [r_0.val] r_0.ok (Ow.emp) (X := Sv IndexEntry) (fun x => x.val) (fun x => r = x.l) (fun x => x.ok) (fun x => Ow.emp) := by
 refine Ct.of Tryz.func15 rfl (by kernel_rfl) Tryz.ntmps15 (by simp) fun c => ?_
 unfold Sh.index_Of at hS
 refine Zq (Zr ?_)
 refine Za ?_
 refine Zl ?_
 refine Zq (Zr ?_)
 refine Za ?_
 refine Zl ?_
 refine Zq (Zq (Zr ?_))
 refine Zm ?_
 refine VL.q (q_ln (s := r_0) Tryz.underlying23 rfl) (by decide) ?_
 refine Zm ?_
 refine Zl ?_
 refine Zb ?_
 refine VC.nilO (⟨none, 0, []⟩ : Sv IndexEntry) 83 ⟨rfl, rfl⟩ ?_
 refine VC.iter (S := Sv IndexEntry × Int) (fun sg => (sg.1.l, sg.2)) (fun sg => [(3, sg.1.val), (6, r_0.val), (7, i64 (r_0.l.length : Int)), (8, i64 sg.2)]) (fun sg => Mo.tt) (fun sg => Ow.star (Sv.own sg.1 83) (Ow.emp)) (⟨none, 0, []⟩, 0) [3, 6, 7, 8] hS rfl ?_
 clear hS
 rintro ⟨out3_1, x8_2⟩ m1 y1 hS hK1
 show VC _ _ _ _ _ [(3, out3_1.val), (6, r_0.val), (7, i64 (r_0.l.length : Int)), (8, i64 x8_2)] (Mo.and Mo.tt _) (Ow.star (Sv.own out3_1 83) (Ow.emp))
 refine Zq (Zr ?_)
 refine VL.q (q_lss rfl rfl) (by decide) ?_
 refine Zl ?_
 refine Zq ?_
 refine VC.cond_dec rfl (fun h9 => ?_) (fun h9 => ?_)
 ·
  replace hS := it_t h9 hS
  refine Zk ?_
  refine Zq (Zb (Zq (Zr ?_)))
  obtain ⟨z10_3, nz10_3, hz10_3, hS⟩ := at_s hS
  refine VL.q (q_ixm (s := r_0) Tryz.underlying23 gsz50 rfl rfl nz10_3 (lt_of_get nz10_3 hz10_3)) (by decide) ?_
  refine VL.q (q_els (s := r_0) gagg50 rfl rfl hz10_3) (by decide) ?_
  refine VL.alloc (cs := [str [], i64 0, str []]) (by kernel_rfl) (by decide) fun b5_4 => ?_
  refine VL.store (vc := [str z10_3.path, i64 z10_3.mode, str z10_3.data]) (cs' := [str z10_3.path, i64 z10_3.mode, str z10_3.data]) rfl rfl rfl gsz50 rfl rfl (Nat.le_of_ble_eq_true rfl) rfl ?_
  refine Zl ?_
  refine Zr ?_
  refine Zm ?_
  refine VL.q (q_field gfa50_0 rfl) (by decide) ?_
  refine VL.q (q_fe gone9 rfl rfl) (by decide) ?_
  refine VL.q (q_field gfa50_1 rfl) (by decide) ?_
  refine VL.q (q_fe gone3 rfl rfl) (by decide) ?_
  refine VL.q (q_field gfa50_2 rfl) (by decide) ?_
  refine VL.q (q_fe gone9 rfl rfl) (by decide) ?_
  refine VL.q (q_build (vs := [(0, str z10_3.path), (2, i64 z10_3.mode), (3, str z10_3.data)]) (cs := #[str z10_3.path, i64 0, i64 z10_3.mode, str z10_3.data, i64 0, i64 0]) rfl (by kernel_rfl)) (by decide) ?_
  refine VL.lit (α := IndexEntry) (xs := [.tmp 19]) (vs := [.agg #[str z10_3.path, i64 0, i64 z10_3.mode, str z10_3.data, i64 0, i64 0]]) [⟨z10_3.path, 0, z10_3.mode, z10_3.data, 0, 0⟩] Tryz.underlying29 glit83 (by decide) rfl rfl rfl rfl (by decide) (fun _ _ _ _ => trivial) (by decide) (fun s20_5 hs20_5 => ?_) (by decide)
  replace hS := lt_to hs20_5 hS
  obtain ⟨b21, hS⟩ := gd_s hS
  refine VL.app (s := out3_1) (r := s20_5) Tryz.underlying29 gapp83 (by decide) rfl Fo.out (ap1 b21) (ap2 b21 (by decide)) (by decide) (fun s21_7 hs21_7 => ?_)
  replace hS := lt_to hs21_7 hS
  refine Za ?_
  refine Zl ?_
  refine VC.keep [3, 6, 7, 8] rfl ?_
  refine Zr ?_
  obtain ⟨b22, hS⟩ := gd_s hS
  refine VL.q (q_add rfl rfl b22) (by decide) ?_
  refine Zm ?_
  refine VL.rnd (s21_7, (x8_2 + 1)) [3, 6, 7, 8] (fun _ _ h => h) (go2 hS hK1) rfl
 replace hS := it_f h9 hS
 replace hS := up2 hS hK1
 refine Zx ?_
 refine Zq (Zr ?_)
 refine Zm ?_
 refine VL.shut out3_1 83 (fun _ _ _ _ => trivial) ?_
 obtain ⟨y24_9, ey24_9, hS⟩ := bd_s hS
 refine VL.callF (slices_Clip_index_Entry_index_Entry_ct out3_1 ey24_9) rfl (by decide) ?_
 rintro q24_9_0 rfl
 try dsimp only
 refine Za ?_
 refine Zl ?_
 cases hS
 exact VC.ret (fin1 (.inr rfl) rfl rfl q24_9_0 rfl rfl (by (try dsimp only); exact InM.out) (fun _ _ => trivial))
theorem slices_Clip_string_string_ct (s_0 : Sv Str) {r : List Str} (hS : Sh.slices_Clip_string_string s_0.l = some r) :
 Ct Tryz.prog 74 [s_0.val] s_0.ok (Ow.emp) (X := Sv Str) (fun x => x.val) (fun x => r = x.l) (fun x => x.ok) (fun x => Ow.emp) := by
 refine Ct.of Tryz.func74 rfl (by kernel_rfl) Tryz.ntmps74 (by simp) fun c => ?_
 unfold Sh.slices_Clip_string_string at hS
 refine Zq (Zr ?_)
 refine Za ?_
 refine Zl ?_
 refine Zq (Zr ?_)
 refine Zm ?_
 refine Zm ?_
 refine VL.q (q_ln (s := s_0) Tryz.underlying32 rfl) (by decide) ?_
 refine Zm ?_
 refine VL.q (q_ln (s := s_0) Tryz.underlying32 rfl) (by decide) ?_
 obtain ⟨b8, hS⟩ := gd_s hS
 refine VL.stom Tryz.underlying32 gsz9 rfl rfl rfl b8.1 (b8.2) (by decide) fun s8_1 hs8_1 => ?_
 replace hS := lt_to hs8_1 hS
 refine Za ?_
 refine Zl ?_
 cases hS
 exact VC.ret (fin1 (.inr rfl) rfl rfl s8_1 rfl rfl (by (try dsimp only); exact InM.out) (fun _ _ => trivial))
theorem files_Paths_ct (l_0 : Sv (Sv FilesFile)) {r : List Str} (hS : Sh.files_Paths (l_0.l.map Sv.l) = some r) :
 Ct Tryz.prog 97 [l_0.val] l_0.ok (Ow.emp) (X := Sv Str) (fun x => x.val) (fun x => r = x.l) (fun x => x.ok) (fun x => Ow.emp) := by
 refine Ct.of Tryz.func97 rfl (by kernel_rfl) Tryz.ntmps97 (by simp) fun c => ?_
 unfold Sh.files_Paths at hS
 refine Zq (Zr ?_)
 refine Za ?_
 refine Zl ?_
 refine Zq (Zr ?_)
 refine VL.mkmap (k := 9) (e := 4) (by decide) fun b8_1 => ?_
 refine Za ?_
 refine Zl ?_
 refine Zq (Zq (Zr ?_))
 refine Zm ?_
 refine VL.q (q_lnm Sv.l (s := l_0) Tryz.underlying81 rfl) (by decide) ?_
 refine Zm ?_
 refine Zl ?_
 refine Zb ?_
 refine VC.iter (S := Int × List Str) (fun sg => (sg.1, sg.2)) (fun sg => [(3, .map (some b8_1)), (9, l_0.val), (10, i64 ((l_0.l.map Sv.l).length : Int)), (11, i64 sg.1)]) (fun sg => Mo.tt) (fun sg => Ow.star (MpK Tryz.prog 9 4 b8_1 sg.2) (Ow.emp)) (0, ([] : List Str)) [3, 9, 10, 11] hS rfl ?_
 clear hS
 rintro ⟨x11_2, acc_3⟩ m1 y1 hS hK1
 show VC _ _ _ _ _ [(3, .map (some b8_1)), (9, l_0.val), (10, i64 ((l_0.l.map Sv.l).length : Int)), (11, i64 x11_2)] (Mo.and Mo.tt _) (Ow.star (MpK Tryz.prog 9 4 b8_1 acc_3) (Ow.emp))
 refine Zq (Zr ?_)
 refine VL.q (q_lss rfl rfl) (by decide) ?_
 refine Zl ?_
 refine Zq ?_
 refine VC.cond_dec rfl (fun h12 => ?_) (fun h12 => ?_)
 ·
  replace hS := it_t h12 hS
  refine Zk ?_
  refine Zq (Zb (Zq (Zr ?_)))
  obtain ⟨z13_4, nz13_4, hz13_4, hS⟩ := atm_s hS
  refine VL.deep z13_4.ok hz13_4 (fun _ q => q) ?_
  refine VL.q (q_ixm (s := l_0) Tryz.underlying81 gsz23 rfl rfl nz13_4 (lt_of_get nz13_4 hz13_4)) (by decide) ?_
  refine VL.q (q_el (s := l_0) gone23 rfl hz13_4 rfl) (by decide) ?_
  refine Za ?_
  refine Zl ?_
  refine Zq (Zr ?_)
  refine Zm ?_
  refine VL.q (q_ln (s := z13_4) Tryz.underlying23 rfl) (by decide) ?_
  refine Zm ?_
  refine Zl ?_
  refine Zb ?_
  refine VC.iter (S := Int × List Str) (fun sg => (sg.1, sg.2)) (fun sg => [(3, .map (some b8_1)), (9, l_0.val), (10, i64 ((l_0.l.map Sv.l).length : Int)), (11, i64 x11_2), (15, z13_4.val), (16, i64 (z13_4.l.length : Int)), (17, i64 sg.1)]) (fun sg => Mo.tt) (fun sg => Ow.star (MpK Tryz.prog 9 4 b8_1 sg.2) (Ow.emp)) (0, acc_3) [3, 9, 10, 11, 15, 16, 17] hS rfl ?_
  clear hS
  rintro ⟨x17_5, acc_6⟩ m2 y2 hS hK2
  show VC _ _ _ _ _ [(3, .map (some b8_1)), (9, l_0.val), (10, i64 ((l_0.l.map Sv.l).length : Int)), (11, i64 x11_2), (15, z13_4.val), (16, i64 (z13_4.l.length : Int)), (17, i64 x17_5)] (Mo.and Mo.tt _) (Ow.star (MpK Tryz.prog 9 4 b8_1 acc_6) (Ow.emp))
  refine Zq (Zr ?_)
  refine VL.q (q_lss rfl rfl) (by decide) ?_
  refine Zl ?_
  refine Zq ?_
  refine VC.cond_dec rfl (fun h18 => ?_) (fun h18 => ?_)
  ·
   replace hS := it_t h18 hS
   refine Zk ?_
   refine Zq (Zb (Zq (Zr ?_)))
   obtain ⟨z19_7, nz19_7, hz19_7, hS⟩ := at_s hS
   refine VL.q (q_ixm (s := z13_4) Tryz.underlying23 gsz50 rfl rfl nz19_7 (lt_of_get nz19_7 hz19_7)) (by decide) ?_
   refine VL.q (q_els (s := z13_4) gagg50 rfl rfl hz19_7) (by decide) ?_
   refine VL.alloc (cs := [str [], i64 0, str []]) (by kernel_rfl) (by decide) fun b7_8 => ?_
   refine VL.store (vc := [str z19_7.path, i64 z19_7.mode, str z19_7.data]) (cs' := [str z19_7.path, i64 z19_7.mode, str z19_7.data]) rfl rfl rfl gsz50 rfl rfl (Nat.le_of_ble_eq_true rfl) rfl ?_
   refine Zl ?_
   refine Zr ?_
   refine Zm ?_
   refine VL.q (q_field gfa50_0 rfl) (by decide) ?_
   refine VL.q (q_fe gone9 rfl rfl) (by decide) ?_
   obtain ⟨bs3, hS⟩ := gd_s hS
   refine VL.mapset (b := b8_1) (l := acc_6) (s := z19_7.path) Tryz.underlying9 Tryz.underlying4 Tryz.underlying248 Fo.out rfl rfl rfl bs3 ?_
   obtain ⟨accs3_9, eaccs3_9, hS⟩ := lt_s hS
   rw [eaccs3_9]
   refine Zl ?_
   refine VC.keep [3, 9, 10, 11, 15, 16, 17] rfl ?_
   refine Zr ?_
   obtain ⟨b24, hS⟩ := gd_s hS
   refine VL.q (q_add rfl rfl b24) (by decide) ?_
   refine Zm ?_
   refine VL.rnd ((x17_5 + 1), accs3_9) [3, 9, 10, 11, 15, 16, 17] (fun _ _ h => h) (go2 hS hK2) rfl
  replace hS := it_f h18 hS
  replace hS := up2 hS hK2
  refine Zx ?_
  refine Zr ?_
  obtain ⟨b25, hS⟩ := gd_s hS
  refine VL.q (q_add rfl rfl b25) (by decide) ?_
  refine Zm ?_
  refine VL.rnd ((x11_2 + 1), acc_6) [3, 9, 10, 11] (fun _ _ h => h) (go2 hS hK1) rfl
 replace hS := it_f h12 hS
 replace hS := up2 hS hK1
 refine Zx ?_
 refine Zq (Zr ?_)
 refine Zm ?_
 refine VL.callO (Ct.mapKeys (b := b8_1) (entry_of Tryz.func181 rfl (by kernel_rfl)) Tryz.mapsKeys_181) rfl (by decide) ?_
 intro B27_10 _
 try dsimp only
 obtain ⟨b28, hS⟩ := gd_s hS
 refine VL.callO (Ct.sortedKeys (it := 253) (T := 248) (b := b8_1) (B := B27_10) (e := 4) (l := acc_3) (entry_of Tryz.func180 rfl (by kernel_rfl)) Tryz.underlying9 (fun D0 nn W h1 h2 h3 h4 h5 => Tryz.sortedKeys_180_181 B27_10 b8_1 nn D0 _ W h1 h2 h3 h4 h5) b28) rfl (by decide) ?_
 intro s28_11 hs28_11
 try dsimp only
 replace hS := lt_to hs28_11 hS
 refine VL.shut s28_11 9 (fun _ _ _ _ => trivial) ?_
 obtain ⟨y29_13, ey29_13, hS⟩ := bd_s hS
 refine VL.callF (slices_Clip_string_string_ct s28_11 ey29_13) rfl (by decide) ?_
 rintro q29_13_0 rfl
 try dsimp only
 refine Za ?_
 refine Zl ?_
 cases hS
 exact VC.ret (fin1 (.inr rfl) rfl rfl q29_13_0 rfl rfl (by (try dsimp only); exact InM.out) (fun _ _ => trivial))
theorem cmp_isNaN_string_ct (x_0 : Str) {r : Bool} (hS : Sh.cmp_isNaN_string x_0 = some r) :
 Ct Tryz.prog 279 [str x_0] Mo.tt (Ow.emp) (X := Unit) (fun _ => .bool r) (fun _ => True) (fun _ => Mo.tt) (fun _ => Ow.emp) := by
 refine Ct.of Tryz.func279 rfl (by kernel_rfl) Tryz.ntmps279 (by simp) fun c => ?_
 unfold Sh.cmp_isNaN_string at hS
 refine Zq (Zr ?_)
 refine Za ?_
 refine Zl ?_
 refine Zq (Zr ?_)
 refine Zm ?_
 refine Zm ?_
 refine VL.q (q_sne rfl rfl) (by decide) ?_
 refine Za ?_
 refine Zl ?_
 cases hS
 exact Ze
theorem cmp_Compare_string_ct (x_0 : Str) (y_1 : Str) {r : Int} (hS : Sh.cmp_Compare_string x_0 y_1 = some r) :
 Ct Tryz.prog 215 [str x_0, str y_1] Mo.tt (Ow.emp) (X := Unit) (fun _ => i64 r) (fun _ => True) (fun _ => Mo.tt) (fun _ => Ow.emp) := by
 refine Ct.of Tryz.func215 rfl (by kernel_rfl) Tryz.ntmps215 (by simp) fun c => ?_
 unfold Sh.cmp_Compare_string at hS
 refine Zq (Zr ?_)
 refine Za ?_
 refine Zl ?_
 refine Zq (Zr ?_)
 refine Zm ?_
 obtain ⟨y8_1, ey8_1, hS⟩ := bd_s hS
 refine VL.q (q_call (cmp_isNaN_string_ct x_0 ey8_1) rfl (fun _ _ => rfl)) (by decide) ?_
 refine Za ?_
 refine Zl ?_
 refine Zq (Zr ?_)
 refine Zm ?_
 obtain ⟨y10_2, ey10_2, hS⟩ := bd_s hS
 refine VL.q (q_call (cmp_isNaN_string_ct y_1 ey10_2) rfl (fun _ _ => rfl)) (by decide) ?_
 refine Za ?_
 refine Zl ?_
 refine Zq (Zq (Zr ?_))
 refine Zm ?_
 refine Zl ?_
 refine VC.cond rfl (fun h11 => ?_) (fun h11 => ?_)
 ·
  replace hS := it_t h11 hS
  refine Zq (Zq (Zr ?_))
  refine Zm ?_
  refine Zl ?_
  refine VC.keep [12] rfl ?_
  refine VC.cond rfl (fun h12 => ?_) (fun h12 => ?_)
  ·
   replace hS := it_t h12 hS
   refine Zq (Zr ?_)
   refine Za ?_
   refine Zl ?_
   cases hS
   exact Ze
  replace hS := it_b h12 hS
  refine Zk ?_
  refine Zq (Zr ?_)
  refine Za ?_
  refine Zl ?_
  cases hS
  exact Ze
 replace hS := it_b h11 hS
 refine Zk ?_
 refine Zq (Zq (Zr ?_))
 refine Zm ?_
 refine Zl ?_
 refine VC.keep [0, 1, 13] rfl ?_
 refine VC.cond rfl (fun h13 => ?_) (fun h13 => ?_)
 ·
  replace hS := it_t h13 hS
  refine Zq (Zr ?_)
  refine Za ?_
  refine Zl ?_
  cases hS
  exact Ze
 replace hS := it_b h13 hS
 refine Zk ?_
 refine Zq (Zq (Zr ?_))
 refine Zm ?_
 refine Zm ?_
 refine VL.q (q_slss rfl rfl) (by decide) ?_
 refine Zl ?_
 refine VC.cond rfl (fun h16 => ?_) (fun h16 => ?_)
 ·
  replace hS := it_t h16 hS
  refine Zq (Zr ?_)
  refine Za ?_
  refine Zl ?_
  cases hS
  exact Ze
 replace hS := it_b h16 hS
 refine Zk ?_
 refine Zq (Zq (Zr ?_))
 refine Zm ?_
 refine Zm ?_
 refine VL.q (q_sgtr rfl rfl) (by decide) ?_
 refine Zl ?_
 refine VC.cond rfl (fun h19 => ?_) (fun h19 => ?_)
 ·
  replace hS := it_t h19 hS
  refine Zq (Zr ?_)
  refine Za ?_
  refine Zl ?_
  cases hS
  exact Ze
 replace hS := it_b h19 hS
 refine Zk ?_
 refine Zq (Zr ?_)
 refine Za ?_
 refine Zl ?_
 cases hS
 exact Ze
theorem path_Compare_ct (a_0 : Str) (b_1 : Str) {r : Int} (hS : Sh.path_Compare a_0 b_1 = some r) :
 Ct Tryz.prog 135 [str a_0, str b_1] Mo.tt (Ow.emp) (X := Unit) (fun _ => i64 r) (fun _ => True) (fun _ => Mo.tt) (fun _ => Ow.emp) := by
 refine Ct.of Tryz.func135 rfl (by kernel_rfl) Tryz.ntmps135 (by simp) fun c => ?_
 unfold Sh.path_Compare at hS
 refine Zq (Zr ?_)
 refine Za ?_
 refine Zl ?_
 refine Zq (Zr ?_)
 refine Zm ?_
 refine Zm ?_
 obtain ⟨y7_1, ey7_1, hS⟩ := bd_s hS
 refine VL.q (q_call (cmp_Compare_string_ct a_0 b_1 ey7_1) rfl (fun _ _ => rfl)) (by decide) ?_
 refine Za ?_
 refine Zl ?_
 cases hS
 exact Ze
theorem files_Row_find_1_ct (f_0 : FilesFile) (p_1 : Str) {r : Int} (hS : Sh.files_Row_find_1 f_0 p_1 = some r) :
 Ct Tryz.prog 155 [.agg #[str f_0.path, i64 f_0.mode, str f_0.data], str p_1] Mo.tt (Ow.emp) (X := Unit) (fun _ => i64 r) (fun _ => True) (fun _ => Mo.tt) (fun _ => Ow.emp) := by
 refine Ct.of Tryz.func155 rfl (by kernel_rfl) Tryz.ntmps155 (by simp) fun c => ?_
 unfold Sh.files_Row_find_1 at hS
 refine Zq (Zr ?_)
 refine VL.box (cs := [str f_0.path, i64 f_0.mode, str f_0.data]) rfl rfl (by decide) fun b2_1 => ?_
 refine Za ?_
 refine Zl ?_
 refine Zq (Zr ?_)
 refine VL.q (q_field gfa50_0 rfl) (by decide) ?_
 refine VL.q (q_fe gone9 rfl rfl) (by decide) ?_
 refine Zm ?_
 obtain ⟨y8_2, ey8_2, hS⟩ := bd_s hS
 refine VL.q (q_call (path_Compare_ct f_0.path p_1 ey8_2) rfl (fun _ _ => rfl)) (by decide) ?_
 refine Za ?_
 refine Zl ?_
 cases hS
 exact Ze
theorem slices_BinarySearchFunc_files_Row_files_File_string_ct (x_0 : Sv FilesFile) (target_1 : Str) {r : Int × Bool} (hS : Sh.slices_BinarySearchFunc_files_Row_files_File_string x_0.l target_1 = some r) :
 Ct Tryz.prog 154 [x_0.val, str target_1, .func (.func 155) #[] #[]] x_0.ok (Ow.emp) (X := Unit) (fun _ => .tuple #[i64 r.1, .bool r.2]) (fun _ => True) (fun _ => Mo.tt) (fun _ => Ow.emp) := by
 refine Ct.of Tryz.func154 rfl (by kernel_rfl) Tryz.ntmps154 (by simp) fun c => ?_
 unfold Sh.slices_BinarySearchFunc_files_Row_files_File_string at hS
 refine Zq (Zr ?_)
 refine Za ?_
 refine Za ?_
 refine Zl ?_
 refine Zq (Zr ?_)
 refine Zm ?_
 refine VL.q (q_ln (s := x_0) Tryz.underlying23 rfl) (by decide) ?_
 refine Za ?_
 refine Zl ?_
 refine Zq (Zr ?_)
 refine Zm ?_
 refine Za ?_
 refine Za ?_
 refine Zl ?_
 refine Zq (Zb ?_)
 refine VC.iter (S := Int × Int) (fun sg => (sg.1, sg.2)) (fun sg => [(0, x_0.val), (1, str target_1), (2, .func (.func 155) #[] #[]), (8, i64 (x_0.l.length : Int)), (9, i64 sg.1), (10, i64 sg.2)]) (fun sg => Mo.tt) (fun sg => Ow.emp) (0, (x_0.l.length : Int)) [0, 1, 2, 8, 9, 10] hS rfl ?_
 clear hS
 rintro ⟨i9_1, j10_2⟩ m1 y1 hS hK1
 show VC _ _ _ _ _ [(0, x_0.val), (1, str target_1), (2, .func (.func 155) #[] #[]), (8, i64 (x_0.l.length : Int)), (9, i64 i9_1), (10, i64 j10_2)] (Mo.and Mo.tt _) (Ow.emp)
 refine Zq (Zq (Zr ?_))
 refine Zm ?_
 refine Zm ?_
 refine VL.q (q_lss rfl rfl) (by decide) ?_
 refine Zl ?_
 refine VC.cond_dec rfl (fun h17 => ?_) (fun h17 => ?_)
 ·
  replace hS := it_t h17 hS
  refine Zk ?_
  refine Zb (Zq (Zr ?_))
  refine Zm ?_
  refine Zm ?_
  obtain ⟨b20, hS⟩ := gd_s hS
  refine VL.q (q_add rfl rfl b20) (by decide) ?_
  refine VL.q (q_convW Tryz.underlying3 Tryz.underlying220 rfl) (by decide) ?_
  refine VL.q (q_shr rfl rfl (by decide)) (by decide) ?_
  refine VL.q (q_convW Tryz.underlying220 Tryz.underlying3 rfl) (by decide) ?_
  refine Za ?_
  refine Zl ?_
  refine VC.keep [0, 1, 2, 8, 9, 10, 11] rfl ?_
  refine Zq (Zr ?_)
  refine Zm ?_
  refine Zm ?_
  refine Zm ?_
  obtain ⟨z27_3, nz27_3, hz27_3, hS⟩ := at_s hS
  refine VL.q (q_ixm (s := x_0) Tryz.underlying23 gsz50 rfl rfl nz27_3 (lt_of_get nz27_3 hz27_3)) (by decide) ?_
  refine VL.q (q_els (s := x_0) gagg50 rfl rfl hz27_3) (by decide) ?_
  refine Zm ?_
  obtain ⟨y30_4, ey30_4, hS⟩ := bd_s hS
  refine VL.q (q_callV (files_Row_find_1_ct z27_3 target_1 ey30_4) rfl rfl (fun _ _ => rfl)) (by decide) ?_
  refine VL.q (q_lss rfl rfl) (by decide) ?_
  refine Zl ?_
  refine VC.keep [0, 1, 2, 8, 9, 10, 11, 31] rfl ?_
  refine VC.cond_dec rfl (fun h31 => ?_) (fun h31 => ?_)
  ·
   replace hS := it_t h31 hS
   refine Zr ?_
   refine Zm ?_
   obtain ⟨b33, hS⟩ := gd_s hS
   refine VL.q (q_add rfl rfl b33) (by decide) ?_
   refine Za ?_
   refine VL.rnd (((IntKind.wrap .i64 (sHr .u64 (IntKind.wrap .u64 (i9_1 + j10_2)) 1)) + 1), j10_2) [0, 1, 2, 8, 9, 10] (fun _ _ h => h) (go2 hS hK1) rfl
  replace hS := it_f h31 hS
  refine Zr ?_
  refine Zm ?_
  refine Za ?_
  refine VL.rnd (i9_1, (IntKind.wrap .i64 (sHr .u64 (IntKind.wrap .u64 (i9_1 + j10_2)) 1))) [0, 1, 2, 8, 9, 10] (fun _ _ h => h) (go2 hS hK1) rfl
 replace hS := it_f h17 hS
 replace hS := up2 hS hK1
 refine Zx ?_
 refine Zq (Zr ?_)
 refine Zm ?_
 refine Zm ?_
 refine Zm ?_
 refine VL.q (q_lss rfl rfl) (by decide) ?_
 refine Zm ?_
 refine VL.split_dec 39 rfl (fun h39 => ?_) (fun h39 => ?_)
 ·
  replace hS := it_t h39 hS
  refine Zg ?_
  refine Zg ?_
  refine Zg ?_
  obtain ⟨z43_5, nz43_5, hz43_5, hS⟩ := at_s hS
  refine VL.gy rfl rfl (q_ixm (s := x_0) Tryz.underlying23 gsz50 rfl rfl nz43_5 (lt_of_get nz43_5 hz43_5)) (by decide) ?_
  refine VL.gy rfl rfl (q_els (s := x_0) gagg50 rfl rfl hz43_5) (by decide) ?_
  refine Zg ?_
  obtain ⟨y46_6, ey46_6, hS⟩ := bd_s hS
  refine VL.gy rfl rfl (q_callV (files_Row_find_1_ct z43_5 target_1 ey46_6) rfl rfl (fun _ _ => rfl)) (by decide) ?_
  refine VL.gy rfl rfl (q_eql rfl rfl) (by decide) ?_
  refine Zt ?_
  refine Za ?_
  refine Za ?_
  refine Zl ?_
  refine VC.keep [6, 7] rfl ?_
  cases hS
  exact VC.ret (fin2 (.inr rfl) rfl rfl rfl () rfl trivial (fun _ _ => trivial) (fun _ _ => trivial))
 replace hS := it_f h39 hS
 refine Zn ?_
 refine Zn ?_
 refine Zn ?_
 refine Zn ?_
 refine Zn ?_
 refine Zn ?_
 refine Zn ?_
 refine Zn ?_
 refine Zf ?_
 refine Za ?_
 refine Za ?_
 refine Zl ?_
 refine VC.keep [6, 7] rfl ?_
 cases hS
 exact VC.ret (fin2 (.inr rfl) rfl rfl rfl () rfl trivial (fun _ _ => trivial) (fun _ _ => trivial))
theorem files_Row_find_ct (r_0 : Sv FilesFile) (p_1 : Str) {r : Int × Bool} (hS : Sh.files_Row_find r_0.l p_1 = some r) :
 Ct Tryz.prog 80 [r_0.val, str p_1] r_0.ok (Ow.emp) (X := Unit) (fun _ => .tuple #[i64 r.1, .bool r.2]) (fun _ => True) (fun _ => Mo.tt) (fun _ => Ow.emp) := by
 refine Ct.of Tryz.func80 rfl (by kernel_rfl) Tryz.ntmps80 (by simp) fun c => ?_
 unfold Sh.files_Row_find at hS
 refine Zq (Zr ?_)
 refine Za ?_
 refine Za ?_
 refine Zl ?_
 refine Zq (Zr ?_)
 refine Zm ?_
 refine Zm ?_
 obtain ⟨y8_1, ey8_1, hS⟩ := bd_s hS
 refine VL.q (q_call (slices_BinarySearchFunc_files_Row_files_File_string_ct r_0 p_1 ey8_1) rfl (fun _ _ => rfl)) (by decide) ?_
 refine VL.q (q_extract rfl rfl) (by decide) ?_
 refine VL.q (q_extract rfl rfl) (by decide) ?_
 refine Za ?_
 refine Za ?_
 refine Zl ?_
 cases hS
 exact VC.ret (fin2 (.inr rfl) rfl rfl rfl () rfl trivial (fun _ _ => trivial) (fun _ _ => trivial))
theorem files_Row_Get_ct (r_0 : Sv FilesFile) (p_1 : Str) {r : FilesFile × Bool} (hS : Sh.files_Row_Get r_0.l p_1 = some r) :
 Ct Tryz.prog 26 [r_0.val, str p_1] r_0.ok (Ow.emp) (X := Unit) (fun _ => .tuple #[.agg #[str r.1.path, i64 r.1.mode, str r.1.data], .bool r.2]) (fun _ => True) (fun _ => Mo.tt) (fun _ => Ow.emp) := by
 refine Ct.of Tryz.func26 rfl (by kernel_rfl) Tryz.ntmps26 (by simp) fun c => ?_
 unfold Sh.files_Row_Get at hS
 refine Zq (Zr ?_)
 refine VL.alloc (cs := [str [], i64 0, str []]) (by kernel_rfl) (by decide) fun b4_1 => ?_
 refine Za ?_
 refine Zl ?_
 refine Zq (Zr ?_)
 refine Zm ?_
 refine Zm ?_
 obtain ⟨y11_2, ey11_2, hS⟩ := bd_s hS
 refine VL.q (q_call (files_Row_find_ct r_0 p_1 ey11_2) rfl (fun _ _ => rfl)) (by decide) ?_
 refine Zm ?_
 refine VL.q (q_extract rfl rfl) (by decide) ?_
 refine VL.q (q_extract rfl rfl) (by decide) ?_
 refine Za ?_
 refine Za ?_
 refine Zl ?_
 refine VC.keep [0, 4, 6, 7] rfl ?_
 refine Zq (Zq (Zr ?_))
 refine Zm ?_
 refine VL.q (q_not rfl) (by decide) ?_
 refine Zl ?_
 refine VC.cond rfl (fun h15 => ?_) (fun h15 => ?_)
 ·
  replace hS := it_t h15 hS
  refine Zq (Zr ?_)
  refine VL.q (q_build (vs := []) (cs := #[str [], i64 0, str []]) rfl (by kernel_rfl)) (by decide) ?_
  refine VL.store (vc := [str [], i64 0, str []]) (cs' := [str [], i64 0, str []]) rfl rfl rfl gsz50 rfl rfl (Nat.le_of_ble_eq_true rfl) rfl ?_
  refine Za ?_
  refine Zl ?_
  cases hS
  exact VC.ret (finG (vs := [.agg #[str [], i64 0, str []], .bool false]) (.inr rfl) rfl (RVs.cell gagg50 rfl rfl Rd.blk (RVs.tmp rfl (RVs.nil))) () rfl trivial (by (try dsimp only); exact InM.out) (fun _ _ => trivial))
 replace hS := it_b h15 hS
 refine Zk ?_
 refine Zq (Zr ?_)
 refine Zm ?_
 refine Zm ?_
 obtain ⟨z19_3, nz19_3, hz19_3, hS⟩ := at_s hS
 refine VL.q (q_ixm (s := r_0) Tryz.underlying23 gsz50 rfl rfl nz19_3 (lt_of_get nz19_3 hz19_3)) (by decide) ?_
 refine VL.q (q_els (s := r_0) gagg50 rfl rfl hz19_3) (by decide) ?_
 refine VL.store (vc := [str z19_3.path, i64 z19_3.mode, str z19_3.data]) (cs' := [str z19_3.path, i64 z19_3.mode, str z19_3.data]) rfl rfl rfl gsz50 rfl rfl (Nat.le_of_ble_eq_true rfl) rfl ?_
 refine Za ?_
 refine Zl ?_
 refine VC.keep [4, 5] rfl ?_
 cases hS
 exact VC.ret (finG (vs := [.agg #[str z19_3.path, i64 z19_3.mode, str z19_3.data], .bool true]) (.inr rfl) rfl (RVs.cell gagg50 rfl rfl Rd.blk (RVs.tmp rfl (RVs.nil))) () rfl trivial (by (try dsimp only); exact InM.out) (fun _ _ => trivial))
theorem plan_of_ct (r_0 : Sv FilesFile) (p_1 : Str) {r : PlanOne} (hS : Sh.plan_of r_0.l p_1 = some r) :
 Ct Tryz.prog 61 [r_0.val, str p_1] r_0.ok (Ow.emp) (X := Unit) (fun _ => .agg #[str r.file_path, i64 r.file_mode, str r.file_data, .bool r.is]) (fun _ => True) (fun _ => Mo.tt) (fun _ => Ow.emp) := by
 refine Ct.of Tryz.func61 rfl (by kernel_rfl) Tryz.ntmps61 (by simp) fun c => ?_
 unfold Sh.plan_of at hS
 refine Zq (Zr ?_)
 refine VL.alloc (cs := [str [], i64 0, str [], .bool false]) (by kernel_rfl) (by decide) fun b4_1 => ?_
 refine Zl ?_
 refine Zq (Zr ?_)
 refine Zm ?_
 refine Zm ?_
 obtain ⟨y10_2, ey10_2, hS⟩ := bd_s hS
 refine VL.q (q_call (files_Row_Get_ct r_0 p_1 ey10_2) rfl (fun _ _ => rfl)) (by decide) ?_
 refine Zm ?_
 refine VL.q (q_extract rfl rfl) (by decide) ?_
 refine VL.q (q_extract rfl rfl) (by decide) ?_
 refine VL.alloc (cs := [str [], i64 0, str []]) (by kernel_rfl) (by decide) fun b5_3 => ?_
 refine VL.store (vc := [str y10_2.1.path, i64 y10_2.1.mode, str y10_2.1.data]) (cs' := [str y10_2.1.path, i64 y10_2.1.mode, str y10_2.1.data]) rfl rfl rfl gsz50 rfl rfl (Nat.le_of_ble_eq_true rfl) rfl ?_
 refine Za ?_
 refine Zl ?_
 refine VC.keep [4, 5, 6] rfl ?_
 refine Zq (Zr ?_)
 refine VL.q (q_fes gagg50 rfl rfl) (by decide) ?_
 refine Zm ?_
 refine VL.q (q_build (vs := [(0, .agg #[str y10_2.1.path, i64 y10_2.1.mode, str y10_2.1.data]), (1, .bool y10_2.2)]) (cs := #[str y10_2.1.path, i64 y10_2.1.mode, str y10_2.1.data, .bool y10_2.2]) rfl (by kernel_rfl)) (by decide) ?_
 refine VL.store (vc := [str y10_2.1.path, i64 y10_2.1.mode, str y10_2.1.data, .bool y10_2.2]) (cs' := [str y10_2.1.path, i64 y10_2.1.mode, str y10_2.1.data, .bool y10_2.2]) rfl rfl rfl gsz116 rfl rfl (Nat.le_of_ble_eq_true rfl) rfl ?_
 refine Zl ?_
 cases hS
 exact VC.ret (finG (vs := [.agg #[str y10_2.1.path, i64 y10_2.1.mode, str y10_2.1.data, .bool y10_2.2]]) (.inr rfl) rfl (RVs.cell gagg116 rfl rfl Rd.blk (RVs.nil)) () rfl trivial (by (try dsimp only); exact InM.out) (fun _ _ => trivial))
theorem sort73_ct (s : Sv Str) (hb : s.l.length ≤ 4294967296) : Ct Tryz.prog 73 [s.val] Mo.tt (s.own 9) (X := Sv Str) (fun _ => .tuple #[]) (fun q => q.l = Go.S.sortS s.l ∧ q.val = s.val) (fun _ => Mo.tt) (fun q => q.own 9) :=
  Ct.sort (entry_of Tryz.func73 rfl (by kernel_rfl)) (fun blk off cap ss w hH hb hs => Tryz.slices_Sort_string blk off cap ss w hH hb hs) (fun p cap w => Tryz.slices_Sort_string_none p cap w) s 9 hb
theorem compact75_ct (s : Sv Str) (hb : s.l.length ≤ 4294967296) : Ct Tryz.prog 75 [s.val] Mo.tt (s.own 9) (X := Sv Str) (fun q => q.val) (fun q => q.l = Go.S.compactS s.l) (fun _ => Mo.tt) (fun q => q.own 9) :=
  Ct.compact (entry_of Tryz.func75 rfl (by kernel_rfl)) (fun blk off cap ss w hH hb hs => Tryz.slices_Compact_string blk off cap ss w hH hb hs) (fun p cap w => Tryz.slices_Compact_string_empty p cap w) s 9 hb
theorem plan_touched_ct (head_0 : Sv FilesFile) (r_1 : TmergeResult) {r : List Str} (hS : Sh.plan_touched head_0.l r_1.pl = some r) :
 Ct Tryz.prog 57 [head_0.val, .agg #[r_1.files.val, r_1.entries.val, r_1.conflicts.val]] (head_0.ok.and (r_1.files.ok.and (r_1.entries.ok.and r_1.conflicts.ok))) (Ow.emp) (X := Sv Str) (fun x => x.val) (fun x => r = x.l) (fun x => Mo.tt) (fun x => Sv.own x 9) := by
 refine Ct.of Tryz.func57 rfl (by kernel_rfl) Tryz.ntmps57 (by simp) fun c => ?_
 unfold Sh.plan_touched at hS
 refine Zq (Zr ?_)
 refine VL.box (cs := [r_1.files.val, r_1.entries.val, r_1.conflicts.val]) rfl rfl (by decide) fun b3_1 => ?_
 refine Za ?_
 refine Zl ?_
 refine Zq (Zr ?_)
 refine Za ?_
 refine Zl ?_
 refine Zq (Zq (Zr ?_))
 refine Zm ?_
 refine VL.q (q_field gfa34_0 rfl) (by decide) ?_
 refine VL.q (q_fe gone23 rfl rfl) (by decide) ?_
 refine VL.lit (α := Sv FilesFile) (xs := [.tmp 8, .tmp 10]) (vs := [head_0.val, r_1.files.val]) [head_0, r_1.files] Tryz.underlying81 glit23 (by decide) rfl rfl rfl rfl (by decide) (fun h m => List.forall_mem_cons.2 ⟨InM.out (X := head_0.ok) h m, List.forall_mem_cons.2 ⟨InM.out (X := r_1.files.ok) h m, fun _ h => by cases h⟩⟩) (by decide) (fun s11_2 hs11_2 => ?_) (by decide)
 replace hS := lt_to (congrArg (List.map Sv.l) hs11_2) hS
 obtain ⟨y12_4, ey12_4, hS⟩ := bd_s hS
 refine VL.callF (files_Paths_ct s11_2 ey12_4) rfl (by decide) ?_
 rintro q12_4_0 rfl
 try dsimp only
 refine VL.q (q_ln (s := q12_4_0) Tryz.underlying32 rfl) (by decide) ?_
 refine Zm ?_
 refine Zl ?_
 refine Zb ?_
 refine VC.nilO (⟨none, 0, []⟩ : Sv Str) 9 ⟨rfl, rfl⟩ ?_
 refine VC.iter (S := Sv Str × Int) (fun sg => (sg.1.l, sg.2)) (fun sg => [(0, head_0.val), (3, ptr b3_1 0), (5, sg.1.val), (12, q12_4_0.val), (13, i64 (q12_4_0.l.length : Int)), (14, i64 sg.2)]) (fun sg => Mo.tt) (fun sg => Ow.star (Blk b3_1 [r_1.files.val, r_1.entries.val, r_1.conflicts.val] 34) (Ow.star (Sv.own sg.1 9) (Ow.emp))) (⟨none, 0, []⟩, 0) [0, 3, 5, 12, 13, 14] hS rfl ?_
 clear hS
 rintro ⟨out5_5, x14_6⟩ m1 y1 hS hK1
 show VC _ _ _ _ _ [(0, head_0.val), (3, ptr b3_1 0), (5, out5_5.val), (12, q12_4_0.val), (13, i64 (q12_4_0.l.length : Int)), (14, i64 x14_6)] (Mo.and Mo.tt _) (Ow.star (Blk b3_1 [r_1.files.val, r_1.entries.val, r_1.conflicts.val] 34) (Ow.star (Sv.own out5_5 9) (Ow.emp)))
 refine Zq (Zr ?_)
 refine VL.q (q_lss rfl rfl) (by decide) ?_
 refine Zl ?_
 refine Zq ?_
 refine VC.cond_dec rfl (fun h15 => ?_) (fun h15 => ?_)
 ·
  replace hS := it_t h15 hS
  refine Zk ?_
  refine Zq (Zb (Zq (Zr ?_)))
  obtain ⟨z16_7, nz16_7, hz16_7, hS⟩ := at_s hS
  refine VL.q (q_ixm (s := q12_4_0) Tryz.underlying32 gsz9 rfl rfl nz16_7 (lt_of_get nz16_7 hz16_7)) (by decide) ?_
  refine VL.q (q_el (s := q12_4_0) gone9 rfl hz16_7 rfl) (by decide) ?_
  refine Za ?_
  refine Zl ?_
  refine Zq ?_
  refine VC.draw ((List.range 8).map fun k => (k, true)) mixed (by kernel_rfl) (by kernel_rfl) (by kernel_rfl) ?_
  refine VD.q rfl (q_move rfl) (by decide) ?_
  refine VD.q rfl (q_move rfl) (by decide) ?_
  obtain ⟨y20_8, ey20_8, hS⟩ := bd_s hS
  refine VD.q rfl (q_call (plan_of_ct head_0 z16_7 ey20_8) rfl (fun _ _ => rfl)) (by decide) ?_
  refine VD.q rfl (q_field gfa34_0 rfl) (by decide) ?_
  refine VD.q rfl (q_fe gone23 rfl rfl) (by decide) ?_
  refine VD.q rfl (q_move rfl) (by decide) ?_
  obtain ⟨y24_9, ey24_9, hS⟩ := bd_s hS
  refine VD.q rfl (q_call (plan_of_ct r_1.files z16_7 ey24_9) rfl (fun _ _ => rfl)) (by decide) ?_
  refine VD.q rfl (q_stneq geqg116 (geqs116 y20_8.file_path y20_8.file_mode y20_8.file_data y20_8.is y24_9.file_path y24_9.file_mode y24_9.file_data y24_9.is) rfl rfl) (by decide) ?_
  refine VD.to (fun _ _ h => h) ?_
  refine VC.keep [0, 3, 5, 12, 13, 14, 7, 25] rfl ?_
  refine VC.cond_ndec rfl (fun h25 => ?_) (fun h25 => ?_)
  ·
   replace hS := it_f h25 hS
   refine Zr ?_
   refine Zm ?_
   refine Zm ?_
   refine VL.lit (α := Str) (xs := [.tmp 27]) (vs := [str z16_7]) [z16_7] Tryz.underlying32 glit9 (by decide) rfl rfl rfl rfl (by decide) (fun _ _ _ _ => trivial) (by decide) (fun s28_10 hs28_10 => ?_) (by decide)
   replace hS := lt_to hs28_10 hS
   obtain ⟨b29, hS⟩ := gd_s hS
   refine VL.app (s := out5_5) (r := s28_10) Tryz.underlying32 gapp9 (by decide) rfl Fo.out (ap1 b29) (ap2 b29 (by decide)) (by decide) (fun s29_12 hs29_12 => ?_)
   replace hS := lt_to hs29_12 hS
   refine Za ?_
   refine Zl ?_
   refine Zr ?_
   obtain ⟨b30, hS⟩ := gd_s hS
   refine VL.q (q_add rfl rfl b30) (by decide) ?_
   refine Zm ?_
   refine VL.rnd (s29_12, (x14_6 + 1)) [0, 3, 5, 12, 13, 14] (fun _ _ h => h) (go2 hS hK1) rfl
  replace hS := it_t h25 hS
  refine Zk ?_
  refine Zr ?_
  obtain ⟨b30, hS⟩ := gd_s hS
  refine VL.q (q_add rfl rfl b30) (by decide) ?_
  refine Zm ?_
  refine VL.rnd (out5_5, (x14_6 + 1)) [0, 3, 5, 12, 13, 14] (fun _ _ h => h) (go2 hS hK1) rfl
 replace hS := it_f h15 hS
 replace hS := up2 hS hK1
 refine Zx ?_
 refine Zq (Zr ?_)
 refine Zm ?_
 refine VL.q (q_field gfa34_2 rfl) (by decide) ?_
 refine VL.q (q_fe gone32 rfl rfl) (by decide) ?_
 obtain ⟨b34, hS⟩ := gd_s hS
 refine VL.app (s := out5_5) (r := r_1.conflicts) Tryz.underlying32 gapp9 (by decide) rfl Fo.out (ap1 b34) (ap2 b34 (by decide)) (by decide) (fun s34_14 hs34_14 => ?_)
 replace hS := lt_to hs34_14 hS
 refine Za ?_
 refine Zl ?_
 refine VC.keep [5] rfl ?_
 refine Zq (Zr ?_)
 refine Zm ?_
 obtain ⟨b36, hS⟩ := gd_s hS
 refine VL.callO (sort73_ct s34_14 b36) rfl (by decide) ?_
 rintro w36_16 ⟨hw36_16, vw36_16⟩
 try dsimp only
 rw [← vw36_16]
 replace hS := lt_to hw36_16 hS
 refine Zl ?_
 refine Zq (Zr ?_)
 refine Zm ?_
 obtain ⟨b38, hS⟩ := gd_s hS
 refine VL.callO (compact75_ct w36_16 b38) rfl (by decide) ?_
 rintro w38_18 hw38_18
 try dsimp only
 replace hS := lt_to hw38_18 hS
 refine Za ?_
 refine Zl ?_
 cases hS
 exact VC.ret (fin1 (.inr rfl) rfl rfl w38_18 rfl rfl (by (try dsimp only); exact InM.out) (by (try dsimp only); exact EntO.out))
theorem slices_Clip_files_Row_files_File_ct (s_0 : Sv FilesFile) {r : List FilesFile} (hS : Sh.slices_Clip_files_Row_files_File s_0.l = some r) :
 Ct Tryz.prog 55 [s_0.val] s_0.ok (Ow.emp) (X := Sv FilesFile) (fun x => x.val) (fun x => r = x.l) (fun x => x.ok) (fun x => Ow.emp) := by
 refine Ct.of Tryz.func55 rfl (by kernel_rfl) Tryz.ntmps55 (by simp) fun c => ?_
 unfold Sh.slices_Clip_files_Row_files_File at hS
 refine Zq (Zr ?_)
 refine Za ?_
 refine Zl ?_
 refine Zq (Zr ?_)
 refine Zm ?_
 refine Zm ?_
 refine VL.q (q_ln (s := s_0) Tryz.underlying23 rfl) (by decide) ?_
 refine Zm ?_
 refine VL.q (q_ln (s := s_0) Tryz.underlying23 rfl) (by decide) ?_
 obtain ⟨b8, hS⟩ := gd_s hS
 refine VL.stom Tryz.underlying23 gsz50 rfl rfl rfl b8.1 (b8.2) (by decide) fun s8_1 hs8_1 => ?_
 replace hS := lt_to hs8_1 hS
 refine Za ?_
 refine Zl ?_
 cases hS
 exact VC.ret (fin1 (.inr rfl) rfl rfl s8_1 rfl rfl (by (try dsimp only); exact InM.out) (fun _ _ => trivial))
theorem index_Stage_ct (l_0 : Sv IndexEntry) (n_1 : Int) {r : List FilesFile} (hS : Sh.index_Stage l_0.l n_1 = some r) :
 Ct Tryz.prog 147 [l_0.val, i64 n_1] l_0.ok (Ow.emp) (X := Sv FilesFile) (fun x => x.val) (fun x => r = x.l) (fun x => x.ok) (fun x => Ow.emp) := by
 refine Ct.of Tryz.func147 rfl (by kernel_rfl) Tryz.ntmps147 (by simp) fun c => ?_
 unfold Sh.index_Stage at hS
 refine Zq (Zr ?_)
 refine Za ?_
 refine Zl ?_
 refine Zq (Zr ?_)
 refine Za ?_
 refine Zl ?_
 refine Zq (Zq (Zr ?_))
 refine Zm ?_
 refine VL.q (q_ln (s := l_0) Tryz.underlying29 rfl) (by decide) ?_
 refine Zm ?_
 refine Zl ?_
 refine Zb ?_
 refine VC.nilO (⟨none, 0, []⟩ : Sv FilesFile) 50 ⟨rfl, rfl⟩ ?_
 refine VC.iter (S := Sv FilesFile × Int) (fun sg => (sg.1.l, sg.2)) (fun sg => [(1, i64 n_1), (5, sg.1.val), (8, l_0.val), (9, i64 (l_0.l.length : Int)), (10, i64 sg.2)]) (fun sg => Mo.tt) (fun sg => Ow.star (Sv.own sg.1 50) (Ow.emp)) (⟨none, 0, []⟩, 0) [1, 5, 8, 9, 10] hS rfl ?_
 clear hS
 rintro ⟨out5_1, x10_2⟩ m1 y1 hS hK1
 show VC _ _ _ _ _ [(1, i64 n_1), (5, out5_1.val), (8, l_0.val), (9, i64 (l_0.l.length : Int)), (10, i64 x10_2)] (Mo.and Mo.tt _) (Ow.star (Sv.own out5_1 50) (Ow.emp))
 refine Zq (Zr ?_)
 refine VL.q (q_lss rfl rfl) (by decide) ?_
 refine Zl ?_
 refine Zq ?_
 refine VC.cond_dec rfl (fun h11 => ?_) (fun h11 => ?_)
 ·
  replace hS := it_t h11 hS
  refine Zk ?_
  refine Zq (Zb (Zq (Zr ?_)))
  obtain ⟨z12_3, nz12_3, hz12_3, hS⟩ := at_s hS
  refine VL.q (q_ixm (s := l_0) Tryz.underlying29 gsz83 rfl rfl nz12_3 (lt_of_get nz12_3 hz12_3)) (by decide) ?_
  refine VL.q (q_els (s := l_0) gagg83 rfl rfl hz12_3) (by decide) ?_
  refine VL.alloc (cs := [str [], i64 0, i64 0, str [], i64 0, i64 0]) (by kernel_rfl) (by decide) fun b7_4 => ?_
  refine VL.store (vc := [str z12_3.path, i64 z12_3.stage, i64 z12_3.mode, str z12_3.data, i64 z12_3.time, i64 z12_3.size]) (cs' := [str z12_3.path, i64 z12_3.stage, i64 z12_3.mode, str z12_3.data, i64 z12_3.time, i64 z12_3.size]) rfl rfl rfl gsz83 rfl rfl (Nat.le_of_ble_eq_true rfl) rfl ?_
  refine Zl ?_
  refine Zq (Zr ?_)
  refine VL.q (q_field gfa83_1 rfl) (by decide) ?_
  refine VL.q (q_fe gone3 rfl rfl) (by decide) ?_
  refine Zm ?_
  refine VL.q (q_eql rfl rfl) (by decide) ?_
  refine Zl ?_
  refine VC.cond_dec rfl (fun h17 => ?_) (fun h17 => ?_)
  ·
   replace hS := it_t h17 hS
   refine Zr ?_
   refine Zm ?_
   refine VL.q (q_field gfa83_0 rfl) (by decide) ?_
   refine VL.q (q_fe gone9 rfl rfl) (by decide) ?_
   refine VL.q (q_field gfa83_2 rfl) (by decide) ?_
   refine VL.q (q_fe gone3 rfl rfl) (by decide) ?_
   refine VL.q (q_field gfa83_3 rfl) (by decide) ?_
   refine VL.q (q_fe gone9 rfl rfl) (by decide) ?_
   refine VL.q (q_build (vs := [(0, str z12_3.path), (1, i64 z12_3.mode), (2, str z12_3.data)]) (cs := #[str z12_3.path, i64 z12_3.mode, str z12_3.data]) rfl (by kernel_rfl)) (by decide) ?_
   refine VL.lit (α := FilesFile) (xs := [.tmp 25]) (vs := [.agg #[str z12_3.path, i64 z12_3.mode, str z12_3.data]]) [⟨z12_3.path, z12_3.mode, z12_3.data⟩] Tryz.underlying23 glit50 (by decide) rfl rfl rfl rfl (by decide) (fun _ _ _ _ => trivial) (by decide) (fun s26_5 hs26_5 => ?_) (by decide)
   replace hS := lt_to hs26_5 hS
   obtain ⟨b27, hS⟩ := gd_s hS
   refine VL.app (s := out5_1) (r := s26_5) Tryz.underlying23 gapp50 (by decide) rfl Fo.out (ap1 b27) (ap2 b27 (by decide)) (by decide) (fun s27_7 hs27_7 => ?_)
   replace hS := lt_to hs27_7 hS
   refine Za ?_
   refine Zl ?_
   refine VC.keep [1, 5, 8, 9, 10] rfl ?_
   refine Zr ?_
   obtain ⟨b28, hS⟩ := gd_s hS
   refine VL.q (q_add rfl rfl b28) (by decide) ?_
   refine Zm ?_
   refine VL.rnd (s27_7, (x10_2 + 1)) [1, 5, 8, 9, 10] (fun _ _ h => h) (go2 hS hK1) rfl
  replace hS := it_f h17 hS
  refine Zk ?_
  refine VC.keep [1, 5, 8, 9, 10] rfl ?_
  refine Zr ?_
  obtain ⟨b28, hS⟩ := gd_s hS
  refine VL.q (q_add rfl rfl b28) (by decide) ?_
  refine Zm ?_
  refine VL.rnd (out5_1, (x10_2 + 1)) [1, 5, 8, 9, 10] (fun _ _ h => h) (go2 hS hK1) rfl
 replace hS := it_f h11 hS
 replace hS := up2 hS hK1
 refine Zx ?_
 refine Zq (Zr ?_)
 refine Zm ?_
 refine VL.shut out5_1 50 (fun _ _ _ _ => trivial) ?_
 obtain ⟨y30_9, ey30_9, hS⟩ := bd_s hS
 refine VL.callF (slices_Clip_files_Row_files_File_ct out5_1 ey30_9) rfl (by decide) ?_
 rintro q30_9_0 rfl
 try dsimp only
 refine Za ?_
 refine Zl ?_
 cases hS
 exact VC.ret (fin1 (.inr rfl) rfl rfl q30_9_0 rfl rfl (by (try dsimp only); exact InM.out) (fun _ _ => trivial))
theorem index_Conflicts_ct (l_0 : Sv IndexEntry) {r : List Str} (hS : Sh.index_Conflicts l_0.l = some r) :
 Ct Tryz.prog 78 [l_0.val] l_0.ok (Ow.emp) (X := Sv Str) (fun x => x.val) (fun x => r = x.l) (fun x => x.ok) (fun x => Ow.emp) := by
 refine Ct.of Tryz.func78 rfl (by kernel_rfl) Tryz.ntmps78 (by simp) fun c => ?_
 unfold Sh.index_Conflicts at hS
 refine Zq (Zr ?_)
 refine Za ?_
 refine Zl ?_
 refine Zq (Zr ?_)
 refine Za ?_
 refine Zl ?_
 refine Zq (Zq (Zr ?_))
 refine Zm ?_
 refine VL.q (q_ln (s := l_0) Tryz.underlying29 rfl) (by decide) ?_
 refine Zm ?_
 refine Zl ?_
 refine Zb ?_
 refine VC.nilO (⟨none, 0, []⟩ : Sv Str) 9 ⟨rfl, rfl⟩ ?_
 refine VC.iter (S := Sv Str × Int) (fun sg => (sg.1.l, sg.2)) (fun sg => [(3, sg.1.val), (6, l_0.val), (7, i64 (l_0.l.length : Int)), (8, i64 sg.2)]) (fun sg => Mo.tt) (fun sg => Ow.star (Sv.own sg.1 9) (Ow.emp)) (⟨none, 0, []⟩, 0) [3, 6, 7, 8] hS rfl ?_
 clear hS
 rintro ⟨out3_1, x8_2⟩ m1 y1 hS hK1
 show VC _ _ _ _ _ [(3, out3_1.val), (6, l_0.val), (7, i64 (l_0.l.length : Int)), (8, i64 x8_2)] (Mo.and Mo.tt _) (Ow.star (Sv.own out3_1 9) (Ow.emp))
 refine Zq (Zr ?_)
 refine VL.q (q_lss rfl rfl) (by decide) ?_
 refine Zl ?_
 refine Zq ?_
 refine VC.cond_dec rfl (fun h9 => ?_) (fun h9 => ?_)
 ·
  replace hS := it_t h9 hS
  refine Zk ?_
  refine Zq (Zb (Zq (Zr ?_)))
  obtain ⟨z10_3, nz10_3, hz10_3, hS⟩ := at_s hS
  refine VL.q (q_ixm (s := l_0) Tryz.underlying29 gsz83 rfl rfl nz10_3 (lt_of_get nz10_3 hz10_3)) (by decide) ?_
  refine VL.q (q_els (s := l_0) gagg83 rfl rfl hz10_3) (by decide) ?_
  refine VL.alloc (cs := [str [], i64 0, i64 0, str [], i64 0, i64 0]) (by kernel_rfl) (by decide) fun b5_4 => ?_
  refine VL.store (vc := [str z10_3.path, i64 z10_3.stage, i64 z10_3.mode, str z10_3.data, i64 z10_3.time, i64 z10_3.size]) (cs' := [str z10_3.path, i64 z10_3.stage, i64 z10_3.mode, str z10_3.data, i64 z10_3.time, i64 z10_3.size]) rfl rfl rfl gsz83 rfl rfl (Nat.le_of_ble_eq_true rfl) rfl ?_
  refine Zl ?_
  refine Zq (Zr ?_)
  refine VL.q (q_field gfa83_1 rfl) (by decide) ?_
  refine VL.q (q_fe gone3 rfl rfl) (by decide) ?_
  refine VL.q (q_neq rfl rfl) (by decide) ?_
  refine Zl ?_
  refine VC.cond_ndec rfl (fun h14 => ?_) (fun h14 => ?_)
  ·
   replace hS := it_f h14 hS
   refine Zr ?_
   refine Zm ?_
   refine VL.q (q_field gfa83_0 rfl) (by decide) ?_
   refine VL.q (q_fe gone9 rfl rfl) (by decide) ?_
   refine VL.lit (α := Str) (xs := [.tmp 17]) (vs := [str z10_3.path]) [z10_3.path] Tryz.underlying32 glit9 (by decide) rfl rfl rfl rfl (by decide) (fun _ _ _ _ => trivial) (by decide) (fun s18_5 hs18_5 => ?_) (by decide)
   replace hS := lt_to hs18_5 hS
   obtain ⟨b19, hS⟩ := gd_s hS
   refine VL.app (s := out3_1) (r := s18_5) Tryz.underlying32 gapp9 (by decide) rfl Fo.out (ap1 b19) (ap2 b19 (by decide)) (by decide) (fun s19_7 hs19_7 => ?_)
   replace hS := lt_to hs19_7 hS
   refine Za ?_
   refine Zl ?_
   refine VC.keep [3, 6, 7, 8] rfl ?_
   refine Zr ?_
   obtain ⟨b20, hS⟩ := gd_s hS
   refine VL.q (q_add rfl rfl b20) (by decide) ?_
   refine Zm ?_
   refine VL.rnd (s19_7, (x8_2 + 1)) [3, 6, 7, 8] (fun _ _ h => h) (go2 hS hK1) rfl
  replace hS := it_t h14 hS
  refine Zk ?_
  refine VC.keep [3, 6, 7, 8] rfl ?_
  refine Zr ?_
  obtain ⟨b20, hS⟩ := gd_s hS
  refine VL.q (q_add rfl rfl b20) (by decide) ?_
  refine Zm ?_
  refine VL.rnd (out3_1, (x8_2 + 1)) [3, 6, 7, 8] (fun _ _ h => h) (go2 hS hK1) rfl
 replace hS := it_f h9 hS
 replace hS := up2 hS hK1
 refine Zx ?_
 refine Zq (Zr ?_)
 refine Zm ?_
 obtain ⟨b22, hS⟩ := gd_s hS
 refine VL.callO (sort73_ct out3_1 b22) rfl (by decide) ?_
 rintro w22_9 ⟨hw22_9, vw22_9⟩
 try dsimp only
 rw [← vw22_9]
 replace hS := lt_to hw22_9 hS
 refine Zl ?_
 refine Zq (Zr ?_)
 refine Zm ?_
 obtain ⟨b24, hS⟩ := gd_s hS
 refine VL.callO (compact75_ct w22_9 b24) rfl (by decide) ?_
 rintro w24_11 hw24_11
 try dsimp only
 replace hS := lt_to hw24_11 hS
 refine VL.shut w24_11 9 (fun _ _ _ _ => trivial) ?_
 obtain ⟨y25_13, ey25_13, hS⟩ := bd_s hS
 refine VL.callF (slices_Clip_string_string_ct w24_11 ey25_13) rfl (by decide) ?_
 rintro q25_13_0 rfl
 try dsimp only
 refine Za ?_
 refine Zl ?_
 refine VC.keep [2] rfl ?_
 cases hS
 exact VC.ret (fin1 (.inr rfl) rfl rfl q25_13_0 rfl rfl (by (try dsimp only); exact InM.out) (fun _ _ => trivial))
theorem slices_Index_string_string_ct (s_0 : Sv Str) (v_1 : Str) {r : Int} (hS : Sh.slices_Index_string_string s_0.l v_1 = some r) :
 Ct Tryz.prog 148 [s_0.val, str v_1] s_0.ok (Ow.emp) (X := Unit) (fun _ => i64 r) (fun _ => True) (fun _ => Mo.tt) (fun _ => Ow.emp) := by
 refine Ct.of Tryz.func148 rfl (by kernel_rfl) Tryz.ntmps148 (by simp) fun c => ?_
 unfold Sh.slices_Index_string_string at hS
 refine Zq (Zr ?_)
 refine Za ?_
 refine Zl ?_
 refine Zq (Zq (Zr ?_))
 refine Zm ?_
 refine VL.q (q_ln (s := s_0) Tryz.underlying32 rfl) (by decide) ?_
 refine Zm ?_
 refine Zl ?_
 refine Zb ?_
 refine VC.iter (S := Int) (fun (x8_1 : Int) => x8_1) (fun (x8_1 : Int) => [(0, s_0.val), (1, str v_1), (7, i64 (s_0.l.length : Int)), (8, i64 x8_1)]) (fun (x8_1 : Int) => Mo.tt) (fun (x8_1 : Int) => Ow.emp) 0 [0, 1, 7, 8] hS rfl ?_
 clear hS
 rintro x8_1 m1 y1 hS hK1
 show VC _ _ _ _ _ [(0, s_0.val), (1, str v_1), (7, i64 (s_0.l.length : Int)), (8, i64 x8_1)] (Mo.and Mo.tt _) (Ow.emp)
 refine Zq (Zr ?_)
 refine VL.q (q_lss rfl rfl) (by decide) ?_
 refine Zl ?_
 refine Zq ?_
 refine VC.cond_dec rfl (fun h9 => ?_) (fun h9 => ?_)
 ·
  replace hS := it_t h9 hS
  refine Zk ?_
  refine Zq (Zb (Zq (Zr ?_)))
  refine Zm ?_
  refine Za ?_
  refine Zl ?_
  refine Zq (Zr ?_)
  refine Zm ?_
  refine Zm ?_
  refine Zm ?_
  obtain ⟨z14_2, nz14_2, hz14_2, hS⟩ := at_s hS
  refine VL.q (q_ixm (s := s_0) Tryz.underlying32 gsz9 rfl rfl nz14_2 (lt_of_get nz14_2 hz14_2)) (by decide) ?_
  refine VL.q (q_el (s := s_0) gone9 rfl hz14_2 rfl) (by decide) ?_
  refine Zs ?_
  refine Zl ?_
  refine VC.keep [0, 1, 7, 8, 5, 16] rfl ?_
  refine VC.cond_dec rfl (fun h16 => ?_) (fun h16 => ?_)
  ·
   replace hS := it_t h16 hS
   refine Zq (Zr ?_)
   refine Zm ?_
   refine Za ?_
   refine Zl ?_
   replace hS := up2 hS hK1
   cases hS
   exact Ze
  replace hS := it_f h16 hS
  refine Zk ?_
  refine Zr ?_
  obtain ⟨b18, hS⟩ := gd_s hS
  refine VL.q (q_add rfl rfl b18) (by decide) ?_
  refine Zm ?_
  refine VL.rnd (x8_1 + 1) [0, 1, 7, 8] (fun _ _ h => h) (go2 hS hK1) rfl
 replace hS := it_f h9 hS
 replace hS := up2 hS hK1
 refine Zx ?_
 refine Zq (Zr ?_)
 refine Za ?_
 refine Zl ?_
 cases hS
 exact Ze
theorem slices_Contains_string_string_ct (s_0 : Sv Str) (v_1 : Str) {r : Bool} (hS : Sh.slices_Contains_string_string s_0.l v_1 = some r) :
 Ct Tryz.prog 69 [s_0.val, str v_1] s_0.ok (Ow.emp) (X := Unit) (fun _ => .bool r) (fun _ => True) (fun _ => Mo.tt) (fun _ => Ow.emp) := by
 refine Ct.of Tryz.func69 rfl (by kernel_rfl) Tryz.ntmps69 (by simp) fun c => ?_
 unfold Sh.slices_Contains_string_string at hS
 refine Zq (Zr ?_)
 refine Za ?_
 refine Zl ?_
 refine Zq (Zr ?_)
 refine Zm ?_
 refine Zm ?_
 obtain ⟨y7_1, ey7_1, hS⟩ := bd_s hS
 refine VL.q (q_call (slices_Index_string_string_ct s_0 v_1 ey7_1) rfl (fun _ _ => rfl)) (by decide) ?_
 refine VL.q (q_geq rfl rfl) (by decide) ?_
 refine Za ?_
 refine Zl ?_
 cases hS
 exact Ze
theorem plan_safe_ct (head_0 : Sv FilesFile) (ix_1 : Sv IndexEntry) (work_2 : Sv FilesFile) (p_3 : Str) {r : Bool} (hS : Sh.plan_safe head_0.l ix_1.l work_2.l p_3 = some r) :
 Ct Tryz.prog 68 [head_0.val, ix_1.val, work_2.val, str p_3] (head_0.ok.and (ix_1.ok.and work_2.ok)) (Ow.emp) (X := Unit) (fun _ => .bool r) (fun _ => True) (fun _ => Mo.tt) (fun _ => Ow.emp) := by
 refine Ct.of Tryz.func68 rfl (by kernel_rfl) Tryz.ntmps68 (by simp) fun c => ?_
 unfold Sh.plan_safe at hS
 refine Zq (Zr ?_)
 refine Za ?_
 refine Zl ?_
 refine Zq (Zr ?_)
 refine Zm ?_
 obtain ⟨y11_1, ey11_1, hS⟩ := bd_s hS
 refine VL.callF (index_Stage_ct ix_1 0 ey11_1) rfl (by decide) ?_
 rintro q11_1_0 rfl
 try dsimp only
 refine Zm ?_
 obtain ⟨y13_2, ey13_2, hS⟩ := bd_s hS
 refine VL.q (q_call (plan_of_ct q11_1_0 p_3 ey13_2) rfl (fun _ _ => rfl)) (by decide) ?_
 refine VL.alloc (cs := [str [], i64 0, str [], .bool false]) (by kernel_rfl) (by decide) fun b9_3 => ?_
 refine VL.store (vc := [str y13_2.file_path, i64 y13_2.file_mode, str y13_2.file_data, .bool y13_2.is]) (cs' := [str y13_2.file_path, i64 y13_2.file_mode, str y13_2.file_data, .bool y13_2.is]) rfl rfl rfl gsz116 rfl rfl (Nat.le_of_ble_eq_true rfl) rfl ?_
 refine Zl ?_
 refine Zq ?_
 refine VC.draw [(0, true), (1, true), (2, true), (3, true), (4, true), (5, true), (6, true), (7, true), (8, true), (9, true), (10, true), (11, true), (12, true), (13, true), (15, true), (14, false), (16, true), (17, true), (18, true), (19, true)] mixed (by kernel_rfl) (by kernel_rfl) (by kernel_rfl) ?_
 refine VD.q rfl (q_move rfl) (by decide) ?_
 refine VD.q rfl (q_move rfl) (by decide) ?_
 obtain ⟨y16_4, ey16_4, hS⟩ := bd_s hS
 refine VD.q rfl (q_call (plan_of_ct work_2 p_3 ey16_4) rfl (fun _ _ => rfl)) (by decide) ?_
 refine VD.q rfl (q_fes gagg116 rfl rfl) (by decide) ?_
 refine VD.q rfl (q_steql geqg116 (geqs116 y16_4.file_path y16_4.file_mode y16_4.file_data y16_4.is y13_2.file_path y13_2.file_mode y13_2.file_data y13_2.is) rfl rfl) (by decide) ?_
 refine VD.q rfl (q_move rfl) (by decide) ?_
 refine VD.split_dec 19 rfl (fun h19 => ?_) (fun h19 => ?_)
 ·
  replace hS := it_t h19 hS
  refine VD.gy rfl rfl rfl (q_fes gagg116 rfl rfl) (by decide) ?_
  refine VD.gy rfl rfl rfl (q_move rfl) (by decide) ?_
  refine VD.gy rfl rfl rfl (q_move rfl) (by decide) ?_
  obtain ⟨y23_5, ey23_5, hS⟩ := bd_s hS
  refine VD.gy rfl rfl rfl (q_call (plan_of_ct head_0 p_3 ey23_5) rfl (fun _ _ => rfl)) (by decide) ?_
  refine VD.gy rfl rfl rfl (q_steql geqg116 (geqs116 y13_2.file_path y13_2.file_mode y13_2.file_data y13_2.is y23_5.file_path y23_5.file_mode y23_5.file_data y23_5.is) rfl rfl) (by decide) ?_
  refine VD.q rfl (q_pick_t rfl rfl) (by decide) ?_
  refine VD.q rfl (q_move rfl) (by decide) ?_
  refine VD.split_dec 26 rfl (fun h26 => ?_) (fun h26 => ?_)
  ·
   replace hS := it_t h26 hS
   refine VD.gy rfl rfl rfl (q_move rfl) (by decide) ?_
   refine VD.gy rfl rfl rfl (q_move rfl) (by decide) ?_
   refine VD.oneG rfl rfl rfl ?_
   refine VL.guard rfl rfl ?_
   obtain ⟨y28_6, ey28_6, hS⟩ := bd_s hS
   refine VL.callF (index_Conflicts_ct ix_1 ey28_6) rfl (by decide) ?_
   rintro q28_6_0 rfl
   try dsimp only
   refine VL.back (D' := [(15, str p_3)]) (by kernel_rfl) (Pend.consG rfl rfl rfl (q_move rfl) (Pend.nil)) ?_
   obtain ⟨y30_7, ey30_7, hS⟩ := bd_s hS
   refine VD.gy rfl rfl rfl (q_call (slices_Contains_string_string_ct q28_6_0 p_3 ey30_7) rfl (fun _ _ => rfl)) (by decide) ?_
   refine VD.gy rfl rfl rfl (q_not rfl) (by decide) ?_
   refine VD.q rfl (q_pick_t rfl rfl) (by decide) ?_
   refine VD.q rfl (q_assign rfl) (by decide) ?_
   refine VD.to (fun _ _ h => h) ?_
   refine VC.keep [8] rfl ?_
   cases hS
   exact Ze
  replace hS := it_f h26 hS
  refine Zd ?_
  refine Zd ?_
  refine VD.oneN (D' := [(15, undef)]) rfl rfl rfl (by decide) (by decide) (by kernel_rfl) (Pend.consN rfl rfl rfl rfl (Pend.nil)) ?_
  refine Zd ?_
  refine Zd ?_
  refine VD.q rfl (q_pick_f rfl rfl) (by decide) ?_
  refine VD.q rfl (q_assign rfl) (by decide) ?_
  refine VD.to (fun _ _ h => h) ?_
  refine VC.keep [8] rfl ?_
  cases hS
  exact Ze
 replace hS := it_f h19 hS
 refine Zd ?_
 refine Zd ?_
 refine Zd ?_
 refine Zd ?_
 refine Zd ?_
 refine VD.q rfl (q_pick_f rfl rfl) (by decide) ?_
 refine VD.q rfl (q_move rfl) (by decide) ?_
 refine Zd ?_
 refine Zd ?_
 refine VD.oneN (D' := [(15, undef)]) rfl rfl rfl (by decide) (by decide) (by kernel_rfl) (Pend.consN rfl rfl rfl rfl (Pend.nil)) ?_
 refine Zd ?_
 refine Zd ?_
 refine VD.q rfl (q_pick_f rfl rfl) (by decide) ?_
 refine VD.q rfl (q_assign rfl) (by decide) ?_
 refine VD.to (fun _ _ h => h) ?_
 refine VC.keep [8] rfl ?_
 cases hS
 exact Ze
theorem internal_stringslite_HasPrefix_ct (s_0 : Str) (prefix_1 : Str) {r : Bool} (hS : Sh.internal_stringslite_HasPrefix s_0 prefix_1 = some r) :
 Ct Tryz.prog 285 [str s_0, str prefix_1] Mo.tt (Ow.emp) (X := Unit) (fun _ => .bool r) (fun _ => True) (fun _ => Mo.tt) (fun _ => Ow.emp) := by
 refine Ct.of Tryz.func285 rfl (by kernel_rfl) Tryz.ntmps285 (by simp) fun c => ?_
 unfold Sh.internal_stringslite_HasPrefix at hS
 refine Zq (Zr ?_)
 refine Za ?_
 refine Zl ?_
 refine Zq (Zr ?_)
 refine Zm ?_
 refine VL.q (q_slen Tryz.underlying9 rfl) (by decide) ?_
 refine Zm ?_
 refine VL.q (q_slen Tryz.underlying9 rfl) (by decide) ?_
 refine VL.q (q_geq rfl rfl) (by decide) ?_
 refine Zm ?_
 refine VL.split_dec 10 rfl (fun h10 => ?_) (fun h10 => ?_)
 ·
  replace hS := it_t h10 hS
  refine Zg ?_
  refine Zg ?_
  refine VL.gy rfl rfl (q_slen Tryz.underlying9 rfl) (by decide) ?_
  obtain ⟨b14, hS⟩ := gd_s hS
  obtain ⟨y14_1, ey14_1, hS⟩ := lt_s hS
  refine VL.gy rfl rfl (q_stoE Tryz.underlying9 rfl rfl b14.1 b14.2 ey14_1) (by decide) ?_
  refine Zg ?_
  refine VL.gy rfl rfl (q_seq rfl rfl) (by decide) ?_
  refine Zt ?_
  refine Za ?_
  refine Zl ?_
  refine VC.keep [4] rfl ?_
  cases hS
  exact Ze
 replace hS := it_f h10 hS
 refine Zn ?_
 refine Zn ?_
 refine Zn ?_
 refine Zn ?_
 refine Zn ?_
 refine Zn ?_
 refine Zf ?_
 refine Za ?_
 refine Zl ?_
 refine VC.keep [4] rfl ?_
 cases hS
 exact Ze
theorem strings_HasPrefix_ct (s_0 : Str) (prefix_1 : Str) {r : Bool} (hS : Sh.strings_HasPrefix s_0 prefix_1 = some r) :
 Ct Tryz.prog 224 [str s_0, str prefix_1] Mo.tt (Ow.emp) (X := Unit) (fun _ => .bool r) (fun _ => True) (fun _ => Mo.tt) (fun _ => Ow.emp) := by
 refine Ct.of Tryz.func224 rfl (by kernel_rfl) Tryz.ntmps224 (by simp) fun c => ?_
 unfold Sh.strings_HasPrefix at hS
 refine Zq (Zr ?_)
 refine Za ?_
 refine Zl ?_
 refine Zq (Zr ?_)
 refine Zm ?_
 refine Zm ?_
 obtain ⟨y7_1, ey7_1, hS⟩ := bd_s hS
 refine VL.q (q_call (internal_stringslite_HasPrefix_ct s_0 prefix_1 ey7_1) rfl (fun _ _ => rfl)) (by decide) ?_
 refine Za ?_
 refine Zl ?_
 cases hS
 exact Ze
theorem path_Under_ct (p_0 : Str) (dir_1 : Str) {r : Bool} (hS : Sh.path_Under p_0 dir_1 = some r) :
 Ct Tryz.prog 150 [str p_0, str dir_1] Mo.tt (Ow.emp) (X := Unit) (fun _ => .bool r) (fun _ => True) (fun _ => Mo.tt) (fun _ => Ow.emp) := by
 refine Ct.of Tryz.func150 rfl (by kernel_rfl) Tryz.ntmps150 (by simp) fun c => ?_
 unfold Sh.path_Under at hS
 refine Zq (Zr ?_)
 refine Za ?_
 refine Zl ?_
 refine Zq (Zq (Zr ?_))
 refine Zm ?_
 refine Zs ?_
 refine Zl ?_
 refine VC.cond_dec rfl (fun h6 => ?_) (fun h6 => ?_)
 ·
  replace hS := it_t h6 hS
  refine Zq (Zr ?_)
  refine Zm ?_
  refine VL.q (q_sne rfl rfl) (by decide) ?_
  refine Za ?_
  refine Zl ?_
  cases hS
  exact Ze
 replace hS := it_f h6 hS
 refine Zk ?_
 refine Zq (Zr ?_)
 refine Zm ?_
 refine VL.q (q_slen Tryz.underlying9 rfl) (by decide) ?_
 refine Zm ?_
 refine VL.q (q_slen Tryz.underlying9 rfl) (by decide) ?_
 obtain ⟨b13, hS⟩ := gd_s hS
 refine VL.q (q_add rfl rfl b13) (by decide) ?_
 refine VL.q (q_gtr rfl rfl) (by decide) ?_
 refine Zm ?_
 refine VL.split_dec 15 rfl (fun h15 => ?_) (fun h15 => ?_)
 ·
  replace hS := it_t h15 hS
  refine Zg ?_
  refine Zg ?_
  obtain ⟨b18, hS⟩ := gd_s hS
  obtain ⟨y18_1, ey18_1, hS⟩ := lt_s hS
  refine VL.gy rfl rfl (q_catE rfl rfl b18 ey18_1) (by decide) ?_
  obtain ⟨y19_2, ey19_2, hS⟩ := bd_s hS
  refine VL.gy rfl rfl (q_call (strings_HasPrefix_ct p_0 y18_1 ey19_2) rfl (fun _ _ => rfl)) (by decide) ?_
  refine Zt ?_
  refine Za ?_
  refine Zl ?_
  refine VC.keep [4] rfl ?_
  cases hS
  exact Ze
 replace hS := it_f h15 hS
 refine Zn ?_
 refine Zn ?_
 refine Zn ?_
 refine Zn ?_
 refine Zf ?_
 refine Za ?_
 refine Zl ?_
 refine VC.keep [4] rfl ?_
 cases hS
 exact Ze
theorem path_Clash_ct (a_0 : Str) (b_1 : Str) {r : Bool} (hS : Sh.path_Clash a_0 b_1 = some r) :
 Ct Tryz.prog 72 [str a_0, str b_1] Mo.tt (Ow.emp) (X := Unit) (fun _ => .bool r) (fun _ => True) (fun _ => Mo.tt) (fun _ => Ow.emp) := by
 refine Ct.of Tryz.func72 rfl (by kernel_rfl) Tryz.ntmps72 (by simp) fun c => ?_
 unfold Sh.path_Clash at hS
 refine Zq (Zr ?_)
 refine Za ?_
 refine Zl ?_
 refine Zq (Zr ?_)
 refine Zm ?_
 refine VL.q (q_sne rfl rfl) (by decide) ?_
 refine Zm ?_
 refine VL.split_ndec 7 rfl (fun h7 => ?_) (fun h7 => ?_)
 ·
  replace hS := it_f h7 hS
  refine Zg ?_
  refine VL.gy rfl rfl (q_sne rfl rfl) (by decide) ?_
  refine Zt ?_
  refine Zm ?_
  refine VL.split_ndec 11 rfl (fun h11 => ?_) (fun h11 => ?_)
  ·
   replace hS := it_f h11 hS
   refine Zg ?_
   refine Zg ?_
   obtain ⟨y14_1, ey14_1, hS⟩ := bd_s hS
   refine VL.gy rfl rfl (q_call (path_Under_ct a_0 b_1 ey14_1) rfl (fun _ _ => rfl)) (by decide) ?_
   refine Zg ?_
   refine VL.split 15 rfl (fun h15 => ?_) (fun h15 => ?_)
   ·
    replace hS := it_t h15 hS
    refine Zn ?_
    refine Zn ?_
    refine Zn ?_
    refine VL.gy rfl rfl (q_pick_t rfl rfl) (by decide) ?_
    refine Zt ?_
    refine Za ?_
    refine Zl ?_
    refine VC.keep [4] rfl ?_
    cases hS
    exact Ze
   replace hS := it_b h15 hS
   refine Zg ?_
   refine Zg ?_
   obtain ⟨y18_2, ey18_2, hS⟩ := bd_s hS
   refine VL.gy rfl rfl (q_call (path_Under_ct b_1 a_0 ey18_2) rfl (fun _ _ => rfl)) (by decide) ?_
   refine VL.gy rfl rfl (q_pick_f rfl rfl) (by decide) ?_
   refine Zt ?_
   refine Za ?_
   refine Zl ?_
   refine VC.keep [4] rfl ?_
   cases hS
   exact Ze
  replace hS := it_t h11 hS
  refine Zn ?_
  refine Zn ?_
  refine Zn ?_
  refine Zn ?_
  refine VL.gu rfl rfl (by decide) ?_
  refine VL.gu rfl rfl (by decide) ?_
  refine VL.gu rfl rfl (by decide) ?_
  refine Zn ?_
  refine Zf ?_
  refine Za ?_
  refine Zl ?_
  refine VC.keep [4] rfl ?_
  cases hS
  exact Ze
 replace hS := it_t h7 hS
 refine Zn ?_
 refine Zn ?_
 refine Zf ?_
 refine Zm ?_
 refine Zn ?_
 refine Zn ?_
 refine Zn ?_
 refine Zn ?_
 refine VL.gu rfl rfl (by decide) ?_
 refine VL.gu rfl rfl (by decide) ?_
 refine VL.gu rfl rfl (by decide) ?_
 refine Zn ?_
 refine Zf ?_
 refine Za ?_
 refine Zl ?_
 refine VC.keep [4] rfl ?_
 cases hS
 exact Ze
theorem plan_Lost_1_ct (p_0 : Str) (a_1_b : Nat) (a_1 : TmergeResult) (a_2_b : Nat) (a_2 : FilesFile) {r : Bool} (hS : Sh.plan_Lost_1 p_0 a_1.pl a_2 = some r) :
 Ct Tryz.prog 71 [str p_0, ptr a_1_b 0, ptr a_2_b 0] (a_1.files.ok.and (a_1.entries.ok.and (a_1.conflicts.ok.and ((Cells a_1_b 0 [a_1.files.val, a_1.entries.val, a_1.conflicts.val]).and (Cells a_2_b 0 [str a_2.path, i64 a_2.mode, str a_2.data]))))) (Ow.emp) (X := Unit) (fun _ => .bool r) (fun _ => True) (fun _ => Mo.tt) (fun _ => Ow.emp) := by
 refine Ct.of Tryz.func71 rfl (by kernel_rfl) Tryz.ntmps71 (by simp) fun c => ?_
 unfold Sh.plan_Lost_1 at hS
 refine Zq (Zr ?_)
 refine Za ?_
 refine Zl ?_
 refine Zq (Zr ?_)
 refine VL.q (q_field gfa34_0 rfl) (by decide) ?_
 refine VL.q (q_fm gone23 rfl rfl) (by decide) ?_
 refine Zm ?_
 obtain ⟨y8_1, ey8_1, hS⟩ := bd_s hS
 refine VL.q (q_call (plan_of_ct a_1.files p_0 ey8_1) rfl (fun _ _ => rfl)) (by decide) ?_
 refine VL.q (q_fld Tryz.underlying116 rfl gone4 rfl rfl) (by decide) ?_
 refine Zm ?_
 refine VL.split 10 rfl (fun h10 => ?_) (fun h10 => ?_)
 ·
  replace hS := it_t h10 hS
  refine Zg ?_
  refine VL.gy rfl rfl (q_field gfa50_0 rfl) (by decide) ?_
  refine VL.gy rfl rfl (q_fm gone9 rfl rfl) (by decide) ?_
  obtain ⟨y14_2, ey14_2, hS⟩ := bd_s hS
  refine VL.gy rfl rfl (q_call (path_Clash_ct p_0 a_2.path ey14_2) rfl (fun _ _ => rfl)) (by decide) ?_
  refine Zt ?_
  refine Za ?_
  refine Zl ?_
  refine VC.keep [4] rfl ?_
  cases hS
  exact Ze
 replace hS := it_b h10 hS
 refine Zn ?_
 refine Zn ?_
 refine Zn ?_
 refine Zn ?_
 refine Zf ?_
 refine Za ?_
 refine Zl ?_
 refine VC.keep [4] rfl ?_
 cases hS
 exact Ze
theorem slices_IndexFunc_string_string_ct (s_0 : Sv Str) (f_1_0_b : Nat) (f_1_0 : TmergeResult) (f_1_1_b : Nat) (f_1_1 : FilesFile) {r : Int} (hS : Sh.slices_IndexFunc_string_string s_0.l f_1_0.pl f_1_1 = some r) :
 Ct Tryz.prog 149 [s_0.val, .func (.func 71) #[] #[ptr f_1_0_b 0, ptr f_1_1_b 0]] (s_0.ok.and (f_1_0.files.ok.and (f_1_0.entries.ok.and (f_1_0.conflicts.ok.and ((Cells f_1_0_b 0 [f_1_0.files.val, f_1_0.entries.val, f_1_0.conflicts.val]).and (Cells f_1_1_b 0 [str f_1_1.path, i64 f_1_1.mode, str f_1_1.data])))))) (Ow.emp) (X := Unit) (fun _ => i64 r) (fun _ => True) (fun _ => Mo.tt) (fun _ => Ow.emp) := by
 refine Ct.of Tryz.func149 rfl (by kernel_rfl) Tryz.ntmps149 (by simp) fun c => ?_
 unfold Sh.slices_IndexFunc_string_string at hS
 refine Zq (Zr ?_)
 refine Za ?_
 refine Zl ?_
 refine Zq (Zq (Zr ?_))
 refine Zm ?_
 refine VL.q (q_ln (s := s_0) Tryz.underlying32 rfl) (by decide) ?_
 refine Zm ?_
 refine Zl ?_
 refine Zb ?_
 refine VC.iter (S := Int) (fun (x8_1 : Int) => x8_1) (fun (x8_1 : Int) => [(0, s_0.val), (1, .func (.func 71) #[] #[ptr f_1_0_b 0, ptr f_1_1_b 0]), (7, i64 (s_0.l.length : Int)), (8, i64 x8_1)]) (fun (x8_1 : Int) => Mo.tt) (fun (x8_1 : Int) => Ow.emp) 0 [0, 1, 7, 8] hS rfl ?_
 clear hS
 rintro x8_1 m1 y1 hS hK1
 show VC _ _ _ _ _ [(0, s_0.val), (1, .func (.func 71) #[] #[ptr f_1_0_b 0, ptr f_1_1_b 0]), (7, i64 (s_0.l.length : Int)), (8, i64 x8_1)] (Mo.and Mo.tt _) (Ow.emp)
 refine Zq (Zr ?_)
 refine VL.q (q_lss rfl rfl) (by decide) ?_
 refine Zl ?_
 refine Zq ?_
 refine VC.cond_dec rfl (fun h9 => ?_) (fun h9 => ?_)
 ·
  replace hS := it_t h9 hS
  refine Zk ?_
  refine Zq (Zb (Zq (Zr ?_)))
  refine Zm ?_
  refine Za ?_
  refine Zl ?_
  refine Zq (Zr ?_)
  refine Zm ?_
  refine Zm ?_
  refine Zm ?_
  obtain ⟨z14_2, nz14_2, hz14_2, hS⟩ := at_s hS
  refine VL.q (q_ixm (s := s_0) Tryz.underlying32 gsz9 rfl rfl nz14_2 (lt_of_get nz14_2 hz14_2)) (by decide) ?_
  refine VL.q (q_el (s := s_0) gone9 rfl hz14_2 rfl) (by decide) ?_
  obtain ⟨y16_3, ey16_3, hS⟩ := bd_s hS
  refine VL.q (q_callVC (vs := [str z14_2]) (caps := [ptr f_1_0_b 0, ptr f_1_1_b 0]) (plan_Lost_1_ct z14_2 f_1_0_b f_1_0 f_1_1_b f_1_1 ey16_3) rfl rfl (fun _ _ => rfl)) (by decide) ?_
  refine Zl ?_
  refine VC.keep [0, 1, 7, 8, 5, 16] rfl ?_
  refine VC.cond rfl (fun h16 => ?_) (fun h16 => ?_)
  ·
   replace hS := it_t h16 hS
   refine Zq (Zr ?_)
   refine Zm ?_
   refine Za ?_
   refine Zl ?_
   replace hS := up2 hS hK1
   cases hS
   exact Ze
  replace hS := it_b h16 hS
  refine Zk ?_
  refine Zr ?_
  obtain ⟨b18, hS⟩ := gd_s hS
  refine VL.q (q_add rfl rfl b18) (by decide) ?_
  refine Zm ?_
  refine VL.rnd (x8_1 + 1) [0, 1, 7, 8] (fun _ _ h => h) (go2 hS hK1) rfl
 replace hS := it_f h9 hS
 replace hS := up2 hS hK1
 refine Zx ?_
 refine Zq (Zr ?_)
 refine Za ?_
 refine Zl ?_
 cases hS
 exact Ze
theorem slices_ContainsFunc_string_string_ct (s_0 : Sv Str) (f_1_0_b : Nat) (f_1_0 : TmergeResult) (f_1_1_b : Nat) (f_1_1 : FilesFile) {r : Bool} (hS : Sh.slices_ContainsFunc_string_string s_0.l f_1_0.pl f_1_1 = some r) :
 Ct Tryz.prog 70 [s_0.val, .func (.func 71) #[] #[ptr f_1_0_b 0, ptr f_1_1_b 0]] (s_0.ok.and (f_1_0.files.ok.and (f_1_0.entries.ok.and (f_1_0.conflicts.ok.and ((Cells f_1_0_b 0 [f_1_0.files.val, f_1_0.entries.val, f_1_0.conflicts.val]).and (Cells f_1_1_b 0 [str f_1_1.path, i64 f_1_1.mode, str f_1_1.data])))))) (Ow.emp) (X := Unit) (fun _ => .bool r) (fun _ => True) (fun _ => Mo.tt) (fun _ => Ow.emp) := by
 refine Ct.of Tryz.func70 rfl (by kernel_rfl) Tryz.ntmps70 (by simp) fun c => ?_
 unfold Sh.slices_ContainsFunc_string_string at hS
 refine Zq (Zr ?_)
 refine Za ?_
 refine Zl ?_
 refine Zq (Zr ?_)
 refine Zm ?_
 refine Zm ?_
 obtain ⟨y7_1, ey7_1, hS⟩ := bd_s hS
 refine VL.q (q_callR (slices_IndexFunc_string_string_ct s_0 f_1_0_b f_1_0 f_1_1_b f_1_1 ey7_1) rfl (fun _ _ => rfl)) (by decide) ?_
 refine VL.q (q_geq rfl rfl) (by decide) ?_
 refine Za ?_
 refine Zl ?_
 cases hS
 exact Ze
theorem plan_Lost_ct (head_0 : Sv FilesFile) (r_1 : TmergeResult) (ix_2 : Sv IndexEntry) (work_3 : Sv FilesFile) {r : List Str} (hS : Sh.plan_Lost head_0.l r_1.pl ix_2.l work_3.l = some r) :
 Ct Tryz.prog 21 [head_0.val, .agg #[r_1.files.val, r_1.entries.val, r_1.conflicts.val], ix_2.val, work_3.val] (head_0.ok.and (r_1.files.ok.and (r_1.entries.ok.and (r_1.conflicts.ok.and (ix_2.ok.and work_3.ok))))) (Ow.emp) (X := Sv Str) (fun x => x.val) (fun x => r = x.l) (fun x => x.ok) (fun x => Ow.emp) := by
 refine Ct.of Tryz.func21 rfl (by kernel_rfl) Tryz.ntmps21 (by simp) fun c => ?_
 unfold Sh.plan_Lost at hS
 refine Zq (Zr ?_)
 refine VL.box (cs := [r_1.files.val, r_1.entries.val, r_1.conflicts.val]) rfl rfl (by decide) fun b5_1 => ?_
 refine Za ?_
 refine Zl ?_
 refine Zq (Zr ?_)
 refine Zm ?_
 refine VL.q (q_fes gagg34 rfl rfl) (by decide) ?_
 obtain ⟨y17_2, ey17_2, hS⟩ := bd_s hS
 refine VL.callO (plan_touched_ct head_0 r_1 ey17_2) rfl (by decide) ?_
 rintro q17_2_0 rfl
 try dsimp only
 refine Za ?_
 refine Zl ?_
 refine Zq (Zr ?_)
 refine Za ?_
 refine Zl ?_
 refine Zq (Zq (Zr ?_))
 refine Zm ?_
 refine VL.q (q_ln (s := q17_2_0) Tryz.underlying32 rfl) (by decide) ?_
 refine Zm ?_
 refine Zl ?_
 refine Zb ?_
 refine VC.nilO (⟨none, 0, []⟩ : Sv Str) 9 ⟨rfl, rfl⟩ ?_
 refine VC.iter (S := Sv Str × Int) (fun sg => (sg.1.l, sg.2)) (fun sg => [(0, head_0.val), (2, ix_2.val), (3, work_3.val), (5, ptr b5_1 0), (9, q17_2_0.val), (10, sg.1.val), (18, q17_2_0.val), (19, i64 (q17_2_0.l.length : Int)), (20, i64 sg.2)]) (fun sg => Mo.tt) (fun sg => Ow.star (Blk b5_1 [r_1.files.val, r_1.entries.val, r_1.conflicts.val] 34) (Ow.star (Sv.own q17_2_0 9) (Ow.star (Sv.own sg.1 9) (Ow.emp)))) (⟨none, 0, []⟩, 0) [0, 2, 3, 5, 9, 10, 18, 19, 20] hS rfl ?_
 clear hS
 rintro ⟨out10_3, x20_4⟩ m1 y1 hS hK1
 show VC _ _ _ _ _ [(0, head_0.val), (2, ix_2.val), (3, work_3.val), (5, ptr b5_1 0), (9, q17_2_0.val), (10, out10_3.val), (18, q17_2_0.val), (19, i64 (q17_2_0.l.length : Int)), (20, i64 x20_4)] (Mo.and Mo.tt _) (Ow.star (Blk b5_1 [r_1.files.val, r_1.entries.val, r_1.conflicts.val] 34) (Ow.star (Sv.own q17_2_0 9) (Ow.star (Sv.own out10_3 9) (Ow.emp))))
 refine Zq (Zr ?_)
 refine VL.q (q_lss rfl rfl) (by decide) ?_
 refine Zl ?_
 refine Zq ?_
 refine VC.cond_dec rfl (fun h21 => ?_) (fun h21 => ?_)
 ·
  replace hS := it_t h21 hS
  refine Zk ?_
  refine Zq (Zb (Zq (Zr ?_)))
  obtain ⟨z22_5, nz22_5, hz22_5, hS⟩ := at_s hS
  refine VL.q (q_ixo (s := q17_2_0) Tryz.underlying32 gsz9 rfl rfl nz22_5 (lt_of_get nz22_5 hz22_5)) (by decide) ?_
  refine VL.q (q_elo (s := q17_2_0) 9 gone9 rfl hz22_5 rfl) (by decide) ?_
  refine Za ?_
  refine Zl ?_
  refine Zq (Zr ?_)
  refine Zm ?_
  refine Zm ?_
  refine Zm ?_
  refine Zm ?_
  obtain ⟨y28_6, ey28_6, hS⟩ := bd_s hS
  refine VL.q (q_call (plan_safe_ct head_0 ix_2 work_3 z22_5 ey28_6) rfl (fun _ _ => rfl)) (by decide) ?_
  refine VL.q (q_not rfl) (by decide) ?_
  refine Zl ?_
  refine VC.keep [0, 2, 3, 5, 9, 10, 18, 19, 20, 12, 29] rfl ?_
  refine VC.cond rfl (fun h29 => ?_) (fun h29 => ?_)
  ·
   replace hS := it_t h29 hS
   refine Zr ?_
   refine Zm ?_
   refine Zm ?_
   refine VL.lit (α := Str) (xs := [.tmp 31]) (vs := [str z22_5]) [z22_5] Tryz.underlying32 glit9 (by decide) rfl rfl rfl rfl (by decide) (fun _ _ _ _ => trivial) (by decide) (fun s32_7 hs32_7 => ?_) (by decide)
   replace hS := lt_to hs32_7 hS
   obtain ⟨b33, hS⟩ := gd_s hS
   refine VL.app (s := out10_3) (r := s32_7) Tryz.underlying32 gapp9 (by decide) rfl Fo.out (ap1 b33) (ap2 b33 (by decide)) (by decide) (fun s33_9 hs33_9 => ?_)
   replace hS := lt_to hs33_9 hS
   refine Za ?_
   refine Zl ?_
   refine Zr ?_
   obtain ⟨b34, hS⟩ := gd_s hS
   refine VL.q (q_add rfl rfl b34) (by decide) ?_
   refine Zm ?_
   refine VL.rnd (s33_9, (x20_4 + 1)) [0, 2, 3, 5, 9, 10, 18, 19, 20] (fun _ _ h => h) (go2 hS hK1) rfl
  replace hS := it_b h29 hS
  refine Zk ?_
  refine Zr ?_
  obtain ⟨b34, hS⟩ := gd_s hS
  refine VL.q (q_add rfl rfl b34) (by decide) ?_
  refine Zm ?_
  refine VL.rnd (out10_3, (x20_4 + 1)) [0, 2, 3, 5, 9, 10, 18, 19, 20] (fun _ _ h => h) (go2 hS hK1) rfl
 replace hS := it_f h21 hS
 replace hS := up2 hS hK1
 refine Zx ?_
 refine Zq (Zq (Zr ?_))
 refine Zm ?_
 refine VL.q (q_ln (s := work_3) Tryz.underlying23 rfl) (by decide) ?_
 refine Zm ?_
 refine Zl ?_
 refine VC.keep [5, 9, 10, 35, 36, 37] rfl ?_
 refine Zb ?_
 refine VC.iter (S := Sv Str × Int) (fun sg => (sg.1.l, sg.2)) (fun sg => [(5, ptr b5_1 0), (9, q17_2_0.val), (10, sg.1.val), (35, work_3.val), (36, i64 (work_3.l.length : Int)), (37, i64 sg.2)]) (fun sg => Mo.tt) (fun sg => Ow.star (Blk b5_1 [r_1.files.val, r_1.entries.val, r_1.conflicts.val] 34) (Ow.star (Sv.own q17_2_0 9) (Ow.star (Sv.own sg.1 9) (Ow.emp)))) (out10_3, 0) [5, 9, 10, 35, 36, 37] hS rfl ?_
 clear hS
 rintro ⟨out10_11, x37_12⟩ m1 y1 hS hK1
 show VC _ _ _ _ _ [(5, ptr b5_1 0), (9, q17_2_0.val), (10, out10_11.val), (35, work_3.val), (36, i64 (work_3.l.length : Int)), (37, i64 x37_12)] (Mo.and Mo.tt _) (Ow.star (Blk b5_1 [r_1.files.val, r_1.entries.val, r_1.conflicts.val] 34) (Ow.star (Sv.own q17_2_0 9) (Ow.star (Sv.own out10_11 9) (Ow.emp))))
 refine Zq (Zr ?_)
 refine VL.q (q_lss rfl rfl) (by decide) ?_
 refine Zl ?_
 refine Zq ?_
 refine VC.cond_dec rfl (fun h38 => ?_) (fun h38 => ?_)
 ·
  replace hS := it_t h38 hS
  refine Zk ?_
  refine Zq (Zb (Zq (Zr ?_)))
  obtain ⟨z39_13, nz39_13, hz39_13, hS⟩ := at_s hS
  refine VL.q (q_ixm (s := work_3) Tryz.underlying23 gsz50 rfl rfl nz39_13 (lt_of_get nz39_13 hz39_13)) (by decide) ?_
  refine VL.q (q_els (s := work_3) gagg50 rfl rfl hz39_13) (by decide) ?_
  refine VL.alloc (cs := [str [], i64 0, str []]) (by kernel_rfl) (by decide) fun b14_14 => ?_
  refine VL.store (vc := [str z39_13.path, i64 z39_13.mode, str z39_13.data]) (cs' := [str z39_13.path, i64 z39_13.mode, str z39_13.data]) rfl rfl rfl gsz50 rfl rfl (Nat.le_of_ble_eq_true rfl) rfl ?_
  refine Zl ?_
  refine VC.cutJ (S := Unit) (fun (_ : Unit) => ()) (fun (_ : Unit) => [(5, ptr b5_1 0), (9, q17_2_0.val), (10, out10_11.val), (14, ptr b14_14 0), (35, work_3.val), (36, i64 (work_3.l.length : Int)), (37, i64 x37_12)]) (fun (_ : Unit) => Mo.tt) (fun (_ : Unit) => Ow.star (Blk b14_14 [str z39_13.path, i64 z39_13.mode, str z39_13.data] 50) (Ow.star (Blk b5_1 [r_1.files.val, r_1.entries.val, r_1.conflicts.val] 34) (Ow.star (Sv.own q17_2_0 9) (Ow.star (Sv.own out10_11 9) (Ow.emp))))) hS ?_ ?_
  ·
   clear hS
   intro k15 hS
   refine Zq (Zr ?_)
   refine Zm ?_
   refine VL.q (q_field gfa50_0 rfl) (by decide) ?_
   refine VL.q (q_fe gone9 rfl rfl) (by decide) ?_
   obtain ⟨y44_16, ey44_16, hS⟩ := bd_s hS
   refine VL.q (q_callR (slices_Contains_string_string_ct q17_2_0 z39_13.path ey44_16) rfl (fun _ _ => rfl)) (by decide) ?_
   refine Zm ?_
   refine VL.split 45 rfl (fun h45 => ?_) (fun h45 => ?_)
   ·
    replace hS := it_t h45 hS
    refine VL.gy rfl rfl (q_field gfa34_0 rfl) (by decide) ?_
    refine VL.gy rfl rfl (q_fe gone23 rfl rfl) (by decide) ?_
    refine VL.gy rfl rfl (q_field gfa50_0 rfl) (by decide) ?_
    refine VL.gy rfl rfl (q_fe gone9 rfl rfl) (by decide) ?_
    obtain ⟨y50_17, ey50_17, hS⟩ := bd_s hS
    refine VL.gy rfl rfl (q_call (plan_of_ct r_1.files z39_13.path ey50_17) rfl (fun _ _ => rfl)) (by decide) ?_
    refine VL.gy rfl rfl (q_fld Tryz.underlying116 rfl gone4 rfl rfl) (by decide) ?_
    refine VL.gy rfl rfl (q_not rfl) (by decide) ?_
    refine Zt ?_
    refine Zl ?_
    refine VC.keep [5, 9, 10, 35, 36, 37, 14, 53] rfl ?_
    refine VC.cond rfl (fun h53 => ?_) (fun h53 => ?_)
    ·
     replace hS := it_t h53 hS
     refine Zx ?_
     refine Zr ?_
     obtain ⟨b62, hS⟩ := gd_s hS
     refine VL.q (q_add rfl rfl b62) (by decide) ?_
     refine Zm ?_
     refine VL.rnd (out10_11, (x37_12 + 1)) [5, 9, 10, 35, 36, 37] (fun _ _ h => h) (go2 hS hK1) rfl
    replace hS := it_b h53 hS
    refine VC.skip_mt () [5, 9, 10, 14, 35, 36, 37] (fun _ _ h => h) hS rfl
   replace hS := it_b h45 hS
   refine Zn ?_
   refine Zn ?_
   refine Zn ?_
   refine Zn ?_
   refine Zn ?_
   refine Zn ?_
   refine Zn ?_
   refine Zf ?_
   refine Zl ?_
   refine VC.keep [5, 9, 10, 35, 36, 37, 14, 53] rfl ?_
   refine VC.cond_f rfl ?_
   refine VC.skip_mt () [5, 9, 10, 14, 35, 36, 37] (fun _ _ h => h) hS rfl
  clear hS
  rintro _ hS
  show VC _ _ _ _ _ [(5, ptr b5_1 0), (9, q17_2_0.val), (10, out10_11.val), (14, ptr b14_14 0), (35, work_3.val), (36, i64 (work_3.l.length : Int)), (37, i64 x37_12)] (Mo.and Mo.tt _) (Ow.star (Blk b14_14 [str z39_13.path, i64 z39_13.mode, str z39_13.data] 50) (Ow.star (Blk b5_1 [r_1.files.val, r_1.entries.val, r_1.conflicts.val] 34) (Ow.star (Sv.own q17_2_0 9) (Ow.star (Sv.own out10_11 9) (Ow.emp)))))
  refine Zq (Zr ?_)
  refine Zm ?_
  refine VL.q (q_mkfn rfl) (by decide) ?_
  obtain ⟨y56_18, ey56_18, hS⟩ := bd_s hS
  refine VL.q (q_callR (slices_ContainsFunc_string_string_ct q17_2_0 b5_1 r_1 b14_14 z39_13 ey56_18) rfl (fun _ _ => rfl)) (by decide) ?_
  refine Zl ?_
  refine VC.cond rfl (fun h56 => ?_) (fun h56 => ?_)
  ·
   replace hS := it_t h56 hS
   refine Zr ?_
   refine Zm ?_
   refine VL.q (q_field gfa50_0 rfl) (by decide) ?_
   refine VL.q (q_fe gone9 rfl rfl) (by decide) ?_
   refine VL.lit (α := Str) (xs := [.tmp 59]) (vs := [str z39_13.path]) [z39_13.path] Tryz.underlying32 glit9 (by decide) rfl rfl rfl rfl (by decide) (fun _ _ _ _ => trivial) (by decide) (fun s60_19 hs60_19 => ?_) (by decide)
   replace hS := lt_to hs60_19 hS
   obtain ⟨b61, hS⟩ := gd_s hS
   refine VL.app (s := out10_11) (r := s60_19) Tryz.underlying32 gapp9 (by decide) rfl Fo.out (ap1 b61) (ap2 b61 (by decide)) (by decide) (fun s61_21 hs61_21 => ?_)
   replace hS := lt_to hs61_21 hS
   refine Za ?_
   refine Zl ?_
   refine VC.keep [5, 9, 10, 35, 36, 37] rfl ?_
   refine Zr ?_
   obtain ⟨b62, hS⟩ := gd_s hS
   refine VL.q (q_add rfl rfl b62) (by decide) ?_
   refine Zm ?_
   refine VL.rnd (s61_21, (x37_12 + 1)) [5, 9, 10, 35, 36, 37] (fun _ _ h => h) (go2 hS hK1) rfl
  replace hS := it_b h56 hS
  refine Zk ?_
  refine Zr ?_
  obtain ⟨b62, hS⟩ := gd_s hS
  refine VL.q (q_add rfl rfl b62) (by decide) ?_
  refine Zm ?_
  refine VL.rnd (out10_11, (x37_12 + 1)) [5, 9, 10, 35, 36, 37] (fun _ _ h => h) (go2 hS hK1) rfl
 replace hS := it_f h38 hS
 replace hS := up2 hS hK1
 refine Zx ?_
 refine Zq (Zr ?_)
 refine Zm ?_
 obtain ⟨b64, hS⟩ := gd_s hS
 refine VL.callO (sort73_ct out10_11 b64) rfl (by decide) ?_
 rintro w64_23 ⟨hw64_23, vw64_23⟩
 try dsimp only
 rw [← vw64_23]
 replace hS := lt_to hw64_23 hS
 refine Zl ?_
 refine Zq (Zr ?_)
 refine Zm ?_
 obtain ⟨b66, hS⟩ := gd_s hS
 refine VL.callO (compact75_ct w64_23 b66) rfl (by decide) ?_
 rintro w66_25 hw66_25
 try dsimp only
 replace hS := lt_to hw66_25 hS
 refine VL.shut w66_25 9 (fun _ _ _ _ => trivial) ?_
 obtain ⟨y67_27, ey67_27, hS⟩ := bd_s hS
 refine VL.callF (slices_Clip_string_string_ct w66_25 ey67_27) rfl (by decide) ?_
 rintro q67_27_0 rfl
 try dsimp only
 refine Za ?_
 refine Zl ?_
 refine VC.keep [8] rfl ?_
 cases hS
 exact VC.ret (fin1 (.inr rfl) rfl rfl q67_27_0 rfl rfl (by (try dsimp only); exact InM.out) (fun _ _ => trivial))
theorem slices_Clone_index_Entry_index_Entry_ct (s_0 : Sv IndexEntry) {r : List IndexEntry} (hS : Sh.slices_Clone_index_Entry_index_Entry s_0.l = some r) :
 Ct Tryz.prog 54 [s_0.val] s_0.ok (Ow.emp) (X := Sv IndexEntry) (fun x => x.val) (fun x => r = x.l) (fun x => Mo.tt) (fun x => Sv.own x 83) := by
 refine Ct.of Tryz.func54 rfl (by kernel_rfl) Tryz.ntmps54 (by simp) fun c => ?_
 unfold Sh.slices_Clone_index_Entry_index_Entry at hS
 refine Zq (Zr ?_)
 refine Za ?_
 refine Zl ?_
 refine Zq (Zq (Zr ?_))
 refine Zm ?_
 refine VL.q (q_slnil (s := s_0) Tryz.underlying29 rfl) (by decide) ?_
 refine Zl ?_
 refine VC.slnil (s := s_0) rfl (fun h4 => ?_) ?_
 ·
  have hS : (some []) = some r := by
    simp [lt, gd, h4] at hS ⊢
    try exact hS
  refine Zq (Zr ?_)
  refine Za ?_
  refine Zl ?_
  refine VC.nilO (⟨none, 0, []⟩ : Sv IndexEntry) 83 ⟨rfl, rfl⟩ ?_
  cases hS
  exact VC.ret (fin1 (.inr rfl) rfl rfl ⟨none, 0, []⟩ rfl rfl (by (try dsimp only); exact InM.out) (by (try dsimp only); exact EntO.out))
 refine Zk ?_
 refine Zq (Zr ?_)
 refine VL.lit0 (α := IndexEntry) Tryz.underlying29 ghas83 (by decide) (fun s5_1 hs5_1 hcs5_1 => ?_)
 refine VL.nilO s5_1 83 ⟨hcs5_1, hs5_1⟩ ?_
 replace hS := lt_to hs5_1 hS
 refine Zm ?_
 obtain ⟨b7, hS⟩ := gd_s hS
 refine VL.app (s := s5_1) (r := s_0) Tryz.underlying29 gapp83 (by decide) rfl Fo.out (ap1 b7) (ap2 b7 (by decide)) (by decide) (fun s7_3 hs7_3 => ?_)
 replace hS := lt_to hs7_3 hS
 refine Za ?_
 refine Zl ?_
 cases hS
 exact VC.ret (fin1 (.inr rfl) rfl rfl s7_3 rfl rfl (by (try dsimp only); exact InM.out) (by (try dsimp only); exact EntO.out))
theorem slices_Clone_files_Row_files_File_ct (s_0 : Sv FilesFile) {r : List FilesFile} (hS : Sh.slices_Clone_files_Row_files_File s_0.l = some r) :
 Ct Tryz.prog 56 [s_0.val] s_0.ok (Ow.emp) (X := Sv FilesFile) (fun x => x.val) (fun x => r = x.l) (fun x => Mo.tt) (fun x => Sv.own x 50) := by
 refine Ct.of Tryz.func56 rfl (by kernel_rfl) Tryz.ntmps56 (by simp) fun c => ?_
 unfold Sh.slices_Clone_files_Row_files_File at hS
 refine Zq (Zr ?_)
 refine Za ?_
 refine Zl ?_
 refine Zq (Zq (Zr ?_))
 refine Zm ?_
 refine VL.q (q_slnil (s := s_0) Tryz.underlying23 rfl) (by decide) ?_
 refine Zl ?_
 refine VC.slnil (s := s_0) rfl (fun h4 => ?_) ?_
 ·
  have hS : (some []) = some r := by
    simp [lt, gd, h4] at hS ⊢
    try exact hS
  refine Zq (Zr ?_)
  refine Za ?_
  refine Zl ?_
  refine VC.nilO (⟨none, 0, []⟩ : Sv FilesFile) 50 ⟨rfl, rfl⟩ ?_
  cases hS
  exact VC.ret (fin1 (.inr rfl) rfl rfl ⟨none, 0, []⟩ rfl rfl (by (try dsimp only); exact InM.out) (by (try dsimp only); exact EntO.out))
 refine Zk ?_
 refine Zq (Zr ?_)
 refine VL.lit0 (α := FilesFile) Tryz.underlying23 ghas50 (by decide) (fun s5_1 hs5_1 hcs5_1 => ?_)
 refine VL.nilO s5_1 50 ⟨hcs5_1, hs5_1⟩ ?_
 replace hS := lt_to hs5_1 hS
 refine Zm ?_
 obtain ⟨b7, hS⟩ := gd_s hS
 refine VL.app (s := s5_1) (r := s_0) Tryz.underlying23 gapp50 (by decide) rfl Fo.out (ap1 b7) (ap2 b7 (by decide)) (by decide) (fun s7_3 hs7_3 => ?_)
 replace hS := lt_to hs7_3 hS
 refine Za ?_
 refine Zl ?_
 cases hS
 exact VC.ret (fin1 (.inr rfl) rfl rfl s7_3 rfl rfl (by (try dsimp only); exact InM.out) (by (try dsimp only); exact EntO.out))
theorem index_Drop_1_ct (x_0 : IndexEntry) (a_1_b : Nat) (a_1 : Str) {r : Bool} (hS : Sh.index_Drop_1 x_0 a_1 = some r) :
 Ct Tryz.prog 139 [.agg #[str x_0.path, i64 x_0.stage, i64 x_0.mode, str x_0.data, i64 x_0.time, i64 x_0.size], ptr a_1_b 0] (Cells a_1_b 0 [str a_1]) (Ow.emp) (X := Unit) (fun _ => .bool r) (fun _ => True) (fun _ => Mo.tt) (fun _ => Ow.emp) := by
 refine Ct.of Tryz.func139 rfl (by kernel_rfl) Tryz.ntmps139 (by simp) fun c => ?_
 unfold Sh.index_Drop_1 at hS
 refine Zq (Zr ?_)
 refine VL.box (cs := [str x_0.path, i64 x_0.stage, i64 x_0.mode, str x_0.data, i64 x_0.time, i64 x_0.size]) rfl rfl (by decide) fun b2_1 => ?_
 refine Za ?_
 refine Zl ?_
 refine Zq (Zr ?_)
 refine VL.q (q_field gfa83_0 rfl) (by decide) ?_
 refine VL.q (q_fe gone9 rfl rfl) (by decide) ?_
 refine VL.q (q_fm gone9 rfl rfl) (by decide) ?_
 refine Zs ?_
 refine Za ?_
 refine Zl ?_
 cases hS
 exact Ze
theorem slices_IndexFunc_index_Entry_index_Entry_ct (s_0 : Sv IndexEntry) (f_1_0_b : Nat) (f_1_0 : Str) {r : Int} (hS : Sh.slices_IndexFunc_index_Entry_index_Entry s_0.l f_1_0 = some r) :
 Ct Tryz.prog 217 [s_0.val, .func (.func 139) #[] #[ptr f_1_0_b 0]] (s_0.ok.and (Cells f_1_0_b 0 [str f_1_0])) (Ow.emp) (X := Unit) (fun _ => i64 r) (fun _ => True) (fun _ => Mo.tt) (fun _ => Ow.emp) := by
 refine Ct.of Tryz.func217 rfl (by kernel_rfl) Tryz.ntmps217 (by simp) fun c => ?_
 unfold Sh.slices_IndexFunc_index_Entry_index_Entry at hS
 refine Zq (Zr ?_)
 refine Za ?_
 refine Zl ?_
 refine Zq (Zq (Zr ?_))
 refine Zm ?_
 refine VL.q (q_ln (s := s_0) Tryz.underlying29 rfl) (by decide) ?_
 refine Zm ?_
 refine Zl ?_
 refine Zb ?_
 refine VC.iter (S := Int) (fun (x8_1 : Int) => x8_1) (fun (x8_1 : Int) => [(0, s_0.val), (1, .func (.func 139) #[] #[ptr f_1_0_b 0]), (7, i64 (s_0.l.length : Int)), (8, i64 x8_1)]) (fun (x8_1 : Int) => Mo.tt) (fun (x8_1 : Int) => Ow.emp) 0 [0, 1, 7, 8] hS rfl ?_
 clear hS
 rintro x8_1 m1 y1 hS hK1
 show VC _ _ _ _ _ [(0, s_0.val), (1, .func (.func 139) #[] #[ptr f_1_0_b 0]), (7, i64 (s_0.l.length : Int)), (8, i64 x8_1)] (Mo.and Mo.tt _) (Ow.emp)
 refine Zq (Zr ?_)
 refine VL.q (q_lss rfl rfl) (by decide) ?_
 refine Zl ?_
 refine Zq ?_
 refine VC.cond_dec rfl (fun h9 => ?_) (fun h9 => ?_)
 ·
  replace hS := it_t h9 hS
  refine Zk ?_
  refine Zq (Zb (Zq (Zr ?_)))
  refine Zm ?_
  refine Za ?_
  refine Zl ?_
  refine Zq (Zr ?_)
  refine Zm ?_
  refine Zm ?_
  refine Zm ?_
  obtain ⟨z14_2, nz14_2, hz14_2, hS⟩ := at_s hS
  refine VL.q (q_ixm (s := s_0) Tryz.underlying29 gsz83 rfl rfl nz14_2 (lt_of_get nz14_2 hz14_2)) (by decide) ?_
  refine VL.q (q_els (s := s_0) gagg83 rfl rfl hz14_2) (by decide) ?_
  obtain ⟨y16_3, ey16_3, hS⟩ := bd_s hS
  refine VL.q (q_callVC (vs := [.agg #[str z14_2.path, i64 z14_2.stage, i64 z14_2.mode, str z14_2.data, i64 z14_2.time, i64 z14_2.size]]) (caps := [ptr f_1_0_b 0]) (index_Drop_1_ct z14_2 f_1_0_b f_1_0 ey16_3) rfl rfl (fun _ _ => rfl)) (by decide) ?_
  refine Zl ?_
  refine VC.keep [0, 1, 7, 8, 5, 16] rfl ?_
  refine VC.cond rfl (fun h16 => ?_) (fun h16 => ?_)
  ·
   replace hS := it_t h16 hS
   refine Zq (Zr ?_)
   refine Zm ?_
   refine Za ?_
   refine Zl ?_
   replace hS := up2 hS hK1
   cases hS
   exact Ze
  replace hS := it_b h16 hS
  refine Zk ?_
  refine Zr ?_
  obtain ⟨b18, hS⟩ := gd_s hS
  refine VL.q (q_add rfl rfl b18) (by decide) ?_
  refine Zm ?_
  refine VL.rnd (x8_1 + 1) [0, 1, 7, 8] (fun _ _ h => h) (go2 hS hK1) rfl
 replace hS := it_f h9 hS
 replace hS := up2 hS hK1
 refine Zx ?_
 refine Zq (Zr ?_)
 refine Za ?_
 refine Zl ?_
 cases hS
 exact Ze
theorem slices_DeleteFunc_index_Entry_index_Entry_ct (s_0 : Sv IndexEntry) (del_1_0_b : Nat) (del_1_0 : Str) {r : List IndexEntry} (hS : Sh.slices_DeleteFunc_index_Entry_index_Entry s_0.l del_1_0 = some r) :
 Ct Tryz.prog 138 [s_0.val, .func (.func 139) #[] #[ptr del_1_0_b 0]] Mo.tt (Ow.star (Sv.own s_0 83) (Blk del_1_0_b [str del_1_0] 9)) (X := Sv IndexEntry) (fun x => x.val) (fun x => r = x.l) (fun x => Mo.tt) (fun x => Ow.star (Sv.own x 83) (Blk del_1_0_b [str del_1_0] 9)) := by
 refine Ct.of Tryz.func138 rfl (by kernel_rfl) Tryz.ntmps138 (by simp) fun c => ?_
 unfold Sh.slices_DeleteFunc_index_Entry_index_Entry at hS
 refine Zq (Zr ?_)
 refine Za ?_
 refine Zl ?_
 refine Zq (Zr ?_)
 refine Zm ?_
 refine Zm ?_
 obtain ⟨y10_1, ey10_1, hS⟩ := bd_s hS
 refine VL.q (q_callR (slices_IndexFunc_index_Entry_index_Entry_ct s_0 del_1_0_b del_1_0 ey10_1) rfl (fun _ _ => rfl)) (by decide) ?_
 refine Za ?_
 refine Zl ?_
 refine Zq (Zq (Zr ?_))
 refine Zm ?_
 refine VL.q (q_eql rfl rfl) (by decide) ?_
 refine Zl ?_
 refine VC.cond_dec rfl (fun h12 => ?_) (fun h12 => ?_)
 ·
  replace hS := it_t h12 hS
  refine Zq (Zr ?_)
  refine Zm ?_
  refine Za ?_
  refine Zl ?_
  cases hS
  exact VC.ret (fin1 (.inr rfl) rfl rfl s_0 rfl rfl (by (try dsimp only); exact InM.out) (by (try dsimp only); exact EntO.out))
 replace hS := it_f h12 hS
 refine Zk ?_
 refine Zq (Zq (Zr ?_))
 refine Zm ?_
 obtain ⟨b15, hS⟩ := gd_s hS
 refine VL.q (q_add rfl rfl b15) (by decide) ?_
 refine Za ?_
 refine Zl ?_
 refine VC.keep [0, 1, 5, 6] rfl ?_
 refine Zb ?_
 refine VC.iter (S := Sv IndexEntry × Int × Int) (fun sg => (sg.1.l, sg.2.1, sg.2.2)) (fun sg => [(0, sg.1.val), (1, .func (.func 139) #[] #[ptr del_1_0_b 0]), (5, i64 sg.2.1), (6, i64 sg.2.2)]) (fun sg => Mo.tt) (fun sg => Ow.star (Blk del_1_0_b [str del_1_0] 9) (Ow.star (Sv.own sg.1 83) (Ow.emp))) (s_0, y10_1, (y10_1 + 1)) [0, 1, 5, 6] hS rfl ?_
 clear hS
 rintro ⟨s0_2, i5_3, j6_4⟩ m1 y1 hS hK1
 show VC _ _ _ _ _ [(0, s0_2.val), (1, .func (.func 139) #[] #[ptr del_1_0_b 0]), (5, i64 i5_3), (6, i64 j6_4)] (Mo.and Mo.tt _) (Ow.star (Blk del_1_0_b [str del_1_0] 9) (Ow.star (Sv.own s0_2 83) (Ow.emp)))
 refine Zq (Zq (Zr ?_))
 refine Zm ?_
 refine Zm ?_
 refine VL.q (q_ln (s := s0_2) Tryz.underlying29 rfl) (by decide) ?_
 refine VL.q (q_lss rfl rfl) (by decide) ?_
 refine Zl ?_
 refine VC.cond_dec rfl (fun h19 => ?_) (fun h19 => ?_)
 ·
  replace hS := it_t h19 hS
  refine Zk ?_
  refine VC.cutJ (S := Sv IndexEntry × Int) (fun sg => (sg.1.l, sg.2)) (fun sg => [(0, sg.1.val), (1, .func (.func 139) #[] #[ptr del_1_0_b 0]), (5, i64 sg.2), (6, i64 j6_4)]) (fun sg => Mo.tt) (fun sg => Ow.star (Blk del_1_0_b [str del_1_0] 9) (Ow.star (Sv.own sg.1 83) (Ow.emp))) hS ?_ ?_
  ·
   clear hS
   intro k7 hS
   refine Zb (Zq (Zr ?_))
   refine Zm ?_
   refine Zm ?_
   obtain ⟨z24_8, nz24_8, hz24_8, hS⟩ := at_s hS
   refine VL.q (q_ixo (s := s0_2) Tryz.underlying29 gsz83 rfl rfl nz24_8 (lt_of_get nz24_8 hz24_8)) (by decide) ?_
   refine VL.q (q_elso (s := s0_2) gagg83 rfl rfl hz24_8) (by decide) ?_
   refine VL.alloc (cs := [str [], i64 0, i64 0, str [], i64 0, i64 0]) (by kernel_rfl) (by decide) fun b7_9 => ?_
   refine VL.store (vc := [str z24_8.path, i64 z24_8.stage, i64 z24_8.mode, str z24_8.data, i64 z24_8.time, i64 z24_8.size]) (cs' := [str z24_8.path, i64 z24_8.stage, i64 z24_8.mode, str z24_8.data, i64 z24_8.time, i64 z24_8.size]) rfl rfl rfl gsz83 rfl rfl (Nat.le_of_ble_eq_true rfl) rfl ?_
   refine Zl ?_
   refine VC.keep [0, 1, 5, 6, 7] rfl ?_
   refine Zq (Zr ?_)
   refine Zm ?_
   refine VL.q (q_fes gagg83 rfl rfl) (by decide) ?_
   obtain ⟨y28_10, ey28_10, hS⟩ := bd_s hS
   refine VL.q (q_callVC (vs := [.agg #[str z24_8.path, i64 z24_8.stage, i64 z24_8.mode, str z24_8.data, i64 z24_8.time, i64 z24_8.size]]) (caps := [ptr del_1_0_b 0]) (index_Drop_1_ct z24_8 del_1_0_b del_1_0 ey28_10) rfl rfl (fun _ _ => rfl)) (by decide) ?_
   refine VL.q (q_not rfl) (by decide) ?_
   refine Zl ?_
   refine VC.cond rfl (fun h29 => ?_) (fun h29 => ?_)
   ·
    replace hS := it_t h29 hS
    refine Zq (Zr ?_)
    refine Zm ?_
    refine Zm ?_
    refine VL.q (q_fes gagg83 rfl rfl) (by decide) ?_
    obtain ⟨z33_11, nz33_11, hz33_11, hS⟩ := at_s hS
    refine VL.q (q_ixo (s := s0_2) Tryz.underlying29 gsz83 rfl rfl nz33_11 (lt_of_get nz33_11 hz33_11)) (by decide) ?_
    refine VL.storeE (s := s0_2) (T := 83) (j := 0) (vc := [str z24_8.path, i64 z24_8.stage, i64 z24_8.mode, str z24_8.data, i64 z24_8.time, i64 z24_8.size]) (⟨z24_8.path, z24_8.stage, z24_8.mode, z24_8.data, z24_8.time, z24_8.size⟩ : IndexEntry) (by decide) rfl rfl hz33_11 rfl gsz83 rfl rfl (Nat.le_of_ble_eq_true rfl) rfl (fun w12 hw12 haw12 hcw12 hvw12 hbw12 how12 => ?_)
    rw [← hvw12]
    replace hS := lt_to hw12 hS
    refine Zl ?_
    refine VC.keep [0, 1, 5, 6] rfl ?_
    refine Zr ?_
    refine Zm ?_
    obtain ⟨b35, hS⟩ := gd_s hS
    refine VL.q (q_add rfl rfl b35) (by decide) ?_
    refine Za ?_
    refine VL.mt (w12, (i5_3 + 1)) [0, 1, 5, 6] (fun _ _ h => h) hS rfl
   replace hS := it_b h29 hS
   refine VC.skip_mt (s0_2, i5_3) [0, 1, 5, 6] (fun _ _ h => h) hS rfl
  clear hS
  rintro ⟨s0_5, i5_6⟩ hS
  show VC _ _ _ _ _ [(0, s0_5.val), (1, .func (.func 139) #[] #[ptr del_1_0_b 0]), (5, i64 i5_6), (6, i64 j6_4)] (Mo.and Mo.tt _) (Ow.star (Blk del_1_0_b [str del_1_0] 9) (Ow.star (Sv.own s0_5 83) (Ow.emp)))
  refine Zr ?_
  refine Zm ?_
  obtain ⟨b21, hS⟩ := gd_s hS
  refine VL.q (q_add rfl rfl b21) (by decide) ?_
  refine Za ?_
  refine VL.rnd (s0_5, i5_6, (j6_4 + 1)) [0, 1, 5, 6] (fun _ _ h => h) (go2 hS hK1) rfl
 replace hS := it_f h19 hS
 replace hS := up2 hS hK1
 refine Zx ?_
 refine Zq (Zr ?_)
 refine Zm ?_
 refine Zm ?_
 obtain ⟨b38, hS⟩ := gd_s hS
 refine VL.fits (s := s0_2) (e := 83) Fo.out fun f38_14 => ?_
 refine VL.q (q_subv (s := s0_2) Tryz.underlying29 gsz83 rfl rfl b38.1 b38.2 f38_14) (by decide) ?_
 refine VL.clrN (s := s0_2) (i := i5_3.toNat) (.agg #[str [], i64 0, i64 0, str [], i64 0, i64 0]) Tryz.underlying29 gzv83 rfl rfl rfl (by have := b38; dsimp only at this ⊢; omega) Fo.out fun ss3_15 hss3_15 vss3_15 => ?_
 replace hS := lt_to hss3_15 hS
 refine Zl ?_
 refine VC.keep [0, 5] rfl ?_
 refine Zq (Zr ?_)
 refine Zm ?_
 refine Zm ?_
 refine VL.q (q_cutO (s := s0_2) (q := ss3_15) Tryz.underlying29 gsz83 rfl rfl b38.1 b38.2 f38_14 vss3_15) (by decide) ?_
 refine Za ?_
 refine Zl ?_
 cases hS
 exact VC.ret (fin1 (.inr rfl) rfl rfl ss3_15 rfl rfl (by (try dsimp only); exact InM.out) (by (try dsimp only); exact EntO.out))
theorem index_Drop_ct (l_0 : Sv IndexEntry) (p_1 : Str) {r : List IndexEntry} (hS : Sh.index_Drop l_0.l p_1 = some r) :
 Ct Tryz.prog 58 [l_0.val, str p_1] l_0.ok (Ow.emp) (X := Sv IndexEntry) (fun x => x.val) (fun x => r = x.l) (fun x => x.ok) (fun x => Ow.emp) := by
 refine Ct.of Tryz.func58 rfl (by kernel_rfl) Tryz.ntmps58 (by simp) fun c => ?_
 unfold Sh.index_Drop at hS
 refine Zq (Zr ?_)
 refine VL.box (cs := [str p_1]) rfl rfl (by decide) fun b3_1 => ?_
 refine Za ?_
 refine Zl ?_
 refine Zq (Zr ?_)
 refine Zm ?_
 obtain ⟨y6_2, ey6_2, hS⟩ := bd_s hS
 refine VL.callO (slices_Clone_index_Entry_index_Entry_ct l_0 ey6_2) rfl (by decide) ?_
 rintro q6_2_0 rfl
 try dsimp only
 refine VL.q (q_mkfn rfl) (by decide) ?_
 obtain ⟨y8_3, ey8_3, hS⟩ := bd_s hS
 refine VL.callO (slices_DeleteFunc_index_Entry_index_Entry_ct q6_2_0 b3_1 p_1 ey8_3) rfl (by decide) ?_
 rintro q8_3_0 rfl
 try dsimp only
 refine VL.shut q8_3_0 83 (fun _ _ _ _ => trivial) ?_
 obtain ⟨y9_4, ey9_4, hS⟩ := bd_s hS
 refine VL.callF (slices_Clip_index_Entry_index_Entry_ct q8_3_0 ey9_4) rfl (by decide) ?_
 rintro q9_4_0 rfl
 try dsimp only
 refine Za ?_
 refine Zl ?_
 cases hS
 exact VC.ret (fin1 (.inr rfl) rfl rfl q9_4_0 rfl rfl (by (try dsimp only); exact InM.out) (fun _ _ => trivial))
theorem files_Row_Cut_1_ct (f_0 : FilesFile) (a_1_b : Nat) (a_1 : Str) {r : Bool} (hS : Sh.files_Row_Cut_1 f_0 a_1 = some r) :
 Ct Tryz.prog 141 [.agg #[str f_0.path, i64 f_0.mode, str f_0.data], ptr a_1_b 0] (Cells a_1_b 0 [str a_1]) (Ow.emp) (X := Unit) (fun _ => .bool r) (fun _ => True) (fun _ => Mo.tt) (fun _ => Ow.emp) := by
 refine Ct.of Tryz.func141 rfl (by kernel_rfl) Tryz.ntmps141 (by simp) fun c => ?_
 unfold Sh.files_Row_Cut_1 at hS
 refine Zq (Zr ?_)
 refine VL.box (cs := [str f_0.path, i64 f_0.mode, str f_0.data]) rfl rfl (by decide) fun b2_1 => ?_
 refine Za ?_
 refine Zl ?_
 refine Zq (Zr ?_)
 refine VL.q (q_field gfa50_0 rfl) (by decide) ?_
 refine VL.q (q_fe gone9 rfl rfl) (by decide) ?_
 refine VL.q (q_fm gone9 rfl rfl) (by decide) ?_
 refine Zs ?_
 refine Za ?_
 refine Zl ?_
 cases hS
 exact Ze
theorem slices_IndexFunc_files_Row_files_File_ct (s_0 : Sv FilesFile) (f_1_0_b : Nat) (f_1_0 : Str) {r : Int} (hS : Sh.slices_IndexFunc_files_Row_files_File s_0.l f_1_0 = some r) :
 Ct Tryz.prog 216 [s_0.val, .func (.func 141) #[] #[ptr f_1_0_b 0]] (s_0.ok.and (Cells f_1_0_b 0 [str f_1_0])) (Ow.emp) (X := Unit) (fun _ => i64 r) (fun _ => True) (fun _ => Mo.tt) (fun _ => Ow.emp) := by
 refine Ct.of Tryz.func216 rfl (by kernel_rfl) Tryz.ntmps216 (by simp) fun c => ?_
 unfold Sh.slices_IndexFunc_files_Row_files_File at hS
 refine Zq (Zr ?_)
 refine Za ?_
 refine Zl ?_
 refine Zq (Zq (Zr ?_))
 refine Zm ?_
 refine VL.q (q_ln (s := s_0) Tryz.underlying23 rfl) (by decide) ?_
 refine Zm ?_
 refine Zl ?_
 refine Zb ?_
 refine VC.iter (S := Int) (fun (x8_1 : Int) => x8_1) (fun (x8_1 : Int) => [(0, s_0.val), (1, .func (.func 141) #[] #[ptr f_1_0_b 0]), (7, i64 (s_0.l.length : Int)), (8, i64 x8_1)]) (fun (x8_1 : Int) => Mo.tt) (fun (x8_1 : Int) => Ow.emp) 0 [0, 1, 7, 8] hS rfl ?_
 clear hS
 rintro x8_1 m1 y1 hS hK1
 show VC _ _ _ _ _ [(0, s_0.val), (1, .func (.func 141) #[] #[ptr f_1_0_b 0]), (7, i64 (s_0.l.length : Int)), (8, i64 x8_1)] (Mo.and Mo.tt _) (Ow.emp)
 refine Zq (Zr ?_)
 refine VL.q (q_lss rfl rfl) (by decide) ?_
 refine Zl ?_
 refine Zq ?_
 refine VC.cond_dec rfl (fun h9 => ?_) (fun h9 => ?_)
 ·
  replace hS := it_t h9 hS
  refine Zk ?_
  refine Zq (Zb (Zq (Zr ?_)))
  refine Zm ?_
  refine Za ?_
  refine Zl ?_
  refine Zq (Zr ?_)
  refine Zm ?_
  refine Zm ?_
  refine Zm ?_
  obtain ⟨z14_2, nz14_2, hz14_2, hS⟩ := at_s hS
  refine VL.q (q_ixm (s := s_0) Tryz.underlying23 gsz50 rfl rfl nz14_2 (lt_of_get nz14_2 hz14_2)) (by decide) ?_
  refine VL.q (q_els (s := s_0) gagg50 rfl rfl hz14_2) (by decide) ?_
  obtain ⟨y16_3, ey16_3, hS⟩ := bd_s hS
  refine VL.q (q_callVC (vs := [.agg #[str z14_2.path, i64 z14_2.mode, str z14_2.data]]) (caps := [ptr f_1_0_b 0]) (files_Row_Cut_1_ct z14_2 f_1_0_b f_1_0 ey16_3) rfl rfl (fun _ _ => rfl)) (by decide) ?_
  refine Zl ?_
  refine VC.keep [0, 1, 7, 8, 5, 16] rfl ?_
  refine VC.cond rfl (fun h16 => ?_) (fun h16 => ?_)
  ·
   replace hS := it_t h16 hS
   refine Zq (Zr ?_)
   refine Zm ?_
   refine Za ?_
   refine Zl ?_
   replace hS := up2 hS hK1
   cases hS
   exact Ze
  replace hS := it_b h16 hS
  refine Zk ?_
  refine Zr ?_
  obtain ⟨b18, hS⟩ := gd_s hS
  refine VL.q (q_add rfl rfl b18) (by decide) ?_
  refine Zm ?_
  refine VL.rnd (x8_1 + 1) [0, 1, 7, 8] (fun _ _ h => h) (go2 hS hK1) rfl
 replace hS := it_f h9 hS
 replace hS := up2 hS hK1
 refine Zx ?_
 refine Zq (Zr ?_)
 refine Za ?_
 refine Zl ?_
 cases hS
 exact Ze
theorem slices_DeleteFunc_files_Row_files_File_ct (s_0 : Sv FilesFile) (del_1_0_b : Nat) (del_1_0 : Str) {r : List FilesFile} (hS : Sh.slices_DeleteFunc_files_Row_files_File s_0.l del_1_0 = some r) :
 Ct Tryz.prog 140 [s_0.val, .func (.func 141) #[] #[ptr del_1_0_b 0]] Mo.tt (Ow.star (Sv.own s_0 50) (Blk del_1_0_b [str del_1_0] 9)) (X := Sv FilesFile) (fun x => x.val) (fun x => r = x.l) (fun x => Mo.tt) (fun x => Ow.star (Sv.own x 50) (Blk del_1_0_b [str del_1_0] 9)) := by
 refine Ct.of Tryz.func140 rfl (by kernel_rfl) Tryz.ntmps140 (by simp) fun c => ?_
 unfold Sh.slices_DeleteFunc_files_Row_files_File at hS
 refine Zq (Zr ?_)
 refine Za ?_
 refine Zl ?_
 refine Zq (Zr ?_)
 refine Zm ?_
 refine Zm ?_
 obtain ⟨y10_1, ey10_1, hS⟩ := bd_s hS
 refine VL.q (q_callR (slices_IndexFunc_files_Row_files_File_ct s_0 del_1_0_b del_1_0 ey10_1) rfl (fun _ _ => rfl)) (by decide) ?_
 refine Za ?_
 refine Zl ?_
 refine Zq (Zq (Zr ?_))
 refine Zm ?_
 refine VL.q (q_eql rfl rfl) (by decide) ?_
 refine Zl ?_
 refine VC.cond_dec rfl (fun h12 => ?_) (fun h12 => ?_)
 ·
  replace hS := it_t h12 hS
  refine Zq (Zr ?_)
  refine Zm ?_
  refine Za ?_
  refine Zl ?_
  cases hS
  exact VC.ret (fin1 (.inr rfl) rfl rfl s_0 rfl rfl (by (try dsimp only); exact InM.out) (by (try dsimp only); exact EntO.out))
 replace hS := it_f h12 hS
 refine Zk ?_
 refine Zq (Zq (Zr ?_))
 refine Zm ?_
 obtain ⟨b15, hS⟩ := gd_s hS
 refine VL.q (q_add rfl rfl b15) (by decide) ?_
 refine Za ?_
 refine Zl ?_
 refine VC.keep [0, 1, 5, 6] rfl ?_
 refine Zb ?_
 refine VC.iter (S := Sv FilesFile × Int × Int) (fun sg => (sg.1.l, sg.2.1, sg.2.2)) (fun sg => [(0, sg.1.val), (1, .func (.func 141) #[] #[ptr del_1_0_b 0]), (5, i64 sg.2.1), (6, i64 sg.2.2)]) (fun sg => Mo.tt) (fun sg => Ow.star (Blk del_1_0_b [str del_1_0] 9) (Ow.star (Sv.own sg.1 50) (Ow.emp))) (s_0, y10_1, (y10_1 + 1)) [0, 1, 5, 6] hS rfl ?_
 clear hS
 rintro ⟨s0_2, i5_3, j6_4⟩ m1 y1 hS hK1
 show VC _ _ _ _ _ [(0, s0_2.val), (1, .func (.func 141) #[] #[ptr del_1_0_b 0]), (5, i64 i5_3), (6, i64 j6_4)] (Mo.and Mo.tt _) (Ow.star (Blk del_1_0_b [str del_1_0] 9) (Ow.star (Sv.own s0_2 50) (Ow.emp)))
 refine Zq (Zq (Zr ?_))
 refine Zm ?_
 refine Zm ?_
 refine VL.q (q_ln (s := s0_2) Tryz.underlying23 rfl) (by decide) ?_
 refine VL.q (q_lss rfl rfl) (by decide) ?_
 refine Zl ?_
 refine VC.cond_dec rfl (fun h19 => ?_) (fun h19 => ?_)
 ·
  replace hS := it_t h19 hS
  refine Zk ?_
  refine VC.cutJ (S := Sv FilesFile × Int) (fun sg => (sg.1.l, sg.2)) (fun sg => [(0, sg.1.val), (1, .func (.func 141) #[] #[ptr del_1_0_b 0]), (5, i64 sg.2), (6, i64 j6_4)]) (fun sg => Mo.tt) (fun sg => Ow.star (Blk del_1_0_b [str del_1_0] 9) (Ow.star (Sv.own sg.1 50) (Ow.emp))) hS ?_ ?_
  ·
   clear hS
   intro k7 hS
   refine Zb (Zq (Zr ?_))
   refine Zm ?_
   refine Zm ?_
   obtain ⟨z24_8, nz24_8, hz24_8, hS⟩ := at_s hS
   refine VL.q (q_ixo (s := s0_2) Tryz.underlying23 gsz50 rfl rfl nz24_8 (lt_of_get nz24_8 hz24_8)) (by decide) ?_
   refine VL.q (q_elso (s := s0_2) gagg50 rfl rfl hz24_8) (by decide) ?_
   refine VL.alloc (cs := [str [], i64 0, str []]) (by kernel_rfl) (by decide) fun b7_9 => ?_
   refine VL.store (vc := [str z24_8.path, i64 z24_8.mode, str z24_8.data]) (cs' := [str z24_8.path, i64 z24_8.mode, str z24_8.data]) rfl rfl rfl gsz50 rfl rfl (Nat.le_of_ble_eq_true rfl) rfl ?_
   refine Zl ?_
   refine VC.keep [0, 1, 5, 6, 7] rfl ?_
   refine Zq (Zr ?_)
   refine Zm ?_
   refine VL.q (q_fes gagg50 rfl rfl) (by decide) ?_
   obtain ⟨y28_10, ey28_10, hS⟩ := bd_s hS
   refine VL.q (q_callVC (vs := [.agg #[str z24_8.path, i64 z24_8.mode, str z24_8.data]]) (caps := [ptr del_1_0_b 0]) (files_Row_Cut_1_ct z24_8 del_1_0_b del_1_0 ey28_10) rfl rfl (fun _ _ => rfl)) (by decide) ?_
   refine VL.q (q_not rfl) (by decide) ?_
   refine Zl ?_
   refine VC.cond rfl (fun h29 => ?_) (fun h29 => ?_)
   ·
    replace hS := it_t h29 hS
    refine Zq (Zr ?_)
    refine Zm ?_
    refine Zm ?_
    refine VL.q (q_fes gagg50 rfl rfl) (by decide) ?_
    obtain ⟨z33_11, nz33_11, hz33_11, hS⟩ := at_s hS
    refine VL.q (q_ixo (s := s0_2) Tryz.underlying23 gsz50 rfl rfl nz33_11 (lt_of_get nz33_11 hz33_11)) (by decide) ?_
    refine VL.storeE (s := s0_2) (T := 50) (j := 0) (vc := [str z24_8.path, i64 z24_8.mode, str z24_8.data]) (⟨z24_8.path, z24_8.mode, z24_8.data⟩ : FilesFile) (by decide) rfl rfl hz33_11 rfl gsz50 rfl rfl (Nat.le_of_ble_eq_true rfl) rfl (fun w12 hw12 haw12 hcw12 hvw12 hbw12 how12 => ?_)
    rw [← hvw12]
    replace hS := lt_to hw12 hS
    refine Zl ?_
    refine VC.keep [0, 1, 5, 6] rfl ?_
    refine Zr ?_
    refine Zm ?_
    obtain ⟨b35, hS⟩ := gd_s hS
    refine VL.q (q_add rfl rfl b35) (by decide) ?_
    refine Za ?_
    refine VL.mt (w12, (i5_3 + 1)) [0, 1, 5, 6] (fun _ _ h => h) hS rfl
   replace hS := it_b h29 hS
   refine VC.skip_mt (s0_2, i5_3) [0, 1, 5, 6] (fun _ _ h => h) hS rfl
  clear hS
  rintro ⟨s0_5, i5_6⟩ hS
  show VC _ _ _ _ _ [(0, s0_5.val), (1, .func (.func 141) #[] #[ptr del_1_0_b 0]), (5, i64 i5_6), (6, i64 j6_4)] (Mo.and Mo.tt _) (Ow.star (Blk del_1_0_b [str del_1_0] 9) (Ow.star (Sv.own s0_5 50) (Ow.emp)))
  refine Zr ?_
  refine Zm ?_
  obtain ⟨b21, hS⟩ := gd_s hS
  refine VL.q (q_add rfl rfl b21) (by decide) ?_
  refine Za ?_
  refine VL.rnd (s0_5, i5_6, (j6_4 + 1)) [0, 1, 5, 6] (fun _ _ h => h) (go2 hS hK1) rfl
 replace hS := it_f h19 hS
 replace hS := up2 hS hK1
 refine Zx ?_
 refine Zq (Zr ?_)
 refine Zm ?_
 refine Zm ?_
 obtain ⟨b38, hS⟩ := gd_s hS
 refine VL.fits (s := s0_2) (e := 50) Fo.out fun f38_14 => ?_
 refine VL.q (q_subv (s := s0_2) Tryz.underlying23 gsz50 rfl rfl b38.1 b38.2 f38_14) (by decide) ?_
 refine VL.clrN (s := s0_2) (i := i5_3.toNat) (.agg #[str [], i64 0, str []]) Tryz.underlying23 gzv50 rfl rfl rfl (by have := b38; dsimp only at this ⊢; omega) Fo.out fun ss3_15 hss3_15 vss3_15 => ?_
 replace hS := lt_to hss3_15 hS
 refine Zl ?_
 refine VC.keep [0, 5] rfl ?_
 refine Zq (Zr ?_)
 refine Zm ?_
 refine Zm ?_
 refine VL.q (q_cutO (s := s0_2) (q := ss3_15) Tryz.underlying23 gsz50 rfl rfl b38.1 b38.2 f38_14 vss3_15) (by decide) ?_
 refine Za ?_
 refine Zl ?_
 cases hS
 exact VC.ret (fin1 (.inr rfl) rfl rfl ss3_15 rfl rfl (by (try dsimp only); exact InM.out) (by (try dsimp only); exact EntO.out))
theorem files_Row_Cut_ct (r_0 : Sv FilesFile) (p_1 : Str) {r : List FilesFile} (hS : Sh.files_Row_Cut r_0.l p_1 = some r) :
 Ct Tryz.prog 59 [r_0.val, str p_1] r_0.ok (Ow.emp) (X := Sv FilesFile) (fun x => x.val) (fun x => r = x.l) (fun x => x.ok) (fun x => Ow.emp) := by
 refine Ct.of Tryz.func59 rfl (by kernel_rfl) Tryz.ntmps59 (by simp) fun c => ?_
 unfold Sh.files_Row_Cut at hS
 refine Zq (Zr ?_)
 refine VL.box (cs := [str p_1]) rfl rfl (by decide) fun b3_1 => ?_
 refine Za ?_
 refine Zl ?_
 refine Zq (Zr ?_)
 refine Zm ?_
 obtain ⟨y6_2, ey6_2, hS⟩ := bd_s hS
 refine VL.callO (slices_Clone_files_Row_files_File_ct r_0 ey6_2) rfl (by decide) ?_
 rintro q6_2_0 rfl
 try dsimp only
 refine VL.q (q_mkfn rfl) (by decide) ?_
 obtain ⟨y8_3, ey8_3, hS⟩ := bd_s hS
 refine VL.callO (slices_DeleteFunc_files_Row_files_File_ct q6_2_0 b3_1 p_1 ey8_3) rfl (by decide) ?_
 rintro q8_3_0 rfl
 try dsimp only
 refine VL.shut q8_3_0 50 (fun _ _ _ _ => trivial) ?_
 obtain ⟨y9_4, ey9_4, hS⟩ := bd_s hS
 refine VL.callF (slices_Clip_files_Row_files_File_ct q8_3_0 ey9_4) rfl (by decide) ?_
 rintro q9_4_0 rfl
 try dsimp only
 refine Za ?_
 refine Zl ?_
 cases hS
 exact VC.ret (fin1 (.inr rfl) rfl rfl q9_4_0 rfl rfl (by (try dsimp only); exact InM.out) (fun _ _ => trivial))
theorem index_gives_ct (x_0 : IndexEntry) (e_1 : IndexEntry) {r : Bool} (hS : Sh.index_gives x_0 e_1 = some r) :
 Ct Tryz.prog 219 [.agg #[str x_0.path, i64 x_0.stage, i64 x_0.mode, str x_0.data, i64 x_0.time, i64 x_0.size], .agg #[str e_1.path, i64 e_1.stage, i64 e_1.mode, str e_1.data, i64 e_1.time, i64 e_1.size]] Mo.tt (Ow.emp) (X := Unit) (fun _ => .bool r) (fun _ => True) (fun _ => Mo.tt) (fun _ => Ow.emp) := by
 refine Ct.of Tryz.func219 rfl (by kernel_rfl) Tryz.ntmps219 (by simp) fun c => ?_
 unfold Sh.index_gives at hS
 refine Zq (Zr ?_)
 refine VL.box (cs := [str x_0.path, i64 x_0.stage, i64 x_0.mode, str x_0.data, i64 x_0.time, i64 x_0.size]) rfl rfl (by decide) fun b2_1 => ?_
 refine VL.box (cs := [str e_1.path, i64 e_1.stage, i64 e_1.mode, str e_1.data, i64 e_1.time, i64 e_1.size]) rfl rfl (by decide) fun b3_2 => ?_
 refine Za ?_
 refine Zl ?_
 refine Zq (Zb (Zq (Zr ?_)))
 refine VL.q (q_field gfa83_0 rfl) (by decide) ?_
 refine VL.q (q_fe gone9 rfl rfl) (by decide) ?_
 refine VL.q (q_field gfa83_0 rfl) (by decide) ?_
 refine VL.q (q_fe gone9 rfl rfl) (by decide) ?_
 obtain ⟨y10_3, ey10_3, hS⟩ := bd_s hS
 refine VL.q (q_call (path_Clash_ct x_0.path e_1.path ey10_3) rfl (fun _ _ => rfl)) (by decide) ?_
 refine Za ?_
 refine Zl ?_
 refine VC.keep [2, 3, 5] rfl ?_
 refine VC.cond rfl (fun h5 => ?_) (fun h5 => ?_)
 ·
  replace hS := it_t h5 hS
  refine Zq (Zr ?_)
  refine Za ?_
  refine Zl ?_
  cases hS
  exact Ze
 replace hS := it_b h5 hS
 refine Zq (Zr ?_)
 refine VL.q (q_field gfa83_0 rfl) (by decide) ?_
 refine VL.q (q_fe gone9 rfl rfl) (by decide) ?_
 refine VL.q (q_field gfa83_0 rfl) (by decide) ?_
 refine VL.q (q_fe gone9 rfl rfl) (by decide) ?_
 refine VL.q (q_sne rfl rfl) (by decide) ?_
 refine Za ?_
 refine Zl ?_
 refine VC.cond_ndec rfl (fun h11 => ?_) (fun h11 => ?_)
 ·
  replace hS := it_f h11 hS
  refine Zq (Zr ?_)
  refine Za ?_
  refine Zl ?_
  cases hS
  exact Ze
 replace hS := it_t h11 hS
 refine Zk ?_
 refine Zq (Zq (Zr ?_))
 refine VL.q (q_field gfa83_1 rfl) (by decide) ?_
 refine VL.q (q_fe gone3 rfl rfl) (by decide) ?_
 refine Zl ?_
 refine VC.keep [2, 3, 18] rfl ?_
 refine Zb ?_
 refine VC.cutJ (S := Unit) (fun (_ : Unit) => ()) (fun (_ : Unit) => [(2, ptr b2_1 0), (3, ptr b3_2 0)]) (fun (_ : Unit) => Mo.tt) (fun (_ : Unit) => Ow.star (Blk b3_2 [str e_1.path, i64 e_1.stage, i64 e_1.mode, str e_1.data, i64 e_1.time, i64 e_1.size] 83) (Ow.star (Blk b2_1 [str x_0.path, i64 x_0.stage, i64 x_0.mode, str x_0.data, i64 x_0.time, i64 x_0.size] 83) (Ow.emp))) hS ?_ ?_
 ·
  clear hS
  intro k4 hS
  refine Zb (Zb (Zb (Zq (Zq (Zq (Zr ?_))))))
  refine VL.q (q_eql rfl rfl) (by decide) ?_
  refine Za ?_
  refine Zl ?_
  refine VC.cond_dec rfl (fun h19 => ?_) (fun h19 => ?_)
  ·
   replace hS := it_t h19 hS
   refine VC.exit_mt () [2, 3] (fun _ _ h => h) hS rfl
  replace hS := it_f h19 hS
  refine Zk ?_
  refine Zq (Zq (Zr ?_))
  refine VL.q (q_eql rfl rfl) (by decide) ?_
  refine Za ?_
  refine Zl ?_
  refine VC.cond_dec rfl (fun h21 => ?_) (fun h21 => ?_)
  ·
   replace hS := it_t h21 hS
   refine VC.exit_mt () [2, 3] (fun _ _ h => h) hS rfl
  replace hS := it_f h21 hS
  refine Zk ?_
  refine Zq (Zr ?_)
  refine VL.q (q_eql rfl rfl) (by decide) ?_
  refine Za ?_
  refine Zl ?_
  refine VC.cond_dec rfl (fun h23 => ?_) (fun h23 => ?_)
  ·
   replace hS := it_t h23 hS
   refine VC.exit_mt () [2, 3] (fun _ _ h => h) hS rfl
  replace hS := it_f h23 hS
  refine Zk ?_
  refine Zx ?_
  refine Zq (Zr ?_)
  refine Za ?_
  refine Zl ?_
  cases hS
  exact Ze
 clear hS
 rintro _ hS
 show VC _ _ _ _ _ [(2, ptr b2_1 0), (3, ptr b3_2 0)] (Mo.and Mo.tt _) (Ow.star (Blk b3_2 [str e_1.path, i64 e_1.stage, i64 e_1.mode, str e_1.data, i64 e_1.time, i64 e_1.size] 83) (Ow.star (Blk b2_1 [str x_0.path, i64 x_0.stage, i64 x_0.mode, str x_0.data, i64 x_0.time, i64 x_0.size] 83) (Ow.emp)))
 refine Zq (Zq (Zr ?_))
 refine VL.q (q_field gfa83_1 rfl) (by decide) ?_
 refine VL.q (q_fe gone3 rfl rfl) (by decide) ?_
 refine VL.q (q_eql rfl rfl) (by decide) ?_
 refine Zm ?_
 refine VL.split_dec 28 rfl (fun h28 => ?_) (fun h28 => ?_)
 ·
  replace hS := it_t h28 hS
  refine Zn ?_
  refine Zn ?_
  refine Zn ?_
  refine Zn ?_
  refine Zn ?_
  refine Zt ?_
  refine Za ?_
  refine Zl ?_
  refine VC.keep [4] rfl ?_
  cases hS
  exact Ze
 replace hS := it_f h28 hS
 refine VL.gy rfl rfl (q_field gfa83_1 rfl) (by decide) ?_
 refine VL.gy rfl rfl (q_fe gone3 rfl rfl) (by decide) ?_
 refine VL.gy rfl rfl (q_field gfa83_1 rfl) (by decide) ?_
 refine VL.gy rfl rfl (q_fe gone3 rfl rfl) (by decide) ?_
 refine VL.gy rfl rfl (q_eql rfl rfl) (by decide) ?_
 refine Zf ?_
 refine Za ?_
 refine Zl ?_
 refine VC.keep [4] rfl ?_
 cases hS
 exact Ze
theorem index_Put_1_ct (x_0 : IndexEntry) (a_1_b : Nat) (a_1 : IndexEntry) {r : Bool} (hS : Sh.index_Put_1 x_0 a_1 = some r) :
 Ct Tryz.prog 218 [.agg #[str x_0.path, i64 x_0.stage, i64 x_0.mode, str x_0.data, i64 x_0.time, i64 x_0.size], ptr a_1_b 0] (Cells a_1_b 0 [str a_1.path, i64 a_1.stage, i64 a_1.mode, str a_1.data, i64 a_1.time, i64 a_1.size]) (Ow.emp) (X := Unit) (fun _ => .bool r) (fun _ => True) (fun _ => Mo.tt) (fun _ => Ow.emp) := by
 refine Ct.of Tryz.func218 rfl (by kernel_rfl) Tryz.ntmps218 (by simp) fun c => ?_
 unfold Sh.index_Put_1 at hS
 refine Zq (Zr ?_)
 refine VL.box (cs := [str x_0.path, i64 x_0.stage, i64 x_0.mode, str x_0.data, i64 x_0.time, i64 x_0.size]) rfl rfl (by decide) fun b2_1 => ?_
 refine Za ?_
 refine Zl ?_
 refine Zq (Zr ?_)
 refine VL.q (q_fes gagg83 rfl rfl) (by decide) ?_
 refine VL.q (q_fms gagg83 rfl rfl) (by decide) ?_
 obtain ⟨y6_2, ey6_2, hS⟩ := bd_s hS
 refine VL.q (q_call (index_gives_ct x_0 a_1 ey6_2) rfl (fun _ _ => rfl)) (by decide) ?_
 refine Za ?_
 refine Zl ?_
 cases hS
 exact Ze
theorem slices_IndexFunc_index_Entry_index_Entry_v2_ct (s_0 : Sv IndexEntry) (f_1_0_b : Nat) (f_1_0 : IndexEntry) {r : Int} (hS : Sh.slices_IndexFunc_index_Entry_index_Entry_v2 s_0.l f_1_0 = some r) :
 Ct Tryz.prog 217 [s_0.val, .func (.func 218) #[] #[ptr f_1_0_b 0]] (s_0.ok.and (Cells f_1_0_b 0 [str f_1_0.path, i64 f_1_0.stage, i64 f_1_0.mode, str f_1_0.data, i64 f_1_0.time, i64 f_1_0.size])) (Ow.emp) (X := Unit) (fun _ => i64 r) (fun _ => True) (fun _ => Mo.tt) (fun _ => Ow.emp) := by
 refine Ct.of Tryz.func217 rfl (by kernel_rfl) Tryz.ntmps217 (by simp) fun c => ?_
 unfold Sh.slices_IndexFunc_index_Entry_index_Entry_v2 at hS
 refine Zq (Zr ?_)
 refine Za ?_
 refine Zl ?_
 refine Zq (Zq (Zr ?_))
 refine Zm ?_
 refine VL.q (q_ln (s := s_0) Tryz.underlying29 rfl) (by decide) ?_
 refine Zm ?_
 refine Zl ?_
 refine Zb ?_
 refine VC.iter (S := Int) (fun (x8_1 : Int) => x8_1) (fun (x8_1 : Int) => [(0, s_0.val), (1, .func (.func 218) #[] #[ptr f_1_0_b 0]), (7, i64 (s_0.l.length : Int)), (8, i64 x8_1)]) (fun (x8_1 : Int) => Mo.tt) (fun (x8_1 : Int) => Ow.emp) 0 [0, 1, 7, 8] hS rfl ?_
 clear hS
 rintro x8_1 m1 y1 hS hK1
 show VC _ _ _ _ _ [(0, s_0.val), (1, .func (.func 218) #[] #[ptr f_1_0_b 0]), (7, i64 (s_0.l.length : Int)), (8, i64 x8_1)] (Mo.and Mo.tt _) (Ow.emp)
 refine Zq (Zr ?_)
 refine VL.q (q_lss rfl rfl) (by decide) ?_
 refine Zl ?_
 refine Zq ?_
 refine VC.cond_dec rfl (fun h9 => ?_) (fun h9 => ?_)
 ·
  replace hS := it_t h9 hS
  refine Zk ?_
  refine Zq (Zb (Zq (Zr ?_)))
  refine Zm ?_
  refine Za ?_
  refine Zl ?_
  refine Zq (Zr ?_)
  refine Zm ?_
  refine Zm ?_
  refine Zm ?_
  obtain ⟨z14_2, nz14_2, hz14_2, hS⟩ := at_s hS
  refine VL.q (q_ixm (s := s_0) Tryz.underlying29 gsz83 rfl rfl nz14_2 (lt_of_get nz14_2 hz14_2)) (by decide) ?_
  refine VL.q (q_els (s := s_0) gagg83 rfl rfl hz14_2) (by decide) ?_
  obtain ⟨y16_3, ey16_3, hS⟩ := bd_s hS
  refine VL.q (q_callVC (vs := [.agg #[str z14_2.path, i64 z14_2.stage, i64 z14_2.mode, str z14_2.data, i64 z14_2.time, i64 z14_2.size]]) (caps := [ptr f_1_0_b 0]) (index_Put_1_ct z14_2 f_1_0_b f_1_0 ey16_3) rfl rfl (fun _ _ => rfl)) (by decide) ?_
  refine Zl ?_
  refine VC.keep [0, 1, 7, 8, 5, 16] rfl ?_
  refine VC.cond rfl (fun h16 => ?_) (fun h16 => ?_)
  ·
   replace hS := it_t h16 hS
   refine Zq (Zr ?_)
   refine Zm ?_
   refine Za ?_
   refine Zl ?_
   replace hS := up2 hS hK1
   cases hS
   exact Ze
  replace hS := it_b h16 hS
  refine Zk ?_
  refine Zr ?_
  obtain ⟨b18, hS⟩ := gd_s hS
  refine VL.q (q_add rfl rfl b18) (by decide) ?_
  refine Zm ?_
  refine VL.rnd (x8_1 + 1) [0, 1, 7, 8] (fun _ _ h => h) (go2 hS hK1) rfl
 replace hS := it_f h9 hS
 replace hS := up2 hS hK1
 refine Zx ?_
 refine Zq (Zr ?_)
 refine Za ?_
 refine Zl ?_
 cases hS
 exact Ze
theorem slices_DeleteFunc_index_Entry_index_Entry_v2_ct (s_0 : Sv IndexEntry) (del_1_0_b : Nat) (del_1_0 : IndexEntry) {r : List IndexEntry} (hS : Sh.slices_DeleteFunc_index_Entry_index_Entry_v2 s_0.l del_1_0 = some r) :
 Ct Tryz.prog 138 [s_0.val, .func (.func 218) #[] #[ptr del_1_0_b 0]] Mo.tt (Ow.star (Sv.own s_0 83) (Blk del_1_0_b [str del_1_0.path, i64 del_1_0.stage, i64 del_1_0.mode, str del_1_0.data, i64 del_1_0.time, i64 del_1_0.size] 83)) (X := Sv IndexEntry) (fun x => x.val) (fun x => r = x.l) (fun x => Mo.tt) (fun x => Ow.star (Sv.own x 83) (Blk del_1_0_b [str del_1_0.path, i64 del_1_0.stage, i64 del_1_0.mode, str del_1_0.data, i64 del_1_0.time, i64 del_1_0.size] 83)) := by
 refine Ct.of Tryz.func138 rfl (by kernel_rfl) Tryz.ntmps138 (by simp) fun c => ?_
 unfold Sh.slices_DeleteFunc_index_Entry_index_Entry_v2 at hS
 refine Zq (Zr ?_)
 refine Za ?_
 refine Zl ?_
 refine Zq (Zr ?_)
 refine Zm ?_
 refine Zm ?_
 obtain ⟨y10_1, ey10_1, hS⟩ := bd_s hS
 refine VL.q (q_callR (slices_IndexFunc_index_Entry_index_Entry_v2_ct s_0 del_1_0_b del_1_0 ey10_1) rfl (fun _ _ => rfl)) (by decide) ?_
 refine Za ?_
 refine Zl ?_
 refine Zq (Zq (Zr ?_))
 refine Zm ?_
 refine VL.q (q_eql rfl rfl) (by decide) ?_
 refine Zl ?_
 refine VC.cond_dec rfl (fun h12 => ?_) (fun h12 => ?_)
 ·
  replace hS := it_t h12 hS
  refine Zq (Zr ?_)
  refine Zm ?_
  refine Za ?_
  refine Zl ?_
  cases hS
  exact VC.ret (fin1 (.inr rfl) rfl rfl s_0 rfl rfl (by (try dsimp only); exact InM.out) (by (try dsimp only); exact EntO.out))
 replace hS := it_f h12 hS
 refine Zk ?_
 refine Zq (Zq (Zr ?_))
 refine Zm ?_
 obtain ⟨b15, hS⟩ := gd_s hS
 refine VL.q (q_add rfl rfl b15) (by decide) ?_
 refine Za ?_
 refine Zl ?_
 refine VC.keep [0, 1, 5, 6] rfl ?_
 refine Zb ?_
 refine VC.iter (S := Sv IndexEntry × Int × Int) (fun sg => (sg.1.l, sg.2.1, sg.2.2)) (fun sg => [(0, sg.1.val), (1, .func (.func 218) #[] #[ptr del_1_0_b 0]), (5, i64 sg.2.1), (6, i64 sg.2.2)]) (fun sg => Mo.tt) (fun sg => Ow.star (Blk del_1_0_b [str del_1_0.path, i64 del_1_0.stage, i64 del_1_0.mode, str del_1_0.data, i64 del_1_0.time, i64 del_1_0.size] 83) (Ow.star (Sv.own sg.1 83) (Ow.emp))) (s_0, y10_1, (y10_1 + 1)) [0, 1, 5, 6] hS rfl ?_
 clear hS
 rintro ⟨s0_2, i5_3, j6_4⟩ m1 y1 hS hK1
 show VC _ _ _ _ _ [(0, s0_2.val), (1, .func (.func 218) #[] #[ptr del_1_0_b 0]), (5, i64 i5_3), (6, i64 j6_4)] (Mo.and Mo.tt _) (Ow.star (Blk del_1_0_b [str del_1_0.path, i64 del_1_0.stage, i64 del_1_0.mode, str del_1_0.data, i64 del_1_0.time, i64 del_1_0.size] 83) (Ow.star (Sv.own s0_2 83) (Ow.emp)))
 refine Zq (Zq (Zr ?_))
 refine Zm ?_
 refine Zm ?_
 refine VL.q (q_ln (s := s0_2) Tryz.underlying29 rfl) (by decide) ?_
 refine VL.q (q_lss rfl rfl) (by decide) ?_
 refine Zl ?_
 refine VC.cond_dec rfl (fun h19 => ?_) (fun h19 => ?_)
 ·
  replace hS := it_t h19 hS
  refine Zk ?_
  refine VC.cutJ (S := Sv IndexEntry × Int) (fun sg => (sg.1.l, sg.2)) (fun sg => [(0, sg.1.val), (1, .func (.func 218) #[] #[ptr del_1_0_b 0]), (5, i64 sg.2), (6, i64 j6_4)]) (fun sg => Mo.tt) (fun sg => Ow.star (Blk del_1_0_b [str del_1_0.path, i64 del_1_0.stage, i64 del_1_0.mode, str del_1_0.data, i64 del_1_0.time, i64 del_1_0.size] 83) (Ow.star (Sv.own sg.1 83) (Ow.emp))) hS ?_ ?_
  ·
   clear hS
   intro k7 hS
   refine Zb (Zq (Zr ?_))
   refine Zm ?_
   refine Zm ?_
   obtain ⟨z24_8, nz24_8, hz24_8, hS⟩ := at_s hS
   refine VL.q (q_ixo (s := s0_2) Tryz.underlying29 gsz83 rfl rfl nz24_8 (lt_of_get nz24_8 hz24_8)) (by decide) ?_
   refine VL.q (q_elso (s := s0_2) gagg83 rfl rfl hz24_8) (by decide) ?_
   refine VL.alloc (cs := [str [], i64 0, i64 0, str [], i64 0, i64 0]) (by kernel_rfl) (by decide) fun b7_9 => ?_
   refine VL.store (vc := [str z24_8.path, i64 z24_8.stage, i64 z24_8.mode, str z24_8.data, i64 z24_8.time, i64 z24_8.size]) (cs' := [str z24_8.path, i64 z24_8.stage, i64 z24_8.mode, str z24_8.data, i64 z24_8.time, i64 z24_8.size]) rfl rfl rfl gsz83 rfl rfl (Nat.le_of_ble_eq_true rfl) rfl ?_
   refine Zl ?_
   refine VC.keep [0, 1, 5, 6, 7] rfl ?_
   refine Zq (Zr ?_)
   refine Zm ?_
   refine VL.q (q_fes gagg83 rfl rfl) (by decide) ?_
   obtain ⟨y28_10, ey28_10, hS⟩ := bd_s hS
   refine VL.q (q_callVC (vs := [.agg #[str z24_8.path, i64 z24_8.stage, i64 z24_8.mode, str z24_8.data, i64 z24_8.time, i64 z24_8.size]]) (caps := [ptr del_1_0_b 0]) (index_Put_1_ct z24_8 del_1_0_b del_1_0 ey28_10) rfl rfl (fun _ _ => rfl)) (by decide) ?_
   refine VL.q (q_not rfl) (by decide) ?_
   refine Zl ?_
   refine VC.cond rfl (fun h29 => ?_) (fun h29 => ?_)
   ·
    replace hS := it_t h29 hS
    refine Zq (Zr ?_)
    refine Zm ?_
    refine Zm ?_
    refine VL.q (q_fes gagg83 rfl rfl) (by decide) ?_
    obtain ⟨z33_11, nz33_11, hz33_11, hS⟩ := at_s hS
    refine VL.q (q_ixo (s := s0_2) Tryz.underlying29 gsz83 rfl rfl nz33_11 (lt_of_get nz33_11 hz33_11)) (by decide) ?_
    refine VL.storeE (s := s0_2) (T := 83) (j := 0) (vc := [str z24_8.path, i64 z24_8.stage, i64 z24_8.mode, str z24_8.data, i64 z24_8.time, i64 z24_8.size]) (⟨z24_8.path, z24_8.stage, z24_8.mode, z24_8.data, z24_8.time, z24_8.size⟩ : IndexEntry) (by decide) rfl rfl hz33_11 rfl gsz83 rfl rfl (Nat.le_of_ble_eq_true rfl) rfl (fun w12 hw12 haw12 hcw12 hvw12 hbw12 how12 => ?_)
    rw [← hvw12]
    replace hS := lt_to hw12 hS
    refine Zl ?_
    refine VC.keep [0, 1, 5, 6] rfl ?_
    refine Zr ?_
    refine Zm ?_
    obtain ⟨b35, hS⟩ := gd_s hS
    refine VL.q (q_add rfl rfl b35) (by decide) ?_
    refine Za ?_
    refine VL.mt (w12, (i5_3 + 1)) [0, 1, 5, 6] (fun _ _ h => h) hS rfl
   replace hS := it_b h29 hS
   refine VC.skip_mt (s0_2, i5_3) [0, 1, 5, 6] (fun _ _ h => h) hS rfl
  clear hS
  rintro ⟨s0_5, i5_6⟩ hS
  show VC _ _ _ _ _ [(0, s0_5.val), (1, .func (.func 218) #[] #[ptr del_1_0_b 0]), (5, i64 i5_6), (6, i64 j6_4)] (Mo.and Mo.tt _) (Ow.star (Blk del_1_0_b [str del_1_0.path, i64 del_1_0.stage, i64 del_1_0.mode, str del_1_0.data, i64 del_1_0.time, i64 del_1_0.size] 83) (Ow.star (Sv.own s0_5 83) (Ow.emp)))
  refine Zr ?_
  refine Zm ?_
  obtain ⟨b21, hS⟩ := gd_s hS
  refine VL.q (q_add rfl rfl b21) (by decide) ?_
  refine Za ?_
  refine VL.rnd (s0_5, i5_6, (j6_4 + 1)) [0, 1, 5, 6] (fun _ _ h => h) (go2 hS hK1) rfl
 replace hS := it_f h19 hS
 replace hS := up2 hS hK1
 refine Zx ?_
 refine Zq (Zr ?_)
 refine Zm ?_
 refine Zm ?_
 obtain ⟨b38, hS⟩ := gd_s hS
 refine VL.fits (s := s0_2) (e := 83) Fo.out fun f38_14 => ?_
 refine VL.q (q_subv (s := s0_2) Tryz.underlying29 gsz83 rfl rfl b38.1 b38.2 f38_14) (by decide) ?_
 refine VL.clrN (s := s0_2) (i := i5_3.toNat) (.agg #[str [], i64 0, i64 0, str [], i64 0, i64 0]) Tryz.underlying29 gzv83 rfl rfl rfl (by have := b38; dsimp only at this ⊢; omega) Fo.out fun ss3_15 hss3_15 vss3_15 => ?_
 replace hS := lt_to hss3_15 hS
 refine Zl ?_
 refine VC.keep [0, 5] rfl ?_
 refine Zq (Zr ?_)
 refine Zm ?_
 refine Zm ?_
 refine VL.q (q_cutO (s := s0_2) (q := ss3_15) Tryz.underlying29 gsz83 rfl rfl b38.1 b38.2 f38_14 vss3_15) (by decide) ?_
 refine Za ?_
 refine Zl ?_
 cases hS
 exact VC.ret (fin1 (.inr rfl) rfl rfl ss3_15 rfl rfl (by (try dsimp only); exact InM.out) (by (try dsimp only); exact EntO.out))
theorem cmp_isNaN_int_ct (x_0 : Int) {r : Bool} (hS : Sh.cmp_isNaN_int x_0 = some r) :
 Ct Tryz.prog 326 [i64 x_0] Mo.tt (Ow.emp) (X := Unit) (fun _ => .bool r) (fun _ => True) (fun _ => Mo.tt) (fun _ => Ow.emp) := by
 refine Ct.of Tryz.func326 rfl (by kernel_rfl) Tryz.ntmps326 (by simp) fun c => ?_
 unfold Sh.cmp_isNaN_int at hS
 refine Zq (Zr ?_)
 refine Za ?_
 refine Zl ?_
 refine Zq (Zr ?_)
 refine Zm ?_
 refine Zm ?_
 refine VL.q (q_neq rfl rfl) (by decide) ?_
 refine Za ?_
 refine Zl ?_
 cases hS
 exact Ze
theorem cmp_Compare_int_ct (x_0 : Int) (y_1 : Int) {r : Int} (hS : Sh.cmp_Compare_int x_0 y_1 = some r) :
 Ct Tryz.prog 281 [i64 x_0, i64 y_1] Mo.tt (Ow.emp) (X := Unit) (fun _ => i64 r) (fun _ => True) (fun _ => Mo.tt) (fun _ => Ow.emp) := by
 refine Ct.of Tryz.func281 rfl (by kernel_rfl) Tryz.ntmps281 (by simp) fun c => ?_
 unfold Sh.cmp_Compare_int at hS
 refine Zq (Zr ?_)
 refine Za ?_
 refine Zl ?_
 refine Zq (Zr ?_)
 refine Zm ?_
 obtain ⟨y8_1, ey8_1, hS⟩ := bd_s hS
 refine VL.q (q_call (cmp_isNaN_int_ct x_0 ey8_1) rfl (fun _ _ => rfl)) (by decide) ?_
 refine Za ?_
 refine Zl ?_
 refine Zq (Zr ?_)
 refine Zm ?_
 obtain ⟨y10_2, ey10_2, hS⟩ := bd_s hS
 refine VL.q (q_call (cmp_isNaN_int_ct y_1 ey10_2) rfl (fun _ _ => rfl)) (by decide) ?_
 refine Za ?_
 refine Zl ?_
 refine Zq (Zq (Zr ?_))
 refine Zm ?_
 refine Zl ?_
 refine VC.cond rfl (fun h11 => ?_) (fun h11 => ?_)
 ·
  replace hS := it_t h11 hS
  refine Zq (Zq (Zr ?_))
  refine Zm ?_
  refine Zl ?_
  refine VC.keep [12] rfl ?_
  refine VC.cond rfl (fun h12 => ?_) (fun h12 => ?_)
  ·
   replace hS := it_t h12 hS
   refine Zq (Zr ?_)
   refine Za ?_
   refine Zl ?_
   cases hS
   exact Ze
  replace hS := it_b h12 hS
  refine Zk ?_
  refine Zq (Zr ?_)
  refine Za ?_
  refine Zl ?_
  cases hS
  exact Ze
 replace hS := it_b h11 hS
 refine Zk ?_
 refine Zq (Zq (Zr ?_))
 refine Zm ?_
 refine Zl ?_
 refine VC.keep [0, 1, 13] rfl ?_
 refine VC.cond rfl (fun h13 => ?_) (fun h13 => ?_)
 ·
  replace hS := it_t h13 hS
  refine Zq (Zr ?_)
  refine Za ?_
  refine Zl ?_
  cases hS
  exact Ze
 replace hS := it_b h13 hS
 refine Zk ?_
 refine Zq (Zq (Zr ?_))
 refine Zm ?_
 refine Zm ?_
 refine VL.q (q_lss rfl rfl) (by decide) ?_
 refine Zl ?_
 refine VC.cond_dec rfl (fun h16 => ?_) (fun h16 => ?_)
 ·
  replace hS := it_t h16 hS
  refine Zq (Zr ?_)
  refine Za ?_
  refine Zl ?_
  cases hS
  exact Ze
 replace hS := it_f h16 hS
 refine Zk ?_
 refine Zq (Zq (Zr ?_))
 refine Zm ?_
 refine Zm ?_
 refine VL.q (q_gtr rfl rfl) (by decide) ?_
 refine Zl ?_
 refine VC.cond_dec rfl (fun h19 => ?_) (fun h19 => ?_)
 ·
  replace hS := it_t h19 hS
  refine Zq (Zr ?_)
  refine Za ?_
  refine Zl ?_
  cases hS
  exact Ze
 replace hS := it_f h19 hS
 refine Zk ?_
 refine Zq (Zr ?_)
 refine Za ?_
 refine Zl ?_
 cases hS
 exact Ze
theorem cmp_Or_int_ct (vals_0 : Sv Int) {r : Int} (hS : Sh.cmp_Or_int vals_0.l = some r) :
 Ct Tryz.prog 280 [vals_0.val] vals_0.ok (Ow.emp) (X := Unit) (fun _ => i64 r) (fun _ => True) (fun _ => Mo.tt) (fun _ => Ow.emp) := by
 refine Ct.of Tryz.func280 rfl (by kernel_rfl) Tryz.ntmps280 (by simp) fun c => ?_
 unfold Sh.cmp_Or_int at hS
 refine Zq (Zr ?_)
 refine Za ?_
 refine Zl ?_
 refine Zq (Zr ?_)
 refine Za ?_
 refine Zl ?_
 refine Zq (Zq (Zr ?_))
 refine Zm ?_
 refine VL.q (q_ln (s := vals_0) Tryz.underlying60 rfl) (by decide) ?_
 refine Zm ?_
 refine Zl ?_
 refine Zb ?_
 refine VC.iter (S := Int) (fun (x8_1 : Int) => x8_1) (fun (x8_1 : Int) => [(3, i64 0), (6, vals_0.val), (7, i64 (vals_0.l.length : Int)), (8, i64 x8_1)]) (fun (x8_1 : Int) => Mo.tt) (fun (x8_1 : Int) => Ow.emp) 0 [3, 6, 7, 8] hS rfl ?_
 clear hS
 rintro x8_1 m1 y1 hS hK1
 show VC _ _ _ _ _ [(3, i64 0), (6, vals_0.val), (7, i64 (vals_0.l.length : Int)), (8, i64 x8_1)] (Mo.and Mo.tt _) (Ow.emp)
 refine Zq (Zr ?_)
 refine VL.q (q_lss rfl rfl) (by decide) ?_
 refine Zl ?_
 refine Zq ?_
 refine VC.cond_dec rfl (fun h9 => ?_) (fun h9 => ?_)
 ·
  replace hS := it_t h9 hS
  refine Zk ?_
  refine Zq (Zb (Zq (Zr ?_)))
  obtain ⟨z10_2, nz10_2, hz10_2, hS⟩ := at_s hS
  refine VL.q (q_ixm (s := vals_0) Tryz.underlying60 gsz3 rfl rfl nz10_2 (lt_of_get nz10_2 hz10_2)) (by decide) ?_
  refine VL.q (q_el (s := vals_0) gone3 rfl hz10_2 rfl) (by decide) ?_
  refine Za ?_
  refine Zl ?_
  refine Zq (Zr ?_)
  refine Zm ?_
  refine Zm ?_
  refine VL.q (q_neq rfl rfl) (by decide) ?_
  refine Zl ?_
  refine VC.cond_ndec rfl (fun h14 => ?_) (fun h14 => ?_)
  ·
   replace hS := it_f h14 hS
   refine Zq (Zr ?_)
   refine Zm ?_
   refine Za ?_
   refine Zl ?_
   refine VC.keep [2] rfl ?_
   replace hS := up2 hS hK1
   cases hS
   exact Ze
  replace hS := it_t h14 hS
  refine Zk ?_
  refine VC.keep [3, 6, 7, 8] rfl ?_
  refine Zr ?_
  obtain ⟨b16, hS⟩ := gd_s hS
  refine VL.q (q_add rfl rfl b16) (by decide) ?_
  refine Zm ?_
  refine VL.rnd (x8_1 + 1) [3, 6, 7, 8] (fun _ _ h => h) (go2 hS hK1) rfl
 replace hS := it_f h9 hS
 replace hS := up2 hS hK1
 refine Zx ?_
 refine Zq (Zr ?_)
 refine Zm ?_
 refine Za ?_
 refine Zl ?_
 cases hS
 exact Ze
theorem index_compare_ct (a_0 : IndexEntry) (b_1 : IndexEntry) {r : Int} (hS : Sh.index_compare a_0 b_1 = some r) :
 Ct Tryz.prog 220 [.agg #[str a_0.path, i64 a_0.stage, i64 a_0.mode, str a_0.data, i64 a_0.time, i64 a_0.size], .agg #[str b_1.path, i64 b_1.stage, i64 b_1.mode, str b_1.data, i64 b_1.time, i64 b_1.size]] Mo.tt (Ow.emp) (X := Unit) (fun _ => i64 r) (fun _ => True) (fun _ => Mo.tt) (fun _ => Ow.emp) := by
 refine Ct.of Tryz.func220 rfl (by kernel_rfl) Tryz.ntmps220 (by simp) fun c => ?_
 unfold Sh.index_compare at hS
 refine Zq (Zr ?_)
 refine VL.box (cs := [str a_0.path, i64 a_0.stage, i64 a_0.mode, str a_0.data, i64 a_0.time, i64 a_0.size]) rfl rfl (by decide) fun b2_1 => ?_
 refine VL.box (cs := [str b_1.path, i64 b_1.stage, i64 b_1.mode, str b_1.data, i64 b_1.time, i64 b_1.size]) rfl rfl (by decide) fun b3_2 => ?_
 refine Za ?_
 refine Zl ?_
 refine Zq ?_
 refine VC.draw [(0, true), (1, true), (2, true), (3, true), (4, true), (5, true), (6, true), (7, true), (8, true), (9, true), (10, false), (11, true), (12, true)] mixed (by kernel_rfl) (by kernel_rfl) (by kernel_rfl) ?_
 refine VD.q rfl (q_field gfa83_0 rfl) (by decide) ?_
 refine VD.q rfl (q_fe gone9 rfl rfl) (by decide) ?_
 refine VD.q rfl (q_field gfa83_0 rfl) (by decide) ?_
 refine VD.q rfl (q_fe gone9 rfl rfl) (by decide) ?_
 obtain ⟨y9_3, ey9_3, hS⟩ := bd_s hS
 refine VD.q rfl (q_call (path_Compare_ct a_0.path b_1.path ey9_3) rfl (fun _ _ => rfl)) (by decide) ?_
 refine VD.q rfl (q_field gfa83_1 rfl) (by decide) ?_
 refine VD.q rfl (q_fe gone3 rfl rfl) (by decide) ?_
 refine VD.q rfl (q_field gfa83_1 rfl) (by decide) ?_
 refine VD.q rfl (q_fe gone3 rfl rfl) (by decide) ?_
 obtain ⟨y14_4, ey14_4, hS⟩ := bd_s hS
 refine VD.q rfl (q_call (cmp_Compare_int_ct a_0.stage b_1.stage ey14_4) rfl (fun _ _ => rfl)) (by decide) ?_
 refine VD.one rfl ?_
 refine VL.lit (α := Int) (xs := [.tmp 9, .tmp 14]) (vs := [i64 y9_3, i64 y14_4]) [y9_3, y14_4] Tryz.underlying60 glit3 (by decide) rfl rfl rfl rfl (by decide) (fun _ _ _ _ => trivial) (by decide) (fun s15_5 hs15_5 => ?_) (by decide)
 replace hS := lt_to hs15_5 hS
 refine VL.back (D' := []) (by kernel_rfl) (Pend.nil) ?_
 obtain ⟨y16_7, ey16_7, hS⟩ := bd_s hS
 refine VD.q rfl (q_call (cmp_Or_int_ct s15_5 ey16_7) rfl (fun _ _ => rfl)) (by decide) ?_
 refine VD.q rfl (q_assign rfl) (by decide) ?_
 refine VD.to (fun _ _ h => h) ?_
 refine VC.keep [4] rfl ?_
 cases hS
 exact Ze
theorem insert83_ct (s v : Sv IndexEntry) (i : Int) (hi : 0 ≤ i ∧ i ≤ (s.l.length : Int)) (hv : v.l ≠ []) (hb : s.l.length + v.l.length ≤ 4294967296) : Ct Tryz.prog 221 [s.val, i64 i, v.val] Mo.tt (Ow.star (s.own 83) (v.own 83)) (X := Sv IndexEntry) (fun q => q.val) (fun q => q.l = s.l.take i.toNat ++ v.l ++ s.l.drop i.toNat) (fun _ => Mo.tt) (fun q => q.own 83) := by
 refine Ct.of Tryz.func221 rfl (by kernel_rfl) Tryz.ntmps221 (by simp) fun c => ?_
 have hvp : 0 < v.l.length := List.length_pos_iff.2 hv
 have hK : Dat.sz IndexEntry = 6 := rfl
 refine Zq (Zr ?_)
 refine Za ?_
 refine Zl ?_
 refine Zq (Zr ?_)
 refine Zm ?_
 refine Zm ?_
 refine VL.fits (s := s) (e := 83) Fo.out fun hf => ?_
 refine VL.q (q_subv (s := s) Tryz.underlying29 gsz83 rfl rfl hi.1 hi.2 hf) (by decide) ?_
 refine Zl ?_
 refine Zq (Zr ?_)
 refine Zm ?_
 refine VL.q (q_ln (s := v) Tryz.underlying29 rfl) (by decide) ?_
 refine Za ?_
 refine Zl ?_
 refine Zq (Zq (Zr ?_))
 refine Zm ?_
 refine VL.q (q_eql rfl rfl) (by decide) ?_
 refine Zl ?_
 refine VC.cond_dec rfl (fun h16 => absurd h16 (by omega)) (fun h16 => ?_)
 refine Zk ?_
 refine Zq (Zr ?_)
 refine Zm ?_
 refine VL.q (q_ln (s := s) Tryz.underlying29 rfl) (by decide) ?_
 refine Za ?_
 refine Zl ?_
 refine Zq (Zq (Zr ?_))
 refine Zm ?_
 refine Zm ?_
 refine VL.q (q_eql rfl rfl) (by decide) ?_
 refine Zl ?_
 refine VC.cond_dec rfl (fun h22 => ?_) (fun h22 => ?_)
 ·
  refine Zq (Zr ?_)
  refine Zm ?_
  refine Zm ?_
  refine VL.shut v 83 (fun _ _ _ _ => trivial) ?_
  refine VL.app2 (s := s) (r := v) Tryz.underlying29 Tryz.underlying29 gapp83 (by decide) rfl Fo.out (ap1 hb) (ap2 hb (by decide)) (by decide) (fun q hq => ?_)
  refine Za ?_
  refine Zl ?_
  have e1 : i.toNat = s.l.length := by omega
  exact VC.ret (fin1 (.inr rfl) rfl rfl q rfl (by rw [hq, e1, List.take_length, List.drop_length, List.append_nil]) (fun _ _ => trivial) EntO.out)
 have hin : i < (s.l.length : Int) := by omega
 have hne : s.l ≠ [] := fun h => by rw [h] at hin; simp at hin; omega
 have hkq : (s.l.length : Int) + (v.l.length : Int) - i = ((s.l.length + v.l.length - i.toNat : Nat) : Int) := by omega
 have hLn : (s.l.take i.toNat ++ v.l ++ s.l.drop i.toNat).length = s.l.length + v.l.length := by simp only [List.length_append, List.length_take, List.length_drop]; omega
 have hfl : (s.l.take i.toNat ++ v.l ++ s.l.drop i.toNat).flatMap Dat.enc = (s.l.take i.toNat).flatMap Dat.enc ++ v.l.flatMap Dat.enc ++ (s.l.drop i.toNat).flatMap Dat.enc := by rw [List.flatMap_append, List.flatMap_append]
 have lA : ((s.l.take i.toNat).flatMap Dat.enc).length = i.toNat * 6 := by rw [enc_len, List.length_take, hK, Nat.min_eq_left (by omega)]
 have lV : (v.l.flatMap Dat.enc).length = v.l.length * 6 := by rw [enc_len, hK]
 have lS : ((s.l.drop i.toNat).flatMap Dat.enc).length = (s.l.length - i.toNat) * 6 := by rw [enc_len, List.length_drop, hK]
 refine Zk ?_
 refine Zq (Zq (Zr ?_))
 refine Zm ?_
 refine Zm ?_
 refine VL.q (q_add rfl rfl ⟨by omega, by omega⟩) (by decide) ?_
 refine Zm ?_
 refine VL.q (q_capV (a0 := s.a) (L := s.l.length) (C := s.c) Tryz.underlying29 rfl) (by decide) ?_
 refine VL.q (q_gtr rfl rfl) (by decide) ?_
 refine Zl ?_
 refine VC.cond_dec rfl (fun h31 => ?_) (fun h31 => ?_)
 ·
  refine VC.shut s 83 (fun _ _ _ _ => trivial) ?_
  refine VC.shut v 83 (fun _ _ _ _ => trivial) ?_
  refine Zq (Zr ?_)
  refine VL.factM (φ := s.a = some ⟨s.b, s.o, none⟩) (fun h m => (InM.out (X := s.ok) h m).2.2.1 hne) fun hsa => ?_
  refine VL.factM (φ := v.a = some ⟨v.b, v.o, none⟩) (fun h m => (InM.out (X := v.ok) h m).2.2.1 hv) fun hva => ?_
  refine Zm ?_
  refine Zm ?_
  refine VL.q (q_toV (a0 := s.a) (L := s.l.length) (C := s.c) (K := 6) Tryz.underlying29 gsz83 rfl rfl hi.1 (by omega)) (by decide) ?_
  refine Zm ?_
  refine Zm ?_
  refine VL.q (q_add rfl rfl ⟨by omega, by omega⟩) (by decide) ?_
  refine Zm ?_
  refine VL.q (q_sub rfl rfl ⟨by omega, by omega⟩) (by decide) ?_
  refine VL.setv 39 rfl (congrArg (Value.int .i64) hkq) ?_
  refine VL.appZg (s := s) (L := i.toNat) (kq := s.l.length + v.l.length - i.toNat) Tryz.underlying29 Tryz.underlying3 gapp83 (by decide) rfl hne (by omega) (by omega) (by omega) (by omega) (by decide) (by decide) fun g cs cp hcl hcp hcm hct => ?_
  rw [hK] at hcl hct
  rw [show i.toNat + (s.l.length + v.l.length - i.toNat) = s.l.length + v.l.length by omega] at hcp ⊢
  have hfit : ((s.l.take i.toNat).flatMap Dat.enc).length + (v.l.flatMap Dat.enc).length + ((s.l.drop i.toNat).flatMap Dat.enc).length ≤ cs.length := by
    rw [lA, lV, lS, hcl, ← Nat.add_mul, ← Nat.add_mul]; exact Nat.mul_le_mul_right _ (by omega)
  have hic := ins_cells1 (V := v.l.flatMap Dat.enc) (S := (s.l.drop i.toNat).flatMap Dat.enc) (by rw [lA]; exact hct) hfit
  rw [← hfl, lA, lV, lS] at hic
  refine Za ?_
  refine Zl ?_
  refine Zq (Zr ?_)
  refine Zm ?_
  refine Zm ?_
  refine VL.q (q_fromV (b := g) (o := 0) (L := s.l.length + v.l.length) (C := cp) (K := 6) Tryz.underlying29 gsz83 rfl rfl hi.1 (by omega) hcp (by omega) rfl) (by decide) ?_
  refine Zm ?_
  refine VL.setv 44 rfl (show v.val = .slice (some ⟨v.b, v.o + 0 * Dat.sz IndexEntry, none⟩) v.l.length v.c by unfold Sv.val; rw [hva, Nat.zero_mul]; rfl) ?_
  refine VL.copyB (src := v.l.flatMap Dat.enc) Tryz.underlying29 gsz83 UpdB.out rfl (by rw [lV]; congr 1; exact (Nat.min_eq_left (by omega)).symm) (ok_src0 (r := v) (by decide) hv) (enc_one1 v.l) (by rw [lV, Nat.zero_add, hcl, ← Nat.add_mul]; exact Nat.mul_le_mul_right _ (by omega)) (by decide) ?_
  rw [Nat.zero_add, lV]
  refine Zl ?_
  refine Zq ?_
  refine VC.draw [(0, true), (1, true), (2, true), (3, true), (4, true), (5, true), (6, true), (7, true), (8, false)] mixed (by kernel_rfl) (by kernel_rfl) (by kernel_rfl) ?_
  refine VD.q rfl (q_move rfl) (by decide) ?_
  refine VD.q rfl (q_move rfl) (by decide) ?_
  refine VD.q rfl (q_move rfl) (by decide) ?_
  refine VD.q rfl (q_add rfl rfl ⟨by omega, by omega⟩) (by decide) ?_
  refine VD.q rfl (q_fromV (b := g) (o := 0) (L := s.l.length + v.l.length) (C := cp) (K := 6) Tryz.underlying29 gsz83 rfl rfl (by omega) (by omega) hcp (by omega) rfl) (by decide) ?_
  refine VD.q rfl (q_move rfl) (by decide) ?_
  refine VD.q rfl (q_move rfl) (by decide) ?_
  refine VD.q rfl (q_fromV (b := s.b) (o := s.o) (L := s.l.length) (C := s.c) (K := 6) Tryz.underlying29 gsz83 (show some s.val = _ by unfold Sv.val; rw [hsa]) rfl hi.1 (by omega) hf (by omega) rfl) (by decide) ?_
  refine VD.one rfl ?_
  rw [show (i + (v.l.length : Int)).toNat = i.toNat + v.l.length by omega]
  refine VL.copyB (src := (s.l.drop i.toNat).flatMap Dat.enc) Tryz.underlying29 gsz83 UpdB.out rfl (by rw [lS]; congr 1; exact (Nat.min_eq_left (by omega)).symm) (ok_srcK (r := s) (by decide) hne i.toNat) (enc_one1 _) (by rw [lS, Nat.zero_add, hic.1, hcl, ← Nat.add_mul]; exact Nat.mul_le_mul_right _ (by omega)) (by decide) ?_
  rw [Nat.zero_add, lS, Nat.add_mul]
  refine VL.back (D' := []) (by kernel_rfl) Pend.nil ?_
  refine VD.to (fun _ _ h => h) ?_
  refine Zq (Zr ?_)
  refine Zm ?_
  refine Za ?_
  refine Zl ?_
  have ho := fun F => own_blk (F := F) (e := 83) (b := g) (l' := s.l.take i.toNat ++ v.l ++ s.l.drop i.toNat) (hic.2.1.trans hcl) (by rw [enc_len] at hic; exact hic.2.2) hLn hcp hcm
  exact VC.ret (fin1 (.inr rfl) rfl rfl ⟨some ⟨g, 0, none⟩, cp, _⟩ (ho Ow.emp).1 rfl (fun _ _ => trivial) (ho _).2)
 refine Zk ?_
 refine Zq (Zr ?_)
 refine VL.open (s := s) (e := 83) Fo.out (by omega) fun b cs hsa hcl hct _ hcm => ?_
 rw [hK] at hcl hct
 have hctA : cs.take ((s.l.take i.toNat).flatMap Dat.enc).length = (s.l.take i.toNat).flatMap Dat.enc := by
   rw [lA]
   have : cs.take (i.toNat * 6) = (cs.take (s.l.length * 6)).take (i.toNat * 6) := by rw [List.take_take, Nat.min_eq_left (Nat.mul_le_mul_right _ (by omega))]
   rw [this, hct]
   exact flatMap_take s.l i.toNat
 have hfit : ((s.l.take i.toNat).flatMap Dat.enc).length + (v.l.flatMap Dat.enc).length + ((s.l.drop i.toNat).flatMap Dat.enc).length ≤ cs.length := by
   rw [lA, lV, lS, hcl, ← Nat.add_mul, ← Nat.add_mul]; exact Nat.mul_le_mul_right _ (by omega)
 have hic := ins_cells2 (V := v.l.flatMap Dat.enc) (S := (s.l.drop i.toNat).flatMap Dat.enc) hctA hfit
 rw [← hfl, lA, lV, lS] at hic
 refine Zm ?_
 refine Zm ?_
 refine Zm ?_
 refine VL.q (q_add rfl rfl ⟨by omega, by omega⟩) (by decide) ?_
 refine VL.q (q_toV (a0 := s.a) (L := s.l.length) (C := s.c) (K := 6) Tryz.underlying29 gsz83 rfl rfl (by omega) (by omega)) (by decide) ?_
 rw [show ((s.l.length : Int) + (v.l.length : Int)).toNat = s.l.length + v.l.length by omega, hsa]
 refine Za ?_
 refine Zl ?_
 refine Zq (Zq (Zr ?_))
 refine Zm ?_
 refine Zm ?_
 refine Zm ?_
 refine Zm ?_
 refine VL.q (q_add rfl rfl ⟨by omega, by omega⟩) (by decide) ?_
 refine VL.q (q_fromV (b := b) (o := 0) (L := s.l.length + v.l.length) (C := s.c) (K := 6) Tryz.underlying29 gsz83 rfl rfl (by omega) (by omega) (by omega) (by omega) rfl) (by decide) ?_
 refine VL.q (q_overlaps (tS := 29) (tR := 4) (s := v) (b := b) Tryz.func282 rfl rfl (by kernel_rfl) (by kernel_rfl) Tryz.underlying29 gsz83 rfl UpdB.out (fun h => by rw [h] at hcl; simp at hcl; omega) hv) (by decide) ?_
 refine VL.q (q_not rfl) (by decide) ?_
 refine Zl ?_
 refine VC.cond_t rfl ?_
 refine VC.shut v 83 (fun _ _ _ _ => trivial) ?_
 refine Zq ?_
 refine VC.draw [(0, true), (1, true), (2, true), (3, true), (4, true), (5, true), (6, true), (7, true), (8, false)] mixed (by kernel_rfl) (by kernel_rfl) (by kernel_rfl) ?_
 refine VD.q rfl (q_move rfl) (by decide) ?_
 refine VD.q rfl (q_move rfl) (by decide) ?_
 refine VD.q rfl (q_move rfl) (by decide) ?_
 refine VD.q rfl (q_add rfl rfl ⟨by omega, by omega⟩) (by decide) ?_
 refine VD.q rfl (q_fromV (b := b) (o := 0) (L := s.l.length + v.l.length) (C := s.c) (K := 6) Tryz.underlying29 gsz83 rfl rfl (by omega) (by omega) (by omega) (by omega) rfl) (by decide) ?_
 refine VD.q rfl (q_move rfl) (by decide) ?_
 refine VD.q rfl (q_move rfl) (by decide) ?_
 refine VD.q rfl (q_fromV (b := b) (o := 0) (L := s.l.length + v.l.length) (C := s.c) (K := 6) Tryz.underlying29 gsz83 rfl rfl hi.1 (by omega) (by omega) (by omega) rfl) (by decide) ?_
 refine VD.one rfl ?_
 rw [show (i + (v.l.length : Int)).toNat = i.toNat + v.l.length by omega, Nat.zero_add, Nat.zero_add]
 refine VL.copyB (src := (s.l.drop i.toNat).flatMap Dat.enc) Tryz.underlying29 gsz83 UpdB.out rfl (by rw [lS]; congr 1; simp only [Nat.min_def]; split <;> omega) (blk_src (n := s.l.length) hct rfl) (enc_one1 _) (by rw [lS, hcl, ← Nat.add_mul]; exact Nat.mul_le_mul_right _ (by omega)) (by decide) ?_
 rw [lS, Nat.add_mul]
 refine VL.back (D' := []) (by kernel_rfl) Pend.nil ?_
 refine VD.to (fun _ _ h => h) ?_
 refine Zq (Zr ?_)
 refine Zm ?_
 refine Zm ?_
 refine VL.q (q_fromV (b := b) (o := 0) (L := s.l.length + v.l.length) (C := s.c) (K := 6) Tryz.underlying29 gsz83 rfl rfl hi.1 (by omega) (by omega) (by omega) rfl) (by decide) ?_
 refine Zm ?_
 refine VL.factM (φ := v.a = some ⟨v.b, v.o, none⟩) (fun h m => (InM.out (X := v.ok) h m).2.2.1 hv) fun hva => ?_
 refine VL.setv 81 rfl (show v.val = .slice (some ⟨v.b, v.o + 0 * Dat.sz IndexEntry, none⟩) v.l.length v.c by unfold Sv.val; rw [hva, Nat.zero_mul]; rfl) ?_
 rw [Nat.zero_add]
 refine VL.copyB (src := v.l.flatMap Dat.enc) Tryz.underlying29 gsz83 UpdB.out rfl (by rw [lV]; congr 1; exact (Nat.min_eq_left (by omega)).symm) (ok_src0 (r := v) (by decide) hv) (enc_one1 v.l) (by rw [lV, hic.1, hcl, ← Nat.add_mul]; exact Nat.mul_le_mul_right _ (by omega)) (by decide) ?_
 rw [lV]
 refine Zl ?_
 refine Zq (Zr ?_)
 refine Zm ?_
 refine Za ?_
 refine Zl ?_
 have ho := fun F => own_blk (F := F) (e := 83) (b := b) (l' := s.l.take i.toNat ++ v.l ++ s.l.drop i.toNat) (hic.2.1.trans hcl) (by rw [enc_len] at hic; exact hic.2.2) hLn (by omega) hcm
 exact VC.ret (fin1 (.inr rfl) rfl rfl ⟨some ⟨b, 0, none⟩, s.c, _⟩ (ho Ow.emp).1 rfl (fun _ _ => trivial) (ho _).2)
theorem index_Put_ct (l_0 : Sv IndexEntry) (e_1 : IndexEntry) {r : List IndexEntry} (hS : Sh.index_Put l_0.l e_1 = some r) :
 Ct Tryz.prog 142 [l_0.val, .agg #[str e_1.path, i64 e_1.stage, i64 e_1.mode, str e_1.data, i64 e_1.time, i64 e_1.size]] l_0.ok (Ow.emp) (X := Sv IndexEntry) (fun x => x.val) (fun x => r = x.l) (fun x => x.ok) (fun x => Ow.emp) := by
 refine Ct.of Tryz.func142 rfl (by kernel_rfl) Tryz.ntmps142 (by simp) fun c => ?_
 unfold Sh.index_Put at hS
 refine Zq (Zr ?_)
 refine VL.box (cs := [str e_1.path, i64 e_1.stage, i64 e_1.mode, str e_1.data, i64 e_1.time, i64 e_1.size]) rfl rfl (by decide) fun b3_1 => ?_
 refine Za ?_
 refine Zl ?_
 refine Zq (Zr ?_)
 refine Zm ?_
 obtain ⟨y8_2, ey8_2, hS⟩ := bd_s hS
 refine VL.callO (slices_Clone_index_Entry_index_Entry_ct l_0 ey8_2) rfl (by decide) ?_
 rintro q8_2_0 rfl
 try dsimp only
 refine VL.q (q_mkfn rfl) (by decide) ?_
 obtain ⟨y10_3, ey10_3, hS⟩ := bd_s hS
 refine VL.callO (slices_DeleteFunc_index_Entry_index_Entry_v2_ct q8_2_0 b3_1 e_1 ey10_3) rfl (by decide) ?_
 rintro q10_3_0 rfl
 try dsimp only
 refine Za ?_
 refine Zl ?_
 refine Zq (Zr ?_)
 refine Za ?_
 refine Zl ?_
 refine VC.cutJ (S := Int) (fun (i6_4 : Int) => i6_4) (fun (i6_4 : Int) => [(3, ptr b3_1 0), (5, q10_3_0.val), (6, i64 i6_4)]) (fun (i6_4 : Int) => Mo.tt) (fun (i6_4 : Int) => Ow.star (Blk b3_1 [str e_1.path, i64 e_1.stage, i64 e_1.mode, str e_1.data, i64 e_1.time, i64 e_1.size] 83) (Ow.star (Sv.own q10_3_0 83) (Ow.emp))) hS ?_ ?_
 ·
  clear hS
  intro k5 hS
  refine Zb ?_
  refine VC.iter (S := Int) (fun (i6_6 : Int) => i6_6) (fun (i6_6 : Int) => [(3, ptr b3_1 0), (5, q10_3_0.val), (6, i64 i6_6)]) (fun (i6_6 : Int) => Mo.tt) (fun (i6_6 : Int) => Ow.star (Blk b3_1 [str e_1.path, i64 e_1.stage, i64 e_1.mode, str e_1.data, i64 e_1.time, i64 e_1.size] 83) (Ow.star (Sv.own q10_3_0 83) (Ow.emp))) 0 [3, 5, 6] hS rfl ?_
  clear hS
  rintro i6_6 m1 y1 hS hK1
  show VC _ _ _ _ _ [(3, ptr b3_1 0), (5, q10_3_0.val), (6, i64 i6_6)] (Mo.and Mo.tt _) (Ow.star (Blk b3_1 [str e_1.path, i64 e_1.stage, i64 e_1.mode, str e_1.data, i64 e_1.time, i64 e_1.size] 83) (Ow.star (Sv.own q10_3_0 83) (Ow.emp)))
  refine Zq (Zq ?_)
  refine VC.draw ((List.range 13).map fun k => (k, true)) mixed (by kernel_rfl) (by kernel_rfl) (by kernel_rfl) ?_
  refine VD.q rfl (q_move rfl) (by decide) ?_
  refine VD.q rfl (q_move rfl) (by decide) ?_
  refine VD.q rfl (q_ln (s := q10_3_0) Tryz.underlying29 rfl) (by decide) ?_
  refine VD.q rfl (q_lss rfl rfl) (by decide) ?_
  refine VD.q rfl (q_move rfl) (by decide) ?_
  refine VD.split_dec 15 rfl (fun h15 => ?_) (fun h15 => ?_)
  ·
   replace hS := it_t h15 hS
   refine VD.gy rfl rfl rfl (q_move rfl) (by decide) ?_
   refine VD.gy rfl rfl rfl (q_move rfl) (by decide) ?_
   obtain ⟨z18_7, nz18_7, hz18_7, hS⟩ := at_s hS
   refine VD.gy rfl rfl rfl (q_ixo (s := q10_3_0) Tryz.underlying29 gsz83 rfl rfl nz18_7 (lt_of_get nz18_7 hz18_7)) (by decide) ?_
   refine VD.gy rfl rfl rfl (q_elso (s := q10_3_0) gagg83 rfl rfl hz18_7) (by decide) ?_
   refine VD.gy rfl rfl rfl (q_fes gagg83 rfl rfl) (by decide) ?_
   obtain ⟨y21_8, ey21_8, hS⟩ := bd_s hS
   refine VD.gy rfl rfl rfl (q_call (index_compare_ct z18_7 e_1 ey21_8) rfl (fun _ _ => rfl)) (by decide) ?_
   refine VD.gy rfl rfl rfl (q_lss rfl rfl) (by decide) ?_
   refine VD.q rfl (q_pick_t rfl rfl) (by decide) ?_
   refine VD.to (fun _ _ h => h) ?_
   refine VC.keep [3, 5, 6, 23] rfl ?_
   refine VC.cond_dec rfl (fun h23 => ?_) (fun h23 => ?_)
   ·
    replace hS := it_t h23 hS
    refine Zk ?_
    refine Zb (Zr ?_)
    refine Zm ?_
    obtain ⟨b25, hS⟩ := gd_s hS
    refine VL.q (q_add rfl rfl b25) (by decide) ?_
    refine Za ?_
    refine VL.rnd (i6_6 + 1) [3, 5, 6] (fun _ _ h => h) (go2 hS hK1) rfl
   replace hS := it_f h23 hS
   replace hS := up2 hS hK1
   refine VC.exit_mt i6_6 [3, 5, 6] (fun _ _ h => h) hS rfl
  replace hS := it_f h15 hS
  refine Zd ?_
  refine Zd ?_
  refine Zd ?_
  refine Zd ?_
  refine Zd ?_
  refine Zd ?_
  refine Zd ?_
  refine VD.q rfl (q_pick_f rfl rfl) (by decide) ?_
  refine VD.to (fun _ _ h => h) ?_
  refine VC.keep [3, 5, 6, 23] rfl ?_
  refine VC.cond_f rfl ?_
  replace hS := up2 hS hK1
  refine VC.exit_mt i6_6 [3, 5, 6] (fun _ _ h => h) hS rfl
 clear hS
 rintro i6_4 hS
 show VC _ _ _ _ _ [(3, ptr b3_1 0), (5, q10_3_0.val), (6, i64 i6_4)] (Mo.and Mo.tt _) (Ow.star (Blk b3_1 [str e_1.path, i64 e_1.stage, i64 e_1.mode, str e_1.data, i64 e_1.time, i64 e_1.size] 83) (Ow.star (Sv.own q10_3_0 83) (Ow.emp)))
 refine Zq (Zr ?_)
 refine Zm ?_
 refine Zm ?_
 refine VL.q (q_fes gagg83 rfl rfl) (by decide) ?_
 refine VL.litO (α := IndexEntry) (xs := [.tmp 28]) (vs := [.agg #[str e_1.path, i64 e_1.stage, i64 e_1.mode, str e_1.data, i64 e_1.time, i64 e_1.size]]) [⟨e_1.path, e_1.stage, e_1.mode, e_1.data, e_1.time, e_1.size⟩] Tryz.underlying29 glit83 (by decide) rfl rfl rfl rfl (by decide) (by decide) (fun s29_9 hs29_9 => ?_) (by decide)
 replace hS := lt_to hs29_9 hS
 obtain ⟨b30, hS⟩ := gd_s hS
 refine VL.callO (insert83_ct q10_3_0 s29_9 i6_4 b30.1 b30.2.1 b30.2.2) rfl (by decide) ?_
 intro s30_11 hs30_11
 replace hS := lt_to hs30_11 hS
 refine VL.shut s30_11 83 (fun _ _ _ _ => trivial) ?_
 obtain ⟨y31_13, ey31_13, hS⟩ := bd_s hS
 refine VL.callF (slices_Clip_index_Entry_index_Entry_ct s30_11 ey31_13) rfl (by decide) ?_
 rintro q31_13_0 rfl
 try dsimp only
 refine Za ?_
 refine Zl ?_
 cases hS
 exact VC.ret (fin1 (.inr rfl) rfl rfl q31_13_0 rfl rfl (by (try dsimp only); exact InM.out) (fun _ _ => trivial))
theorem plan_lay_ct (r_0 : TmergeResult) (ix_1 : Sv IndexEntry) (p_2 : Str) {r : List IndexEntry} (hS : Sh.plan_lay r_0.pl ix_1.l p_2 = some r) :
 Ct Tryz.prog 60 [.agg #[r_0.files.val, r_0.entries.val, r_0.conflicts.val], ix_1.val, str p_2] (r_0.files.ok.and (r_0.entries.ok.and (r_0.conflicts.ok.and ix_1.ok))) (Ow.emp) (X := Sv IndexEntry) (fun x => x.val) (fun x => r = x.l) (fun x => x.ok) (fun x => Ow.emp) := by
 refine Ct.of Tryz.func60 rfl (by kernel_rfl) Tryz.ntmps60 (by simp) fun c => ?_
 unfold Sh.plan_lay at hS
 refine Zq (Zr ?_)
 refine VL.box (cs := [r_0.files.val, r_0.entries.val, r_0.conflicts.val]) rfl rfl (by decide) fun b3_1 => ?_
 refine Za ?_
 refine Zl ?_
 refine Zq (Zq (Zr ?_))
 refine VL.q (q_field gfa34_2 rfl) (by decide) ?_
 refine VL.q (q_fe gone32 rfl rfl) (by decide) ?_
 refine Zm ?_
 obtain ⟨y13_2, ey13_2, hS⟩ := bd_s hS
 refine VL.q (q_call (slices_Contains_string_string_ct r_0.conflicts p_2 ey13_2) rfl (fun _ _ => rfl)) (by decide) ?_
 refine Zl ?_
 refine VC.cond rfl (fun h13 => ?_) (fun h13 => ?_)
 ·
  replace hS := it_t h13 hS
  refine Zq (Zq (Zr ?_))
  refine VL.q (q_field gfa34_1 rfl) (by decide) ?_
  refine VL.q (q_fe gone29 rfl rfl) (by decide) ?_
  refine VL.q (q_ln (s := r_0.entries) Tryz.underlying29 rfl) (by decide) ?_
  refine Zm ?_
  refine Zl ?_
  refine VC.keep [1, 2, 15, 16, 17] rfl ?_
  refine Zb ?_
  refine VC.iter (S := Sv IndexEntry × Int) (fun sg => (sg.1.l, sg.2)) (fun sg => [(1, sg.1.val), (2, str p_2), (15, r_0.entries.val), (16, i64 (r_0.entries.l.length : Int)), (17, i64 sg.2)]) (fun sg => sg.1.ok) (fun sg => Ow.star (Blk b3_1 [r_0.files.val, r_0.entries.val, r_0.conflicts.val] 34) (Ow.emp)) (ix_1, 0) [1, 2, 15, 16, 17] hS rfl ?_
  clear hS
  rintro ⟨ix1_3, x17_4⟩ m1 y1 hS hK1
  show VC _ _ _ _ _ [(1, ix1_3.val), (2, str p_2), (15, r_0.entries.val), (16, i64 (r_0.entries.l.length : Int)), (17, i64 x17_4)] (Mo.and ix1_3.ok _) (Ow.star (Blk b3_1 [r_0.files.val, r_0.entries.val, r_0.conflicts.val] 34) (Ow.emp))
  refine Zq (Zr ?_)
  refine VL.q (q_lss rfl rfl) (by decide) ?_
  refine Zl ?_
  refine Zq ?_
  refine VC.cond_dec rfl (fun h18 => ?_) (fun h18 => ?_)
  ·
   replace hS := it_t h18 hS
   refine Zk ?_
   refine Zq (Zb (Zq (Zr ?_)))
   obtain ⟨z19_5, nz19_5, hz19_5, hS⟩ := at_s hS
   refine VL.q (q_ixm (s := r_0.entries) Tryz.underlying29 gsz83 rfl rfl nz19_5 (lt_of_get nz19_5 hz19_5)) (by decide) ?_
   refine VL.q (q_els (s := r_0.entries) gagg83 rfl rfl hz19_5) (by decide) ?_
   refine VL.alloc (cs := [str [], i64 0, i64 0, str [], i64 0, i64 0]) (by kernel_rfl) (by decide) fun b8_6 => ?_
   refine VL.store (vc := [str z19_5.path, i64 z19_5.stage, i64 z19_5.mode, str z19_5.data, i64 z19_5.time, i64 z19_5.size]) (cs' := [str z19_5.path, i64 z19_5.stage, i64 z19_5.mode, str z19_5.data, i64 z19_5.time, i64 z19_5.size]) rfl rfl rfl gsz83 rfl rfl (Nat.le_of_ble_eq_true rfl) rfl ?_
   refine Zl ?_
   refine Zq (Zr ?_)
   refine VL.q (q_field gfa83_0 rfl) (by decide) ?_
   refine VL.q (q_fe gone9 rfl rfl) (by decide) ?_
   refine Zm ?_
   refine Zs ?_
   refine Zl ?_
   refine VC.cond_dec rfl (fun h24 => ?_) (fun h24 => ?_)
   ·
    replace hS := it_t h24 hS
    refine Zr ?_
    refine Zm ?_
    refine VL.q (q_fes gagg83 rfl rfl) (by decide) ?_
    obtain ⟨y27_7, ey27_7, hS⟩ := bd_s hS
    refine VL.callF (index_Put_ct ix1_3 z19_5 ey27_7) rfl (by decide) ?_
    rintro q27_7_0 rfl
    try dsimp only
    refine Za ?_
    refine Zl ?_
    refine VC.keep [1, 2, 15, 16, 17] rfl ?_
    refine Zr ?_
    obtain ⟨b28, hS⟩ := gd_s hS
    refine VL.q (q_add rfl rfl b28) (by decide) ?_
    refine Zm ?_
    refine VL.rnd (q27_7_0, (x17_4 + 1)) [1, 2, 15, 16, 17] (fun _ _ h => h) (go2 hS hK1) rfl
   replace hS := it_f h24 hS
   refine Zk ?_
   refine VC.keep [1, 2, 15, 16, 17] rfl ?_
   refine Zr ?_
   obtain ⟨b28, hS⟩ := gd_s hS
   refine VL.q (q_add rfl rfl b28) (by decide) ?_
   refine Zm ?_
   refine VL.rnd (ix1_3, (x17_4 + 1)) [1, 2, 15, 16, 17] (fun _ _ h => h) (go2 hS hK1) rfl
  replace hS := it_f h18 hS
  replace hS := up2 hS hK1
  refine Zx ?_
  refine Zq (Zr ?_)
  refine Zm ?_
  refine Za ?_
  refine Zl ?_
  cases hS
  exact VC.ret (fin1 (.inr rfl) rfl rfl ix1_3 rfl rfl (by (try dsimp only); exact InM.out) (fun _ _ => trivial))
 replace hS := it_b h13 hS
 refine Zk ?_
 refine Zq (Zr ?_)
 refine VL.q (q_field gfa34_0 rfl) (by decide) ?_
 refine VL.q (q_fe gone23 rfl rfl) (by decide) ?_
 refine Zm ?_
 obtain ⟨y33_8, ey33_8, hS⟩ := bd_s hS
 refine VL.q (q_call (plan_of_ct r_0.files p_2 ey33_8) rfl (fun _ _ => rfl)) (by decide) ?_
 refine VL.alloc (cs := [str [], i64 0, str [], .bool false]) (by kernel_rfl) (by decide) fun b9_9 => ?_
 refine VL.store (vc := [str y33_8.file_path, i64 y33_8.file_mode, str y33_8.file_data, .bool y33_8.is]) (cs' := [str y33_8.file_path, i64 y33_8.file_mode, str y33_8.file_data, .bool y33_8.is]) rfl rfl rfl gsz116 rfl rfl (Nat.le_of_ble_eq_true rfl) rfl ?_
 refine Zl ?_
 refine VC.keep [1, 2, 9] rfl ?_
 refine Zq (Zq (Zr ?_))
 refine VL.q (q_field gfa116_1 rfl) (by decide) ?_
 refine VL.q (q_fe gone4 rfl rfl) (by decide) ?_
 refine VL.q (q_not rfl) (by decide) ?_
 refine Zl ?_
 refine VC.cond rfl (fun h36 => ?_) (fun h36 => ?_)
 ·
  replace hS := it_t h36 hS
  refine Zq (Zr ?_)
  refine Zm ?_
  refine Za ?_
  refine Zl ?_
  cases hS
  exact VC.ret (fin1 (.inr rfl) rfl rfl ix_1 rfl rfl (by (try dsimp only); exact InM.out) (fun _ _ => trivial))
 replace hS := it_b h36 hS
 refine Zk ?_
 refine Zq (Zr ?_)
 refine Zm ?_
 refine Zm ?_
 refine VL.q (q_field gfa116_0 rfl) (by decide) ?_
 refine VL.q (q_field gfa50_1 rfl) (by decide) ?_
 refine VL.q (q_fe gone3 rfl rfl) (by decide) ?_
 refine VL.q (q_field gfa116_0 rfl) (by decide) ?_
 refine VL.q (q_field gfa50_2 rfl) (by decide) ?_
 refine VL.q (q_fe gone9 rfl rfl) (by decide) ?_
 refine VL.q (q_build (vs := [(0, str p_2), (2, i64 y33_8.file_mode), (3, str y33_8.file_data)]) (cs := #[str p_2, i64 0, i64 y33_8.file_mode, str y33_8.file_data, i64 0, i64 0]) rfl (by kernel_rfl)) (by decide) ?_
 obtain ⟨y47_10, ey47_10, hS⟩ := bd_s hS
 refine VL.callF (index_Put_ct ix_1 (⟨p_2, 0, y33_8.file_mode, y33_8.file_data, 0, 0⟩ : IndexEntry) ey47_10) rfl (by decide) ?_
 rintro q47_10_0 rfl
 try dsimp only
 refine Za ?_
 refine Zl ?_
 refine VC.keep [6] rfl ?_
 cases hS
 exact VC.ret (fin1 (.inr rfl) rfl rfl q47_10_0 rfl rfl (by (try dsimp only); exact InM.out) (fun _ _ => trivial))
end Go.Proofs.YtpmhinamcndmeaaGreatDoor
end
