/- Part of the proofs of: The steps that bring what one commit has, and another not, are those of the document and can be done, for any graph and any two commits. -/
import Derived.ProofKit
import Derived.OpenShut
import Derived.LaidMore
import Derived.Lay
import Derived.SevenTiedAt
import Derived.Stop.Joined
import Derived.Test.YtnkoilkmnpmlmaaDoorTC
set_option linter.unusedVariables false
set_option linter.unusedSimpArgs false
set_option linter.unusedSectionVars false
section
/- Plain laws on graphs: who comes from whom. No program in sight. -/
namespace Go.S
open Go
/-- a graph that may be: parents are elder, two at most -/
def Gok (g : List (List Int)) : Prop := ∀ (i : Nat) l, g[i]? = some l → l.length ≤ 2 ∧ ∀ p ∈ l, 1 ≤ p ∧ p ≤ i
inductive Path (g : List (List Int)) : Int → Int → Prop
  | refl {x : Int} (h1 : 1 ≤ x) (h2 : x ≤ g.length) : Path g x x
  | step {x p y : Int} {l : List Int} (h1 : 1 ≤ x) (h : g[(x - 1).toNat]? = some l) (hp : p ∈ l) (t : Path g p y) : Path g x y
/-- it is one of some, or they come from it -/
def Re (g : List (List Int)) (c : List Int) (i : Int) : Prop := ∃ x ∈ c, Path g x i
theorem get_lt {α : Type} {l : List α} {i : Nat} {x : α} (h : l[i]? = some x) : i < l.length := (List.getElem?_eq_some_iff.1 h).1
theorem Path.snoc {g : List (List Int)} (hg : Gok g) {x y p : Int} {l : List Int} (h : Path g x y) (hl : g[(y - 1).toNat]? = some l) (hp : p ∈ l) : Path g x p := by
  induction h with
  | refl h1 h2 =>
    have := (hg _ _ hl).2 p hp
    have := get_lt hl
    exact .step h1 hl hp (.refl (by omega) (by omega))
  | step h1 h hp' t ih => exact .step h1 h hp' (ih hl)
theorem Path.pos {g : List (List Int)} {x y : Int} (h : Path g x y) : 1 ≤ y ∧ y ≤ g.length := by
  induction h with
  | refl h1 h2 => exact ⟨h1, h2⟩
  | step h1 h hp t ih => exact ih
theorem Path.closed {g : List (List Int)} {S : Int → Prop} (hS : ∀ i l, 1 ≤ i → S i → g[(i - 1).toNat]? = some l → ∀ p ∈ l, S p) {x y : Int} (h : Path g x y) (hx : S x) : S y := by
  induction h with
  | refl h1 h2 => exact hx
  | step h1 h hp t ih => exact ih (hS _ _ h1 hx h _ hp)
theorem Path.start {g : List (List Int)} {x y : Int} (h : Path g x y) : 1 ≤ x ∧ x ≤ g.length := by
  cases h with
  | refl h1 h2 => exact ⟨h1, h2⟩
  | step h1 h hp t => have := get_lt h; exact ⟨h1, by omega⟩
noncomputable instance (g : List (List Int)) (c : List Int) (i : Int) : Decidable (Re g c i) := Classical.propDecidable _
/-- which commits some come from, themselves too -/
noncomputable def mk (g : List (List Int)) (c : List Int) : List Bool := (List.range g.length).map fun (i : Nat) => decide (Re g c ((i : Int) + 1))
theorem mk_length (g : List (List Int)) (c : List Int) : (mk g c).length = g.length := by simp [mk]
theorem mk_get {g : List (List Int)} {c : List Int} {i : Nat} (h : i < g.length) : (mk g c)[i]? = some (decide (Re g c ((i : Int) + 1))) := by simp [mk, h]
/-- marks that are just those -/
theorem mk_eq {g : List (List Int)} {c : List Int} {m : List Bool} (hl : m.length = g.length) (h1 : ∀ i : Nat, m[i]? = some true → Re g c ((i : Int) + 1)) (h2 : ∀ x ∈ c, 1 ≤ x → x ≤ g.length → m[(x - 1).toNat]? = some true)
    (h3 : ∀ (i : Nat) l, m[i]? = some true → g[i]? = some l → ∀ p ∈ l, m[(p - 1).toNat]? = some true) : m = mk g c := by
  apply List.ext_getElem?
  intro i
  by_cases hi : i < g.length
  · rw [mk_get hi]
    obtain ⟨b, hb⟩ : ∃ b, m[i]? = some b := ⟨_, List.getElem?_eq_getElem (by omega)⟩
    rw [hb]
    congr 1
    cases b with
    | true => exact (decide_eq_true (h1 i hb)).symm
    | false =>
      refine (decide_eq_false fun ⟨x, hx, hp⟩ => ?_).symm
      have hs := hp.start
      have := hp.closed (S := fun j => m[(j - 1).toNat]? = some true) (fun i l hi1 hm hl p hp => h3 _ l hm hl p hp) (h2 x hx hs.1 hs.2)
      simp only [show ((i : Int) + 1 - 1).toNat = i by omega, hb] at this
      cases this
  · rw [List.getElem?_eq_none (by omega), List.getElem?_eq_none (by rw [mk_length]; omega)]
theorem at_last {α : Type} (l : List α) (z : α) : (l ++ [z])[(((l ++ [z]).length : Int) - 1).toNat]? = some z := by
  rw [show ((((l ++ [z]).length : Int) - 1).toNat) = l.length by simp]
  simp
theorem take_last {α : Type} (l : List α) (z : α) : (l ++ [z]).take (((l ++ [z]).length : Int) - 1).toNat = l := by
  rw [show ((((l ++ [z]).length : Int) - 1).toNat) = l.length by simp]
  simp
theorem set_get_true {l : List Bool} {i j : Nat} (h : l[j]? = some true) : (l.set i true)[j]? = some true := by
  rw [List.getElem?_set]
  split
  · next e => subst e; rw [if_pos (get_lt h)]
  · exact h
theorem count_set_true {l : List Bool} {i : Nat} (h : l[i]? = some false) : (l.set i true).count false + 1 = l.count false := by
  have hi := get_lt h
  rw [List.count_set hi]
  have h1 : l[i] = false := by
    rw [List.getElem?_eq_getElem hi] at h; exact Option.some.inj h
  have h2 : 0 < l.count false := List.count_pos_iff.2 (h1 ▸ List.getElem_mem hi)
  simp [h1]; omega
theorem clone_int {l : List Int} (h : l.length ≤ 4294967296) : Sh.slices_Clone_int_int l = some l := by
  unfold Sh.slices_Clone_int_int
  simp [lt, gd, h]
theorem seen_ok {g : List (List Int)} {c : List Int} (hg : Gok g) (hn : g.length ≤ 1024) (hc : c.length ≤ 1000000) : Sh.graph_Graph_seen g c = some (false :: mk g c) := by
  apply Ok.eq
  unfold Sh.graph_Graph_seen
  rw [clone_int (by omega)]
  simp only [ok_gd, ok_lt, Option.bind_some]
  refine ⟨⟨by omega, by omega⟩, ⟨by omega, by omega⟩, ?_⟩
  refine ok_iter (I := fun t => t.1.length = g.length + 1 ∧ t.1[0]? = some false ∧ (∀ i : Nat, t.1[i]? = some true → Re g c i) ∧ (∀ w ∈ t.2, 1 ≤ w → w ≤ g.length → Re g c w) ∧ (∀ x ∈ c, 1 ≤ x → x ≤ g.length → x ∈ t.2 ∨ t.1[x.toNat]? = some true) ∧
      (∀ (i : Nat) l, t.1[i + 1]? = some true → g[i]? = some l → ∀ p ∈ l, p ∈ t.2 ∨ t.1[p.toNat]? = some true) ∧ t.2.length + 3 * t.1.count false ≤ c.length + 3 * (g.length + 1))
    (μ := fun t => t.2.length + 3 * t.1.count false) ?_ ?_
  · rintro ⟨out, wait⟩ ⟨i1, i2, i3, i4, i5, i6, i7⟩
    dsimp only at i1 i2 i3 i4 i5 i6 i7 ⊢
    simp only [ok_if, ok_up, ok_bd, ok_gd, ok_lt, ok_go, ok_some, ok_at]
    refine ⟨fun h => ?_, fun h => ?_⟩
    · obtain ⟨w, z, rfl⟩ : ∃ w z, wait = w ++ [z] := by
        rcases List.eq_nil_or_concat wait with e | ⟨w, z, e⟩
        · subst e; simp at h
        · exact ⟨w, z, by simpa using e⟩
      have hlen : (w ++ [z]).length = w.length + 1 := by simp
      have hcnt : out.count false ≤ g.length + 1 := i1 ▸ List.count_le_length
      rw [at_last, take_last]
      refine ⟨⟨by omega, by omega⟩, by omega, z, rfl, ⟨by omega, by omega⟩, ⟨by omega, by omega⟩, fun hz => ?_, fun hz => ⟨fun hz2 => ?_, fun hz2 => ?_⟩⟩
      · refine ⟨⟨i1, i2, i3, fun x hx => i4 x (by simp [hx]), fun x hx h1 h2 => ?_, fun i l h1 h2 p hp => ?_, by omega⟩, by omega⟩
        · rcases i5 x hx h1 h2 with q | q
          · rcases List.mem_append.1 q with q | q
            · exact .inl q
            · cases List.mem_singleton.1 q; omega
          · exact .inr q
        · rcases i6 i l h1 h2 p hp with q | q
          · rcases List.mem_append.1 q with q | q
            · exact .inl q
            · cases List.mem_singleton.1 q; have := ((hg _ _ h2).2 _ hp); omega
          · exact .inr q
      · refine ⟨⟨i1, i2, i3, fun x hx => i4 x (by simp [hx]), fun x hx h1 h2 => ?_, fun i l h1 h2 p hp => ?_, by omega⟩, by omega⟩
        · rcases i5 x hx h1 h2 with q | q
          · rcases List.mem_append.1 q with q | q
            · exact .inl q
            · cases List.mem_singleton.1 q; omega
          · exact .inr q
        · rcases i6 i l h1 h2 p hp with q | q
          · rcases List.mem_append.1 q with q | q
            · exact .inl q
            · cases List.mem_singleton.1 q; have := ((hg _ _ h2).2 _ hp); have := get_lt h2; omega
          · exact .inr q
      · obtain ⟨b, hb⟩ := at_get (l := out) (i := z) (by omega) (by omega)
        have hzR : Re g c z := i4 z (by simp) (by omega) (by omega)
        refine ⟨by omega, b, hb, fun hbt => ?_, fun hbf => ?_⟩
        · subst hbt
          refine ⟨⟨i1, i2, i3, fun x hx => i4 x (by simp [hx]), fun x hx h1 h2 => ?_, fun i l h1 h2 p hp => ?_, by omega⟩, by omega⟩
          · rcases i5 x hx h1 h2 with q | q
            · rcases List.mem_append.1 q with q | q
              · exact .inl q
              · cases List.mem_singleton.1 q; exact .inr hb
            · exact .inr q
          · rcases i6 i l h1 h2 p hp with q | q
            · rcases List.mem_append.1 q with q | q
              · exact .inl q
              · cases List.mem_singleton.1 q; exact .inr hb
            · exact .inr q
        · have hbf' : b = false := by simpa using hbf
          subst hbf'
          obtain ⟨l, hl⟩ := at_get (l := g) (i := z - 1) (by omega) (by omega)
          have hl2 := hg _ _ hl
          have hcs := count_set_true hb
          have hself : (out.set z.toNat true)[z.toNat]? = some true := by rw [List.getElem?_set, if_pos rfl, if_pos (get_lt hb)]
          refine ⟨by omega, false, hb, ⟨by omega, by omega⟩, by omega, l, hl, by omega, ⟨by simp [i1], ?_, fun i hi => ?_, fun x hx h1 h2 => ?_, fun x hx h1 h2 => ?_, fun i l' h1 h2 p hp => ?_, ?_⟩, ?_⟩
          · rw [List.getElem?_set, if_neg (by omega)]; exact i2
          · rw [List.getElem?_set] at hi
            split at hi
            · next e => rw [← e, show ((z.toNat : Nat) : Int) = z by omega]; exact hzR
            · exact i3 i hi
          · rcases List.mem_append.1 hx with q | q
            · exact i4 x (by simp [q]) h1 h2
            · obtain ⟨y, hy, hp⟩ := hzR
              exact ⟨y, hy, hp.snoc hg hl q⟩
          · rcases i5 x hx h1 h2 with q | q
            · rcases List.mem_append.1 q with q | q
              · exact .inl (List.mem_append_left _ q)
              · cases List.mem_singleton.1 q; exact .inr hself
            · exact .inr (set_get_true q)
          · rw [List.getElem?_set] at h1
            split at h1
            · next e =>
              have : i = (z - 1).toNat := by omega
              subst this
              rw [hl] at h2; cases h2
              exact .inl (List.mem_append_right _ hp)
            · rcases i6 i l' h1 h2 p hp with q | q
              · rcases List.mem_append.1 q with q | q
                · exact .inl (List.mem_append_left _ q)
                · cases List.mem_singleton.1 q; exact .inr hself
              · exact .inr (set_get_true q)
          · rw [List.length_append]; omega
          · rw [List.length_append]; omega
    · have hw : wait = [] := List.length_eq_zero_iff.1 (by omega)
      subst hw
      match out, i2 with
      | b :: m, i2 =>
        simp at i2
        subst i2
        congr 1
        refine mk_eq (by simpa using i1) (fun i hi => by have := i3 (i + 1) (by simpa using hi); simpa using this) (fun x hx h1 h2 => ?_) (fun i l hi hl p hp => ?_)
        · rcases i5 x hx h1 h2 with q | q
          · cases q
          · rwa [show x.toNat = (x - 1).toNat + 1 by omega, List.getElem?_cons_succ] at q
        · have hp1 := ((hg _ _ hl).2 p hp).1
          rcases i6 i l (by simpa using hi) hl p hp with q | q
          · cases q
          · rwa [show p.toNat = (p - 1).toNat + 1 by omega, List.getElem?_cons_succ] at q
  · have e : ((g.length : Int) + 1).toNat = g.length + 1 := by omega
    dsimp only
    rw [e]
    refine ⟨by simp, by simp, fun i hi => ?_, fun w hw h1 h2 => ⟨w, hw, .refl h1 h2⟩, fun x hx _ _ => .inl hx, fun i l hi => ?_, by simp⟩
    · rw [List.getElem?_replicate] at hi
      split at hi <;> cases hi
    · rw [List.getElem?_replicate] at hi
      split at hi <;> cases hi
end Go.S
end

section
namespace Go.S
open Go
theorem take_snoc {α : Type} {l : List α} {i : Int} {z : α} (h0 : 0 ≤ i) (h : l[i.toNat]? = some z) : l.take (i + 1).toNat = l.take i.toNat ++ [z] := by
  rw [show (i + 1).toNat = i.toNat + 1 by omega, List.take_add_one, h]; rfl
theorem check_ok (g : List (List Int)) : Ok (Sh.rectoref17_Check g) fun r => r = 0 → Gok g ∧ g.length ≤ 1024 := by
  unfold Sh.rectoref17_Check
  simp only [ok_if, ok_some]
  refine ⟨fun _ h => by omega, fun hn => ?_⟩
  refine ok_iter (I := fun i => 0 ≤ i ∧ i ≤ g.length ∧ ∀ (k : Nat) l, k < i → g[k]? = some l → l.length ≤ 2 ∧ ∀ p ∈ l, 1 ≤ p ∧ p ≤ k) (μ := fun i => (g.length - i).toNat) ?_ ⟨by omega, by omega, fun k l h => by omega⟩
  rintro i ⟨h0, h1, h2⟩
  simp only [ok_jn, ok_if, ok_up, ok_bd, ok_gd, ok_lt, ok_go, ok_some, ok_at]
  refine ⟨fun h => ?_, fun h _ => ⟨fun k l hl => h2 k l (by have := get_lt hl; omega) hl, by omega⟩⟩
  obtain ⟨l, hl⟩ := at_get (l := g) h0 h
  refine ⟨h0, l, hl, fun _ h => by omega, fun hl2 => ?_⟩
  refine ok_iter (I := fun j => 0 ≤ j ∧ j ≤ l.length ∧ ∀ p ∈ l.take j.toNat, 1 ≤ p ∧ p ≤ i) (μ := fun j => (l.length - j).toNat) ?_ ⟨by omega, by omega, fun p hp => by simp at hp⟩
  rintro j ⟨j0, j1, j2⟩
  simp only [ok_jn, ok_if, ok_up, ok_bd, ok_gd, ok_lt, ok_go, ok_some, ok_at]
  refine ⟨h0, l, hl, fun hj => ?_, fun hj => ?_⟩
  · obtain ⟨p, hp⟩ := at_get (l := l) j0 hj
    refine ⟨h0, l, hl, j0, p, hp, fun hp1 => ⟨fun _ h => by omega, fun h => absurd trivial h⟩, fun hp1 => ⟨h0, l, hl, j0, p, hp, fun hp2 => by simp, fun hp2 => ?_⟩⟩
    refine ⟨⟨by omega, by omega⟩, ⟨by omega, by omega, fun q hq => ?_⟩, by omega⟩
    rw [take_snoc j0 hp] at hq
    rcases List.mem_append.1 hq with q1 | q1
    · exact j2 q q1
    · cases List.mem_singleton.1 q1
      have : ¬ i < p := by simpa using hp2
      omega
  · have hj' : j.toNat = l.length := by omega
    rw [hj', List.take_length] at j2
    have next : ∀ (k : Nat) l', k < i + 1 → g[k]? = some l' → l'.length ≤ 2 ∧ ∀ p ∈ l', 1 ≤ p ∧ p ≤ k := fun k l' hk hl' => by
      by_cases e : k = i.toNat
      · subst e
        rw [hl] at hl'; cases hl'
        exact ⟨by omega, fun p hp => by have := j2 p hp; omega⟩
      · exact h2 k l' (by omega) hl'
    refine ⟨h0, l, hl, fun h2l => ?_, fun h2l => ?_⟩
    · obtain ⟨a, ha⟩ := at_get (l := l) (i := 0) (by omega) (by omega)
      obtain ⟨b, hb⟩ := at_get (l := l) (i := 1) (by omega) (by omega)
      refine ⟨h0, l, hl, by omega, a, ha, h0, l, hl, by omega, b, hb, fun _ h => by omega, fun _ => ⟨⟨by omega, by omega⟩, ⟨by omega, by omega, next⟩, by omega⟩⟩
    · simp only [Bool.false_eq_true, false_implies, not_false_eq_true, true_implies, true_and]
      exact ⟨⟨by omega, by omega⟩, ⟨by omega, by omega, next⟩, by omega⟩
theorem set_sound {g : List (List Int)} {c : List Int} {x : List Bool} {z : Int} (h : ∀ j : Nat, x[j]? = some true → Re g c ((j : Int) + 1)) (hz : 1 ≤ z) (hr : Re g c z) : ∀ j : Nat, (x.set (z - 1).toNat true)[j]? = some true → Re g c ((j : Int) + 1) := fun j hj => by
  rw [List.getElem?_set] at hj
  split at hj
  · next e => rw [← e, show (((z - 1).toNat : Nat) : Int) + 1 = z by omega]; exact hr
  · exact h j hj
theorem set_self {x : List Bool} {i : Nat} (h : i < x.length) : (x.set i true)[i]? = some true := by rw [List.getElem?_set, if_pos rfl, if_pos h]
theorem marks_ok {g : List (List Int)} {c : List Int} (hg : Gok g) (hn : g.length ≤ 1024) (hc : c.length ≤ 1000000) : Sh.rectoref17_Marks g c = some (mk g c) := by
  apply Ok.eq
  unfold Sh.rectoref17_Marks
  simp only [ok_gd, ok_lt]
  refine ⟨⟨by omega, by omega⟩, ?_⟩
  refine ok_iter (I := fun t => 0 ≤ t.2 ∧ t.2 ≤ c.length ∧ t.1.length = g.length ∧ (∀ j : Nat, t.1[j]? = some true → Re g c ((j : Int) + 1)) ∧ (∀ x ∈ c.take t.2.toNat, 1 ≤ x → x ≤ g.length → t.1[(x - 1).toNat]? = some true))
    (μ := fun t => (c.length - t.2).toNat) ?_ ?_
  · rintro ⟨x, i⟩ ⟨i0, i1, i2, i3, i4⟩
    dsimp only at i0 i1 i2 i3 i4 ⊢
    simp only [ok_jn, ok_if, ok_up, ok_bd, ok_gd, ok_lt, ok_go, ok_some, ok_at]
    refine ⟨fun h => ?_, fun h => ?_⟩
    · obtain ⟨z, hz⟩ := at_get (l := c) i0 h
      have hzc : z ∈ c := List.mem_of_getElem? hz
      refine ⟨i0, z, hz, fun h1 => ⟨i0, z, hz, fun h2 => ?_, fun h2 => ?_⟩, fun h1 => ⟨fun h => by simp at h, fun _ => ?_⟩⟩
      · have h2' : z ≤ g.length := by simpa using h2
        obtain ⟨b, hb⟩ := at_get (l := x) (i := z - 1) (by omega) (by omega)
        refine ⟨i0, z, hz, ⟨by omega, by omega⟩, by omega, b, hb, ⟨by omega, by omega⟩, ⟨by omega, by omega, by simpa using i2, set_sound i3 h1 ⟨z, hzc, .refl h1 h2'⟩, fun y hy y1 y2 => ?_⟩, by omega⟩
        rw [take_snoc i0 hz] at hy
        rcases List.mem_append.1 hy with q | q
        · exact set_get_true (i4 y q y1 y2)
        · cases List.mem_singleton.1 q; exact set_self (get_lt hb)
      · have h2' : ¬ z ≤ g.length := by simpa using h2
        refine ⟨⟨by omega, by omega⟩, ⟨by omega, by omega, i2, i3, fun y hy y1 y2 => ?_⟩, by omega⟩
        rw [take_snoc i0 hz] at hy
        rcases List.mem_append.1 hy with q | q
        · exact i4 y q y1 y2
        · cases List.mem_singleton.1 q; omega
      · refine ⟨⟨by omega, by omega⟩, ⟨by omega, by omega, i2, i3, fun y hy y1 y2 => ?_⟩, by omega⟩
        rw [take_snoc i0 hz] at hy
        rcases List.mem_append.1 hy with q | q
        · exact i4 y q y1 y2
        · cases List.mem_singleton.1 q; omega
    · rw [show i.toNat = c.length by omega, List.take_length] at i4
      refine ⟨⟨by omega, by omega⟩, ?_⟩
      refine ok_iter (I := fun t => -1 ≤ t.2 ∧ t.2 < g.length ∧ t.1.length = g.length ∧ (∀ j : Nat, t.1[j]? = some true → Re g c ((j : Int) + 1)) ∧ (∀ x ∈ c, 1 ≤ x → x ≤ g.length → t.1[(x - 1).toNat]? = some true) ∧
          (∀ (k : Nat) l, t.2 < k → t.1[k]? = some true → g[k]? = some l → ∀ p ∈ l, t.1[(p - 1).toNat]? = some true)) (μ := fun t => (t.2 + 1).toNat) ?_ ⟨by dsimp only; omega, by dsimp only; omega, i2, i3, i4, fun k l hk h => by dsimp only at hk h; have := get_lt h; omega⟩
      rintro ⟨x, i⟩ ⟨k0, k1, k2, k3, k4, k5⟩
      dsimp only at k0 k1 k2 k3 k4 k5 ⊢
      simp only [ok_jn, ok_if, ok_up, ok_bd, ok_gd, ok_lt, ok_go, ok_some, ok_at]
      refine ⟨fun h => ?_, fun h => ?_⟩
      · obtain ⟨l, hl⟩ := at_get (l := g) h (by omega)
        have hl2 := hg _ _ hl
        obtain ⟨b, hb⟩ := at_get (l := x) h (by omega)
        refine ok_iter (I := fun t => 0 ≤ t.2 ∧ t.2 ≤ l.length ∧ t.1.length = g.length ∧ (∀ j : Nat, t.1[j]? = some true → Re g c ((j : Int) + 1)) ∧ (∀ x ∈ c, 1 ≤ x → x ≤ g.length → t.1[(x - 1).toNat]? = some true) ∧
          (∀ (k : Nat) l, i < k → t.1[k]? = some true → g[k]? = some l → ∀ p ∈ l, t.1[(p - 1).toNat]? = some true) ∧ t.1[i.toNat]? = some b ∧ (b = true → ∀ p ∈ l.take t.2.toNat, t.1[(p - 1).toNat]? = some true)) (μ := fun t => (l.length - t.2).toNat) ?_ ⟨by dsimp only; omega, by dsimp only; omega, k2, k3, k4, k5, hb, fun _ p hp => by simp at hp⟩
        rintro ⟨x, j⟩ ⟨j0, j1, j2, j3, j4, j5, j6, j7⟩
        dsimp only at j0 j1 j2 j3 j4 j5 j6 j7 ⊢
        simp only [ok_jn, ok_if, ok_up, ok_bd, ok_gd, ok_lt, ok_go, ok_some, ok_at]
        have fin : (b = true → ∀ p ∈ l, x[(p - 1).toNat]? = some true) → ∀ (k : Nat) l, i - 1 < k → x[k]? = some true → g[k]? = some l → ∀ p ∈ l, x[(p - 1).toNat]? = some true := fun hb' k l' hk hx hl' p hp => by
          by_cases e : k = i.toNat
          · subst e
            rw [hl] at hl'; cases hl'
            rw [j6] at hx
            exact hb' (Option.some.inj hx) p hp
          · exact j5 k l' (by omega) hx hl' p hp
        refine ⟨h, l, hl, fun hj => ⟨h, b, j6, fun hbt => ?_, fun hbf => ?_⟩, fun hj => ?_⟩
        · obtain ⟨p, hp⟩ := at_get (l := l) j0 hj
          have hpl := hl2.2 p (List.mem_of_getElem? hp)
          obtain ⟨y, hy⟩ := at_get (l := x) (i := p - 1) (by omega) (by omega)
          have hRp : Re g c p := by
            have := j3 i.toNat (by rw [j6, hbt])
            obtain ⟨s, hs, ht⟩ := this
            exact ⟨s, hs, ht.snoc hg (by rw [show ((i.toNat : Int) + 1 - 1).toNat = i.toNat by omega]; exact hl) (List.mem_of_getElem? hp)⟩
          refine ⟨h, l, hl, j0, p, hp, ⟨by omega, by omega⟩, by omega, y, hy, ⟨by omega, by omega⟩, ⟨by omega, by omega, by simpa using j2, set_sound j3 (by omega) hRp, fun q hq q1 q2 => set_get_true (j4 q hq q1 q2), fun k l' hk hx hl' q hq => ?_, ?_, fun _ q hq => ?_⟩, by omega⟩
          · rw [List.getElem?_set, if_neg (by omega)] at hx
            exact set_get_true (j5 k l' hk hx hl' q hq)
          · rw [List.getElem?_set, if_neg (by omega)]; exact j6
          · rw [take_snoc j0 hp] at hq
            rcases List.mem_append.1 hq with q1 | q1
            · exact set_get_true (j7 hbt q q1)
            · cases List.mem_singleton.1 q1; exact set_self (get_lt hy)
        · exact ⟨⟨by omega, by omega⟩, ⟨by omega, by omega, j2, j3, j4, fin fun e => absurd e hbf⟩, by omega⟩
        · rw [show j.toNat = l.length by omega, List.take_length] at j7
          exact ⟨⟨by omega, by omega⟩, ⟨by omega, by omega, j2, j3, j4, fin j7⟩, by omega⟩
      · exact mk_eq k2 k3 k4 fun i' l hx hl p hp => k5 i' l (by omega) hx hl p hp
  · refine ⟨by simp, by simp, by simp, fun j hj => ?_, fun x hx => by simp at hx⟩
    dsimp only at hj
    rw [List.getElem?_replicate] at hj
    split at hj <;> cases hj
end Go.S
end

section
namespace Go.S
open Go
/-- the places of what is marked, from a number on -/
def rowF (k : Int) : List Bool → List Int
  | [] => []
  | b :: r => if b then k :: rowF (k + 1) r else rowF (k + 1) r
theorem rowF_snoc (b : Bool) : ∀ (l : List Bool) (k : Int), rowF k (l ++ [b]) = rowF k l ++ (if b then [k + l.length] else [])
  | [], k => by cases b <;> simp [rowF]
  | a :: l, k => by
    have := rowF_snoc b l (k + 1)
    simp only [List.cons_append, rowF, this]
    cases a <;> cases b <;> simp <;> omega
theorem rowF_mem : ∀ (l : List Bool) (k i : Int), i ∈ rowF k l → k ≤ i ∧ i < k + l.length
  | [], k, i, h => by simp [rowF] at h
  | b :: l, k, i, h => by
    cases b with
    | true =>
      simp only [rowF, if_true, List.mem_cons] at h
      rcases h with h | h
      · subst h; simp; omega
      · have := rowF_mem l (k + 1) i h; simp; omega
    | false =>
      have := rowF_mem l (k + 1) i (by simpa [rowF] using h); simp; omega
theorem rowF_length : ∀ (l : List Bool) (k : Int), (rowF k l).length ≤ l.length
  | [], k => by simp [rowF]
  | b :: l, k => by
    have := rowF_length l (k + 1)
    cases b <;> simp [rowF] <;> omega
theorem clip_int (l : List Int) : Sh.slices_Clip_int_int l = some l := by
  unfold Sh.slices_Clip_int_int
  simp [gd, lt]
theorem row_ok {l : List Bool} (h : l.length ≤ 1000000) : Sh.graph_row l = some (rowF 0 l) := by
  apply Ok.eq
  unfold Sh.graph_row
  refine ok_iter (I := fun t => 0 ≤ t.2 ∧ t.2 ≤ l.length ∧ t.1 = rowF 0 (l.take t.2.toNat)) (μ := fun t => (l.length - t.2).toNat) ?_ ⟨by simp, by simp, by simp [rowF]⟩
  rintro ⟨o, i⟩ ⟨h0, h1, h2⟩
  dsimp only at h0 h1 h2 ⊢
  simp only [ok_if, ok_up, ok_bd, ok_gd, ok_lt, ok_go, ok_some, ok_at]
  refine ⟨fun hi => ?_, fun hi => ?_⟩
  · obtain ⟨z, hz⟩ := at_get (l := l) h0 hi
    have hl := rowF_length (l.take i.toNat) 0
    rw [← h2, List.length_take] at hl
    have hs := rowF_snoc z (l.take i.toNat) 0
    rw [← take_snoc h0 hz, ← h2, List.length_take, show (0 : Int) + ((min i.toNat l.length : Nat) : Int) = i by omega] at hs
    refine ⟨h0, z, hz, fun hb => ?_, fun hb => ?_⟩
    · refine ⟨by simp; omega, ⟨by omega, by omega⟩, ⟨by omega, by omega, ?_⟩, by omega⟩
      rw [hs, if_pos hb]
    · refine ⟨⟨by omega, by omega⟩, ⟨by omega, by omega, ?_⟩, by omega⟩
      rw [hs, if_neg hb, List.append_nil]
  · rw [clip_int, ok_some, h2, show i.toNat = l.length by omega, List.take_length]
theorem rising_ok {l : List Bool} (h : l.length ≤ 1000000) : Sh.rectoref17_rising l = some (rowF 1 l) := by
  apply Ok.eq
  unfold Sh.rectoref17_rising
  refine ok_iter (I := fun t => 0 ≤ t.2 ∧ t.2 ≤ l.length ∧ t.1 = rowF 1 (l.take t.2.toNat)) (μ := fun t => (l.length - t.2).toNat) ?_ ⟨by simp, by simp, by simp [rowF]⟩
  rintro ⟨o, i⟩ ⟨h0, h1, h2⟩
  dsimp only at h0 h1 h2 ⊢
  simp only [ok_jn, ok_if, ok_up, ok_bd, ok_gd, ok_lt, ok_go, ok_some, ok_at]
  refine ⟨fun hi => ?_, fun hi => ?_⟩
  · obtain ⟨z, hz⟩ := at_get (l := l) h0 hi
    have hl := rowF_length (l.take i.toNat) 1
    rw [← h2, List.length_take] at hl
    have hs := rowF_snoc z (l.take i.toNat) 1
    rw [← take_snoc h0 hz, ← h2, List.length_take, show (1 : Int) + ((min i.toNat l.length : Nat) : Int) = i + 1 by omega] at hs
    refine ⟨h0, z, hz, fun hb => ?_, fun hb => ?_⟩
    · refine ⟨⟨by omega, by omega⟩, by simp; omega, ⟨by omega, by omega⟩, ⟨by omega, by omega, ?_⟩, by omega⟩
      rw [hs, if_pos hb]
    · refine ⟨⟨by omega, by omega⟩, ⟨by omega, by omega, ?_⟩, by omega⟩
      rw [hs, if_neg hb, List.append_nil]
  · rw [h2, show i.toNat = l.length by omega, List.take_length]
/-- a loop that changes a row place by place: what is there -/
theorem part_get {α : Type} {r l : List α} {i : Nat} (hl : r.length = l.length) {j : Nat} (h : i ≤ j) : (r.take i ++ l.drop i)[j]? = l[j]? := by
  by_cases hi : i ≤ r.length
  · rw [List.getElem?_append_right (by rw [List.length_take]; omega), List.length_take, List.getElem?_drop]
    congr 1; omega
  · rw [List.getElem?_eq_none (by simp; omega), List.getElem?_eq_none (by omega)]
theorem part_set {α : Type} {r l : List α} {i : Nat} {z : α} (hl : r.length = l.length) (h : r[i]? = some z) : (r.take i ++ l.drop i).set i z = r.take (i + 1) ++ l.drop (i + 1) := by
  have hi := get_lt h
  rw [List.take_add_one, h, List.set_append_right _ _ (by rw [List.length_take]; omega), List.length_take, show i - min i r.length = 0 by omega]
  have hd : l.drop i = l[i] :: l.drop (i + 1) := List.drop_eq_getElem_cons (by omega)
  rw [hd, List.set_cons_zero]
  simp
/-- one's own that are none of the other's -/
def butF (l r : List Bool) : List Bool := List.zipWith (fun a b => a && !b) l r
theorem butF_get {l r : List Bool} {i : Nat} {a b : Bool} (h1 : l[i]? = some a) (h2 : r[i]? = some b) : (butF l r)[i]? = some (a && !b) := by
  simp [butF, List.getElem?_zipWith, h1, h2]
/-- the commits that one comes from, and the other not -/
noncomputable def onlyS (g : List (List Int)) (a b : Int) : List Int := rowF 1 (butF (mk g [a]) (mk g [b]))
theorem only_ok {g : List (List Int)} (a b : Int) (hg : Gok g) (hn : g.length ≤ 1024) : Sh.graph_Graph_Only g a b = some (onlyS g a b) := by
  apply Ok.eq
  unfold Sh.graph_Graph_Only
  rw [ok_lt, seen_ok hg hn (c := [a]) (by simp), Option.bind_some, ok_lt, seen_ok hg hn (c := [b]) (by simp), Option.bind_some]
  generalize hx : (false :: mk g [a]) = x
  generalize hy : (false :: mk g [b]) = y
  have lx : x.length = g.length + 1 := by rw [← hx]; simp [mk_length]
  have ly : y.length = g.length + 1 := by rw [← hy]; simp [mk_length]
  have lr : (butF x y).length = x.length := by simp [butF]; omega
  refine ok_iter (I := fun t => 0 ≤ t.2 ∧ t.2 ≤ x.length ∧ t.1 = (butF x y).take t.2.toNat ++ x.drop t.2.toNat) (μ := fun t => (x.length - t.2).toNat) ?_ ⟨by simp, by simp, by simp⟩
  rintro ⟨o, i⟩ ⟨h0, h1, h2⟩
  dsimp only at h0 h1 h2 ⊢
  simp only [ok_jn, ok_if, ok_up, ok_bd, ok_gd, ok_lt, ok_go, ok_some, ok_at]
  refine ⟨fun hi => ?_, fun hi => ?_⟩
  · obtain ⟨z, hz⟩ := at_get (l := x) h0 hi
    obtain ⟨w, hw⟩ := at_get (l := y) h0 (by omega)
    have ho : o[i.toNat]? = some z := by rw [h2, part_get lr (Nat.le_refl _), hz]
    have hr := butF_get hz hw
    have hset := part_set lr hr
    rw [← h2] at hset
    refine ⟨h0, z, ho, fun hb => ⟨h0, w, hw, h0, z, ho, ⟨by omega, by omega⟩, ⟨by omega, by omega, ?_⟩, by omega⟩, fun hb => ⟨h0, z, ho, ⟨by omega, by omega⟩, ⟨by omega, by omega, ?_⟩, by omega⟩⟩
    · rw [show (i + 1).toNat = i.toNat + 1 by omega, ← hset, hb, Bool.true_and]
    · have : z = false := by simpa using hb
      rw [show (i + 1).toNat = i.toNat + 1 by omega, ← hset, this, Bool.false_and]
  · rw [show i.toNat = x.length by omega, List.drop_length, List.append_nil, ← lr, List.take_length] at h2
    have e : butF x y = false :: butF (mk g [a]) (mk g [b]) := by rw [← hx, ← hy]; rfl
    rw [h2, row_ok (by omega), ok_some, onlyS, e]
    rfl
theorem ronly_ok {g : List (List Int)} (a b : Int) (hg : Gok g) (hn : g.length ≤ 1024) : Sh.rectoref17_Only g a b = some (onlyS g a b) := by
  apply Ok.eq
  unfold Sh.rectoref17_Only
  simp only [lt, marks_ok hg hn (c := [a]) (by simp), marks_ok hg hn (c := [b]) (by simp), Option.bind_some, onlyS]
  have lx : (mk g [a]).length = g.length := mk_length _ _
  have ly : (mk g [b]).length = g.length := mk_length _ _
  generalize mk g [a] = x at *
  generalize mk g [b] = y at *
  have lr : (butF x y).length = x.length := by simp [butF]; omega
  refine ok_iter (I := fun t => 0 ≤ t.2 ∧ t.2 ≤ x.length ∧ t.1 = (butF x y).take t.2.toNat ++ x.drop t.2.toNat) (μ := fun t => (x.length - t.2).toNat) ?_ ⟨by simp, by simp, by simp⟩
  rintro ⟨o, i⟩ ⟨h0, h1, h2⟩
  dsimp only at h0 h1 h2 ⊢
  simp only [ok_jn, ok_if, ok_up, ok_bd, ok_gd, ok_lt, ok_go, ok_some, ok_at]
  refine ⟨fun hi => ?_, fun hi => ?_⟩
  · obtain ⟨z, hz⟩ := at_get (l := x) h0 (by omega)
    obtain ⟨w, hw⟩ := at_get (l := y) h0 (by omega)
    have ho : o[i.toNat]? = some z := by rw [h2, part_get lr (Nat.le_refl _), hz]
    have hr := butF_get hz hw
    have hset := part_set lr hr
    rw [← h2] at hset
    refine ⟨h0, z, ho, fun hb => ⟨h0, w, hw, h0, z, ho, ⟨by omega, by omega⟩, ⟨by omega, by omega, ?_⟩, by omega⟩, fun hb => ⟨h0, z, ho, ⟨by omega, by omega⟩, ⟨by omega, by omega, ?_⟩, by omega⟩⟩
    · rw [show (i + 1).toNat = i.toNat + 1 by omega, ← hset, hb, Bool.true_and]
    · have : z = false := by simpa using hb
      rw [show (i + 1).toNat = i.toNat + 1 by omega, ← hset, this, Bool.false_and]
  · rw [show i.toNat = x.length by omega, List.drop_length, List.append_nil, ← lr, List.take_length] at h2
    rw [h2, rising_ok (by omega), ok_some]
theorem onlyS_mem {g : List (List Int)} {a b i : Int} (h : i ∈ onlyS g a b) : 1 ≤ i ∧ i ≤ g.length := by
  have := rowF_mem _ _ _ h
  simp [butF, mk_length] at this
  omega
theorem onlyS_length (g : List (List Int)) (a b : Int) : (onlyS g a b).length ≤ g.length := by
  have := rowF_length (butF (mk g [a]) (mk g [b])) 1
  simp [butF, mk_length] at this
  exact this
end Go.S
end

section
namespace Go.S
open Go
theorem known21 : Sh.rectolaw21_known = some true := by decide +kernel
end Go.S
end

section
namespace Go.S
open Go
def pickW : List UInt8 := [112, 105, 99, 107]
/-- the commits with less than two parents -/
def fewP (g : List (List Int)) (c : Int) : Bool := decide (((g[(c - 1).toNat]?).getD []).length < 2)
theorem filter_snoc {α : Type} (p : α → Bool) (l : List α) (z : α) : (l ++ [z]).filter p = l.filter p ++ (if p z then [z] else []) := by
  rw [List.filter_append]; cases h : p z <;> simp [h]
theorem clip_step (l : List TodoStep) : Sh.slices_Clip_todo_Step_todo_Step l = some l := by
  unfold Sh.slices_Clip_todo_Step_todo_Step
  simp [gd, lt]
/-- the steps that bring what one has, and the other not -/
noncomputable def plainS (g : List (List Int)) (onto fr : Int) : List Int := (onlyS g fr onto).filter (fewP g)
theorem plain_ok {g : List (List Int)} (onto fr : Int) (hg : Gok g) (hn : g.length ≤ 1024) : Sh.todo_Plain g onto fr = some ((plainS g onto fr).map fun c => ⟨pickW, c, []⟩) := by
  apply Ok.eq
  unfold Sh.todo_Plain plainS
  rw [only_ok fr onto hg hn, Option.bind_some]
  have hm : ∀ i, i ∈ onlyS g fr onto → 1 ≤ i ∧ i ≤ g.length := fun i h => onlyS_mem h
  have hl := onlyS_length g fr onto
  generalize onlyS g fr onto = l at *
  refine ok_iter (I := fun t => 0 ≤ t.2 ∧ t.2 ≤ l.length ∧ t.1 = ((l.take t.2.toNat).filter (fewP g)).map fun c => (⟨pickW, c, []⟩ : TodoStep)) (μ := fun t => (l.length - t.2).toNat) ?_ ⟨by simp, by simp, by simp⟩
  rintro ⟨o, i⟩ ⟨h0, h1, h2⟩
  dsimp only at h0 h1 h2 ⊢
  simp only [ok_jn, ok_if, ok_up, ok_bd, ok_gd, ok_lt, ok_go, ok_some, ok_at]
  refine ⟨fun hi => ?_, fun hi => ?_⟩
  · obtain ⟨z, hz⟩ := at_get (l := l) h0 hi
    have hz1 := hm z (List.mem_of_getElem? hz)
    obtain ⟨q, hq⟩ := at_get (l := g) (i := z - 1) (by omega) (by omega)
    have hf : fewP g z = decide ((q.length : Int) < 2) := by simp only [fewP, hq, Option.getD_some]; exact decide_eq_decide.2 ⟨fun h => by omega, fun h => by omega⟩
    have hlo : o.length ≤ g.length := by
      rw [h2, List.length_map]
      exact Nat.le_trans (List.length_filter_le _ _) (by rw [List.length_take]; omega)
    refine ⟨h0, z, hz, ⟨by omega, by omega⟩, by omega, q, hq, fun hb => ?_, fun hb => ?_⟩
    · refine ⟨by simp; omega, ⟨by omega, by omega⟩, ⟨by omega, by omega, ?_⟩, by omega⟩
      rw [take_snoc h0 hz, filter_snoc, hf, if_pos (by simpa using hb), h2]; simp [pickW]
    · refine ⟨⟨by omega, by omega⟩, ⟨by omega, by omega, ?_⟩, by omega⟩
      rw [take_snoc h0 hz, filter_snoc, hf, if_neg (by simpa using hb), h2]; simp
  · rw [clip_step, ok_some, h2, show i.toNat = l.length by omega, List.take_length]
theorem rplain_ok {g : List (List Int)} (onto fr : Int) (hg : Gok g) (hn : g.length ≤ 1024) : Sh.rectoref17_Plain g onto fr = some ((plainS g onto fr).map fun c => ⟨pickW, c, []⟩) := by
  apply Ok.eq
  unfold Sh.rectoref17_Plain plainS
  rw [ronly_ok fr onto hg hn, Option.bind_some]
  have hm : ∀ i, i ∈ onlyS g fr onto → 1 ≤ i ∧ i ≤ g.length := fun i h => onlyS_mem h
  have hl := onlyS_length g fr onto
  generalize onlyS g fr onto = l at *
  refine ok_iter (I := fun t => 0 ≤ t.2 ∧ t.2 ≤ l.length ∧ t.1 = ((l.take t.2.toNat).filter (fewP g)).map fun c => (⟨pickW, c, []⟩ : Rectoref17Step)) (μ := fun t => (l.length - t.2).toNat) ?_ ⟨by simp, by simp, by simp⟩
  rintro ⟨o, i⟩ ⟨h0, h1, h2⟩
  dsimp only at h0 h1 h2 ⊢
  simp only [ok_jn, ok_if, ok_up, ok_bd, ok_gd, ok_lt, ok_go, ok_some, ok_at]
  refine ⟨fun hi => ?_, fun hi => ?_⟩
  · obtain ⟨z, hz⟩ := at_get (l := l) h0 hi
    have hz1 := hm z (List.mem_of_getElem? hz)
    obtain ⟨q, hq⟩ := at_get (l := g) (i := z - 1) (by omega) (by omega)
    have hf : fewP g z = decide ((q.length : Int) < 2) := by simp only [fewP, hq, Option.getD_some]; exact decide_eq_decide.2 ⟨fun h => by omega, fun h => by omega⟩
    have hlo : o.length ≤ g.length := by
      rw [h2, List.length_map]
      exact Nat.le_trans (List.length_filter_le _ _) (by rw [List.length_take]; omega)
    refine ⟨h0, z, hz, ⟨by omega, by omega⟩, by omega, q, hq, fun hb => ?_, fun hb => ?_⟩
    · refine ⟨h0, z, hz, by simp; omega, ⟨by omega, by omega⟩, ⟨by omega, by omega, ?_⟩, by omega⟩
      rw [take_snoc h0 hz, filter_snoc, hf, if_pos (by simpa using hb), h2]; simp [pickW]
    · refine ⟨⟨by omega, by omega⟩, ⟨by omega, by omega, ?_⟩, by omega⟩
      rw [take_snoc h0 hz, filter_snoc, hf, if_neg (by simpa using hb), h2]; simp
  · rw [h2, show i.toNat = l.length by omega, List.take_length]
theorem map_at {α β : Type} {f : α → β} {l : List α} {i : Int} (h0 : 0 ≤ i) (h : i < (l.map f).length) : ∃ z, l[i.toNat]? = some z ∧ (l.map f)[i.toNat]? = some (f z) := by
  rw [List.length_map] at h
  obtain ⟨z, hz⟩ := at_get h0 h
  exact ⟨z, hz, by rw [List.getElem?_map, hz]; rfl⟩
def toR (x : TodoStep) : Rectoref17Step := ⟨x.verb, x.commit, x.text⟩
theorem same21_ok {l : List TodoStep} (h : l.length ≤ 1000000) : Sh.rectolaw21_Same l (l.map toR) = some true := by
  apply Ok.eq
  unfold Sh.rectolaw21_Same
  rw [if_pos (by simp)]
  refine ok_iter (I := fun i => 0 ≤ i ∧ i ≤ l.length) (μ := fun i => (l.length - i).toNat) ?_ ⟨by omega, by omega⟩
  rintro i ⟨h0, h1⟩
  simp only [ok_jn, ok_if, ok_up, ok_bd, ok_gd, ok_lt, ok_go, ok_some, ok_at]
  refine ⟨fun hi => ?_, fun _ => trivial⟩
  obtain ⟨z, hz⟩ := at_get (l := l) h0 hi
  have hz' : (l.map toR)[i.toNat]? = some (toR z) := by rw [List.getElem?_map, hz]; rfl
  refine ⟨h0, z, hz, h0, _, hz', fun _ => ⟨h0, z, hz, h0, _, hz', fun _ => ⟨h0, z, hz, h0, _, hz', fun h => ?_, fun _ => ⟨⟨by omega, by omega⟩, ⟨by omega, by omega⟩, by omega⟩⟩, fun h => absurd rfl h⟩, fun h => absurd rfl h⟩
  simp [toR] at h
theorem verb_pick : Sh.todo_verb pickW = some (true, false) := by decide
theorem step_pick {g : List (List Int)} {c : Int} {l : List Int} (first : Bool) (h1 : 1 ≤ c) (h2 : c ≤ g.length) (hn : g.length ≤ 1024) (hl : g[(c - 1).toNat]? = some l) (hp : (l.length : Int) < 2) : Sh.todo_step ⟨pickW, c, []⟩ g first = some 0 := by
  apply Ok.eq
  unfold Sh.todo_step
  dsimp only
  rw [verb_pick, Option.bind_some]
  simp only [ok_jn, ok_if, ok_up, ok_bd, ok_gd, ok_lt, ok_go, ok_some, ok_at]
  refine ⟨fun h => by simp at h, fun _ => ⟨fun h => by omega, fun _ => ⟨fun h => by omega, fun _ => ⟨⟨by omega, by omega⟩, by omega, l, hl, fun h => ?_, fun _ => ⟨fun h => by simp at h, fun _ => ⟨fun h => by simp at h, fun _ => trivial⟩⟩⟩⟩⟩⟩
  have : 1 < (l.length : Int) := by simpa using h
  omega
theorem plain_check {g : List (List Int)} {L : List Int} (hn : g.length ≤ 1024) (hm : ∀ c ∈ L, 1 ≤ c ∧ c ≤ g.length ∧ fewP g c = true) (h32 : ¬ 32 < (L.length : Int)) :
    Sh.todo_Check (L.map fun c => ⟨pickW, c, []⟩) g = some Err.nil := by
  apply Ok.eq
  unfold Sh.todo_Check
  rw [if_neg (by rw [List.length_map]; exact h32)]
  refine ok_iter (I := fun t => 0 ≤ t.2 ∧ t.2 ≤ L.length) (μ := fun t => (L.length - t.2).toNat) ?_ ⟨by simp, by simp⟩
  rintro ⟨f, i⟩ ⟨h0, h1⟩
  dsimp only at h0 h1 ⊢
  simp only [ok_if, ok_up, ok_bd, ok_gd, ok_lt, ok_go, ok_some, ok_at]
  refine ⟨fun hi => ?_, fun _ => trivial⟩
  obtain ⟨z, hz, hz'⟩ := map_at (l := L) (f := fun c => (⟨pickW, c, []⟩ : TodoStep)) h0 hi
  obtain ⟨z1, z2, z3⟩ := hm z (List.mem_of_getElem? hz)
  obtain ⟨q, hq⟩ := at_get (l := g) (i := z - 1) (by omega) (by omega)
  rw [List.length_map] at hi
  refine ⟨h0, _, hz', Ok.of (step_pick f z1 z2 hn hq ?_) ⟨fun _ => ⟨fun _ => ⟨⟨by omega, by omega⟩, ⟨by omega, by omega⟩, by omega⟩, fun _ => ⟨⟨by omega, by omega⟩, ⟨by omega, by omega⟩, by omega⟩⟩, fun h => absurd rfl h⟩⟩
  simp only [fewP, hq, Option.getD_some, decide_eq_true_eq] at z3
  omega
theorem todoPlain_ok (g : List (List Int)) (onto fr : Int) (_ : -9223372036854775808 ≤ onto ∧ onto ≤ 9223372036854775807) (_ : -9223372036854775808 ≤ fr ∧ fr ≤ 9223372036854775807) : Sh.rectolaw21_TodoPlain g onto fr = some true := by
  apply Ok.eq
  unfold Sh.rectolaw21_TodoPlain
  rw [known21, Option.bind_some]
  simp only [ok_jn, ok_if, ok_bd, ok_some]
  refine ⟨fun h => by simp at h, fun _ => ⟨fun _ => ⟨fun _ => trivial, fun h => absurd trivial h⟩, fun hn => (check_ok g).mono fun r hr => ⟨fun _ => trivial, fun h0 => ?_⟩⟩⟩
  have hr0 : r = 0 := by simpa using h0
  obtain ⟨hg, hn'⟩ := hr hr0
  have hlen : (plainS g onto fr).length ≤ g.length := Nat.le_trans (List.length_filter_le _ _) (onlyS_length _ _ _)
  refine Ok.of (plain_ok onto fr hg hn') (Ok.of (rplain_ok onto fr hg hn') ?_)
  have e : (plainS g onto fr).map (fun c => (⟨pickW, c, []⟩ : Rectoref17Step)) = ((plainS g onto fr).map fun c => (⟨pickW, c, []⟩ : TodoStep)).map toR := by rw [List.map_map]; rfl
  rw [e]
  refine Ok.of (same21_ok (by rw [List.length_map]; omega)) ⟨fun _ => ⟨fun _ => trivial, fun h => ?_⟩, fun h => absurd rfl h⟩
  rw [List.length_map] at h
  refine Ok.of (plain_check hn' (fun c hc => ?_) h) rfl
  have hc' := List.mem_filter.1 hc
  have := onlyS_mem hc'.1
  exact ⟨this.1, this.2, hc'.2⟩
end Go.S
end

section
set_option linter.unusedVariables false
namespace Go.V
open Go.RowKit Go.ChangeShapes Go.WideShapes
/-- a law's run, in the kit's words -/
theorem Ct.law {P : Program} {f : FuncId} {args : List Value} {M : Mo} {v : Value} {φ : Unit → Prop} {M2 : Unit → Mo} {E2 : Unit → Ow} (h : Ct P f args M Ow.emp (fun _ => v) φ M2 E2) {w : World} (hM : M.on (wh w)) :
    Calls P f args.toArray w fun en w' => en = .returned v ∧ Gr w w' :=
  (h.calls w (wh w) Hp.nil hM trivial (Hp.nil_off _) (fun _ _ e => e) (fun b o q => by cases q)).mono fun en w' ⟨r, e1, z, e2, e3, e4⟩ => ⟨by rw [e1, e2], e4.os, e4.tape, e4.output, e4.size, fun b hb => e4.frame b hb (by simp [Hp.nil])⟩
section
variable {H : Type} {enc : TypeId × Value → H} {P : Program} {W W' : World}
theorem trodAll_stays (hl : laidOutB P = true) {sp' : Nat → Bool} : ∀ {ts : List TypeId} {vs : List Value} {ds : List (DataW H)} {ps : List MemPlace}, ts.all (fun t => P.readableRec t && decide (t < P.types.size)) = true →
    DataW.TrodAll enc P W 0 (fun _ => true) true ts vs ds ps → (∀ p ∈ ps, W.sameAt W' p) → (∀ p ∈ ps, sp' p.block = true) → DataW.TrodAll enc P W' 0 sp' true ts vs ds ps
  | [], [], [], _, _, h, _, _ => h
  | t :: ts, v :: vs, d :: ds, _, ha, ⟨p, q, h1, h2, rfl⟩, hs, hb => by
    simp only [List.all_cons, Bool.and_eq_true, decide_eq_true_eq] at ha
    exact ⟨p, q, WideElems.Trod_stays hl ha.1.1 ha.1.2 h1 (fun x hx => hs x (List.mem_append_left _ hx)) (fun x hx => hb x (List.mem_append_left _ hx)),
      trodAll_stays hl ha.2 h2 (fun x hx => hs x (List.mem_append_right _ hx)) (fun x hx => hb x (List.mem_append_right _ hx)), rfl⟩
  | [], _ :: _, _, _, _, h, _, _ => by simp [DataW.TrodAll] at h
  | [], [], _ :: _, _, _, h, _, _ => by simp [DataW.TrodAll] at h
  | _ :: _, [], _, _, _, h, _, _ => by simp [DataW.TrodAll] at h
  | _ :: _, _ :: _, [], _, _, h, _, _ => by simp [DataW.TrodAll] at h
theorem Gr.below (h : Gr W W') : Below W.heap.size W W' := ⟨h.os, h.tape, h.output, h.size, h.block⟩
/-- a law that answers true and leaves all as it was -/
theorem law_post {f : Func} {s : ChangeSpec} {args : Array Value} {ds gs : List (DataW H)} {before : List MemPlace} {tb : TypeId} {fresh handsOn : Bool}
    (hl : laidOutB P = true) (hp : f.params.toList.all (fun t => P.readableRec t && decide (t < P.types.size)) = true) (hr : f.resultTypes = #[tb]) (htb : P.underlying tb = some .bool) (hv : s.vars = [])
    (hW : DataW.Whole enc P f.params.toList s.vars false W args.toList ds gs before) (hg : Gr W W') (hs : s.fn H ds = ⟨[.lit (.bool true)], ds, []⟩) : s.post enc P f false fresh handsOn false W args (.bool true) W' := by
  have hW' := hW
  obtain ⟨p, q, hA, hV, rfl, hfz, hnd⟩ := hW
  rw [hv] at hV
  obtain ⟨rfl, rfl⟩ : gs = [] ∧ q = [] := by
    cases gs
    · exact ⟨rfl, hV⟩
    · simp [DataW.TrodVars] at hV
  have hb : ∀ x ∈ p, x.block < W.heap.size := fun x hx => by simpa using hW'.lt x (List.mem_append_left _ hx)
  refine ⟨ds, [], _, [], p, [], hW', ?_, ?_, ?_, hg.below.frame _, fun h => by cases h⟩
  · rw [List.append_nil, hs, hr]
    exact trodAll_mk1 (shut_bool htb true)
  · rw [List.append_nil, hs]
    exact trodAll_stays hl hp hA (fun x hx => hg.below.same (hb x hx)) (fun x hx => by simpa using hb x hx)
  · rw [List.append_nil, hs, hv]
    rfl
theorem add_block (a : Addr) (i : Nat) : (a.add i).block = a.block := by unfold Addr.add; split <;> rfl
theorem add_off (a : Addr) (i : Nat) : (a.add i).off = a.off + i := by unfold Addr.add; split <;> simp_all
theorem op_str {t : TypeId} {v : Value} {r : Reach} {b0 : Nat} (ht : P.underlying t = some .string) (hv : Value.okWide P W r b0 t v) : ∃ s : Str, v = str s := by
  obtain ⟨s, rfl⟩ := okWide_string ht hv
  exact ⟨s.data.toList, rfl⟩
theorem op_strs {t e : TypeId} {v : Value} {r : Reach} {b0 b1 : Nat} {sp : Nat → Bool} {hd : Bool} {d : DataW H} {p : List MemPlace} (ht : P.underlying t = some (.slice e)) (he : P.underlying e = some .string) (hc : P.cellsOf e = 1)
    (hv : Value.okWide P W r b0 t v) (h : DataW.Trod enc P W b1 sp hd t v d p) : ∃ s : Sv Str, v = s.val ∧ s.ok.on (wh W) := by
  obtain ⟨a0, len, cap, rfl⟩ := okWide_slice ht hv
  obtain ⟨fuel, hf⟩ := h
  rcases open_strings ht he hc hf with ⟨hcs, hx⟩ | ⟨a, len', cap', ss, hcs, _, hl, hm, hz, hx, hcell, hsz⟩
  · simp [Value.cells] at hcs
    obtain ⟨rfl, rfl, rfl⟩ := hcs
    exact ⟨⟨none, 0, []⟩, rfl, by simp, by simp [maxLen], by simp, by simp, by simp⟩
  · simp [Value.cells] at hcs
    obtain ⟨rfl, rfl, rfl⟩ := hcs
    have hlen : len ≤ ss.length := by rw [hz]; split <;> omega
    refine ⟨⟨some a, cap, (ss.take len).map fun s => s.data.toList⟩, ?_, ?_, hm, ?_, ?_, fun _ _ => trivial⟩
    · simp [Sv.val, Nat.min_eq_left hlen]
    · simp [Nat.min_eq_left hlen]; exact hl
    · intro hne
      have h0 : 0 < ss.length := by
        rcases Nat.eq_zero_or_pos ss.length with h | h
        · exact absurd (by simp [List.length_eq_zero_iff.1 h]) hne
        · exact h
      have := hcell 0 h0
      unfold World.cell? at this
      split at this
      · split at this
        · cases this
        · next hsp =>
          simp [Addr.add] at hsp
          cases a
          simp_all [Sv.b, Sv.o]
      · cases this
    · intro i x hx2 j u hj
      rw [List.getElem?_map, Option.map_eq_some_iff] at hx2
      obtain ⟨y, hy, rfl⟩ := hx2
      rw [List.getElem?_take] at hy
      split at hy
      · next hi =>
        have hi2 := (List.getElem?_eq_some_iff.1 hy).1
        have h1 := hcell i hi2
        obtain ⟨rfl, rfl⟩ : j = 0 ∧ u = str y.data.toList := by
          cases j with
          | zero => exact ⟨rfl, (Option.some.inj hj).symm⟩
          | succ j => simp [Dat.enc] at hj
        rw [List.getD_eq_getElem?_getD, hy] at h1
        unfold World.cell? at h1
        show Hp.cell (wh W) a.block (a.off + i * 1 + 0) = _
        unfold Hp.cell wh
        rw [add_block, add_off] at h1
        simp only [Nat.mul_one, Nat.add_zero]
        split at h1
        · next c hb =>
          rw [hb]
          split at h1
          · cases h1
          · simpa using h1
        · cases h1
      · cases hy
end
end Go.V
end

section
set_option linter.unusedVariables false
namespace Go.V
open Go.RowKit Go.ChangeShapes Go.WideShapes
instance : Dat Bool := ⟨1, fun b => [.bool b], fun _ => rfl, fun _ _ h => by cases List.mem_singleton.1 h; rfl, fun _ => Mo.tt⟩
section
variable {P : Program}
/-- whatever can be read of a type is such data, with all that it leads to -/
def Opn (P : Program) (t : TypeId) (α : Type) [Dat α] : Prop := ∀ {H : Type} {enc : TypeId × Value → H} {W : World} {b0 : Nat} {sp : Nat → Bool} {hd : Bool} {fuel : Nat} {cs : List Value} {x : DataW H × List MemPlace},
  DataW.trod enc P W b0 sp hd fuel t cs = some x → ∃ z : α, cs = Dat.enc z ∧ (Dat.deep z).on (wh W)
theorem Opn.i64 {t : TypeId} (ht : P.underlying t = some (.int .i64)) : Opn P t Int := fun h => by
  obtain ⟨n, rfl, _, _⟩ := DataW.trod_int ht h
  exact ⟨n, rfl, trivial⟩
theorem Opn.bool {t : TypeId} (ht : P.underlying t = some .bool) : Opn P t Bool := fun h => by
  obtain ⟨n, rfl, _⟩ := DataW.trod_bool ht h
  exact ⟨n, rfl, trivial⟩
theorem Opn.u8 {t : TypeId} (ht : P.underlying t = some (.int .u8)) : Opn P t UInt8 := fun h => by
  obtain ⟨n, rfl, _, hw⟩ := DataW.trod_int ht h
  have hb : 0 ≤ n ∧ n ≤ 255 := by simpa [Lit.wf, IntKind.min, IntKind.max, IntKind.signed, IntKind.bits] using hw
  refine ⟨UInt8.ofNat n.toNat, ?_, trivial⟩
  show [Value.int .u8 n] = [.int .u8 ((UInt8.ofNat n.toNat).toNat : Int)]
  rw [← u8_z hb rfl]
theorem Opn.str {t : TypeId} (ht : P.underlying t = some .string) : Opn P t Str := fun h => by
  obtain ⟨s, rfl, _, _⟩ := DataW.trod_string ht h
  exact ⟨s.data.toList, rfl, trivial⟩
theorem pick_list {α : Type} {Q : Nat → α → Prop} : ∀ (n : Nat), (∀ i, i < n → ∃ z, Q i z) → ∃ l : List α, l.length = n ∧ ∀ i z, l[i]? = some z → Q i z
  | 0, _ => ⟨[], rfl, fun i z h => by simp at h⟩
  | n + 1, h => by
    obtain ⟨l, hl, hq⟩ := pick_list n fun i hi => h i (by omega)
    obtain ⟨z, hz⟩ := h n (by omega)
    refine ⟨l ++ [z], by simp [hl], fun i y hy => ?_⟩
    rw [List.getElem?_append] at hy
    split at hy
    · exact hq i y hy
    · have : i = n := by
        have := (List.getElem?_eq_some_iff.1 hy).1
        simp at this; omega
      subst this
      rw [hl] at hy
      simp at hy
      subst hy
      exact hz
theorem cells_at {W : World} {b0 n : Nat} {a : Addr} {cs : List Value} (h : W.cells? b0 a n = some cs) (hn : 0 < n) : a.spot = none ∧ (wh W).at a.block a.off cs := by
  unfold World.cells? at h
  split at h
  · have hl := mapM_some_length h
    rw [List.length_range] at hl
    have hg : ∀ i, i < n → W.cell? (a.add i) = cs[i]? := fun i hi => mapM_some_get h i i (by simp [hi])
    have key : ∀ (c : Addr) (v : Value), W.cell? c = some v → c.spot = none ∧ (wh W).cell c.block c.off = some v := fun c v hc => by
      unfold World.cell? at hc
      unfold Hp.cell wh
      split at hc
      · next hb =>
        split at hc
        · cases hc
        · next hsp => exact ⟨by simpa using hsp, by rw [hb]; simpa using hc⟩
      · cases hc
    refine ⟨?_, fun j v hj => ?_⟩
    · obtain ⟨v, hv⟩ : ∃ v, cs[0]? = some v := ⟨_, List.getElem?_eq_getElem (by omega)⟩
      have := (key _ v ((hg 0 hn).trans hv)).1
      unfold Addr.add at this
      split at this <;> simp_all
    · have hjn : j < n := by have := (List.getElem?_eq_some_iff.1 hj).1; omega
      have := (key _ v ((hg j hjn).trans hj)).2
      rwa [add_block, add_off] at this
  · cases h
theorem Opn.sv {t e : TypeId} {α : Type} [Dat α] (ht : P.underlying t = some (.slice e)) (hc : P.cellsOf e = Dat.sz α) (hpos : 0 < Dat.sz α) (he : Opn P e α) : Opn P t (Sv α) := fun {H enc W b0 sp hd fuel cs x} h => by
  rcases DataW.trod_slice ht h with ⟨rfl, _⟩ | ⟨a, len, cap, elems, rest, n, _, rfl, _, hb, hl, hm, hlen, hel, _⟩
  · exact ⟨⟨none, 0, []⟩, rfl, Nat.le_refl _, by simp [maxLen], fun h => absurd rfl h, fun _ _ h => by simp at h, fun _ h => by cases h⟩
  · have each : ∀ i, i < len → ∃ z : α, W.cells? b0 (a.add (i * Dat.sz α)) (Dat.sz α) = some (Dat.enc z) ∧ (Dat.deep z).on (wh W) := fun i hi => by
      have h1 := hel i hi
      rw [List.getElem?_eq_getElem (by omega), hc] at h1
      cases h2 : W.cells? b0 (a.add (i * Dat.sz α)) (Dat.sz α) with
      | none => rw [h2] at h1; cases h1
      | some cs' =>
        rw [h2] at h1
        obtain ⟨z, rfl, hz⟩ := he h1
        exact ⟨z, rfl, hz⟩
    obtain ⟨l, h1, h2⟩ := pick_list len each
    refine ⟨⟨some a, cap, l⟩, by rw [← h1]; rfl, by simpa [h1] using hl, hm, fun hne => ?_, fun i z hz => ?_, fun z hz => ?_⟩
    · simp only at hne
      obtain ⟨z, hz⟩ : ∃ z, l[0]? = some z := ⟨_, List.getElem?_eq_getElem (List.length_pos_iff.2 hne)⟩
      have := (cells_at (h2 0 z hz).1 hpos).1
      simp only [Nat.zero_mul] at this
      cases a
      simp [Addr.add] at this
      simp_all [Sv.b, Sv.o]
    · have := (cells_at (h2 i z hz).1 hpos).2
      rw [add_block, add_off] at this
      exact this
    · obtain ⟨i, hi, rfl⟩ := List.mem_iff_getElem.1 hz
      exact (h2 i l[i] (List.getElem?_eq_getElem hi)).2
theorem trod_fields {H : Type} {enc : TypeId × Value → H} {W : World} {b0 : Nat} {sp : Nat → Bool} {hd : Bool} {fuel : Nat} {cs : List Value} {x : DataW H × List MemPlace} {t : TypeId} {fs : Array Field} (ht : P.underlying t = some (.struct fs)) (h : DataW.trod enc P W b0 sp hd fuel t cs = some x) :
    cs.length = P.cellsOf t ∧ ∀ (i : Nat) (f : Field), fs[i]? = some f → ∃ (n : Nat) (y : DataW H × List MemPlace), DataW.trod enc P W b0 sp hd n f.type ((cs.drop f.offset).take (P.cellsOf f.type)) = some y := by
  obtain ⟨xs, n, _, _, hl, hx, hf⟩ := DataW.trod_struct ht h
  refine ⟨hl, fun i f hi => ⟨n, ?_⟩⟩
  have h1 := hf i f hi
  have hi' := (Array.getElem?_eq_some_iff.1 hi).1
  rw [List.getElem?_eq_getElem (by omega)] at h1
  exact ⟨_, h1⟩
/-- a field -/
theorem Opn.fld {H : Type} {enc : TypeId × Value → H} {W : World} {b0 : Nat} {sp : Nat → Bool} {hd : Bool} {cs cs' : List Value} {t : TypeId} {α : Type} [Dat α] (ho : Opn P t α) {off k : Nat} (hk : P.cellsOf t = k) (h : ∃ (n : Nat) (y : DataW H × List MemPlace), DataW.trod enc P W b0 sp hd n t ((cs.drop off).take (P.cellsOf t)) = some y) (hc : (cs.drop off).take k = cs') :
    ∃ z : α, cs' = Dat.enc z ∧ (Dat.deep z).on (wh W) := by
  subst hk
  subst hc
  obtain ⟨n, y, h⟩ := h
  exact ho h
/-- an argument, out of what is read of it -/
theorem Opn.arg {t : TypeId} {α : Type} [Dat α] (ho : Opn P t α) {H : Type} {enc : TypeId × Value → H} {W : World} {b0 : Nat} {sp : Nat → Bool} {hd : Bool} {v : Value} {d : DataW H} {p : List MemPlace} (h : DataW.Trod enc P W b0 sp hd t v d p) : ∃ z : α, v.cells.toList = Dat.enc z ∧ (Dat.deep z).on (wh W) := by
  obtain ⟨f, h⟩ := h
  exact ho h
theorem cells_agg {cs : List Value} {v : Value} {c : Array Value} (hv : v = .agg c) (h : v.cells.toList = cs) : v = .agg cs.toArray := by
  subst hv
  subst h
  simp [Value.cells]
theorem okw_struct {W : World} {r : Reach} {b0 : Nat} {t : TypeId} {fs : Array Field} {v : Value} (ht : P.underlying t = some (.struct fs)) (h : Value.okWide P W r b0 t v) : ∃ c, v = .agg c := by
  unfold Value.okWide at h
  rw [ht] at h
  obtain ⟨c, hc, _⟩ := h
  exact ⟨c, hc⟩
theorem okw_slice {W : World} {r : Reach} {b0 : Nat} {t e : TypeId} {v : Value} {α : Type} [Dat α] {z : Sv α} (ht : P.underlying t = some (.slice e)) (h : Value.okWide P W r b0 t v) (hc : v.cells.toList = Dat.enc z) : v = z.val := by
  obtain ⟨a0, len, cap, rfl⟩ := okWide_slice ht h
  have : [Value.slice a0 len cap] = [z.val] := hc
  exact List.head_eq_of_cons_eq this
end
end Go.V
end
