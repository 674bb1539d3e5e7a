/- Part of the proofs of: Any three trees merged: each path, what clashes, with its stages; or why not, as the document says. -/
import Derived.Test.YtleokmhhloamaaaGreatDoorME
set_option linter.unusedVariables false
set_option linter.unusedSimpArgs false
set_option linter.unusedSectionVars false
section
namespace Go.S
open Go
def vF (f : FilesFile) : Prop := checkP f.path = 0 ∧ (f.mode = 1 ∨ f.mode = 2) ∧ f.data.length ≤ 4096
theorem checkP_len {p : List UInt8} (h : checkP p = 0) : p.length ≤ 64 := by
 unfold checkP at h
 split at h
 ·
  omega
 omega
structure GoodF (x : List FilesFile) : Prop where
  v : ∀ f ∈ x, vF f
  r : R x
  c : x.Pairwise (fun a b => clashS a.path b.path = false)
theorem GoodF.sub {l l' : List FilesFile} (h : GoodF l) (s : l'.Sublist l) : GoodF l' := ⟨fun f hf => h.v f (s.subset hf), h.r.sub s, List.Pairwise.sublist s h.c⟩
theorem fix14 (l : List FilesFile) (f : FilesFile) (hb : l.length ≤ 1000000000) (hl : ∀ z ∈ l, z.path.length ≤ 1000000000) (hf : f.path.length ≤ 1000000000) : Ok (Sh.slices_ContainsFunc_files_Row_files_File l f) (fun b => b = l.any fun y => clashS y.path f.path) := by
 unfold Sh.slices_ContainsFunc_files_Row_files_File Sh.slices_IndexFunc_files_Row_files_File
 rw [ok_bd]
 refine (ixloop (fun y => clashS y.path f.path) l hb (fun y => Sh.files_Row_wrong_1 y f) (fun y hy => ?_) _ fun i => rfl).mono fun r hr => ?_
 ·
  unfold Sh.files_Row_wrong_1
  rw [clash_ok (hl y hy) hf]; rfl
 rw [ok_some, fst_any hr]
theorem wrong14 {x : List FilesFile} (hb : x.length ≤ 1000000) (hl : ∀ z ∈ x, z.path.length ≤ 1000000000) {i : Int} (i0 : 0 ≤ i) (hi : i < x.length) {z : FilesFile} (hz : x[i.toNat]? = some z) :
 Ok (Sh.files_Row_wrong x i) fun e => e = 0 ↔ vF z ∧ (∀ y, 0 < i → x[(i - 1).toNat]? = some y → y.path < z.path) ∧ ∀ y ∈ x.take i.toNat, clashS y.path z.path = false := by
 unfold Sh.files_Row_wrong
 have hzm := List.mem_of_getElem? hz
 rw [ok_bd, ok_at]
 refine ⟨i0, z, hz, ?_⟩
 rw [pcheck_ok, Option.bind_some]
 by_cases hc : checkP z.path = 0
 ·
  rw [if_pos hc]
  refine ok_jnP (fun b => b = false ↔ (z.mode = 1 ∨ z.mode = 2)) ?_ ?_
  ·
   intro b hbm
   simp only [ok_if, ok_some]
   refine ⟨fun h => ⟨fun q => absurd q (by omega), fun ⟨⟨_, m, _⟩, _⟩ => by rw [hbm.2 m] at h; cases h⟩, fun h => ⟨fun hd => ⟨fun q => absurd q (by omega), fun ⟨⟨_, _, q⟩, _⟩ => absurd q (by omega)⟩, fun hd => ?_⟩⟩
   have hm := hbm.1 (by simpa using h)
   have hd' : z.data.length ≤ 4096 := by omega
   refine ok_jnP (fun b => b = false ↔ (∀ y, 0 < i → x[(i - 1).toNat]? = some y → y.path < z.path)) ?_ ?_
   ·
    intro b hbm
    simp only [ok_if, ok_some]
    refine ⟨fun h => ⟨fun q => absurd q (by omega), fun ⟨_, q, _⟩ => by rw [hbm.2 q] at h; cases h⟩, fun h => ?_⟩
    have hr := hbm.1 (by simpa using h)
    simp only [ok_gd, ok_lt]
    refine ⟨⟨i0, by omega⟩, ok_bd.2 ((fix14 (x.take i.toNat) z (by rw [List.length_take]; omega) (fun y hy => hl y (List.mem_of_mem_take hy)) (hl z hzm)).mono fun c hcc => ?_)⟩
    simp only [ok_if, ok_some]
    refine ⟨fun h => ⟨fun q => absurd q (by omega), fun ⟨_, _, q⟩ => ?_⟩, fun h => ⟨fun _ => ⟨⟨hc, hm, hd'⟩, hr, fun y hy => ?_⟩, fun _ => (by first | rfl | trivial)⟩⟩
    ·
     rw [hcc] at h
     obtain ⟨y, hy, hy2⟩ := List.any_eq_true.1 h
     rw [q y hy] at hy2; cases hy2
    cases hq : clashS y.path z.path with
    | false => rfl
    | true => exact absurd (hcc.trans (List.any_eq_true.2 ⟨y, hy, hq⟩)) h
   intro K hK
   simp only [ok_if, ok_gd]
   refine ⟨fun h => ⟨⟨by omega, by omega⟩, ?_⟩, fun h => hK _ ⟨fun _ y q => absurd q h, fun _ => rfl⟩⟩
   obtain ⟨y, hy⟩ := at_get (l := x) (i := i - 1) (by omega) (by omega)
   rw [ok_bd, ok_at]
   refine ⟨by omega, y, hy, ?_⟩
   rw [pcmp14, Option.bind_some]
   refine hK _ ?_
   rw [decide_eq_false_iff_not]
   constructor
   ·
    intro q y' _ hy'
    rw [hy] at hy'; cases hy'
    by_cases q2 : y.path < z.path
    ·
     exact q2
    rw [if_neg q2] at q; split at q <;> omega
   intro q
   rw [if_pos (q y h hy)]; omega
  intro K hK
  simp only [ok_if]
  refine ⟨fun h => hK _ ⟨fun _ => .inl h, fun _ => rfl⟩, fun h => hK _ ⟨fun q => .inr (by simpa using q), fun q => ?_⟩⟩
  rcases q with q | q
  ·
   exact absurd q h
  simp [q]
 rw [if_neg hc, ok_some]
 exact ⟨fun h => absurd h hc, fun ⟨⟨h, _⟩, _⟩ => absurd h hc⟩
theorem goodF_snoc {x : List FilesFile} {i : Int} (i0 : 0 ≤ i) {z : FilesFile} (hz : x[i.toNat]? = some z) (hg : GoodF (x.take i.toNat)) (hv : vF z) (hr : ∀ y, 0 < i → x[(i - 1).toNat]? = some y → y.path < z.path) (hc : ∀ y ∈ x.take i.toNat, clashS y.path z.path = false) : GoodF (x.take (i + 1).toNat) := by
 rw [take_snoc i0 hz]
 have hlt : ∀ a ∈ x.take i.toNat, a.path < z.path := fun a ha => by
   have hpos : 0 < i := by
     rcases Int.lt_or_le 0 i with q | q
     · exact q
     · rw [show i.toNat = 0 by omega] at ha; simp at ha
   have hil := get_lt hz
   obtain ⟨y, hy⟩ := at_get (l := x) (i := i - 1) (by omega) (by omega)
   have hyz := hr y hpos hy
   have he : x.take i.toNat = x.take (i - 1).toNat ++ [y] := by
     have := take_snoc (l := x) (i := i - 1) (by omega) hy
     rwa [show i - 1 + 1 = i by omega] at this
   rw [he] at ha
   rcases List.mem_append.1 ha with q | q
   · have hR := hg.r
     rw [he] at hR
     have := (List.pairwise_append.1 hR).2.2 a q y (List.mem_singleton_self _)
     exact List.lt_trans this hyz
   · rw [List.mem_singleton.1 q]; exact hyz
 refine ⟨fun f hf => ?_, List.pairwise_append.2 ⟨hg.r, List.pairwise_singleton _ _, fun a ha b hb => ?_⟩, List.pairwise_append.2 ⟨hg.c, List.pairwise_singleton _ _, fun a ha b hb => ?_⟩⟩
 ·
  rcases List.mem_append.1 hf with q | q
  ·
   exact hg.v f q
  rw [List.mem_singleton.1 q]; exact hv
 ·
  rw [List.mem_singleton.1 hb]; exact hlt a ha
 rw [List.mem_singleton.1 hb]; exact hc a ha
theorem check14 {x : List FilesFile} (hb : x.length ≤ 1000000) (hl : ∀ z ∈ x, z.path.length ≤ 1000000000) : Ok (Sh.files_Row_Check x) fun e => e.isNil = true ↔ x.length ≤ 64 ∧ GoodF x := by
 unfold Sh.files_Row_Check
 simp only [ok_if, ok_some]
 refine ⟨fun h => ⟨fun q => (by cases q), fun q => absurd q.1 (by omega)⟩, fun h64 => ?_⟩
 refine ok_iter (I := fun i => 0 ≤ i ∧ i ≤ x.length ∧ GoodF (x.take i.toNat)) (μ := fun i => (x.length - i).toNat) ?_ ⟨by omega, by omega, ⟨fun f h => (by simp at h), by simp [R], by simp⟩⟩
 rintro i ⟨i0, i1, hg⟩
 simp only [ok_if, ok_up, ok_some]
 refine ⟨fun hi => ?_, fun hi => ?_⟩
 ·
  obtain ⟨z, hz⟩ := at_get (l := x) i0 hi
  refine ok_bd.2 ((wrong14 hb hl i0 hi hz).mono fun e he => ?_)
  simp only [ok_if, ok_gd, ok_go, ok_up, ok_some]
  refine ⟨fun h => ⟨⟨by omega, by omega⟩, ⟨by omega, by omega, ?_⟩, by omega⟩, fun h => ⟨fun q => (by cases q), fun ⟨_, q⟩ => absurd (he.2 ?_) h⟩⟩
  ·
   obtain ⟨a, b, c⟩ := he.1 h
   exact goodF_snoc i0 hz hg a b c
  refine ⟨q.v z (List.mem_of_getElem? hz), fun y hpos hy => ?_, fun y hy => ?_⟩
  ·
   exact q.r.take_lt hz y (List.mem_of_getElem? (i := (i - 1).toNat) (by rw [List.getElem?_take, if_pos (by omega)]; exact hy))
  obtain ⟨j, hj⟩ := List.getElem?_of_mem hy
  rw [List.getElem?_take] at hj
  split at hj
  ·
   next hlt =>
   have h1 := (List.getElem?_eq_some_iff.1 hj)
   have h2 := (List.getElem?_eq_some_iff.1 hz)
   have := List.pairwise_iff_getElem.1 q.c j i.toNat h1.1 h2.1 hlt
   rwa [h1.2, h2.2] at this
  cases hj
 rw [List.take_of_length_le (by omega)] at hg
 exact ⟨fun _ => ⟨by omega, hg⟩, fun _ => rfl⟩
end Go.S
end

section
namespace Go.S
open Go
def PathsOf (ls : List (List FilesFile)) (r : List (List UInt8)) : Prop := r.Pairwise (· < ·) ∧ ∀ x, x ∈ r ↔ ∃ l ∈ ls, ∃ f ∈ l, f.path = x
theorem strict_ext {l l' : List (List UInt8)} (h : l.Pairwise (· < ·)) (h' : l'.Pairwise (· < ·)) (m : ∀ z, z ∈ l ↔ z ∈ l') : l = l' := by
 have nd : ∀ {l : List (List UInt8)}, l.Pairwise (· < ·) → l.Nodup := fun {l} h => h.imp (fun {a b} (q : a < b) (e : a = b) => List.lt_irrefl b (e ▸ q))
 exact List.Perm.eq_of_pairwise (le := fun a b => a ≤ b) (fun a b _ _ h1 h2 => List.le_antisymm h1 h2) (h.imp fun q => List.le_of_lt q) (h'.imp fun q => List.le_of_lt q) ((List.perm_ext_iff_of_nodup (nd h) (nd h')).2 m)
theorem paths14 (ls : List (List FilesFile)) (hn : ls.length ≤ 8) (hl : ∀ l ∈ ls, l.length ≤ 1000000 ∧ ∀ f ∈ l, f.path.length ≤ 1000000) : Ok (Sh.files_Paths ls) (fun r => PathsOf ls r ∧ r.length ≤ 8000000) := by
 unfold Sh.files_Paths
 refine ok_iter (I := fun t => 0 ≤ t.1 ∧ t.1 ≤ ls.length ∧ (t.2.length : Int) ≤ t.1 * 1000000 ∧ ∀ x, x ∈ t.2 ↔ ∃ l ∈ ls.take t.1.toNat, ∃ f ∈ l, f.path = x) (μ := fun t => (ls.length - t.1).toNat) ?_ ⟨by simp, by simp, by simp, by simp⟩
 rintro ⟨i, acc⟩ ⟨i0, i1, i2, i3⟩
 dsimp only at i0 i1 i2 i3 ⊢
 simp only [ok_if, ok_up, ok_bd, ok_at]
 refine ⟨fun hi => ?_, fun hi => ?_⟩
 ·
  obtain ⟨l, hz⟩ := at_get (l := ls) i0 hi
  have hll := hl l (List.mem_of_getElem? hz)
  refine ⟨i0, l, hz, ?_⟩
  have hmul : (i + 1) * 1000000 = i * 1000000 + 1000000 := by rw [Int.add_mul]; omega
  have hle : i * 1000000 ≤ 8000000 := by omega
  refine ok_iter (I := fun t => 0 ≤ t.1 ∧ t.1 ≤ l.length ∧ (t.2.length : Int) ≤ i * 1000000 + t.1 ∧ ∀ x, x ∈ t.2 ↔ (∃ l ∈ ls.take i.toNat, ∃ f ∈ l, f.path = x) ∨ ∃ f ∈ l.take t.1.toNat, f.path = x) (μ := fun t => (l.length - t.1).toNat) ?_ ⟨by simp, by simp, by simpa using i2, by simpa using i3⟩
  rintro ⟨j, acc2⟩ ⟨j0, j1, j2, j3⟩
  dsimp only at j0 j1 j2 j3 ⊢
  simp only [ok_if, ok_up, ok_bd, ok_at, ok_gd, ok_lt, ok_go]
  refine ⟨fun hj => ?_, fun hj => ⟨⟨by omega, by omega⟩, ⟨by omega, by omega, by omega, fun x => ?_⟩, by omega⟩⟩
  ·
   obtain ⟨f, hf⟩ := at_get (l := l) j0 hj
   have hfl := hll.2 f (List.mem_of_getElem? hf)
   refine ⟨j0, f, hf, ⟨by omega, by omega⟩, ⟨by omega, by omega⟩, ⟨by omega, by omega, by simp only [List.length_cons]; omega, fun x => ?_⟩, by omega⟩
   rw [List.mem_cons, j3, take_snoc j0 hf]
   constructor
   ·
    rintro (q | q | ⟨g, hg, q⟩)
    ·
     exact .inr ⟨f, by simp, q.symm⟩
    ·
     exact .inl q
    exact .inr ⟨g, List.mem_append_left _ hg, q⟩
   rintro (q | ⟨g, hg, q⟩)
   ·
    exact .inr (.inl q)
   rcases List.mem_append.1 hg with h | h
   ·
    exact .inr (.inr ⟨g, h, q⟩)
   rw [List.mem_singleton.1 h] at q; exact .inl q.symm
  rw [List.take_of_length_le (l := l) (i := j.toNat) (by omega)] at j3
  rw [j3, take_snoc i0 hz]
  constructor
  ·
   rintro (⟨m, hm, q⟩ | q)
   ·
    exact ⟨m, List.mem_append_left _ hm, q⟩
   exact ⟨l, List.mem_append_right _ (List.mem_singleton_self _), q⟩
  rintro ⟨m, hm, q⟩
  rcases List.mem_append.1 hm with h | h
  ·
   exact .inl ⟨m, h, q⟩
  rw [List.mem_singleton.1 h] at q; exact .inr q
 rw [List.take_of_length_le (by omega)] at i3
 simp only [ok_gd, ok_lt]
 refine ⟨by omega, ?_⟩
 rw [clipS14, Option.bind_some, ok_some]
 exact ⟨⟨keysS_lt acc, fun x => (keysS_mem acc x).trans (i3 x)⟩, by have := keysS_len acc; omega⟩
end Go.S
end

section
namespace Go.S
open Go
theorem filter2_len {α : Type} (p q : α → Bool) (l : List α) (h : ∀ z ∈ l, p z = true → q z = false) : (l.filter p).length + (l.filter q).length ≤ l.length := by
 induction l with
 | nil => simp
 | cons a r ih =>
   have ih' := ih fun z hz => h z (List.mem_cons_of_mem _ hz)
   have ha := h a (List.mem_cons_self ..)
   cases hp : p a with
   | true => have hq := ha hp; simp [List.filter_cons, hp, hq]; omega
   | false => cases hq : q a <;> simp [List.filter_cons, hp, hq] <;> omega
theorem putF_len1 (x : List FilesFile) (f : FilesFile) : (putF x f).length ≤ x.length + 1 := by
 unfold putF
 have := filter2_len (fun z : FilesFile => decide (z.path < f.path)) (fun z => decide (f.path < z.path)) x (fun z _ h => by
   have h' : z.path < f.path := of_decide_eq_true h
   exact decide_eq_false fun q => List.lt_irrefl _ (List.lt_trans h' q))
 simp only [List.length_append, List.length_cons, List.length_nil]; omega
theorem paths_same {ls : List (List FilesFile)} {ps qs : List (List UInt8)} (h : PathsOf ls ps) (h' : PathsOf ls qs) : ps = qs := strict_ext h.1 h'.1 fun x => (h.2 x).trans (h'.2 x).symm
end Go.S
end

section
namespace Go.S
open Go
def toF (f : FilesFile) : Rectoref14File := ⟨f.path, f.mode, f.data⟩
def ofF (f : Rectoref14File) : FilesFile := ⟨f.path, f.mode, f.data⟩
theorem mapF_at {l : List FilesFile} {i : Nat} {z : FilesFile} (h : l[i]? = some z) : (l.map toF)[i]? = some (toF z) := by rw [List.getElem?_map, h]; rfl
theorem toF_inj {a b : List FilesFile} (h : a.map toF = b.map toF) : a = b := by
 have := congrArg (List.map ofF) h
 rw [List.map_map, List.map_map, show ofF ∘ toF = id from rfl, List.map_id, List.map_id] at this
 exact this
theorem of14 (l : List FilesFile) (hb : l.length ≤ 1000000000) : Sh.l14_Of l = some (l.map toF) := by
 apply Ok.eq
 unfold Sh.l14_Of
 refine ok_iter (I := fun t => 0 ≤ t.2 ∧ t.2 ≤ l.length ∧ t.1 = (l.take t.2.toNat).map toF) (μ := fun t => (l.length - t.2).toNat) ?_ ⟨by simp, by simp, by simp⟩
 rintro ⟨o, i⟩ ⟨i0, i1, i2⟩
 dsimp only at i0 i1 i2 ⊢
 have hol : o.length ≤ i.toNat := by rw [i2, List.length_map, List.length_take]; omega
 simp only [ok_if, ok_up, ok_bd, ok_at, ok_lt, ok_gd, ok_go, ok_some]
 refine ⟨fun hi => ?_, fun hi => ?_⟩
 ·
  obtain ⟨z, hz⟩ := at_get (l := l) i0 hi
  refine ⟨i0, z, hz, i0, z, hz, i0, z, hz, by simp; omega, ⟨by omega, by omega⟩, ⟨by omega, by omega, ?_⟩, by omega⟩
  rw [i2, take_snoc i0 hz, List.map_append]; rfl
 rw [i2, List.take_of_length_le (by omega)]
abbrev loF (x : List FilesFile) (f : FilesFile) : List FilesFile := x.filter (fun z => decide (z.path < f.path))
abbrev hiF (x : List FilesFile) (f : FilesFile) : List FilesFile := x.filter (fun z => decide (f.path < z.path))
theorem putr14 {x : List FilesFile} (h : R x) (hb : x.length ≤ 100000000) (f : FilesFile) : Sh.r14_Put (x.map toF) (toF f) = some ((putF x f).map toF) := by
 apply Ok.eq
 unfold Sh.r14_Put
 refine ok_iter (I := fun t => 0 ≤ t.2.2 ∧ t.2.2 ≤ x.length ∧ t.1 = (loF (x.take t.2.2.toNat) f ++ (if t.2.1 = true then [f] else []) ++ hiF (x.take t.2.2.toNat) f).map toF ∧ (t.2.1 = false → ∀ z ∈ x.take t.2.2.toNat, z.path < f.path) ∧ (t.2.1 = true → ∀ z ∈ x.drop t.2.2.toNat, f.path < z.path)) (μ := fun t => (x.length - t.2.2).toNat) ?_ ⟨by simp, by simp, by simp, by simp, by simp⟩
 rintro ⟨o, u, i⟩ ⟨i0, i1, i2, i3, i4⟩
 dsimp only at i0 i1 i2 i3 i4 ⊢
 have hl1 : (loF (x.take i.toNat) f).length ≤ _ := List.length_filter_le (fun z : FilesFile => decide (z.path < f.path)) (x.take i.toNat)
 have hl2 : (hiF (x.take i.toNat) f).length ≤ _ := List.length_filter_le (fun z : FilesFile => decide (f.path < z.path)) (x.take i.toNat)
 have hl4 : (loF (x.take i.toNat) f).length + (hiF (x.take i.toNat) f).length ≤ (x.take i.toNat).length := filter2_len _ _ _ (fun z _ h => by
   have h' : z.path < f.path := of_decide_eq_true h
   exact decide_eq_false fun q => List.lt_irrefl _ (List.lt_trans h' q))
 have hl3 : (x.take i.toNat).length ≤ x.length := by rw [List.length_take]; omega
 have hol : ∀ (v : Bool), ((loF (x.take i.toNat) f ++ (if v = true then [f] else []) ++ hiF (x.take i.toNat) f).map toF).length ≤ 2 * x.length + 1 := by
   intro v
   rw [List.length_map, List.length_append, List.length_append]
   cases v <;> simp only [if_true, if_false, Bool.false_eq_true, List.length_cons, List.length_nil] <;> omega
 simp only [ok_if, ok_up, List.length_map]
 refine ⟨fun hi => ?_, fun hi => ?_⟩
 ·
  obtain ⟨z, hz⟩ := at_get (l := x) i0 hi
  have hzm := mapF_at hz
  have hdz : x.drop i.toNat = z :: x.drop (i + 1).toNat := by rw [show (i + 1).toNat = i.toNat + 1 by omega]; exact drop_cons' hz
  have hgz : ∀ y ∈ x.drop (i + 1).toNat, z.path < y.path := by rw [show (i + 1).toNat = i.toNat + 1 by omega]; exact h.drop_gt hz
  have hsn := take_snoc i0 hz
  refine ok_jnP (fun w => w.1 = (loF (x.take (i + 1).toNat) f ++ (if w.2 = true then [f] else []) ++ hiF (x.take (i + 1).toNat) f).map toF ∧ (w.2 = false → ∀ z ∈ x.take (i + 1).toNat, z.path < f.path) ∧ (w.2 = true → ∀ z ∈ x.drop (i + 1).toNat, f.path < z.path)) ?_ ?_
  ·
   rintro ⟨w1, w2⟩ ⟨a1, a2, a3⟩
   simp only [ok_gd, ok_go]
   exact ⟨⟨by omega, by omega⟩, ⟨by omega, by omega, a1, a2, a3⟩, by omega⟩
  intro K7 hK7
  refine ok_jnP (fun w => w.1 = (loF (x.take i.toNat) f ++ (if w.2 = true then [f] else []) ++ hiF (x.take i.toNat) f).map toF ∧ (w.2 = false → z.path < f.path ∧ ∀ z ∈ x.take i.toNat, z.path < f.path) ∧ (w.2 = true → ¬ z.path < f.path)) ?_ ?_
  ·
   rintro ⟨w1, w2⟩ ⟨a1, a2, a3⟩
   dsimp only at a1 a2 a3 ⊢
   have hw := hol w2
   rw [← a1] at hw
   simp only [ok_bd, ok_at, ok_if, ok_lt, ok_gd]
   refine ⟨i0, toF z, hzm, fun he => ?_, fun he => ⟨i0, toF z, hzm, by simp; omega, ?_⟩⟩
   ·
    have he : z.path = f.path := he
    have hw2 : w2 = true := by
      cases w2 with
      | true => rfl
      | false => have := (a2 rfl).1; rw [he] at this; exact absurd this (List.lt_irrefl _)
    refine hK7 _ ⟨?_, fun q => absurd q (by rw [hw2]; simp), fun _ y hy => (by rw [← he]; exact hgz y hy)⟩
    rw [a1, hsn]
    simp [List.filter_append, he, List.lt_irrefl]
   have he : ¬ z.path = f.path := he
   cases w2 with
   | true =>
     have hnz := a3 rfl
     have hfz : f.path < z.path := by
       by_cases q : f.path < z.path
       · exact q
       · exact absurd (List.le_antisymm (List.not_lt.1 q) (List.not_lt.1 hnz)) he
     refine hK7 _ ⟨?_, fun q => (by cases q), fun _ y hy => List.lt_trans hfz (hgz y hy)⟩
     rw [a1, hsn]
     simp [List.filter_append, hnz, hfz, toF]
   | false =>
     obtain ⟨b1, b2⟩ := a2 rfl
     have hnf : ¬ f.path < z.path := fun q => List.lt_irrefl _ (List.lt_trans q b1)
     have hnil : hiF (x.take i.toNat) f = [] := List.filter_eq_nil_iff.2 fun y hy => by
       have := b2 y hy
       simp only [decide_eq_true_eq]
       exact fun q => List.lt_irrefl _ (List.lt_trans q this)
     refine hK7 _ ⟨?_, fun _ y hy => ?_, fun q => (by cases q)⟩
     · rw [a1, hsn]
       have hnil' : (x.take i.toNat).filter (fun z => decide (f.path < z.path)) = [] := hnil
       simp [List.filter_append, b1, hnf, hnil', toF]
     · rw [hsn] at hy
       rcases List.mem_append.1 hy with q | q
       · exact b2 y q
       · rw [List.mem_singleton.1 q]; exact b1
  intro K10 hK10
  refine ok_jnP (fun w => w = true ↔ u = false ∧ ¬ z.path < f.path) ?_ ?_
  ·
   intro w hw
   have hwo := hol u
   rw [← i2] at hwo
   simp only [ok_if, ok_lt, ok_gd]
   refine ⟨fun q => ?_, fun q => ?_⟩
   ·
    obtain ⟨hu, hnz⟩ := hw.1 q
    refine ⟨by simp; omega, hK10 _ ⟨?_, fun q => (by cases q), fun _ => hnz⟩⟩
    have hnil : (x.take i.toNat).filter (fun z => decide (f.path < z.path)) = [] := List.filter_eq_nil_iff.2 fun y hy => by
      have := i3 hu y hy
      simp only [decide_eq_true_eq]
      exact fun q => List.lt_irrefl _ (List.lt_trans q this)
    rw [i2, hu]
    simp [hnil, toF]
   refine hK10 _ ⟨i2, fun hu => ?_, fun hu => ?_⟩
   ·
    refine ⟨?_, i3 hu⟩
    by_cases hz' : z.path < f.path
    ·
     exact hz'
    exact absurd (hw.2 ⟨hu, hz'⟩) q
   have := i4 hu z (by rw [hdz]; exact List.mem_cons_self ..)
   exact fun q => List.lt_irrefl _ (List.lt_trans q this)
  intro K12 hK12
  simp only [ok_if, ok_bd, ok_at, Go.Proofs.bytesLess_eq]
  refine ⟨fun hu => ⟨i0, toF z, hzm, hK12 _ ?_⟩, fun hu => hK12 _ ?_⟩
  ·
   have : (toF z).path = z.path := rfl
   have h2 : (toF f).path = f.path := rfl
   rw [this, h2]
   simp at hu
   simp [hu]
  simp at hu
  simp [hu]
 rw [List.take_of_length_le (by omega)] at i2 i3
 have hw := hol u
 rw [List.take_of_length_le (l := x) (by omega)] at hw
 rw [← i2] at hw
 simp only [ok_lt, ok_gd, ok_some]
 unfold putF
 cases u with
 | true =>
   refine ⟨fun h => (by simp at h), fun _ => ?_⟩
   rw [i2]; simp
 | false =>
   have hnil : x.filter (fun z => decide (f.path < z.path)) = [] := List.filter_eq_nil_iff.2 fun y hy => by
     have := i3 rfl y hy
     simp only [decide_eq_true_eq]
     exact fun q => List.lt_irrefl _ (List.lt_trans q this)
   refine ⟨fun _ => ⟨by simp; omega, ?_⟩, fun h => absurd rfl h⟩
   rw [i2]; simp [hnil, toF]
theorem getr14 (x : List FilesFile) (hb : x.length ≤ 1000000000) (p : List UInt8) : Sh.r14_Get (x.map toF) p = some (toF (getF x p).1, (getF x p).2) := by
 apply Ok.eq
 unfold Sh.r14_Get
 refine ok_iter (I := fun i => 0 ≤ i ∧ i ≤ x.length ∧ ∀ z ∈ x.take i.toNat, z.path ≠ p) (μ := fun i => (x.length - i).toNat) ?_ ⟨by omega, by omega, by simp⟩
 rintro i ⟨i0, i1, i2⟩
 simp only [ok_if, ok_up, ok_bd, ok_at, ok_gd, ok_go, ok_some, List.length_map]
 refine ⟨fun hi => ?_, fun hi => ?_⟩
 ·
  obtain ⟨z, hz⟩ := at_get (l := x) i0 hi
  refine ⟨i0, toF z, mapF_at hz, fun hp => ⟨i0, toF z, mapF_at hz, ?_⟩, fun hp => ⟨⟨by omega, by omega⟩, ⟨by omega, by omega, fun y hy => ?_⟩, by omega⟩⟩
  ·
   have hp : z.path = p := hp
   have : gt x p = some z := by
     unfold gt
     rw [← List.take_append_drop i.toNat x, List.find?_append, List.find?_eq_none.2 (fun y hy => by simpa using i2 y hy), drop_cons' hz]
     simp [hp]
   rw [getF_some this]
  rw [take_snoc i0 hz] at hy
  rcases List.mem_append.1 hy with q | q
  ·
   exact i2 y q
  rw [List.mem_singleton.1 q]; exact hp
 rw [List.take_of_length_le (by omega)] at i2
 rw [getF_none (gt_none.2 i2)]
 try rfl
theorem pathsr14 (ls : List (List FilesFile)) (hn : ls.length ≤ 8) (hl : ∀ l ∈ ls, l.length ≤ 1000000) : Ok (Sh.r14_Paths (ls.map (·.map toF))) (fun r => PathsOf ls r ∧ r.length ≤ 8000000) := by
 unfold Sh.r14_Paths
 refine ok_iter (I := fun t => 0 ≤ t.2 ∧ t.2 ≤ ls.length ∧ ∃ acc : List FilesFile, t.1 = acc.map toF ∧ R acc ∧ (acc.length : Int) ≤ t.2 * 1000000 ∧ ∀ x, (∃ f ∈ acc, f.path = x) ↔ ∃ l ∈ ls.take t.2.toNat, ∃ f ∈ l, f.path = x) (μ := fun t => (ls.length - t.2).toNat) ?_ ⟨by simp, by simp, [], by simp, by simp [R], by simp, by simp⟩
 rintro ⟨r, i⟩ ⟨i0, i1, acc, rfl, i2, i3, i4⟩
 dsimp only at i0 i1 i3 i4 ⊢
 simp only [ok_if, ok_up, List.length_map]
 refine ⟨fun hi => ?_, fun hi => ?_⟩
 ·
  obtain ⟨l, hz⟩ := at_get (l := ls) i0 hi
  have hll := hl l (List.mem_of_getElem? hz)
  have hzm : (ls.map (·.map toF))[i.toNat]? = some (l.map toF) := by rw [List.getElem?_map, hz]; rfl
  have hmul : (i + 1) * 1000000 = i * 1000000 + 1000000 := by rw [Int.add_mul]; omega
  have hle : i * 1000000 ≤ 8000000 := by omega
  refine ok_iter (I := fun t => 0 ≤ t.2 ∧ t.2 ≤ l.length ∧ ∃ acc : List FilesFile, t.1 = acc.map toF ∧ R acc ∧ (acc.length : Int) ≤ i * 1000000 + t.2 ∧ ∀ x, (∃ f ∈ acc, f.path = x) ↔ (∃ l ∈ ls.take i.toNat, ∃ f ∈ l, f.path = x) ∨ ∃ f ∈ l.take t.2.toNat, f.path = x) (μ := fun t => (l.length - t.2).toNat) ?_ ⟨by simp, by simp, acc, rfl, i2, by simpa using i3, by simpa using i4⟩
  rintro ⟨r2, j⟩ ⟨j0, j1, acc2, rfl, j2, j3, j4⟩
  dsimp only at j0 j1 j3 j4 ⊢
  rw [ok_bd, ok_at]
  refine ⟨i0, _, hzm, ?_⟩
  simp only [ok_if, List.length_map]
  refine ⟨fun hj => ?_, fun hj => ?_⟩
  ·
   obtain ⟨f, hf⟩ := at_get (l := l) j0 hj
   rw [ok_bd, ok_at]
   refine ⟨i0, _, hzm, ?_⟩
   rw [ok_bd, ok_at]
   refine ⟨j0, toF f, mapF_at hf, ?_⟩
   have hput := putr14 j2 (by omega) ⟨f.path, 0, []⟩
   rw [show (⟨(toF f).path, 0, []⟩ : Rectoref14File) = toF ⟨f.path, 0, []⟩ from rfl, hput, Option.bind_some]
   have hpl := putF_len1 acc2 ⟨f.path, 0, []⟩
   simp only [ok_gd, ok_go]
   refine ⟨⟨by omega, by omega⟩, ⟨by omega, by omega, _, rfl, putF_R j2 _, by omega, fun x => ?_⟩, by omega⟩
   rw [take_snoc j0 hf]
   have h4 := j4 x
   constructor
   ·
    rintro ⟨g, hg, q⟩
    rcases (putF_mem _ _ _).1 hg with e | ⟨e, _⟩
    ·
     rw [e] at q; exact .inr ⟨f, by simp, q⟩
    rcases h4.1 ⟨g, e, q⟩ with e' | ⟨k, hk, e'⟩
    ·
     exact .inl e'
    exact .inr ⟨k, List.mem_append_left _ hk, e'⟩
   intro q
   by_cases hx : f.path = x
   ·
    exact ⟨_, (putF_mem _ _ _).2 (.inl rfl), hx⟩
   have : (∃ l ∈ ls.take i.toNat, ∃ f ∈ l, f.path = x) ∨ ∃ f ∈ l.take j.toNat, f.path = x := by
     rcases q with q | ⟨k, hk, q⟩
     · exact .inl q
     · rcases List.mem_append.1 hk with e | e
       · exact .inr ⟨k, e, q⟩
       · rw [List.mem_singleton.1 e] at q; exact absurd q hx
   obtain ⟨g, hg, e⟩ := h4.2 this
   exact ⟨g, (putF_mem _ _ _).2 (.inr ⟨hg, fun e' => hx (e'.symm.trans e)⟩), e⟩
  simp only [ok_up, ok_gd, ok_go]
  refine ⟨⟨by omega, by omega⟩, ⟨by omega, by omega, acc2, rfl, j2, by omega, fun x => ?_⟩, by omega⟩
  rw [List.take_of_length_le (l := l) (i := j.toNat) (by omega)] at j4
  rw [j4, take_snoc i0 hz]
  constructor
  ·
   rintro (⟨m, hm, q⟩ | q)
   ·
    exact ⟨m, List.mem_append_left _ hm, q⟩
   exact ⟨l, List.mem_append_right _ (List.mem_singleton_self _), q⟩
  rintro ⟨m, hm, q⟩
  rcases List.mem_append.1 hm with h | h
  ·
   exact .inl ⟨m, h, q⟩
  rw [List.mem_singleton.1 h] at q; exact .inr q
 rw [List.take_of_length_le (by omega)] at i4
 have hle : i * 1000000 ≤ 8000000 := by omega
 refine ok_iter (I := fun t => 0 ≤ t.2 ∧ t.2 ≤ acc.length ∧ t.1 = (acc.take t.2.toNat).map (·.path)) (μ := fun t => (acc.length - t.2).toNat) ?_ ⟨by simp, by simp, by simp⟩
 rintro ⟨o, j⟩ ⟨j0, j1, j2⟩
 dsimp only at j0 j1 j2 ⊢
 have hol : o.length ≤ j.toNat := by rw [j2, List.length_map, List.length_take]; omega
 simp only [ok_if, ok_up, ok_bd, ok_at, ok_lt, ok_gd, ok_go, ok_some]
 refine ⟨fun hj => ?_, fun hj => ?_⟩
 ·
  obtain ⟨f, hf⟩ := at_get (l := acc) j0 hj
  refine ⟨j0, toF f, mapF_at hf, by simp; omega, ⟨by omega, by omega⟩, ⟨by omega, by omega, ?_⟩, by omega⟩
  rw [j2, take_snoc j0 hf, List.map_append]; rfl
 rw [List.take_of_length_le (by omega)] at j2
 refine ⟨⟨by rw [j2]; exact List.pairwise_map.2 i2, fun x => ?_⟩, by omega⟩
 rw [← i4, j2, List.mem_map]
end Go.S
end

section
namespace Go.S
open Go
theorem gt_path {rf : List FilesFile} {p : List UInt8} {f : FilesFile} (h : gt rf p = some f) : f.path = p := by simpa using List.find?_some h
end Go.S
end

section
namespace Go.S
open Go
theorem knownL16 : Sh.l16_known = some true := by decide +kernel
def oneT (r : List FilesFile) (p : List UInt8) : TmergeOne := ⟨(getF r p).1.path, (getF r p).1.mode, (getF r p).1.data, (getF r p).2⟩
theorem of16 {r : List FilesFile} (h : R r) (hb : r.length ≤ 1000000) (p : List UInt8) : Sh.tmerge_of r p = some (oneT r p) := by
 unfold Sh.tmerge_of
 rw [get14 h (by omega), Option.bind_some]; rfl
theorem oneT_some {r : List FilesFile} {p : List UInt8} {f : FilesFile} (h : gt r p = some f) : oneT r p = ⟨f.path, f.mode, f.data, true⟩ := by
 unfold oneT; rw [getF_some h]
theorem oneT_none {r : List FilesFile} {p : List UInt8} (h : gt r p = none) : oneT r p = ⟨[], 0, [], false⟩ := by
 unfold oneT; rw [getF_none h]
theorem oneT_eq {a b : List FilesFile} {p : List UInt8} : ((oneT a p).file_path = (oneT b p).file_path ∧ (oneT a p).file_mode = (oneT b p).file_mode ∧ (oneT a p).file_data = (oneT b p).file_data ∧ (oneT a p).is = (oneT b p).is) ↔ gt a p = gt b p := by
 cases ha : gt a p with
 | none =>
   cases hb : gt b p with
   | none => rw [oneT_none ha, oneT_none hb]; simp
   | some g => rw [oneT_none ha, oneT_some hb]; simp
 | some f =>
   cases hb : gt b p with
   | none => rw [oneT_some ha, oneT_none hb]; simp
   | some g => rw [oneT_some ha, oneT_some hb]; cases f; cases g; simp
def srcT (b o t : List FilesFile) (p : List UInt8) : List FilesFile := if gt o p = gt t p ∨ gt b p = gt t p then o else t
def Cln (b o t : List FilesFile) (p : List UInt8) : Prop := gt o p = gt t p ∨ gt b p = gt t p ∨ gt b p = gt o p
structure Bd (l : List FilesFile) : Prop where
  r : R l
  n : l.length ≤ 1000000
  p : ∀ f ∈ l, f.path.length ≤ 1000000
theorem one16 {b o t : List FilesFile} (hb : Bd b) (ho : Bd o) (ht : Bd t) {p : List UInt8} (hc : Cln b o t p) (x y : List UInt8) : Sh.tmerge_One p b o t x y = some ((getF (srcT b o t p) p).1, (getF (srcT b o t p) p).2, false) := by
 apply Ok.eq
 unfold Sh.tmerge_One
 rw [of16 hb.r hb.n, Option.bind_some, of16 ho.r ho.n, Option.bind_some, of16 ht.r ht.n, Option.bind_some]
 refine ok_jnP (fun v => v = decide (gt o p = gt t p ∨ gt b p = gt t p)) ?_ ?_
 ·
  rintro v rfl
  by_cases q : gt o p = gt t p ∨ gt b p = gt t p
  ·
   rw [if_pos (decide_eq_true q), ok_some]
   unfold srcT
   rw [if_pos q]; rfl
  have q3 : gt b p = gt o p := by
    rcases hc with h | h | h
    · exact absurd (.inl h) q
    · exact absurd (.inr h) q
    · exact h
  rw [if_neg (by simp [q]), if_pos (oneT_eq.2 q3), ok_some]
  unfold srcT
  rw [if_neg q]; rfl
 intro K hK
 by_cases q : gt o p = gt t p
 ·
  rw [if_pos (oneT_eq.2 q)]
  exact hK _ (by simp [q])
 rw [if_neg fun k => q (oneT_eq.1 k)]
 refine hK _ ?_
 rw [decide_eq_decide]
 rw [oneT_eq]
 simp [q]
theorem fltT (l : List FilesFile) (f : FilesFile) (hb : l.length ≤ 1000000000) (hl : ∀ z ∈ l, z.path.length ≤ 1000000000) (hf : f.path.length ≤ 1000000000) : Ok (Sh.slices_ContainsFunc_files_Row_files_File_v2 l f) (fun b => b = l.any fun y => clashS y.path f.path) := by
 unfold Sh.slices_ContainsFunc_files_Row_files_File_v2 Sh.slices_IndexFunc_files_Row_files_File_v2
 rw [ok_bd]
 refine (ixloop (fun y => clashS y.path f.path) l hb (fun y => Sh.tmerge_fault_1 y f) (fun y hy => ?_) _ fun i => rfl).mono fun r hr => ?_
 ·
  unfold Sh.tmerge_fault_1
  rw [clash_ok (hl y hy) hf]; rfl
 rw [ok_some, fst_any hr]
theorem GoodF.bd {x : List FilesFile} (h : x.length ≤ 64 ∧ GoodF x) : Bd x := ⟨h.2.r, by omega, fun f hf => by have := checkP_len (h.2.v f hf).1; omega⟩
end Go.S
end

section
namespace Go.S
open Go
theorem like16 (a b : List FilesFile) (la : a.length ≤ 1000000000) (lb : b.length ≤ 1000000000) (p : List UInt8) : Sh.r14_Like (a.map toF) (b.map toF) p = some (decide (gt a p = gt b p)) := by
 unfold Sh.r14_Like
 rw [getr14 a la, getr14 b lb, Option.bind_some, Option.bind_some]
 cases ha : gt a p with
 | none =>
   rw [getF_none ha]
   cases hb : gt b p with
   | none => rw [getF_none hb]; simp
   | some g => rw [getF_some hb]; simp
 | some f =>
   rw [getF_some ha]
   cases hb : gt b p with
   | none => rw [getF_none hb]; simp
   | some g =>
     rw [getF_some hb]
     by_cases h : f = g
     · subst h; simp
     · have : ¬ (f.path = g.path ∧ f.mode = g.mode ∧ f.data = g.data) := fun q => h (by cases f; cases g; simpa using q)
       simp [toF, this, h]
theorem rone16 {b o t : List FilesFile} (hb : Bd b) (ho : Bd o) (ht : Bd t) {p : List UInt8} (hc : Cln b o t p) (x y : List UInt8) : Sh.r14_One p (b.map toF) (o.map toF) (t.map toF) x y = some (toF (getF (srcT b o t p) p).1, (getF (srcT b o t p) p).2, false) := by
 apply Ok.eq
 have hbn := hb.n
 have hon := ho.n
 have htn := ht.n
 unfold Sh.r14_One
 rw [getr14 b (by omega), Option.bind_some, getr14 o (by omega), Option.bind_some, getr14 t (by omega), Option.bind_some]
 refine ok_jnP (fun v => v = decide (gt o p = gt t p ∨ gt b p = gt t p)) ?_ ?_
 ·
  rintro v rfl
  by_cases q : gt o p = gt t p ∨ gt b p = gt t p
  ·
   rw [if_pos (decide_eq_true q), ok_some]
   unfold srcT
   rw [if_pos q]
  have q3 : gt b p = gt o p := by
    rcases hc with h | h | h
    · exact absurd (.inl h) q
    · exact absurd (.inr h) q
    · exact h
  rw [if_neg (by simp [q]), like16 b o (by omega) (by omega), Option.bind_some, if_pos (decide_eq_true q3), ok_some]
  unfold srcT
  rw [if_neg q]
 intro K hK
 rw [like16 o t (by omega) (by omega), Option.bind_some]
 by_cases q : gt o p = gt t p
 ·
  rw [if_pos (decide_eq_true q)]
  exact hK _ (by simp [q])
 rw [if_neg (by simp [q]), like16 b t (by omega) (by omega), Option.bind_some]
 refine hK _ ?_
 rw [decide_eq_decide]
 simp [q]
end Go.S
end

section
namespace Go.S
open Go
def ordF (x : List FilesFile) (i : Int) (z : FilesFile) : Bool := match x[(i - 1).toNat]? with
  | some y => decide (0 < i) && !decide (y.path < z.path)
  | none => false
def causeF (z : FilesFile) : Int := if checkP z.path = 0 then (if z.mode = 1 ∨ z.mode = 2 then (if 4096 < z.data.length then 4 else 0) else 1) else checkP z.path
def codeF (x : List FilesFile) (i : Int) (z : FilesFile) : Int := if causeF z = 0 then (if ordF x i z = true then 6 else if ((x.take i.toNat).any fun y => clashS y.path z.path) = true then 11 else 0) else causeF z
theorem ord_pos {x : List FilesFile} {i : Int} {y z : FilesFile} (h : 0 < i) (hy : x[(i - 1).toNat]? = some y) : ordF x i z = !decide (y.path < z.path) := by
 unfold ordF; rw [hy]; simp [h]
theorem ord_zero {x : List FilesFile} {i : Int} {z : FilesFile} (h : ¬ 0 < i) : ordF x i z = false := by
 unfold ordF
 split
 ·
  simp [h]
 rfl
theorem pcmp0 (a b : List UInt8) : Ok (Sh.path_Compare a b) fun n => decide (0 ≤ n) = !decide (a < b) := by
 refine ⟨_, pcmp14 a b, ?_⟩
 by_cases h1 : a < b
 ·
  simp [h1]
 by_cases h2 : b < a <;> simp [h1, h2]
theorem wrongF {x : List FilesFile} (hb : x.length ≤ 1000000) (hl : ∀ z ∈ x, z.path.length ≤ 1000000000) {i : Int} (i0 : 0 ≤ i) (hi : i < x.length) {z : FilesFile} (hz : x[i.toNat]? = some z) : Ok (Sh.files_Row_wrong x i) fun e => e = codeF x i z := by
 unfold Sh.files_Row_wrong
 have hzm := List.mem_of_getElem? hz
 rw [gl_atv i0 hz, Option.bind_some, pcheck_ok, Option.bind_some]
 have e0 : ∀ v : Int, (checkP z.path = 0 → v = codeF x i z) → (¬ checkP z.path = 0 → v = checkP z.path) → v = codeF x i z := fun v h1 h2 => by
   by_cases h : checkP z.path = 0
   · exact h1 h
   · rw [h2 h]
     unfold codeF causeF
     rw [if_neg h, if_neg h]
 rw [ok_if]
 refine ⟨fun hc => ?_, fun hc => ok_some.2 (e0 _ (fun h => absurd h hc) fun _ => rfl)⟩
 refine ok_jnP (fun b => b = !decide (z.mode = 1 ∨ z.mode = 2)) ?_ ?_
 ·
  rintro b rfl
  by_cases hm : z.mode = 1 ∨ z.mode = 2
  ·
   rw [if_neg (by simp [hm]), ok_if]
   refine ⟨fun hd => ok_some.2 ?_, fun hd => ?_⟩
   ·
    have hcf : causeF z = 4 := by
      unfold causeF
      rw [if_pos hc, if_pos hm, if_pos (show 4096 < z.data.length by omega)]
    unfold codeF
    rw [hcf, if_neg (show ¬ (4 : Int) = 0 by omega)]
   have hcf : causeF z = 0 := by
     unfold causeF
     rw [if_pos hc, if_pos hm, if_neg (by omega)]
   refine ok_jnP (fun b => b = ordF x i z) ?_ ?_
   ·
    rintro b rfl
    unfold codeF
    rw [if_pos hcf]
    cases ho : ordF x i z with
    | true => rw [if_pos rfl]; exact ok_some.2 (by rw [if_pos rfl])
    | false =>
      rw [if_neg (by simp), if_neg (by simp)]
      refine ok_gd.2 ⟨⟨i0, by omega⟩, ok_lt.2 (ok_bd.2 ((fix14 (x.take i.toNat) z (by rw [List.length_take]; omega) (fun y hy => hl y (List.mem_of_mem_take hy)) (hl z hzm)).mono fun v hv => ?_))⟩
      rw [hv, ok_if]
      exact ⟨fun q => ok_some.2 (by rw [if_pos q]), fun q => ok_some.2 (by rw [if_neg q])⟩
   intro K hK
   rw [ok_if]
   refine ⟨fun hp => ok_gd.2 ⟨⟨by omega, by omega⟩, ?_⟩, fun hp => hK _ (ord_zero hp).symm⟩
   obtain ⟨y, hy⟩ := gl_at (l := x) (i := i - 1) (by omega) (by omega)
   rw [gl_atv (by omega) hy, Option.bind_some]
   refine ok_bd.2 ((pcmp0 y.path z.path).mono fun n hn => hK _ ?_)
   rw [hn, ord_pos hp hy]
  rw [if_pos (by simp [hm])]
  refine ok_some.2 ?_
  have hcf : causeF z = 1 := by
    unfold causeF
    rw [if_pos hc, if_neg hm]
  unfold codeF
  rw [hcf, if_neg (show ¬ (1 : Int) = 0 by omega)]
 intro K hK
 rw [ok_if]
 exact ⟨fun h => hK _ (by simp [h]), fun h => hK _ (by simp [h])⟩
def errF (w : List UInt8) : Option (Int × Int) → Err
  | none => Err.nil
  | some (k, c) => Err.fault w k (Err.no c)
def wrgF (w : List UInt8) : Option (Int × Int) → Rectoref3WrongP
  | none => ⟨[], 0⟩
  | some (k, c) => ⟨[⟨w, k⟩], c⟩
def Res {α : Type} (x : List α) (code : Int → α → Int) (r : Option (Int × Int)) : Prop :=
  (r = none ∧ ∀ (k : Nat) z, x[k]? = some z → code k z = 0) ∨ ∃ (k : Nat) (z : α), r = some ((k : Int), code k z) ∧ x[k]? = some z ∧ code k z ≠ 0 ∧ ∀ (j : Nat) y, j < k → x[j]? = some y → code j y = 0
theorem Res.uniq {α : Type} {x : List α} {code : Int → α → Int} {r r' : Option (Int × Int)} (h : Res x code r) (h' : Res x code r') : r = r' := by
 rcases h with ⟨rfl, h⟩ | ⟨k, z, rfl, hz, hc, hj⟩
 ·
  rcases h' with ⟨rfl, _⟩ | ⟨k, z, rfl, hz, hc, _⟩
  ·
   rfl
  exact absurd (h k z hz) hc
 rcases h' with ⟨rfl, h'⟩ | ⟨k', z', rfl, hz', hc', hj'⟩
 ·
  exact absurd (h' k z hz) hc
 rcases Nat.lt_trichotomy k k' with q | q | q
 ·
  exact absurd (hj' k z q hz) hc
 ·
  subst q; rw [hz] at hz'; cases hz'; rfl
 exact absurd (hj k' z' q hz') hc'
theorem Res.loop {α R : Type} {x : List α} (code : Int → α → Int) (B : Int → Option (Int ⊕ R)) (out : Option (Int × Int) → R)
 (hB : ∀ (i : Int) z, 0 ≤ i → i < x.length → x[i.toNat]? = some z → Ok (B i) fun y => (code i z = 0 ∧ y = .inl (i + 1)) ∨ (code i z ≠ 0 ∧ y = .inr (out (some (i, code i z)))))
 (hE : B (x.length : Int) = up (some (out none))) : Ok (iter B 0) fun e => ∃ r, Res x code r ∧ e = out r := by
 refine ok_iter (I := fun i => 0 ≤ i ∧ i ≤ x.length ∧ ∀ (j : Nat) y, (j : Int) < i → x[j]? = some y → code j y = 0) (μ := fun i => (x.length - i).toNat) ?_ ⟨by omega, by omega, fun j y h => by omega⟩
 rintro i ⟨i0, i1, i2⟩
 by_cases hi : i < x.length
 ·
  obtain ⟨z, hz⟩ := gl_at i0 hi
  have ei : ((i.toNat : Nat) : Int) = i := by omega
  refine (hB i z i0 hi hz).mono ?_
  rintro y (⟨hc, rfl⟩ | ⟨hc, rfl⟩)
  ·
   refine ⟨⟨by omega, by omega, fun j y hj hy => ?_⟩, by omega⟩
   by_cases q : (j : Int) < i
   ·
    exact i2 j y q hy
   have : j = i.toNat := by omega
   subst this
   rw [hz] at hy; cases hy
   rw [ei]; exact hc
  refine ⟨_, .inr ⟨i.toNat, z, ?_, hz, ?_, fun j y hj hy => i2 j y (by omega) hy⟩, rfl⟩
  ·
   rw [ei]
  rw [ei]; exact hc
 have e : i = x.length := by omega
 subst e
 rw [hE]
 refine ok_up.2 (ok_some.2 ⟨none, .inl ⟨rfl, fun k z hz => i2 k z ?_ hz⟩, rfl⟩)
 have := (List.getElem?_eq_some_iff.1 hz).1
 omega
theorem checkE {x : List FilesFile} (hb : x.length ≤ 1000000) (hl : ∀ z ∈ x, z.path.length ≤ 1000000000) (h64 : x.length ≤ 64) : Ok (Sh.files_Row_Check x) fun e => ∃ r, Res x (codeF x) r ∧ e = errF [102, 105, 108, 101] r := by
 unfold Sh.files_Row_Check
 rw [if_neg (by omega)]
 refine Res.loop (codeF x) _ (errF [102, 105, 108, 101]) ?_ ?_
 ·
  intro i z i0 hi hz
  rw [if_pos hi]
  refine ok_bd.2 ((wrongF hb hl i0 hi hz).mono fun e he => ?_)
  subst he
  rw [ok_if]
  exact ⟨fun q => ok_gd.2 ⟨⟨by omega, by omega⟩, ok_go.2 (.inl ⟨q, rfl⟩)⟩, fun q => ok_up.2 (ok_some.2 (.inr ⟨q, rfl⟩))⟩
 rw [if_neg (by omega)]; rfl
theorem rcauseF (f : FilesFile) : Sh.r14_Cause (⟨f.path, f.mode, f.data⟩ : Rectoref14File) = some (causeF f) := by
 have hm : Sh.r14_Mode f.mode = some (decide (f.mode = 1 ∨ f.mode = 2)) := by
   unfold Sh.r14_Mode
   by_cases h : f.mode = 1 <;> simp [h]
 unfold Sh.r14_Cause causeF
 rw [rpcheck_ok, Option.bind_some]
 by_cases hc : checkP f.path = 0
 ·
  rw [if_pos hc, if_pos hc]
  dsimp only
  rw [hm, Option.bind_some]
  by_cases q : f.mode = 1 ∨ f.mode = 2
  ·
   rw [if_neg (by simp [q]), if_pos q]
   by_cases d : 4096 < f.data.length
   ·
    rw [if_pos (by omega), if_pos d]
   rw [if_neg (by omega), if_neg d]
  rw [if_pos (by simp [q]), if_neg q]
 rw [if_neg hc, if_neg hc]
theorem rcheckE {x : List FilesFile} (hl : ∀ z ∈ x, z.path.length ≤ 1000000) (h64 : x.length ≤ 64) : Ok (Sh.r14_Check (x.map toF)) fun w => ∃ r, Res x (codeF x) r ∧ w = wrgF [102, 105, 108, 101] r := by
 unfold Sh.r14_Check
 have hlen : (x.map toF).length = x.length := List.length_map ..
 simp only [hlen]
 rw [if_neg (by omega)]
 refine Res.loop (codeF x) _ (wrgF [102, 105, 108, 101]) ?_ ?_
 ·
  intro i z i0 hi hz
  have hzm := List.mem_of_getElem? hz
  have hzp := hl z hzm
  rw [if_pos hi, gl_atv i0 (gl_map toF hz), Option.bind_some]
  show Ok ((Sh.r14_Cause (⟨z.path, z.mode, z.data⟩ : Rectoref14File)).bind _) _
  rw [rcauseF z, Option.bind_some]
  refine ok_jnP (fun e => e = if causeF z = 0 then (if ordF x i z = true then 6 else 0) else causeF z) ?_ ?_
  ·
   rintro e rfl
   refine ok_jnP (fun e => e = codeF x i z) ?_ ?_
   ·
    rintro e rfl
    rw [ok_if]
    refine ⟨fun q => ok_gd.2 ⟨⟨by omega, by omega⟩, ok_go.2 (.inl ⟨q, rfl⟩)⟩, fun q => ?_⟩
    have ea : Sh.r3_At [102, 105, 108, 101] i (codeF x i z) = some ⟨[⟨[102, 105, 108, 101], i⟩], codeF x i z⟩ := rfl
    rw [ea, Option.bind_some]
    exact ok_up.2 (ok_some.2 (.inr ⟨q, rfl⟩))
   intro K hK
   generalize he0 : (if causeF z = 0 then (if ordF x i z = true then 6 else 0) else causeF z) = e0
   by_cases h0 : e0 = 0
   ·
    subst h0
    have hcf : causeF z = 0 ∧ ordF x i z = false := by
      by_cases q : causeF z = 0
      · rw [if_pos q] at he0
        cases ho : ordF x i z with
        | false => exact ⟨q, rfl⟩
        | true => rw [ho, if_pos rfl] at he0; omega
      · rw [if_neg q] at he0; exact absurd he0 q
    refine ok_iter (I := fun t => 0 ≤ t.2 ∧ t.2 ≤ i ∧ ((t.1 = 0 ∧ ∀ y ∈ x.take t.2.toNat, clashS y.path z.path = false) ∨ (t.1 = 11 ∧ (x.take i.toNat).any (fun y => clashS y.path z.path) = true))) (μ := fun t => (i - t.2).toNat) ?_ ⟨by dsimp only; omega, by dsimp only; omega, .inl ⟨rfl, by simp⟩⟩
    rintro ⟨e, k⟩ ⟨k0, k1, hk2⟩
    dsimp only at k0 k1 hk2 ⊢
    by_cases hk : k < i
    ·
     rw [if_pos hk]
     rcases hk2 with ⟨rfl, hk2⟩ | ⟨rfl, hk2⟩
     ·
      obtain ⟨w, hw⟩ := gl_at (l := x) k0 (by omega)
      have hwm := List.mem_of_getElem? hw
      have hwp := hl w hwm
      have hcl : Sh.r1_Clash (toF w).path (toF z).path = some (clashS w.path z.path) := rclash_ok (a := w.path) (by omega) (by show z.path.length ≤ _; omega)
      rw [if_pos rfl]
      refine ok_jnP (fun e => (e = 0 ∧ clashS w.path z.path = false) ∨ (e = 11 ∧ clashS w.path z.path = true)) ?_ ?_
      ·
       rintro e he
       refine ok_gd.2 ⟨⟨by omega, by omega⟩, ok_go.2 ⟨⟨by dsimp only; omega, by dsimp only; omega, ?_⟩, by dsimp only; omega⟩⟩
       rcases he with ⟨rfl, hq⟩ | ⟨rfl, hq⟩
       ·
        refine .inl ⟨rfl, fun v hv => ?_⟩
        rw [gl_snoc k0 hw] at hv
        rcases List.mem_append.1 hv with q | q
        ·
         exact hk2 v q
        rw [List.mem_singleton.1 q]; exact hq
       refine .inr ⟨rfl, List.any_eq_true.2 ⟨w, ?_, hq⟩⟩
       exact List.mem_of_getElem? (i := k.toNat) (by rw [List.getElem?_take, if_pos (by omega)]; exact hw)
      intro K2 hK2
      rw [gl_atv k0 (gl_map toF hw), Option.bind_some, Option.bind_some, hcl, Option.bind_some, ok_if]
      exact ⟨fun q => hK2 _ (.inr ⟨rfl, q⟩), fun q => hK2 _ (.inl ⟨rfl, by simpa using q⟩)⟩
     rw [if_neg (by omega)]
     refine ok_up.2 (hK _ ?_)
     unfold codeF
     rw [if_pos hcf.1, hcf.2, if_neg (by simp), if_pos hk2]
    have ek : k = i := by omega
    subst ek
    rw [if_neg hk]
    refine ok_up.2 (hK _ ?_)
    unfold codeF
    rw [if_pos hcf.1, hcf.2, if_neg (by simp)]
    rcases hk2 with ⟨rfl, hk2⟩ | ⟨rfl, hk2⟩
    ·
     rw [if_neg (by simp; exact fun y hy => by simpa using hk2 y hy)]
    rw [if_pos hk2]
   refine ok_iter (I := fun t => t.1 = e0 ∧ t.2 = 0) (μ := fun _ => 0) ?_ ⟨rfl, rfl⟩
   rintro ⟨e, k⟩ ⟨he, hk⟩
   dsimp only at he hk ⊢
   subst he hk
   have hcd : e = codeF x i z := by
     unfold codeF
     by_cases q : causeF z = 0
     · rw [if_pos q] at he0 ⊢
       cases ho : ordF x i z with
       | false => rw [ho, if_neg (by simp)] at he0; exact absurd he0.symm h0
       | true => rw [ho, if_pos rfl] at he0; rw [if_pos rfl, he0]
     · rw [if_neg q] at he0 ⊢; exact he0.symm
   rw [ok_if]
   refine ⟨fun _ => ?_, fun _ => ok_up.2 (hK _ hcd)⟩
   rw [if_neg h0]
   exact ok_up.2 (hK _ hcd)
  intro K hK
  refine ok_jnP (fun b => b = (decide (causeF z = 0) && ordF x i z)) ?_ ?_
  ·
   rintro b rfl
   rw [ok_if]
   refine ⟨fun q => hK _ ?_, fun q => hK _ ?_⟩
   ·
    simp only [Bool.and_eq_true, decide_eq_true_eq] at q
    rw [if_pos q.1, if_pos q.2]
   by_cases c : causeF z = 0
   ·
    have : ordF x i z = false := by simpa [c] using q
    rw [if_pos c, this, if_neg (by simp)]; exact c
   rw [if_neg c]
  intro K2 hK2
  by_cases c : causeF z = 0
  ·
   rw [if_pos c]
   by_cases hp : 0 < i
   ·
    obtain ⟨w, hw⟩ := gl_at (l := x) (i := i - 1) (by omega) (by omega)
    rw [if_pos hp]
    refine ok_gd.2 ⟨⟨by omega, by omega⟩, ?_⟩
    rw [gl_atv (by omega) (gl_map toF hw), Option.bind_some, Option.bind_some]
    refine hK2 _ ?_
    rw [ord_pos hp hw]
    show (!Op.bytesLess w.path z.path) = _
    rw [Go.Proofs.bytesLess_eq, decide_eq_true c, Bool.true_and]
   rw [if_neg hp]; exact hK2 _ (by rw [ord_zero hp]; simp)
  rw [if_neg c]; exact hK2 _ (by simp [c])
 rw [if_neg (by omega)]; rfl
end Go.S
end

section
namespace Go.S
open Go Go.P
def modeV (x y z : TmergeOne) : Int := if x.is = true ∧ x.file_mode = y.file_mode then z.file_mode else y.file_mode
theorem mode_ok (x y z : TmergeOne) : Sh.tmerge_mode x y z = some (modeV x y z) := by
 unfold Sh.tmerge_mode jn modeV
 cases hx : x.is with
 | true => by_cases h : x.file_mode = y.file_mode <;> simp [h]
 | false => simp
def oF (x : TmergeOne) : Rectoref14File := ⟨x.file_path, x.file_mode, x.file_data⟩
def Dt (x : TmergeOne) : Prop := x.file_data.length ≤ 10000
theorem both_same {x y z : TmergeOne} {a b : List UInt8} (hx : Dt x) (hy : Dt y) (hz : Dt z) (ha : a.length ≤ 10000) (hb : b.length ≤ 10000) :
 ∃ f cl, Sh.tmerge_both x y z a b = some (f, cl) ∧ Sh.r14_both (oF x) x.is (oF y) (oF z) a b = some (toF f, cl) ∧ f.path = y.file_path := by
 unfold Dt at hx hy hz
 have text : ∃ s n e w, Sh.merge_Text x.file_data y.file_data z.file_data a b = some (s, n, e) ∧ Sh.r11_Text x.file_data y.file_data z.file_data a b = some (s, n, w) ∧ (e.isNil = true ↔ w.err = 0) := by
   by_cases h : Short (P.spl x.file_data) (P.spl y.file_data) (P.spl z.file_data)
   · exact ⟨_, _, _, _, LP.text_small _ _ _ _ _ hx hy hz h.1 h.2.1 h.2.2 ha hb, textR _ _ _ _ _ hx hy hz ha hb h, by simp [Err.isNil]⟩
   · exact ⟨_, _, _, _, text_long _ _ _ _ _ hx hy hz h, textR_long _ _ _ _ _ hx hy hz h, by simp [Err.isNil]⟩
 obtain ⟨s, n, e, w, t1, t2, t3⟩ := text
 unfold Sh.tmerge_both Sh.r14_both
 rw [mode_ok, Option.bind_some]
 unfold jn
 have hm : (if x.is = true then (if decide (x.file_mode = y.file_mode) = true then (some z.file_mode : Option Int) else some y.file_mode) else some y.file_mode) = some (modeV x y z) := by
   unfold modeV
   cases hx : x.is with
   | true => by_cases h : x.file_mode = y.file_mode <;> simp [h]
   | false => simp
 by_cases h1 : y.file_data = z.file_data
 ·
  refine ⟨⟨y.file_path, modeV x y z, y.file_data⟩, false, ?_, ?_, rfl⟩
  ·
   simp [h1]
  cases hx : x.is with
  | true => by_cases h : x.file_mode = y.file_mode <;> simp [oF, toF, h, h1, modeV, hx]
  | false => simp [oF, toF, h1, modeV, hx]
 cases hi : x.is with
 | true =>
   by_cases h2 : z.file_data = x.file_data
   · have h3 : ¬ y.file_data = x.file_data := fun h => h1 (by rw [h, h2])
     refine ⟨⟨y.file_path, modeV x y z, y.file_data⟩, false, ?_, ?_, rfl⟩
     · simp [h1, h2]
     · by_cases h : x.file_mode = y.file_mode <;> simp [oF, toF, h, h1, h2, h3, modeV, hi]
   · by_cases h3 : y.file_data = x.file_data
     · refine ⟨⟨y.file_path, modeV x y z, z.file_data⟩, false, ?_, ?_, rfl⟩
       · simp [h1, h2, h3]
       · by_cases h : x.file_mode = y.file_mode <;> simp [oF, toF, h, h1, h2, h3, modeV, hi]
     · by_cases h4 : w.err = 0
       · by_cases h5 : (4096 : Int) < s.length
         · refine ⟨⟨y.file_path, modeV x y z, y.file_data⟩, true, ?_, ?_, rfl⟩
           · simp [h1, h2, h3, t1, t3.2 h4, h5]
           · by_cases h : x.file_mode = y.file_mode <;> simp [oF, toF, h, h1, h2, h3, modeV, hi, t2, h4, h5]
         · refine ⟨⟨y.file_path, modeV x y z, s⟩, decide (0 < n), ?_, ?_, rfl⟩
           · simp [h1, h2, h3, t1, t3.2 h4, h5]
           · by_cases h : x.file_mode = y.file_mode <;> simp [oF, toF, h, h1, h2, h3, modeV, hi, t2, h4, h5]
       · have h6 : e.isNil = false := by cases he : e.isNil with | false => rfl | true => exact absurd (t3.1 he) h4
         refine ⟨⟨y.file_path, modeV x y z, y.file_data⟩, true, ?_, ?_, rfl⟩
         · simp [h1, h2, h3, t1, h6]
         · by_cases h : x.file_mode = y.file_mode <;> simp [oF, toF, h, h1, h2, h3, modeV, hi, t2, h4]
 | false =>
   by_cases h4 : w.err = 0
   · by_cases h5 : (4096 : Int) < s.length
     · refine ⟨⟨y.file_path, modeV x y z, y.file_data⟩, true, ?_, ?_, rfl⟩
       · simp [h1, t1, t3.2 h4, h5]
       · simp [oF, toF, h1, modeV, hi, t2, h4, h5]
     · refine ⟨⟨y.file_path, modeV x y z, s⟩, decide (0 < n), ?_, ?_, rfl⟩
       · simp [h1, t1, t3.2 h4, h5]
       · simp [oF, toF, h1, modeV, hi, t2, h4, h5]
   · have h6 : e.isNil = false := by cases he : e.isNil with | false => rfl | true => exact absurd (t3.1 he) h4
     refine ⟨⟨y.file_path, modeV x y z, y.file_data⟩, true, ?_, ?_, rfl⟩
     · simp [h1, t1, h6]
     · simp [oF, toF, h1, modeV, hi, t2, h4]
theorem one_same {b o t : List FilesFile} (hb : Bd b) (ho : Bd o) (ht : Bd t) (db : ∀ f ∈ b, f.data.length ≤ 10000) (dO : ∀ f ∈ o, f.data.length ≤ 10000) (dt : ∀ f ∈ t, f.data.length ≤ 10000) (p : List UInt8) {x y : List UInt8} (hx : x.length ≤ 10000) (hy : y.length ≤ 10000) :
 ∃ f th cl, Sh.tmerge_One p b o t x y = some (f, th, cl) ∧ Sh.r14_One p (b.map toF) (o.map toF) (t.map toF) x y = some (toF f, th, cl) ∧ (th = true → f.path = p) := by
 have gp : ∀ {r : List FilesFile} {f : FilesFile}, gt r p = some f → f.path = p := fun h => by simpa using List.find?_some h
 have gm : ∀ {r : List FilesFile} {f : FilesFile}, gt r p = some f → f ∈ r := fun h => List.mem_of_find?_eq_some h
 by_cases hc : Cln b o t p
 ·
  refine ⟨_, _, _, one16 hb ho ht hc x y, rone16 hb ho ht hc x y, fun h => ?_⟩
  cases hg : gt (srcT b o t p) p with
  | none => rw [getF_none hg] at h; cases h
  | some f => rw [getF_some hg]; exact gp hg
 unfold Cln at hc
 simp only [not_or] at hc
 obtain ⟨h1, h2, h3⟩ := hc
 have hbn := hb.n
 have hon := ho.n
 have htn := ht.n
 have e1 : (oneT o p).is = (gt o p).isSome ∧ (oneT t p).is = (gt t p).isSome := by
   constructor
   · cases hg : gt o p with
     | none => rw [oneT_none hg]; rfl
     | some f => rw [oneT_some hg]; rfl
   · cases hg : gt t p with
     | none => rw [oneT_none hg]; rfl
     | some f => rw [oneT_some hg]; rfl
 have dd : ∀ {r : List FilesFile}, (∀ f ∈ r, f.data.length ≤ 10000) → Dt (oneT r p) := fun {r} h => by
   unfold Dt
   cases hg : gt r p with
   | none => rw [oneT_none hg]; simp
   | some f => rw [oneT_some hg]; exact h f (gm hg)
 have tm : ∀ (R : Option (FilesFile × Bool × Bool)), (if (gt o p).isSome = true ∧ (gt t p).isSome = true then (Sh.tmerge_both (oneT b p) (oneT o p) (oneT t p) x y).bind (fun q => some (⟨q.1.path, q.1.mode, q.1.data⟩, true, q.2)) else if (gt o p).isSome = true then some (⟨(oneT o p).file_path, (oneT o p).file_mode, (oneT o p).file_data⟩, true, true) else some (⟨(oneT t p).file_path, (oneT t p).file_mode, (oneT t p).file_data⟩, true, true)) = R → Sh.tmerge_One p b o t x y = R := fun R hR => by
   unfold Sh.tmerge_One jn
   dsimp only
   rw [of16 hb.r hb.n, Option.bind_some, of16 ho.r ho.n, Option.bind_some, of16 ht.r ht.n, Option.bind_some]
   rw [if_neg (fun k => h1 (oneT_eq.1 k)), if_neg (by rw [decide_eq_true_eq]; exact fun k => h2 (oneT_eq.1 k)), if_neg (fun k => h3 (oneT_eq.1 k)), e1.1, e1.2, ← hR]
   cases gt o p <;> cases gt t p <;> simp
 have rm : ∀ (R : Option (Rectoref14File × Bool × Bool)), (if (gt o p).isSome = true ∧ (gt t p).isSome = true then (Sh.r14_both (oF (oneT b p)) (oneT b p).is (oF (oneT o p)) (oF (oneT t p)) x y).bind (fun q => some (⟨q.1.path, q.1.mode, q.1.data⟩, true, q.2)) else if (gt o p).isSome = true then some (oF (oneT o p), true, true) else some (oF (oneT t p), (gt t p).isSome, true)) = R → Sh.r14_One p (b.map toF) (o.map toF) (t.map toF) x y = R := fun R hR => by
   unfold Sh.r14_One jn
   dsimp only
   rw [getr14 b (by omega), Option.bind_some, getr14 o (by omega), Option.bind_some, getr14 t (by omega), Option.bind_some]
   rw [like16 o t (by omega) (by omega), Option.bind_some, if_neg (by simp [h1]), like16 b t (by omega) (by omega), Option.bind_some, if_neg (by simp [h2]), like16 b o (by omega) (by omega), Option.bind_some, if_neg (by simp [h3]), ← hR]
   cases ho' : gt o p <;> cases ht' : gt t p <;> simp [getF, ho', ht', oF, oneT, toF]
 obtain ⟨f, cl, k1, k2, k3⟩ := both_same (dd db) (dd dO) (dd dt) hx hy
 cases hgo : gt o p with
 | some g =>
   cases hgt : gt t p with
   | some g' =>
     refine ⟨f, true, cl, tm _ ?_, rm _ ?_, fun _ => ?_⟩
     · rw [hgo, hgt, if_pos ⟨rfl, rfl⟩, k1]; rfl
     · rw [hgo, hgt, if_pos ⟨rfl, rfl⟩, k2]; rfl
     · rw [k3, oneT_some hgo]; exact gp hgo
   | none =>
     refine ⟨g, true, true, tm _ ?_, rm _ ?_, fun _ => gp hgo⟩
     · rw [hgo, hgt, if_neg (by simp), if_pos (by rfl), oneT_some hgo]
     · rw [hgo, hgt, if_neg (by simp), if_pos (by rfl), oneT_some hgo]; rfl
 | none =>
   cases hgt : gt t p with
   | some g' =>
     refine ⟨g', true, true, tm _ ?_, rm _ ?_, fun _ => gp hgt⟩
     · rw [hgo, hgt, if_neg (by simp), if_neg (by simp), oneT_some hgt]
     · rw [hgo, hgt, if_neg (by simp), if_neg (by simp), oneT_some hgt]; rfl
   | none => exact absurd (by rw [hgo, hgt]) h1
end Go.S
end

section
namespace Go.S
open Go Go.P
def entS (r : List FilesFile) (s : Int) (p : List UInt8) : List IndexEntry := match gt r p with
  | some f => [⟨p, s, f.mode, f.data, 0, 0⟩]
  | none => []
def stg (b o t : List FilesFile) (p : List UInt8) : List IndexEntry := entS b 1 p ++ entS o 2 p ++ entS t 3 p
theorem entS_len (r : List FilesFile) (s : Int) (p : List UInt8) : (entS r s p).length ≤ 1 := by
 unfold entS
 split <;> simp
theorem stg_len (b o t : List FilesFile) (p : List UInt8) : (stg b o t p).length ≤ 3 := by
 have h1 := entS_len b 1 p
 have h2 := entS_len o 2 p
 have h3 := entS_len t 3 p
 unfold stg
 simp only [List.length_append]; omega
theorem stages16 {b o t : List FilesFile} (hb : Bd b) (ho : Bd o) (ht : Bd t) (p : List UInt8) : Sh.tmerge_stages p [b, o, t] = some (stg b o t p) := by
 apply Ok.eq
 unfold Sh.tmerge_stages
 have e : stg b o t p = ([(b, (1 : Int)), (o, 2), (t, 3)] : List (List FilesFile × Int)).foldl (fun a z => a ++ entS z.1 z.2 p) [] := by simp [stg]
 rw [e]
 refine gl_fold [(b, (1 : Int)), (o, 2), (t, 3)] (fun a z => a ++ entS z.1 z.2 p) [] _ ?_ ?_
 ·
  intro i z i0 hi hz s hs
  have hl : s.length ≤ 3 := by
    have h1 := entS_len b 1 p
    have h2 := entS_len o 2 p
    have h3 : i.toNat = 0 ∨ i.toNat = 1 ∨ i.toNat = 2 := by simp at hi; omega
    rcases h3 with k | k | k <;> rw [k] at hs <;> simp at hs <;> rw [hs] <;> simp <;> omega
  have hB : Bd z.1 ∧ [b, o, t][i.toNat]? = some z.1 ∧ z.2 = i + 1 := by
    have h3 : i = 0 ∨ i = 1 ∨ i = 2 := by simp at hi; omega
    rcases h3 with k | k | k <;> subst k <;> simp at hz <;> subst hz
    · exact ⟨hb, rfl, rfl⟩
    · exact ⟨ho, rfl, rfl⟩
    · exact ⟨ht, rfl, rfl⟩
  obtain ⟨hBz, hz1, hz2⟩ := hB
  simp only [List.length_cons, List.length_nil] at hi
  dsimp only
  rw [if_pos (by simp; omega), gl_atv i0 hz1, Option.bind_some, get14 hBz.r (by have := hBz.n; omega), Option.bind_some]
  unfold entS
  cases hg : gt z.1 p with
  | none =>
    rw [getF_none hg, if_neg (by simp)]
    exact nx_gd ⟨by omega, by omega⟩ (by simp)
  | some f =>
    rw [getF_some hg, if_pos rfl]
    simp only [ok_lt, ok_gd]
    exact ⟨⟨by omega, by omega⟩, by simp only [List.length_cons, List.length_nil]; omega, ⟨by omega, by omega⟩, nx_go (by rw [hz2])⟩
 intro s hs
 dsimp only
 rw [if_neg (by simp)]
 exact up_up (ok_some.2 hs)
def fileS : List UInt8 := [102, 105, 108, 101]
def codeW (l : List FilesFile) (i : Int) (z : FilesFile) : Int := if ((l.take i.toNat).any fun y => clashS y.path z.path) = true then 11 else 0
def resW (code : List FilesFile → Int → FilesFile → Int) (l : List FilesFile) (r : Option (Int × Int)) : Prop := (64 < l.length ∧ r = some (64, 4)) ∨ (l.length ≤ 64 ∧ Res l (code l) r)
theorem resW.uniq {code : List FilesFile → Int → FilesFile → Int} {l : List FilesFile} {r r' : Option (Int × Int)} (h : resW code l r) (h' : resW code l r') : r = r' := by
 rcases h with ⟨h, rfl⟩ | ⟨h, q⟩
 ·
  rcases h' with ⟨_, rfl⟩ | ⟨h', _⟩
  ·
   rfl
  omega
 rcases h' with ⟨h', rfl⟩ | ⟨_, q'⟩
 ·
  omega
 exact q.uniq q'
theorem fault_spec (l : List FilesFile) (hl : ∀ z ∈ l, z.path.length ≤ 1000000) : Ok (Sh.tmerge_fault l) fun e => ∃ r, resW codeW l r ∧ e = errF fileS r := by
 unfold Sh.tmerge_fault
 rw [ok_if]
 refine ⟨fun h => ok_some.2 ⟨_, .inl ⟨by omega, rfl⟩, rfl⟩, fun h64 => ?_⟩
 refine (Res.loop (codeW l) _ (errF fileS) ?_ ?_).mono fun e ⟨r, h, he⟩ => ⟨r, .inr ⟨by omega, h⟩, he⟩
 ·
  intro i z i0 hi hz
  have hzm := List.mem_of_getElem? hz
  rw [if_pos hi, gl_atv i0 hz, Option.bind_some]
  refine ok_gd.2 ⟨⟨i0, by omega⟩, ok_lt.2 (ok_bd.2 ((fltT (l.take i.toNat) z (by rw [List.length_take]; omega) (fun y hy => by have := hl y (List.mem_of_mem_take hy); omega) (by have := hl z hzm; omega)).mono fun v hv => ?_))⟩
  subst hv
  unfold codeW
  cases ha : (l.take i.toNat).any fun y => clashS y.path z.path with
  | true =>
    rw [if_pos (by rfl)]
    exact ok_up.2 (ok_some.2 (.inr ⟨by simp, by simp [errF, fileS]⟩))
  | false =>
    rw [if_neg (by simp)]
    exact ok_gd.2 ⟨⟨by omega, by omega⟩, ok_go.2 (.inl ⟨by simp, rfl⟩)⟩
 rw [if_neg (by omega)]; rfl
theorem rfault_spec {R : Type} (l : List FilesFile) (hl : ∀ z ∈ l, z.path.length ≤ 1000000) (h64 : l.length ≤ 64) (out : Option (Int × Int) → R) (B : Int → Option (Int ⊕ R)) (C : Int → Int → Option (Int ⊕ (Int ⊕ R)))
 (hC : ∀ i k, C i k = if k < i then (at_ (l.map toF) k).bind (fun z => (at_ (l.map toF) i).bind (fun w => (Sh.r1_Clash z.path w.path).bind (fun y => if y = true then (Sh.r3_At fileS i 11).bind (fun y => up (up (some (out (some (i, 11)))))) else gd (I64 (k + 1)) (go (k + 1))))) else up (gd (I64 (i + 1)) (go (i + 1))))
 (hB : ∀ i, B i = if i < (l.length : Int) then iter (C i) 0 else up (some (out none))) : Ok (iter B 0) fun e => ∃ r, Res l (codeW l) r ∧ e = out r := by
 refine Res.loop (codeW l) _ out ?_ ?_
 ·
  intro i z i0 hi hz
  have hzp := hl z (List.mem_of_getElem? hz)
  rw [hB, if_pos hi]
  refine ok_iter (I := fun k => 0 ≤ k ∧ k ≤ i ∧ ∀ w ∈ l.take k.toNat, clashS w.path z.path = false) (μ := fun k => (i - k).toNat) ?_ ⟨by omega, by omega, by simp⟩
  rintro k ⟨k0, k1, hk2⟩
  rw [hC]
  by_cases hk : k < i
  ·
   obtain ⟨w, hw⟩ := gl_at (l := l) k0 (by omega)
   have hwp := hl w (List.mem_of_getElem? hw)
   have hcl : Sh.r1_Clash (toF w).path (toF z).path = some (clashS w.path z.path) := rclash_ok (a := w.path) (by omega) (by show z.path.length ≤ _; omega)
   rw [if_pos hk, gl_atv k0 (gl_map toF hw), Option.bind_some, gl_atv i0 (gl_map toF hz), Option.bind_some, hcl, Option.bind_some]
   cases hq : clashS w.path z.path with
   | true =>
     have ha : ((l.take i.toNat).any fun y => clashS y.path z.path) = true := List.any_eq_true.2 ⟨w, List.mem_of_getElem? (i := k.toNat) (by rw [List.getElem?_take, if_pos (by omega)]; exact hw), hq⟩
     have ea : Sh.r3_At fileS i 11 = some ⟨[⟨fileS, i⟩], 11⟩ := rfl
     rw [if_pos rfl, ea, Option.bind_some]
     refine ok_up.2 (ok_up.2 (ok_some.2 (.inr ⟨?_, ?_⟩)))
     · unfold codeW; rw [if_pos ha]; decide
     · unfold codeW; rw [if_pos ha]
   | false =>
     rw [if_neg (by simp)]
     refine ok_gd.2 ⟨⟨by omega, by omega⟩, ok_go.2 ⟨⟨by omega, by omega, fun v hv => ?_⟩, by omega⟩⟩
     rw [gl_snoc k0 hw] at hv
     rcases List.mem_append.1 hv with q | q
     · exact hk2 v q
     · rw [List.mem_singleton.1 q]; exact hq
  have ek : k = i := by omega
  subst ek
  rw [if_neg hk]
  refine ok_up.2 (ok_gd.2 ⟨⟨by omega, by omega⟩, ok_go.2 (.inl ⟨?_, rfl⟩)⟩)
  unfold codeW
  rw [if_neg]
  rw [Bool.not_eq_true, List.any_eq_false]
  exact fun y hy => by simp [hk2 y hy]
 rw [hB, if_neg (by omega)]
theorem checkB {x : List FilesFile} (hb : x.length ≤ 1000000) (hl : ∀ z ∈ x, z.path.length ≤ 1000000) :
 ∃ r, resW codeF x r ∧ Sh.files_Row_Check x = some (errF fileS r) ∧ Sh.r14_Check (x.map toF) = some (wrgF fileS r) ∧ (r = none → x.length ≤ 64 ∧ GoodF x) := by
 by_cases h64 : 64 < x.length
 ·
  refine ⟨some (64, 4), .inl ⟨h64, rfl⟩, ?_, ?_, fun h => by cases h⟩
  ·
   unfold Sh.files_Row_Check
   rw [if_pos (by omega)]; rfl
  unfold Sh.r14_Check
  rw [if_pos (by rw [List.length_map]; omega)]; rfl
 obtain ⟨e, he, r, hr, rfl⟩ := checkE (x := x) hb (fun z hz => by have := hl z hz; omega) (by omega)
 obtain ⟨w, hw, r', hr', rfl⟩ := rcheckE (x := x) hl (by omega)
 obtain ⟨e2, he2, hg⟩ := check14 (x := x) hb (fun z hz => by have := hl z hz; omega)
 cases hr.uniq hr'
 refine ⟨r, .inr ⟨by omega, hr⟩, he, hw, fun h => ?_⟩
 rw [he] at he2
 cases he2
 exact hg.1 (by rw [h]; rfl)
def toEn (e : IndexEntry) : Rectoref14Entry := ⟨e.path, e.stage, e.mode, e.data, e.time, e.size⟩
def toRs (r : TmergeResultP) : Rectoref14ResultP := ⟨r.files.map toF, r.entries.map toEn, r.conflicts⟩
theorem app3 {α A E C : Type} (fa : α → List A) (fe : α → List E) (fc : α → List C) : ∀ (l : List α) (s : List A × List E × List C), l.foldl (fun s p => (s.1 ++ fa p, s.2.1 ++ fe p, s.2.2 ++ fc p)) s = (s.1 ++ l.flatMap fa, s.2.1 ++ l.flatMap fe, s.2.2 ++ l.flatMap fc)
  | [], s => by simp
  | p :: r, s => by rw [List.foldl_cons, app3 fa fe fc r]; simp
theorem fm_len {α β : Type} (f : α → List β) (n : Nat) (h : ∀ x, (f x).length ≤ n) : ∀ l : List α, (l.flatMap f).length ≤ l.length * n
  | [] => by simp
  | x :: r => by
    have := fm_len f n h r
    have := h x
    rw [List.flatMap_cons, List.length_append, List.length_cons, Nat.add_mul]
    omega
end Go.S
end

section
namespace Go.S
open Go Go.P
noncomputable def oneV (b o t : List FilesFile) (x y p : List UInt8) : FilesFile × Bool × Bool := (Sh.tmerge_One p b o t x y).getD (⟨[], 0, []⟩, false, false)
def fA (V : List UInt8 → FilesFile × Bool × Bool) (p : List UInt8) : List FilesFile := if (V p).2.1 = true then [(V p).1] else []
def fE (V : List UInt8 → FilesFile × Bool × Bool) (b o t : List FilesFile) (p : List UInt8) : List IndexEntry := if (V p).2.2 = true then stg b o t p else []
def fC (V : List UInt8 → FilesFile × Bool × Bool) (p : List UInt8) : List (List UInt8) := if (V p).2.2 = true then [p] else []
theorem fA_len (V) (p) : (fA V p).length ≤ 1 := by unfold fA; split <;> simp
theorem fC_len (V) (p) : (fC V p).length ≤ 1 := by unfold fC; split <;> simp
theorem fE_len (V b o t) (p) : (fE V b o t p).length ≤ 3 := by
 unfold fE
 split
 ·
  exact stg_len b o t p
 simp
theorem fA_y {V : List UInt8 → FilesFile × Bool × Bool} {p} (h : (V p).2.1 = true) : fA V p = [(V p).1] := if_pos h
theorem fA_n {V : List UInt8 → FilesFile × Bool × Bool} {p} (h : ¬ (V p).2.1 = true) : fA V p = [] := if_neg h
theorem fE_y {V : List UInt8 → FilesFile × Bool × Bool} {b o t p} (h : (V p).2.2 = true) : fE V b o t p = stg b o t p := if_pos h
theorem fE_n {V : List UInt8 → FilesFile × Bool × Bool} {b o t p} (h : ¬ (V p).2.2 = true) : fE V b o t p = [] := if_neg h
theorem fC_y {V : List UInt8 → FilesFile × Bool × Bool} {p} (h : (V p).2.2 = true) : fC V p = [p] := if_pos h
theorem fC_n {V : List UInt8 → FilesFile × Bool × Bool} {p} (h : ¬ (V p).2.2 = true) : fC V p = [] := if_neg h
def sums (V : List UInt8 → FilesFile × Bool × Bool) (b o t : List FilesFile) (ps : List (List UInt8)) : TmergeResultP := ⟨ps.flatMap (fA V), ps.flatMap (fE V b o t), ps.flatMap (fC V)⟩
def noRs : TmergeResultP := ⟨[], [], []⟩
structure VOk (V : List UInt8 → FilesFile × Bool × Bool) (b o t : List FilesFile) (x y : List UInt8) : Prop where
  hb : Bd b
  ho : Bd o
  ht : Bd t
  one : ∀ p, Sh.tmerge_One p b o t x y = some (V p)
  ref : ∀ p, Sh.r14_One p (b.map toF) (o.map toF) (t.map toF) x y = some (toF (V p).1, (V p).2.1, (V p).2.2)
  path : ∀ p, (V p).2.1 = true → (V p).1.path = p
theorem vok {b o t : List FilesFile} (hb : Bd b) (ho : Bd o) (ht : Bd t) (db : ∀ f ∈ b, f.data.length ≤ 10000) (dO : ∀ f ∈ o, f.data.length ≤ 10000) (dt : ∀ f ∈ t, f.data.length ≤ 10000) {x y : List UInt8} (hx : x.length ≤ 10000) (hy : y.length ≤ 10000) : VOk (oneV b o t x y) b o t x y := by
 have key : ∀ p, ∃ f th cl, Sh.tmerge_One p b o t x y = some (f, th, cl) ∧ Sh.r14_One p (b.map toF) (o.map toF) (t.map toF) x y = some (toF f, th, cl) ∧ (th = true → f.path = p) := fun p => one_same hb ho ht db dO dt p hx hy
 have hv : ∀ p f th cl, Sh.tmerge_One p b o t x y = some (f, th, cl) → oneV b o t x y p = (f, th, cl) := fun p f th cl h => by unfold oneV; rw [h]; rfl
 refine ⟨hb, ho, ht, fun p => ?_, fun p => ?_, fun p => ?_⟩
 ·
  obtain ⟨f, th, cl, h1, h2, h3⟩ := key p
  rw [hv p _ _ _ h1, h1]
 ·
  obtain ⟨f, th, cl, h1, h2, h3⟩ := key p
  rw [hv p _ _ _ h1, h2]
 obtain ⟨f, th, cl, h1, h2, h3⟩ := key p
 rw [hv p _ _ _ h1]; exact h3
theorem sums_path {V b o t x y} (h : VOk V b o t x y) {ps : List (List UInt8)} (hp : ∀ p ∈ ps, p.length ≤ 1000000) : ∀ f ∈ ps.flatMap (fA V), f.path.length ≤ 1000000 := fun f hf => by
  obtain ⟨p, hm, hf⟩ := List.mem_flatMap.1 hf
  unfold fA at hf
  split at hf
  · next q =>
    rw [List.mem_singleton.1 hf, h.path p q]; exact hp p hm
  · cases hf
theorem paths_small {b o t : List FilesFile} (hb : Bd b) (ho : Bd o) (ht : Bd t) {ps : List (List UInt8)} (h : PathsOf [b, o, t] ps) : ∀ p ∈ ps, p.length ≤ 1000000 := fun p hp => by
  obtain ⟨l, hl, f, hf, rfl⟩ := (h.2 p).1 hp
  simp only [List.mem_cons, List.not_mem_nil, or_false] at hl
  rcases hl with rfl | rfl | rfl
  · exact hb.p f hf
  · exact ho.p f hf
  · exact ht.p f hf
theorem three {R : Type} {Q : R → Prop} (rb ro rt : Option (Int × Int)) (B : Int → Option (Int ⊕ R)) (out : Int × Int → R)
 (h0 : ∀ i r, (i = 0 ∧ r = rb ∨ i = 1 ∧ r = ro ∨ i = 2 ∧ r = rt) → Ok (B i) fun y => (r = none ∧ y = .inl (i + 1)) ∨ ∃ k, r = some k ∧ y = .inr (out k))
 (hQ : ∀ k, rb.or (ro.or rt) = some k → Q (out k)) (hE : rb = none → ro = none → rt = none → Ok (B 3) (Up Q)) : Ok (iter B 0) Q := by
 refine ok_iter (I := fun i => 0 ≤ i ∧ i ≤ 3 ∧ (1 ≤ i → rb = none) ∧ (2 ≤ i → ro = none) ∧ (3 ≤ i → rt = none)) (μ := fun i => (3 - i).toNat) ?_ ⟨by omega, by omega, fun h => absurd h (by omega), fun h => absurd h (by omega), fun h => absurd h (by omega)⟩
 rintro i ⟨i0, i1, p1, p2, p3⟩
 have h3 : i = 0 ∨ i = 1 ∨ i = 2 ∨ i = 3 := by omega
 rcases h3 with rfl | rfl | rfl | rfl
 ·
  refine (h0 0 rb (.inl ⟨rfl, rfl⟩)).mono ?_
  rintro y (⟨h, rfl⟩ | ⟨k, h, rfl⟩)
  ·
   exact ⟨⟨by omega, by omega, fun _ => h, fun h => absurd h (by omega), fun h => absurd h (by omega)⟩, by omega⟩
  exact hQ k (by rw [h]; rfl)
 ·
  refine (h0 1 ro (.inr (.inl ⟨rfl, rfl⟩))).mono ?_
  rintro y (⟨h, rfl⟩ | ⟨k, h, rfl⟩)
  ·
   exact ⟨⟨by omega, by omega, fun _ => p1 (by omega), fun _ => h, fun h => absurd h (by omega)⟩, by omega⟩
  exact hQ k (by rw [p1 (by omega), h]; rfl)
 ·
  refine (h0 2 rt (.inr (.inr ⟨rfl, rfl⟩))).mono ?_
  rintro y (⟨h, rfl⟩ | ⟨k, h, rfl⟩)
  ·
   exact ⟨⟨by omega, by omega, fun _ => p1 (by omega), fun _ => p2 (by omega), fun _ => h⟩, by omega⟩
  exact hQ k (by rw [p1 (by omega), p2 (by omega), h]; rfl)
 refine (hE (p1 (by omega)) (p2 (by omega)) (p3 (by omega))).mono ?_
 rintro y ⟨r, rfl, hr⟩
 exact hr
def outR (s : TmergeResultP) : Option (Int × Int) → TmergeResultP
  | none => s
  | some _ => noRs
theorem nAE (V b o t) (ps : List (List UInt8)) (hp : ps.length ≤ 8000000) : (ps.flatMap (fA V)).length ≤ 8000000 ∧ (ps.flatMap (fE V b o t)).length ≤ 24000000 ∧ (ps.flatMap (fC V)).length ≤ 8000000 := by
 have h1 := fm_len (fA V) 1 (fA_len V) ps
 have h2 := fm_len (fE V b o t) 3 (fE_len V b o t) ps
 have h3 := fm_len (fC V) 1 (fC_len V) ps
 exact ⟨by omega, by omega, by omega⟩
theorem mergeV {V b o t x y} {rb ro rt : Option (Int × Int)} (h : rb = none → ro = none → rt = none → VOk V b o t x y) {ps : List (List UInt8)} (hps : PathsOf [b, o, t] ps) (hb : Sh.files_Row_Check b = some (errF fileS rb)) (ho : Sh.files_Row_Check o = some (errF fileS ro)) (ht : Sh.files_Row_Check t = some (errF fileS rt)) :
 Ok (Sh.tmerge_Merge b o t x y) fun r => (∃ k, rb.or (ro.or rt) = some k ∧ r = (noRs, errF fileS (some k))) ∨ (rb.or (ro.or rt) = none ∧ ∃ k, resW codeW (sums V b o t ps).files k ∧ r = (outR (sums V b o t ps) k, errF fileS k)) := by
 unfold Sh.tmerge_Merge
 rw [ok_lt]
 refine three rb ro rt _ (fun k => (noRs, errF fileS (some k))) ?_ (fun k hk => .inl ⟨k, hk, rfl⟩) ?_
 ·
  intro i r hi
  have key : at_ [b, o, t] i = some b ∧ r = rb ∨ at_ [b, o, t] i = some o ∧ r = ro ∨ at_ [b, o, t] i = some t ∧ r = rt := by
    rcases hi with ⟨rfl, h⟩ | ⟨rfl, h⟩ | ⟨rfl, h⟩
    · exact .inl ⟨rfl, h⟩
    · exact .inr (.inl ⟨rfl, h⟩)
    · exact .inr (.inr ⟨rfl, h⟩)
  have ck : ∃ z, at_ [b, o, t] i = some z ∧ Sh.files_Row_Check z = some (errF fileS r) := by
    rcases key with ⟨h1, rfl⟩ | ⟨h1, rfl⟩ | ⟨h1, rfl⟩
    · exact ⟨b, h1, hb⟩
    · exact ⟨o, h1, ho⟩
    · exact ⟨t, h1, ht⟩
  obtain ⟨z, h1, h2⟩ := ck
  rw [if_pos (by simp; omega), h1, Option.bind_some, h2, Option.bind_some]
  cases r with
  | none => rw [if_pos (by rfl)]; exact ok_gd.2 ⟨⟨by omega, by omega⟩, ok_go.2 (.inl ⟨rfl, rfl⟩)⟩
  | some k => rw [if_neg (by simp [errF, Err.isNil])]; exact ok_up.2 (ok_some.2 (.inr ⟨k, rfl, rfl⟩))
 rintro rfl rfl rfl
 have h := h rfl rfl rfl
 rw [if_neg (by simp)]
 refine up_up (ok_lt.2 (ok_bd.2 ((paths14 [b, o, t] (by simp) (fun l hl => ?_)).mono ?_)))
 ·
  simp only [List.mem_cons, List.not_mem_nil, or_false] at hl
  rcases hl with rfl | rfl | rfl
  ·
   exact ⟨h.hb.n, h.hb.p⟩
  ·
   exact ⟨h.ho.n, h.ho.p⟩
  exact ⟨h.ht.n, h.ht.p⟩
 rintro qs ⟨hqs, hql⟩
 obtain rfl := paths_same hps hqs
 refine gl_foldL ps (fun (s : List FilesFile × List IndexEntry × List (List UInt8)) p => (s.1 ++ fA V p, s.2.1 ++ fE V b o t p, s.2.2 ++ fC V p)) ([], [], []) _ ?_ ?_
 ·
  intro i z i0 hi hz s hs
  rw [app3] at hs
  simp only [List.nil_append] at hs
  subst hs
  have hn := nAE V b o t (ps.take i.toNat) (by rw [List.length_take]; omega)
  dsimp only
  rw [if_pos hi, gl_atv i0 hz, Option.bind_some, h.one, Option.bind_some]
  refine ok_jnP (fun c => c = (ps.take i.toNat).flatMap (fA V) ++ fA V z) ?_ ?_
  ·
   rintro c rfl
   by_cases q : (V z).2.2 = true
   ·
    rw [if_pos q, fE_y q, fC_y q]
    have hsl := stg_len b o t z
    simp only [ok_lt, ok_gd]
    refine ⟨by simp only [List.length_cons, List.length_nil]; omega, ?_⟩
    rw [stages16 h.hb h.ho h.ht, Option.bind_some, ok_gd]
    refine ⟨by omega, ok_lt.2 ?_⟩
    exact nx_gd ⟨by omega, by omega⟩ rfl
   rw [if_neg q, fE_n q, fC_n q]
   exact nx_gd ⟨by omega, by omega⟩ (by simp)
  intro K hK
  by_cases q : (V z).2.1 = true
  ·
   rw [if_pos q]
   simp only [ok_lt, ok_gd]
   exact ⟨by simp only [List.length_cons, List.length_nil]; omega, hK _ (by rw [fA_y q])⟩
  rw [if_neg q]
  exact hK _ (by rw [fA_n q]; simp)
 intro s hs
 rw [app3] at hs
 simp only [List.nil_append] at hs
 subst hs
 dsimp only
 rw [if_neg (by omega)]
 refine up_up (ok_bd.2 ((fault_spec _ (sums_path h (paths_small h.hb h.ho h.ht hps))).mono ?_))
 rintro e ⟨k, hk, rfl⟩
 have clipI : Sh.slices_Clip_index_Entry_index_Entry (ps.flatMap (fE V b o t)) = some (ps.flatMap (fE V b o t)) := by
   generalize ps.flatMap (fE V b o t) = l
   unfold Sh.slices_Clip_index_Entry_index_Entry
   simp [lt, gd]
 cases k with
 | none =>
   rw [if_pos (by rfl), clip14, Option.bind_some, clipI, Option.bind_some, clipS14, Option.bind_some, ok_some]
   exact .inr ⟨rfl, none, hk, rfl⟩
 | some k =>
   rw [if_neg (by simp [errF, Err.isNil]), ok_some]
   exact .inr ⟨rfl, some k, hk, rfl⟩
theorem rentry {b o t : List FilesFile} (hb : Bd b) (ho : Bd o) (ht : Bd t) (p : List UInt8) {r : Int} {z : List FilesFile} (h : r = 0 ∧ z = b ∨ r = 1 ∧ z = o ∨ r = 2 ∧ z = t) : at_ [b.map toF, o.map toF, t.map toF] r = some (z.map toF) ∧ Bd z := by
 rcases h with ⟨rfl, rfl⟩ | ⟨rfl, rfl⟩ | ⟨rfl, rfl⟩
 ·
  exact ⟨rfl, hb⟩
 ·
  exact ⟨rfl, ho⟩
 exact ⟨rfl, ht⟩
theorem rmergeV {V b o t x y} {rb ro rt : Option (Int × Int)} (h : rb = none → ro = none → rt = none → VOk V b o t x y) {ps : List (List UInt8)} (hps : PathsOf [b, o, t] ps) (hb : Sh.r14_Check (b.map toF) = some (wrgF fileS rb)) (ho : Sh.r14_Check (o.map toF) = some (wrgF fileS ro)) (ht : Sh.r14_Check (t.map toF) = some (wrgF fileS rt))
 (hcb : ∀ k, rb = some k → k.2 ≠ 0) (hco : ∀ k, ro = some k → k.2 ≠ 0) (hct : ∀ k, rt = some k → k.2 ≠ 0) :
 Ok (Sh.r14_Merge (b.map toF) (o.map toF) (t.map toF) x y) fun r => (∃ k, rb.or (ro.or rt) = some k ∧ r = (toRs noRs, wrgF fileS (some k))) ∨ (rb.or (ro.or rt) = none ∧ ∃ k, resW codeW (sums V b o t ps).files k ∧ r = (toRs (outR (sums V b o t ps) k), wrgF fileS k)) := by
 unfold Sh.r14_Merge
 rw [ok_lt]
 refine three rb ro rt _ (fun k => (toRs noRs, wrgF fileS (some k))) ?_ (fun k hk => .inl ⟨k, hk, rfl⟩) ?_
 ·
  intro i r hi
  have key : at_ [b.map toF, o.map toF, t.map toF] i = some (b.map toF) ∧ r = rb ∨ at_ [b.map toF, o.map toF, t.map toF] i = some (o.map toF) ∧ r = ro ∨ at_ [b.map toF, o.map toF, t.map toF] i = some (t.map toF) ∧ r = rt := by
    rcases hi with ⟨rfl, h⟩ | ⟨rfl, h⟩ | ⟨rfl, h⟩
    · exact .inl ⟨rfl, h⟩
    · exact .inr (.inl ⟨rfl, h⟩)
    · exact .inr (.inr ⟨rfl, h⟩)
  have ck : ∃ z, at_ [b.map toF, o.map toF, t.map toF] i = some z ∧ Sh.r14_Check z = some (wrgF fileS r) ∧ (∀ k, r = some k → k.2 ≠ 0) := by
    rcases key with ⟨h1, rfl⟩ | ⟨h1, rfl⟩ | ⟨h1, rfl⟩
    · exact ⟨_, h1, hb, hcb⟩
    · exact ⟨_, h1, ho, hco⟩
    · exact ⟨_, h1, ht, hct⟩
  obtain ⟨z, h1, h2, h3⟩ := ck
  rw [if_pos (by omega), h1, Option.bind_some, h2, Option.bind_some]
  cases r with
  | none => rw [if_pos (by rfl)]; exact ok_gd.2 ⟨⟨by omega, by omega⟩, ok_go.2 (.inl ⟨rfl, rfl⟩)⟩
  | some k => rw [if_neg (show ¬ (wrgF fileS (some k)).err = 0 from h3 k rfl)]; exact ok_up.2 (ok_some.2 (.inr ⟨k, rfl, rfl⟩))
 rintro rfl rfl rfl
 have h := h rfl rfl rfl
 rw [if_neg (by simp)]
 have el : [b.map toF, o.map toF, t.map toF] = [b, o, t].map (·.map toF) := rfl
 refine up_up (ok_bd.2 ?_)
 rw [el]
 refine (pathsr14 [b, o, t] (by simp) (fun l hl => ?_)).mono ?_
 ·
  simp only [List.mem_cons, List.not_mem_nil, or_false] at hl
  rcases hl with rfl | rfl | rfl
  ·
   exact h.hb.n
  ·
   exact h.ho.n
  exact h.ht.n
 rintro qs ⟨hqs, hql⟩
 obtain rfl := paths_same hps hqs
 rw [← el]
 have fm : ∀ {α β γ : Type} (g : β → γ) (f : α → List β) (l : List α), l.flatMap (fun p => (f p).map g) = (l.flatMap f).map g := fun g f l => by rw [List.map_flatMap]
 refine gl_foldL ps (fun (s : List Rectoref14File × List Rectoref14Entry × List (List UInt8)) p => (s.1 ++ (fA V p).map toF, s.2.1 ++ (fE V b o t p).map toEn, s.2.2 ++ fC V p)) ([], [], []) _ ?_ ?_
 ·
  intro i z i0 hi hz s hs
  rw [app3 (fun p => (fA V p).map toF) (fun p => (fE V b o t p).map toEn), fm, fm] at hs
  simp only [List.nil_append] at hs
  subst hs
  have hn := nAE V b o t (ps.take i.toNat) (by rw [List.length_take]; omega)
  generalize hgA : (ps.take i.toNat).flatMap (fA V) = gA at *
  generalize hgE : (ps.take i.toNat).flatMap (fE V b o t) = gE at *
  generalize hgC : (ps.take i.toNat).flatMap (fC V) = gC at *
  have lA : (gA.map toF).length = gA.length := List.length_map ..
  have lE : (gE.map toEn).length = gE.length := List.length_map ..
  dsimp only
  rw [if_pos hi]
  refine ok_jnP (fun s => s = (gA.map toF ++ (fA V z).map toF, gE.map toEn ++ (fE V b o t z).map toEn, gC ++ fC V z)) ?_ ?_
  ·
   rintro s rfl
   exact nx_gd ⟨by omega, by omega⟩ rfl
  intro K hK
  have hz' := gl_atv i0 hz
  rw [hz', Option.bind_some, h.ref, Option.bind_some]
  refine ok_jnP (fun c => c = gA.map toF ++ (fA V z).map toF) ?_ ?_
  ·
   rintro c rfl
   by_cases q : (V z).2.2 = true
   ·
    rw [if_neg (by simp [q]), Option.bind_some]
    simp only [ok_lt, ok_gd]
    refine ⟨by simp only [List.length_cons, List.length_nil]; omega, ?_⟩
    have e : gE.map toEn ++ (stg b o t z).map toEn = ([(b, (1 : Int)), (o, 2), (t, 3)] : List (List FilesFile × Int)).foldl (fun a w => a ++ (entS w.1 w.2 z).map toEn) (gE.map toEn) := by simp [stg]
    refine gl_foldL [(b, (1 : Int)), (o, 2), (t, 3)] (fun a w => a ++ (entS w.1 w.2 z).map toEn) (gE.map toEn) _ ?_ ?_
    ·
     intro k w k0 hk hw s hs
     simp only [List.length_cons, List.length_nil] at hk
     have h3 : k = 0 ∧ w = (b, 1) ∨ k = 1 ∧ w = (o, 2) ∨ k = 2 ∧ w = (t, 3) := by
       have h3 : k = 0 ∨ k = 1 ∨ k = 2 := by omega
       rcases h3 with rfl | rfl | rfl <;> simp at hw <;> simp [hw]
     have hl : s.length ≤ gE.length + 3 := by
       have e1 := entS_len b 1 z
       have e2 := entS_len o 2 z
       rcases h3 with ⟨rfl, _⟩ | ⟨rfl, _⟩ | ⟨rfl, _⟩ <;> simp at hs <;> rw [hs] <;> simp <;> omega
     have hr := rentry h.hb h.ho h.ht z (r := k) (z := w.1) (by rcases h3 with ⟨rfl, rfl⟩ | ⟨rfl, rfl⟩ | ⟨rfl, rfl⟩ <;> simp)
     have hw2 : w.2 = k + 1 := by rcases h3 with ⟨rfl, rfl⟩ | ⟨rfl, rfl⟩ | ⟨rfl, rfl⟩ <;> rfl
     have hwn := hr.2.n
     dsimp only
     rw [if_pos (by omega)]
     refine ok_jnP (fun c => c = s ++ (entS w.1 w.2 z).map toEn) ?_ ?_
     ·
      rintro c rfl
      exact nx_gd ⟨by omega, by omega⟩ rfl
     intro K3 hK3
     rw [hr.1, Option.bind_some, Option.bind_some, getr14 w.1 (by omega), Option.bind_some]
     cases hg : gt w.1 z with
     | none =>
       rw [getF_none hg, if_neg (by simp)]
       exact hK3 _ (by unfold entS; rw [hg]; simp)
     | some f =>
       rw [getF_some hg, if_pos (by rfl)]
       simp only [ok_lt, ok_gd]
       refine ⟨⟨by omega, by omega⟩, by simp only [List.length_cons, List.length_nil]; omega, hK3 _ ?_⟩
       unfold entS
       rw [hw2, hg]
       simp [toEn, toF, gt_path hg]
    intro s hs
    dsimp only
    rw [if_neg (by simp)]
    subst hs
    exact up_up (hK _ (by rw [fE_y q, fC_y q, e]))
   rw [if_pos (by simpa using q)]
   exact hK _ (by rw [fE_n q, fC_n q]; simp)
  intro K2 hK2
  by_cases q : (V z).2.1 = true
  ·
   rw [if_pos q]
   simp only [ok_lt, ok_gd]
   exact ⟨by simp only [List.length_cons, List.length_nil]; omega, hK2 _ (by rw [fA_y q]; simp [toF])⟩
  rw [if_neg q]
  exact hK2 _ (by rw [fA_n q]; simp)
 intro s hs
 rw [app3 (fun p => (fA V p).map toF) (fun p => (fE V b o t p).map toEn), fm, fm] at hs
 simp only [List.nil_append] at hs
 subst hs
 have hsp := sums_path h (paths_small h.hb h.ho h.ht hps)
 dsimp only
 rw [if_neg (by omega), List.length_map]
 refine up_up ?_
 rw [ok_if]
 refine ⟨fun q => ?_, fun q => ?_⟩
 ·
  have ea : Sh.r3_At [102, 105, 108, 101] 64 4 = some ⟨[⟨[102, 105, 108, 101], 64⟩], 4⟩ := rfl
  rw [ea, Option.bind_some, ok_some]
  exact .inr ⟨rfl, some (64, 4), .inl ⟨by show _; dsimp only [sums]; omega, rfl⟩, rfl⟩
 refine (rfault_spec _ hsp (by omega) (fun k => (toRs (outR (sums V b o t ps) k), wrgF fileS k)) _ _ (fun i k => rfl) (fun i => rfl)).mono ?_
 rintro r ⟨k, hk, rfl⟩
 exact .inr ⟨rfl, k, .inr ⟨by show _; dsimp only [sums]; omega, hk⟩, rfl⟩
def RsOk (k : Option (Int × Int)) : Prop := ∀ p c, k = some (p, c) → 0 ≤ p ∧ p ≤ 64 ∧ 1 ≤ c ∧ c ≤ 14
theorem checkP_code (p : List UInt8) : 0 ≤ checkP p ∧ checkP p ≤ 14 := by
 unfold checkP
 repeat' split
 all_goals omega
theorem resF_ok {x : List FilesFile} {r : Option (Int × Int)} (h : resW codeF x r) : RsOk r := by
 rintro p c rfl
 rcases h with ⟨h, e⟩ | ⟨h, e⟩
 ·
  cases e; omega
 rcases e with ⟨e, _⟩ | ⟨k, z, e, hz, hc, _⟩
 ·
  cases e
 cases e
 have := (List.getElem?_eq_some_iff.1 hz).1
 have hp := checkP_code z.path
 have hn : 0 ≤ codeF x k z ∧ codeF x k z ≤ 14 := by
   unfold codeF causeF
   repeat' split
   all_goals omega
 omega
theorem resC_ok {x : List FilesFile} {r : Option (Int × Int)} (h : resW codeW x r) : RsOk r := by
 rintro p c rfl
 rcases h with ⟨h, e⟩ | ⟨h, e⟩
 ·
  cases e; omega
 rcases e with ⟨e, _⟩ | ⟨k, z, e, hz, hc, _⟩
 ·
  cases e
 cases e
 have := (List.getElem?_eq_some_iff.1 hz).1
 refine ⟨by omega, by omega, ?_⟩
 unfold codeW at hc ⊢
 split at hc
 ·
  next q => rw [if_pos q]; omega
 exact absurd rfl hc
theorem or_ok {a b : Option (Int × Int)} (ha : RsOk a) (hb : RsOk b) : RsOk (a.or b) := by
 cases a with
 | none => exact hb
 | some k => exact ha
theorem merge_both {b o t : List FilesFile} (hb : b.length ≤ 80 ∧ ∀ f ∈ b, f.path.length ≤ 100 ∧ f.data.length ≤ 5000) (ho : o.length ≤ 80 ∧ ∀ f ∈ o, f.path.length ≤ 100 ∧ f.data.length ≤ 5000) (ht : t.length ≤ 80 ∧ ∀ f ∈ t, f.path.length ≤ 100 ∧ f.data.length ≤ 5000) {x y : List UInt8} (hx : x.length ≤ 10000) (hy : y.length ≤ 10000) :
 ∃ R k, Sh.tmerge_Merge b o t x y = some (R, errF fileS k) ∧ Sh.r14_Merge (b.map toF) (o.map toF) (t.map toF) x y = some (toRs R, wrgF fileS k) ∧ RsOk k ∧ R.files.length ≤ 8000000 ∧ R.entries.length ≤ 24000000 ∧ R.conflicts.length ≤ 8000000 := by
 obtain ⟨rb, b1, b2, b3, b4⟩ := checkB (x := b) (by omega) (fun z hz => by have := (hb.2 z hz).1; omega)
 obtain ⟨ro, o1, o2, o3, o4⟩ := checkB (x := o) (by omega) (fun z hz => by have := (ho.2 z hz).1; omega)
 obtain ⟨rt, t1, t2, t3, t4⟩ := checkB (x := t) (by omega) (fun z hz => by have := (ht.2 z hz).1; omega)
 have ob := resF_ok b1
 have oo := resF_ok o1
 have ot := resF_ok t1
 have nz : ∀ {r : Option (Int × Int)}, RsOk r → ∀ k, r = some k → k.2 ≠ 0 := fun h k hk => by
   have := h k.1 k.2 hk
   omega
 have hV : rb = none → ro = none → rt = none → VOk (oneV b o t x y) b o t x y := fun h1 h2 h3 =>
   vok (GoodF.bd (b4 h1)) (GoodF.bd (o4 h2)) (GoodF.bd (t4 h3)) (fun f hf => by have := (hb.2 f hf).2; omega) (fun f hf => by have := (ho.2 f hf).2; omega) (fun f hf => by have := (ht.2 f hf).2; omega) hx hy
 obtain ⟨ps, -, hps, hpl⟩ := pathsr14 [b, o, t] (by simp) (fun l hl => by
   have := hb.1
   have := ho.1
   have := ht.1
   simp only [List.mem_cons, List.not_mem_nil, or_false] at hl
   rcases hl with rfl | rfl | rfl <;> omega)
 have out : ∀ V k, (outR (sums V b o t ps) k).files.length ≤ 8000000 ∧ (outR (sums V b o t ps) k).entries.length ≤ 24000000 ∧ (outR (sums V b o t ps) k).conflicts.length ≤ 8000000 := fun V k => by
   cases k with
   | none => exact nAE V b o t ps hpl
   | some k => simp [outR, noRs]
 obtain ⟨r, hr, h1⟩ := mergeV hV hps b2 o2 t2
 obtain ⟨r', hr', h2⟩ := rmergeV hV hps b3 o3 t3 (nz ob) (nz oo) (nz ot)
 rcases h1 with ⟨k, hk, rfl⟩ | ⟨hk, k, hk2, rfl⟩
 ·
  rcases h2 with ⟨k', hk', rfl⟩ | ⟨hk', _⟩
  ·
   rw [hk] at hk'; cases hk'
   exact ⟨_, _, hr, hr', by rw [← hk]; exact or_ok ob (or_ok oo ot), by simp [noRs], by simp [noRs], by simp [noRs]⟩
  rw [hk] at hk'; cases hk'
 rcases h2 with ⟨k', hk', _⟩ | ⟨_, k', hk', rfl⟩
 ·
  rw [hk] at hk'; cases hk'
 cases hk2.uniq hk'
 exact ⟨_, _, hr, hr', resC_ok hk2, out _ _⟩
end Go.S
end

section
namespace Go.S
open Go
theorem samer14 (a b : List FilesFile) (la : a.length ≤ 1000000000) : Sh.r14_Same (a.map toF) (b.map toF) = some (decide (a = b)) := by
 unfold Sh.r14_Same
 have hd : decide (a.map toF = b.map toF) = decide (a = b) := decide_eq_decide.2 ⟨toF_inj, fun h => by rw [h]⟩
 rw [← hd]
 split
 ·
  next h => exact eqloop (fun z w => z.path = w.path ∧ z.mode = w.mode ∧ z.data = w.data) (fun z w => by cases z; cases w; simp) _ _ h (by simp; omega) _ fun i => rfl
 next h => exact congrArg some (decide_eq_false fun e => h (by rw [e])).symm
theorem texts14 (a b : List (List UInt8)) (la : a.length ≤ 1000000000) : Sh.l1_Texts a b = some (decide (a = b)) := by
 unfold Sh.l1_Texts
 have : Sh.l1_texts a b = some (decide (a = b)) := by
   unfold Sh.l1_texts
   split
   · next h => exact eqloop (fun z w => z = w) (fun z w => Iff.rfl) _ _ h (by omega) _ fun i => rfl
   · next h => exact congrArg some (decide_eq_false fun e => h (by rw [e])).symm
 rw [this]; rfl
theorem of15 {l : List IndexEntry} (h : l.length ≤ 100000000) : Sh.l15_Of l = some (l.map toEn) := by
 apply Ok.eq
 unfold Sh.l15_Of
 refine ok_iter (I := fun t => 0 ≤ t.2 ∧ t.2 ≤ l.length ∧ t.1 = (l.take t.2.toNat).map toEn) (μ := fun t => (l.length - t.2).toNat) ?_ ⟨by simp, by simp, by simp⟩
 rintro ⟨o, i⟩ ⟨i0, i1, i2⟩
 dsimp only at i0 i1 i2 ⊢
 simp only [ok_if, ok_up, ok_bd, ok_gd, ok_lt, ok_go, ok_some, ok_at]
 refine ⟨fun hi => ?_, fun hi => ?_⟩
 ·
  obtain ⟨x, hx⟩ := at_get (l := l) i0 hi
  refine ⟨i0, x, hx, ?_, ⟨by omega, by omega⟩, ⟨by omega, by omega, ?_⟩, by omega⟩
  ·
   rw [i2]; simp only [List.length_map, List.length_take, List.length_cons, List.length_nil]; omega
  rw [take_snoc i0 hx, List.map_append, i2]; rfl
 rw [i2, List.take_of_length_le (by omega)]
theorem all15 {x : List IndexEntry} (h : x.length ≤ 100000000) : Sh.l15_All x (x.map toEn) = some true := by
 unfold Sh.l15_All
 rw [of15 h, Option.bind_some, if_pos rfl]
 rw [eqloop (fun z w : Rectoref14Entry => z.path = w.path ∧ z.stage = w.stage ∧ z.mode = w.mode ∧ z.data = w.data ∧ z.time = w.time ∧ z.size = w.size) (fun z w => by cases z; cases w; simp) (x.map toEn) (x.map toEn) rfl (by rw [List.length_map]; omega) _ fun i => rfl]
 simp
theorem tells64 : ∀ p : Fin 65, ∀ c : Fin 14, Sh.l2_Tells (.fault fileS (p.val : Int) (.no ((c.val : Int) + 1))) ⟨[⟨fileS, (p.val : Int)⟩], (c.val : Int) + 1⟩ = some true := by decide +kernel
theorem tells0 : Sh.l2_Tells .nil ⟨[], 0⟩ = some true := by decide +kernel
theorem tellsF {r : Option (Int × Int)} (h : ∀ p c, r = some (p, c) → 0 ≤ p ∧ p ≤ 64 ∧ 1 ≤ c ∧ c ≤ 14) : Sh.l2_Tells (errF fileS r) (wrgF fileS r) = some true := by
 cases r with
 | none => exact tells0
 | some k =>
   obtain ⟨p, c⟩ := k
   obtain ⟨h1, h2, h3, h4⟩ := h p c rfl
   have := tells64 ⟨p.toNat, by omega⟩ ⟨(c - 1).toNat, by omega⟩
   dsimp only at this
   rw [show ((p.toNat : Nat) : Int) = p by omega, show (((c - 1).toNat : Nat) : Int) + 1 = c by omega] at this
   exact this
theorem few16 (l : List FilesFile) : Ok (Sh.l14_Few l) fun b => b = true → l.length ≤ 80 ∧ ∀ f ∈ l, f.path.length ≤ 100 ∧ f.data.length ≤ 5000 := by
 unfold Sh.l14_Few
 simp only [ok_if, ok_some]
 refine ⟨fun _ h => (by cases h), fun hl => ?_⟩
 refine gl_chk l (fun f => f.path.length ≤ 100 ∧ f.data.length ≤ 5000) _ ?_ ?_
 ·
  intro i z i0 hi hz _
  rw [if_pos hi]
  refine ok_jnP (fun b => b = false → z.path.length ≤ 100 ∧ z.data.length ≤ 5000) ?_ ?_
  ·
   intro b hb
   rw [ok_if]
   exact ⟨fun _ => ok_up.2 (ok_some.2 (.inr ⟨false, rfl, fun h => (by cases h)⟩)), fun q => ok_gd.2 ⟨⟨by omega, by omega⟩, ok_go.2 (.inl ⟨rfl, hb (by simpa using q)⟩)⟩⟩
  intro K hK
  rw [gl_atv i0 hz, Option.bind_some, ok_if]
  refine ⟨fun _ => hK _ fun h => (by cases h), fun q => ?_⟩
  rw [Option.bind_some]
  exact hK _ fun h => ⟨by omega, by have := of_decide_eq_false h; omega⟩
 intro h
 rw [if_neg (by omega)]
 exact up_up (ok_some.2 fun _ => ⟨by omega, h⟩)
theorem short16 (l : List FilesFile) (h : l.length ≤ 80 ∧ ∀ f ∈ l, f.path.length ≤ 100 ∧ f.data.length ≤ 5000) : Ok (Sh.l16_short l) fun _ => True := by
 unfold Sh.l16_short
 rw [ok_if]
 refine ⟨fun _ => ?_, fun _ => ?_⟩
 ·
  rw [ok_if]
  exact ⟨fun _ => ok_some.2 trivial, fun _ => ok_some.2 trivial⟩
 refine ok_iter (I := fun t => 0 ≤ t.2 ∧ t.2 ≤ l.length ∧ 0 ≤ t.1 ∧ t.1 ≤ t.2 * 5000) (μ := fun t => (l.length - t.2).toNat) ?_ ⟨by simp, by simp, by simp, by simp⟩
 rintro ⟨n, i⟩ ⟨i0, i1, n0, n1⟩
 dsimp only at i0 i1 n0 n1 ⊢
 by_cases hi : i < l.length
 ·
  obtain ⟨z, hz⟩ := gl_at i0 hi
  have hd := (h.2 z (List.mem_of_getElem? hz)).2
  have e : (i + 1) * 5000 = i * 5000 + 5000 := by rw [Int.add_mul]; omega
  rw [if_pos hi, gl_atv i0 hz, Option.bind_some]
  refine ok_gd.2 ⟨⟨by omega, by omega⟩, ok_jnP (fun _ => True) ?_ ?_⟩
  ·
   intro b _
   rw [ok_if]
   exact ⟨fun _ => ok_up.2 (ok_some.2 trivial), fun _ => ok_gd.2 ⟨⟨by omega, by omega⟩, ok_go.2 ⟨⟨by dsimp only; omega, by dsimp only; omega, by dsimp only; omega, by dsimp only; omega⟩, by dsimp only; omega⟩⟩⟩
  intro K hK
  rw [Option.bind_some, ok_if]
  refine ⟨fun _ => ?_, fun _ => hK _ trivial⟩
  rw [Option.bind_some]
  exact hK _ trivial
 rw [if_neg hi]
 refine ok_up.2 ?_
 rw [ok_if]
 exact ⟨fun _ => ok_some.2 trivial, fun _ => ok_some.2 trivial⟩
def F16 (l : List FilesFile) : Prop := l.length ≤ 80 ∧ ∀ f ∈ l, f.path.length ≤ 100 ∧ f.data.length ≤ 5000
theorem treesMerge_ok (b o t : List FilesFile) (x y : List UInt8) : Sh.l16_TreesMerge b o t x y = some true := by
 apply Ok.eq
 unfold Sh.l16_TreesMerge
 rw [knownL16, Option.bind_some, if_neg (by simp)]
 refine ok_jnP (fun c => c = false → F16 b ∧ F16 o ∧ F16 t ∧ x.length ≤ 50 ∧ y.length ≤ 50) ?_ ?_
 ·
  intro c hc
  rw [ok_if]
  refine ⟨fun _ => ok_some.2 rfl, fun q => ?_⟩
  obtain ⟨hb, ho, ht, hx, hy⟩ := hc (by simpa using q)
  obtain ⟨R, k, h1, h2, h3, n1, n2, n3⟩ := merge_both hb ho ht (x := x) (y := y) (by omega) (by omega)
  rw [h1, Option.bind_some, of14 b (by have := hb.1; omega), Option.bind_some, of14 o (by have := ho.1; omega), Option.bind_some, of14 t (by have := ht.1; omega), Option.bind_some, h2, Option.bind_some]
  rw [tellsF h3, Option.bind_some, if_pos rfl]
  have hr : Sh.l16_Result (⟨R.files, R.entries, R.conflicts⟩ : TmergeResultP) (⟨(toRs R).files, (toRs R).entries, (toRs R).conflicts⟩ : Rectoref14ResultP) = some true := by
    unfold Sh.l16_Result
    rw [of14 R.files (by omega), Option.bind_some]
    show Option.bind (Sh.r14_Same (R.files.map toF) (R.files.map toF)) _ = _
    rw [samer14 R.files R.files (by omega), Option.bind_some, if_pos (by simp)]
    show Option.bind (Sh.l15_All R.entries (R.entries.map toEn)) _ = _
    rw [all15 (by omega), Option.bind_some, if_pos rfl]
    show Option.bind (Sh.l1_Texts R.conflicts R.conflicts) _ = _
    rw [texts14 _ _ (by omega), Option.bind_some]
    simp
  rw [hr, Option.bind_some, ok_some]
 intro K hK
 have no : Ok (K true) _ := hK true fun h => by cases h
 refine ok_bd.2 ((few16 b).mono fun b1 h1 => ?_)
 rw [ok_if]
 refine ⟨fun _ => no, fun q1 => ok_bd.2 ((few16 o).mono fun b2 h2 => ?_)⟩
 rw [ok_if]
 refine ⟨fun _ => no, fun q2 => ok_bd.2 ((few16 t).mono fun b3 h3 => ?_)⟩
 rw [ok_if]
 have hb := h1 (by simpa using q1)
 have ho := h2 (by simpa using q2)
 refine ⟨fun _ => no, fun q3 => ok_bd.2 ((short16 b hb).mono fun s1 _ => ?_)⟩
 have ht := h3 (by simpa using q3)
 rw [ok_if]
 refine ⟨fun _ => no, fun _ => ok_bd.2 ((short16 o ho).mono fun s2 _ => ?_)⟩
 rw [ok_if]
 refine ⟨fun _ => no, fun _ => ok_bd.2 ((short16 t ht).mono fun s3 _ => ?_)⟩
 rw [ok_if]
 refine ⟨fun _ => no, fun _ => ?_⟩
 rw [ok_if]
 exact ⟨fun _ => no, fun hx => hK _ fun hy => ⟨hb, ho, ht, by omega, by have := of_decide_eq_false hy; omega⟩⟩
end Go.S
end
