/- Part of the proofs of: What clashes keeps all three trees in their stages: for all trees. -/
import Derived.Test.YtpmhinamcndmeaaGreatDoorSE
set_option linter.unusedVariables false
set_option linter.unusedSimpArgs false
set_option linter.unusedSectionVars false
section
namespace Go.S
open Go
set_option maxRecDepth 100000
theorem clip14 (l : List FilesFile) : Sh.slices_Clip_files_Row_files_File l = some l := by
  unfold Sh.slices_Clip_files_Row_files_File
  simp [lt, gd]
theorem clipS14 (l : List (List UInt8)) : Sh.slices_Clip_string_string l = some l := by
  unfold Sh.slices_Clip_string_string
  simp [lt, gd]
theorem pcmp14 (a b : List UInt8) : Sh.path_Compare a b = some (if a < b then -1 else if b < a then 1 else 0) := by
  unfold Sh.path_Compare Sh.cmp_Compare_string Sh.cmp_isNaN_string
  simp only [Option.bind_some, decide_true, Bool.not_true, Bool.false_eq_true, if_false, Go.Proofs.bytesLess_eq, decide_eq_true_eq]
  by_cases h1 : a < b
  · simp [h1]
  · simp only [h1, if_false, decide_false, Bool.false_or]
    by_cases h2 : a = b
    · subst h2; simp [List.lt_irrefl]
    · have h3 : b < a := by
        by_cases q : b < a
        · exact q
        · exact absurd (List.le_antisymm (List.not_lt.1 q) (List.not_lt.1 h1)) h2
      simp [h2, h3]
theorem half_ok {s : Int} (h0 : 0 ≤ s) (h1 : s ≤ 4000000000) : IntKind.wrap .i64 (sHr .u64 (IntKind.wrap .u64 s) 1) = s / 2 := by
  have e1 : IntKind.wrap .u64 s = s := IntWalk.u64_in _ (by omega)
  rw [e1]
  have e2 : sHr .u64 s 1 = s / 2 := by
    unfold sHr
    show s.fdiv (2 ^ 1) = s / 2
    rw [Int.fdiv_eq_ediv_of_nonneg s (by decide)]
    rfl
  rw [e2]
  exact IntWalk.i64_in _ (by omega)
def R (l : List FilesFile) : Prop := l.Pairwise (fun a b => a.path < b.path)
theorem R.sub {l l' : List FilesFile} (h : R l) (s : l'.Sublist l) : R l' := List.Pairwise.sublist s h
theorem R.uniq {l : List FilesFile} (h : R l) {a b : FilesFile} (ha : a ∈ l) (hb : b ∈ l) (e : a.path = b.path) : a = b := by
  obtain ⟨i, hi⟩ := List.getElem?_of_mem ha
  obtain ⟨j, hj⟩ := List.getElem?_of_mem hb
  obtain ⟨hi1, hi2⟩ := List.getElem?_eq_some_iff.1 hi
  obtain ⟨hj1, hj2⟩ := List.getElem?_eq_some_iff.1 hj
  rcases Nat.lt_trichotomy i j with q | q | q
  · have := List.pairwise_iff_getElem.1 h i j hi1 hj1 q
    rw [hi2, hj2, e] at this
    exact absurd this (List.lt_irrefl _)
  · subst q; rw [← hi2, ← hj2]
  · have := List.pairwise_iff_getElem.1 h j i hj1 hi1 q
    rw [hi2, hj2, e] at this
    exact absurd this (List.lt_irrefl _)
theorem R.ext {l l' : List FilesFile} (h : R l) (h' : R l') (m : ∀ z, z ∈ l ↔ z ∈ l') : l = l' := by
  have nd : ∀ {l : List FilesFile}, R l → l.Nodup := fun {l} h => by
    unfold R at h
    exact List.Pairwise.imp (fun {a b} (q : a.path < b.path) (e : a = b) => List.lt_irrefl b.path (e ▸ q)) h
  refine List.Perm.eq_of_pairwise (le := fun a b => a.path ≤ b.path) (fun a b ha hb h1 h2 => h.uniq ha ((m b).2 hb) (List.le_antisymm h1 h2)) (h.imp fun q => List.le_of_lt q) (h'.imp fun q => List.le_of_lt q) ((List.perm_ext_iff_of_nodup (nd h) (nd h')).2 m)
def gt (l : List FilesFile) (p : List UInt8) : Option FilesFile := l.find? (fun f => decide (f.path = p))
theorem gt_some {l : List FilesFile} (h : R l) {p : List UInt8} {z : FilesFile} : gt l p = some z ↔ z ∈ l ∧ z.path = p := by
  unfold gt
  constructor
  · intro q
    exact ⟨List.mem_of_find?_eq_some q, by simpa using List.find?_some q⟩
  · rintro ⟨hz, rfl⟩
    cases hq : l.find? (fun f => decide (f.path = z.path)) with
    | none => have := List.find?_eq_none.1 hq z hz; simp at this
    | some y =>
      have h1 := List.mem_of_find?_eq_some hq
      have h2 : y.path = z.path := by simpa using List.find?_some hq
      rw [h.uniq h1 hz h2]
theorem gt_none {l : List FilesFile} {p : List UInt8} : gt l p = none ↔ ∀ z ∈ l, z.path ≠ p := by
  unfold gt
  rw [List.find?_eq_none]
  simp
structure At (x : List FilesFile) (p : List UInt8) (i : Int) : Prop where
  i0 : 0 ≤ i
  i1 : i ≤ x.length
  lo : ∀ f ∈ x.take i.toNat, f.path < p
  hi : ∀ f ∈ x.drop i.toNat, ¬ f.path < p
theorem R.take_lt {x : List FilesFile} (h : R x) {i : Nat} {z : FilesFile} (hz : x[i]? = some z) : ∀ f ∈ x.take i, f.path < z.path := fun f hf => by
  obtain ⟨j, hj⟩ := List.getElem?_of_mem hf
  rw [List.getElem?_take] at hj
  split at hj
  · next q =>
    obtain ⟨a1, a2⟩ := List.getElem?_eq_some_iff.1 hj
    obtain ⟨b1, b2⟩ := List.getElem?_eq_some_iff.1 hz
    have := List.pairwise_iff_getElem.1 h j i a1 b1 q
    rwa [a2, b2] at this
  · cases hj
theorem R.drop_gt {x : List FilesFile} (h : R x) {i : Nat} {z : FilesFile} (hz : x[i]? = some z) : ∀ f ∈ x.drop (i + 1), z.path < f.path := fun f hf => by
  obtain ⟨j, hj⟩ := List.getElem?_of_mem hf
  rw [List.getElem?_drop] at hj
  obtain ⟨a1, a2⟩ := List.getElem?_eq_some_iff.1 hj
  obtain ⟨b1, b2⟩ := List.getElem?_eq_some_iff.1 hz
  have := List.pairwise_iff_getElem.1 h i (i + 1 + j) b1 a1 (by omega)
  rwa [a2, b2] at this
theorem drop_cons' {α : Type} {x : List α} {i : Nat} {z : α} (hz : x[i]? = some z) : x.drop i = z :: x.drop (i + 1) := by
  obtain ⟨b1, b2⟩ := List.getElem?_eq_some_iff.1 hz
  rw [List.drop_eq_getElem_cons b1, b2]
theorem find14 {x : List FilesFile} (h : R x) (hb : x.length ≤ 100000000) (p : List UInt8) : Ok (Sh.files_Row_find x p) fun r => At x p r.1 ∧ (r.2 = true ↔ ∃ z, x[r.1.toNat]? = some z ∧ z.path = p) := by
  unfold Sh.files_Row_find Sh.slices_BinarySearchFunc_files_Row_files_File_string
  rw [ok_bd]
  refine ok_iter (I := fun t => 0 ≤ t.1 ∧ t.1 ≤ t.2 ∧ t.2 ≤ x.length ∧ (∀ f ∈ x.take t.1.toNat, f.path < p) ∧ (∀ f ∈ x.drop t.2.toNat, ¬ f.path < p)) (μ := fun t => (t.2 - t.1).toNat) ?_ ⟨by simp, by simp, by simp, by simp, by simp⟩
  rintro ⟨i, j⟩ ⟨i0, i1, i2, i3, i4⟩
  dsimp only at i0 i1 i2 i3 i4 ⊢
  simp only [ok_if, ok_up, ok_gd]
  refine ⟨fun hij => ⟨⟨by omega, by omega⟩, ?_⟩, fun hij => ?_⟩
  · rw [half_ok (by omega) (by omega)]
    obtain ⟨z, hz⟩ := at_get (l := x) (i := (i + j) / 2) (by omega) (by omega)
    rw [ok_bd, ok_at]
    refine ⟨by omega, z, hz, ?_⟩
    unfold Sh.files_Row_find_1
    rw [pcmp14, Option.bind_some, Option.bind_some]
    simp only [ok_if, ok_gd, ok_go]
    refine ⟨fun hc => ⟨⟨by omega, by omega⟩, ⟨by omega, by omega, by omega, fun f hf => ?_, i4⟩, by omega⟩, fun hc => ⟨⟨i0, by omega, by omega, i3, fun f hf => ?_⟩, by omega⟩⟩
    · have hzp : z.path < p := by
        by_cases q : z.path < p
        · exact q
        · rw [if_neg q] at hc; split at hc <;> omega
      rw [show ((i + j) / 2 + 1).toNat = ((i + j) / 2).toNat + 1 by omega, List.take_add_one, hz] at hf
      rcases List.mem_append.1 hf with q | q
      · exact List.lt_trans (h.take_lt hz f q) hzp
      · have : f = z := by simpa using q
        rw [this]; exact hzp
    · have hzp : ¬ z.path < p := fun q => hc (by rw [if_pos q]; omega)
      rw [drop_cons' hz] at hf
      rcases List.mem_cons.1 hf with q | q
      · rw [q]; exact hzp
      · intro hlt
        exact hzp (List.lt_trans (h.drop_gt hz f q) hlt)
  · have hji : j = i := by omega
    subst hji
    simp only [ok_bd, ok_at, ok_some]
    refine ⟨fun hl => ?_, fun hl => ⟨⟨i0, i2, i3, i4⟩, ?_⟩⟩
    · obtain ⟨z, hz⟩ := at_get (l := x) i0 hl
      refine ⟨i0, z, hz, ?_⟩
      unfold Sh.files_Row_find_1
      rw [pcmp14, Option.bind_some, ok_some]
      refine ⟨⟨i0, i2, i3, i4⟩, ?_⟩
      rw [decide_eq_true_eq]
      have hnl : ¬ z.path < p := i4 z (by rw [drop_cons' hz]; exact List.mem_cons_self ..)
      rw [if_neg hnl]
      constructor
      · intro q
        refine ⟨z, hz, ?_⟩
        by_cases hp : p < z.path
        · rw [if_pos hp] at q; omega
        · exact List.le_antisymm (List.not_lt.1 hp) (List.not_lt.1 hnl)
      · rintro ⟨y, hy, rfl⟩
        rw [hz] at hy; cases hy
        rw [if_neg (List.lt_irrefl _)]
    · simp only [Bool.false_eq_true, false_iff]
      rintro ⟨z, hz, _⟩
      have := get_lt hz
      omega
theorem At.none {x : List FilesFile} {p : List UInt8} {i : Int} (h : R x) (a : At x p i) (hn : ¬ ∃ z, x[i.toNat]? = some z ∧ z.path = p) : ∀ z ∈ x, z.path ≠ p := fun z hz e => by
  rw [← List.take_append_drop i.toNat x] at hz
  rcases List.mem_append.1 hz with q | q
  · exact List.lt_irrefl p (e ▸ a.lo z q)
  · obtain ⟨y, hy⟩ : ∃ y, x[i.toNat]? = some y := by
      cases hq : x[i.toNat]? with
      | some y => exact ⟨y, rfl⟩
      | none =>
        have := List.getElem?_eq_none_iff.1 hq
        rw [List.drop_of_length_le this] at q; cases q
    have hyp : y.path ≠ p := fun e' => hn ⟨y, hy, e'⟩
    rw [drop_cons' hy] at q
    rcases List.mem_cons.1 q with q | q
    · rw [q] at e; exact hyp e
    · have h1 := h.drop_gt hy z q
      rw [e] at h1
      have h2 := a.hi y (by rw [drop_cons' hy]; exact List.mem_cons_self ..)
      exact h2 h1
def getF (x : List FilesFile) (p : List UInt8) : FilesFile × Bool := match gt x p with | some f => (f, true) | none => (⟨[], 0, []⟩, false)
theorem getF_some {x : List FilesFile} {p : List UInt8} {f : FilesFile} (h : gt x p = some f) : getF x p = (f, true) := by unfold getF; rw [h]
theorem getF_none {x : List FilesFile} {p : List UInt8} (h : gt x p = none) : getF x p = (⟨[], 0, []⟩, false) := by unfold getF; rw [h]
theorem get14 {x : List FilesFile} (h : R x) (hb : x.length ≤ 100000000) (p : List UInt8) : Sh.files_Row_Get x p = some (getF x p) := by
  apply Ok.eq
  unfold Sh.files_Row_Get
  refine ok_bd.2 ((find14 h hb p).mono fun r ⟨ha, hr⟩ => ?_)
  simp only [ok_if, ok_some]
  refine ⟨fun hn => ?_, fun hn => ?_⟩
  · have hf : ¬ r.2 = true := by simpa using hn
    have := ha.none h fun q => hf (hr.2 q)
    rw [getF_none (gt_none.2 this)]
  · have hf : r.2 = true := by simpa using hn
    obtain ⟨z, hz, hp⟩ := hr.1 hf
    rw [ok_bd, ok_at]
    refine ⟨ha.i0, z, hz, ?_⟩
    rw [ok_some, getF_some ((gt_some h).2 ⟨List.mem_of_getElem? hz, hp⟩)]
end Go.S
end

section
namespace Go.S
open Go
def vF (f : FilesFile) : Prop := checkP f.path = 0 ∧ (f.mode = 1 ∨ f.mode = 2) ∧ f.data.length ≤ 4096
theorem checkP_len {p : List UInt8} (h : checkP p = 0) : p.length ≤ 64 := by
  unfold checkP at h
  split at h
  · omega
  · omega
structure GoodF (x : List FilesFile) : Prop where
  v : ∀ f ∈ x, vF f
  r : R x
  c : x.Pairwise (fun a b => clashS a.path b.path = false)
theorem GoodF.sub {l l' : List FilesFile} (h : GoodF l) (s : l'.Sublist l) : GoodF l' := ⟨fun f hf => h.v f (s.subset hf), h.r.sub s, List.Pairwise.sublist s h.c⟩
theorem fix14 (l : List FilesFile) (f : FilesFile) (hb : l.length ≤ 1000000000) (hl : ∀ z ∈ l, z.path.length ≤ 1000000000) (hf : f.path.length ≤ 1000000000) : Ok (Sh.slices_ContainsFunc_files_Row_files_File l f) (fun b => b = l.any fun y => clashS y.path f.path) := by
  unfold Sh.slices_ContainsFunc_files_Row_files_File Sh.slices_IndexFunc_files_Row_files_File
  rw [ok_bd]
  refine (ixloop (fun y => clashS y.path f.path) l hb (fun y => Sh.files_Row_wrong_1 y f) (fun y hy => ?_) _ fun i => rfl).mono fun r hr => ?_
  · unfold Sh.files_Row_wrong_1
    rw [clash_ok (hl y hy) hf]; rfl
  · rw [ok_some, fst_any hr]
theorem wrong14 {x : List FilesFile} (hb : x.length ≤ 1000000) (hl : ∀ z ∈ x, z.path.length ≤ 1000000000) {i : Int} (i0 : 0 ≤ i) (hi : i < x.length) {z : FilesFile} (hz : x[i.toNat]? = some z) :
    Ok (Sh.files_Row_wrong x i) fun e => e = 0 ↔ vF z ∧ (∀ y, 0 < i → x[(i - 1).toNat]? = some y → y.path < z.path) ∧ ∀ y ∈ x.take i.toNat, clashS y.path z.path = false := by
  unfold Sh.files_Row_wrong
  have hzm := List.mem_of_getElem? hz
  rw [ok_bd, ok_at]
  refine ⟨i0, z, hz, ?_⟩
  rw [pcheck_ok, Option.bind_some]
  by_cases hc : checkP z.path = 0
  · rw [if_pos hc]
    refine ok_jnP (fun b => b = false ↔ (z.mode = 1 ∨ z.mode = 2)) ?_ ?_
    · intro b hbm
      simp only [ok_if, ok_some]
      refine ⟨fun h => ⟨fun q => absurd q (by omega), fun ⟨⟨_, m, _⟩, _⟩ => by rw [hbm.2 m] at h; cases h⟩, fun h => ⟨fun hd => ⟨fun q => absurd q (by omega), fun ⟨⟨_, _, q⟩, _⟩ => absurd q (by omega)⟩, fun hd => ?_⟩⟩
      have hm := hbm.1 (by simpa using h)
      have hd' : z.data.length ≤ 4096 := by omega
      refine ok_jnP (fun b => b = false ↔ (∀ y, 0 < i → x[(i - 1).toNat]? = some y → y.path < z.path)) ?_ ?_
      · intro b hbm
        simp only [ok_if, ok_some]
        refine ⟨fun h => ⟨fun q => absurd q (by omega), fun ⟨_, q, _⟩ => by rw [hbm.2 q] at h; cases h⟩, fun h => ?_⟩
        have hr := hbm.1 (by simpa using h)
        simp only [ok_gd, ok_lt]
        refine ⟨⟨i0, by omega⟩, ok_bd.2 ((fix14 (x.take i.toNat) z (by rw [List.length_take]; omega) (fun y hy => hl y (List.mem_of_mem_take hy)) (hl z hzm)).mono fun c hcc => ?_)⟩
        simp only [ok_if, ok_some]
        refine ⟨fun h => ⟨fun q => absurd q (by omega), fun ⟨_, _, q⟩ => ?_⟩, fun h => ⟨fun _ => ⟨⟨hc, hm, hd'⟩, hr, fun y hy => ?_⟩, fun _ => (by first | rfl | trivial)⟩⟩
        · rw [hcc] at h
          obtain ⟨y, hy, hy2⟩ := List.any_eq_true.1 h
          rw [q y hy] at hy2; cases hy2
        · cases hq : clashS y.path z.path with
          | false => rfl
          | true => exact absurd (hcc.trans (List.any_eq_true.2 ⟨y, hy, hq⟩)) h
      · intro K hK
        simp only [ok_if, ok_gd]
        refine ⟨fun h => ⟨⟨by omega, by omega⟩, ?_⟩, fun h => hK _ ⟨fun _ y q => absurd q h, fun _ => rfl⟩⟩
        obtain ⟨y, hy⟩ := at_get (l := x) (i := i - 1) (by omega) (by omega)
        rw [ok_bd, ok_at]
        refine ⟨by omega, y, hy, ?_⟩
        rw [pcmp14, Option.bind_some]
        refine hK _ ?_
        rw [decide_eq_false_iff_not]
        constructor
        · intro q y' _ hy'
          rw [hy] at hy'; cases hy'
          by_cases q2 : y.path < z.path
          · exact q2
          · rw [if_neg q2] at q; split at q <;> omega
        · intro q
          rw [if_pos (q y h hy)]; omega
    · intro K hK
      simp only [ok_if]
      refine ⟨fun h => hK _ ⟨fun _ => .inl h, fun _ => rfl⟩, fun h => hK _ ⟨fun q => .inr (by simpa using q), fun q => ?_⟩⟩
      rcases q with q | q
      · exact absurd q h
      · simp [q]
  · rw [if_neg hc, ok_some]
    exact ⟨fun h => absurd h hc, fun ⟨⟨h, _⟩, _⟩ => absurd h hc⟩
theorem goodF_snoc {x : List FilesFile} {i : Int} (i0 : 0 ≤ i) {z : FilesFile} (hz : x[i.toNat]? = some z) (hg : GoodF (x.take i.toNat)) (hv : vF z) (hr : ∀ y, 0 < i → x[(i - 1).toNat]? = some y → y.path < z.path) (hc : ∀ y ∈ x.take i.toNat, clashS y.path z.path = false) : GoodF (x.take (i + 1).toNat) := by
  rw [take_snoc i0 hz]
  have hlt : ∀ a ∈ x.take i.toNat, a.path < z.path := fun a ha => by
    have hpos : 0 < i := by
      rcases Int.lt_or_le 0 i with q | q
      · exact q
      · rw [show i.toNat = 0 by omega] at ha; simp at ha
    have hil := get_lt hz
    obtain ⟨y, hy⟩ := at_get (l := x) (i := i - 1) (by omega) (by omega)
    have hyz := hr y hpos hy
    have he : x.take i.toNat = x.take (i - 1).toNat ++ [y] := by
      have := take_snoc (l := x) (i := i - 1) (by omega) hy
      rwa [show i - 1 + 1 = i by omega] at this
    rw [he] at ha
    rcases List.mem_append.1 ha with q | q
    · have hR := hg.r
      rw [he] at hR
      have := (List.pairwise_append.1 hR).2.2 a q y (List.mem_singleton_self _)
      exact List.lt_trans this hyz
    · rw [List.mem_singleton.1 q]; exact hyz
  refine ⟨fun f hf => ?_, List.pairwise_append.2 ⟨hg.r, List.pairwise_singleton _ _, fun a ha b hb => ?_⟩, List.pairwise_append.2 ⟨hg.c, List.pairwise_singleton _ _, fun a ha b hb => ?_⟩⟩
  · rcases List.mem_append.1 hf with q | q
    · exact hg.v f q
    · rw [List.mem_singleton.1 q]; exact hv
  · rw [List.mem_singleton.1 hb]; exact hlt a ha
  · rw [List.mem_singleton.1 hb]; exact hc a ha
theorem check14 {x : List FilesFile} (hb : x.length ≤ 1000000) (hl : ∀ z ∈ x, z.path.length ≤ 1000000000) : Ok (Sh.files_Row_Check x) fun e => e.isNil = true ↔ x.length ≤ 64 ∧ GoodF x := by
  unfold Sh.files_Row_Check
  simp only [ok_if, ok_some]
  refine ⟨fun h => ⟨fun q => (by cases q), fun q => absurd q.1 (by omega)⟩, fun h64 => ?_⟩
  refine ok_iter (I := fun i => 0 ≤ i ∧ i ≤ x.length ∧ GoodF (x.take i.toNat)) (μ := fun i => (x.length - i).toNat) ?_ ⟨by omega, by omega, ⟨fun f h => (by simp at h), by simp [R], by simp⟩⟩
  rintro i ⟨i0, i1, hg⟩
  simp only [ok_if, ok_up, ok_some]
  refine ⟨fun hi => ?_, fun hi => ?_⟩
  · obtain ⟨z, hz⟩ := at_get (l := x) i0 hi
    refine ok_bd.2 ((wrong14 hb hl i0 hi hz).mono fun e he => ?_)
    simp only [ok_if, ok_gd, ok_go, ok_up, ok_some]
    refine ⟨fun h => ⟨⟨by omega, by omega⟩, ⟨by omega, by omega, ?_⟩, by omega⟩, fun h => ⟨fun q => (by cases q), fun ⟨_, q⟩ => absurd (he.2 ?_) h⟩⟩
    · obtain ⟨a, b, c⟩ := he.1 h
      exact goodF_snoc i0 hz hg a b c
    · refine ⟨q.v z (List.mem_of_getElem? hz), fun y hpos hy => ?_, fun y hy => ?_⟩
      · exact q.r.take_lt hz y (List.mem_of_getElem? (i := (i - 1).toNat) (by rw [List.getElem?_take, if_pos (by omega)]; exact hy))
      · obtain ⟨j, hj⟩ := List.getElem?_of_mem hy
        rw [List.getElem?_take] at hj
        split at hj
        · next hlt =>
          have h1 := (List.getElem?_eq_some_iff.1 hj)
          have h2 := (List.getElem?_eq_some_iff.1 hz)
          have := List.pairwise_iff_getElem.1 q.c j i.toNat h1.1 h2.1 hlt
          rwa [h1.2, h2.2] at this
        · cases hj
  · rw [List.take_of_length_le (by omega)] at hg
    exact ⟨fun _ => ⟨by omega, hg⟩, fun _ => rfl⟩
end Go.S
end

section
namespace Go.S
open Go
def PathsOf (ls : List (List FilesFile)) (r : List (List UInt8)) : Prop := r.Pairwise (· < ·) ∧ ∀ x, x ∈ r ↔ ∃ l ∈ ls, ∃ f ∈ l, f.path = x
theorem paths14 (ls : List (List FilesFile)) (hn : ls.length ≤ 8) (hl : ∀ l ∈ ls, l.length ≤ 1000000 ∧ ∀ f ∈ l, f.path.length ≤ 1000000) : Ok (Sh.files_Paths ls) (fun r => PathsOf ls r ∧ r.length ≤ 8000000) := by
  unfold Sh.files_Paths
  refine ok_iter (I := fun t => 0 ≤ t.1 ∧ t.1 ≤ ls.length ∧ (t.2.length : Int) ≤ t.1 * 1000000 ∧ ∀ x, x ∈ t.2 ↔ ∃ l ∈ ls.take t.1.toNat, ∃ f ∈ l, f.path = x) (μ := fun t => (ls.length - t.1).toNat) ?_ ⟨by simp, by simp, by simp, by simp⟩
  rintro ⟨i, acc⟩ ⟨i0, i1, i2, i3⟩
  dsimp only at i0 i1 i2 i3 ⊢
  simp only [ok_if, ok_up, ok_bd, ok_at]
  refine ⟨fun hi => ?_, fun hi => ?_⟩
  · obtain ⟨l, hz⟩ := at_get (l := ls) i0 hi
    have hll := hl l (List.mem_of_getElem? hz)
    refine ⟨i0, l, hz, ?_⟩
    have hmul : (i + 1) * 1000000 = i * 1000000 + 1000000 := by rw [Int.add_mul]; omega
    have hle : i * 1000000 ≤ 8000000 := by omega
    refine ok_iter (I := fun t => 0 ≤ t.1 ∧ t.1 ≤ l.length ∧ (t.2.length : Int) ≤ i * 1000000 + t.1 ∧ ∀ x, x ∈ t.2 ↔ (∃ l ∈ ls.take i.toNat, ∃ f ∈ l, f.path = x) ∨ ∃ f ∈ l.take t.1.toNat, f.path = x) (μ := fun t => (l.length - t.1).toNat) ?_ ⟨by simp, by simp, by simpa using i2, by simpa using i3⟩
    rintro ⟨j, acc2⟩ ⟨j0, j1, j2, j3⟩
    dsimp only at j0 j1 j2 j3 ⊢
    simp only [ok_if, ok_up, ok_bd, ok_at, ok_gd, ok_lt, ok_go]
    refine ⟨fun hj => ?_, fun hj => ⟨⟨by omega, by omega⟩, ⟨by omega, by omega, by omega, fun x => ?_⟩, by omega⟩⟩
    · obtain ⟨f, hf⟩ := at_get (l := l) j0 hj
      have hfl := hll.2 f (List.mem_of_getElem? hf)
      refine ⟨j0, f, hf, ⟨by omega, by omega⟩, ⟨by omega, by omega⟩, ⟨by omega, by omega, by simp only [List.length_cons]; omega, fun x => ?_⟩, by omega⟩
      rw [List.mem_cons, j3, take_snoc j0 hf]
      constructor
      · rintro (q | q | ⟨g, hg, q⟩)
        · exact .inr ⟨f, by simp, q.symm⟩
        · exact .inl q
        · exact .inr ⟨g, List.mem_append_left _ hg, q⟩
      · rintro (q | ⟨g, hg, q⟩)
        · exact .inr (.inl q)
        · rcases List.mem_append.1 hg with h | h
          · exact .inr (.inr ⟨g, h, q⟩)
          · rw [List.mem_singleton.1 h] at q; exact .inl q.symm
    · rw [List.take_of_length_le (l := l) (i := j.toNat) (by omega)] at j3
      rw [j3, take_snoc i0 hz]
      constructor
      · rintro (⟨m, hm, q⟩ | q)
        · exact ⟨m, List.mem_append_left _ hm, q⟩
        · exact ⟨l, List.mem_append_right _ (List.mem_singleton_self _), q⟩
      · rintro ⟨m, hm, q⟩
        rcases List.mem_append.1 hm with h | h
        · exact .inl ⟨m, h, q⟩
        · rw [List.mem_singleton.1 h] at q; exact .inr q
  · rw [List.take_of_length_le (by omega)] at i3
    simp only [ok_gd, ok_lt]
    refine ⟨by omega, ?_⟩
    rw [clipS14, Option.bind_some, ok_some]
    exact ⟨⟨keysS_lt acc, fun x => (keysS_mem acc x).trans (i3 x)⟩, by have := keysS_len acc; omega⟩
end Go.S
end

section
namespace Go.S
open Go
end Go.S
end

section
namespace Go.S
open Go
end Go.S
end

section
namespace Go.S
open Go
theorem gt_path {rf : List FilesFile} {p : List UInt8} {f : FilesFile} (h : gt rf p = some f) : f.path = p := by simpa using List.find?_some h
end Go.S
end

section
namespace Go.S
theorem gl_at {α : Type} {l : List α} {i : Int} (h0 : 0 ≤ i) (h : i < l.length) : ∃ z, l[i.toNat]? = some z := ⟨_, List.getElem?_eq_getElem (by omega)⟩
theorem gl_snoc {α : Type} {l : List α} {i : Int} {z : α} (h0 : 0 ≤ i) (h : l[i.toNat]? = some z) : l.take (i + 1).toNat = l.take i.toNat ++ [z] := by
  rw [show (i + 1).toNat = i.toNat + 1 by omega, List.take_add_one, h]; rfl
theorem gl_atv {α : Type} {l : List α} {i : Int} {z : α} (h0 : 0 ≤ i) (h : l[i.toNat]? = some z) : at_ l i = some z := by
  unfold at_; rw [if_pos h0, h]
def Nx {T R : Type} (t : T) (y : T ⊕ R) : Prop := y = .inl t
def Up {T R : Type} (Q : R → Prop) (y : T ⊕ R) : Prop := ∃ r, y = .inr r ∧ Q r
theorem nx_go {T R : Type} {t t' : T} (h : t' = t) : Ok (go t' : Option (T ⊕ R)) (Nx t) := ⟨_, rfl, by rw [h]; rfl⟩
theorem nx_gd {T R : Type} {c : Prop} [Decidable c] {t t' : T} (hc : c) (h : t' = t) : Ok (gd c (go t' : Option (T ⊕ R))) (Nx t) := ok_gd.2 ⟨hc, nx_go h⟩
theorem up_up {T R : Type} {o : Option R} {Q : R → Prop} (h : Ok o Q) : Ok (up o : Option (T ⊕ R)) (Up Q) := ok_up.2 (h.mono fun r hr => ⟨r, rfl, hr⟩)
theorem gl_fold {α τ R : Type} {Q : R → Prop} (l : List α) (f : τ → α → τ) (t0 : τ) (B : τ × Int → Option ((τ × Int) ⊕ R))
    (hB : ∀ (i : Int) z, 0 ≤ i → i < l.length → l[i.toNat]? = some z → ∀ s, s = (l.take i.toNat).foldl f t0 → Ok (B (s, i)) (Nx (f s z, i + 1)))
    (hE : ∀ s, s = l.foldl f t0 → Ok (B (s, (l.length : Int))) (Up Q)) : Ok (iter B (t0, 0)) Q := by
  refine ok_iter (I := fun t => 0 ≤ t.2 ∧ t.2 ≤ l.length ∧ t.1 = (l.take t.2.toNat).foldl f t0) (μ := fun t => (l.length - t.2).toNat) ?_ ⟨by dsimp only; omega, by dsimp only; omega, by simp⟩
  rintro ⟨t, i⟩ ⟨i0, i1, i2⟩
  dsimp only at i0 i1 i2 ⊢
  by_cases hi : i < l.length
  · obtain ⟨z, hz⟩ := gl_at i0 hi
    refine (hB i z i0 hi hz t i2).mono ?_
    rintro y hy
    cases hy
    refine ⟨⟨by dsimp only; omega, by dsimp only; omega, ?_⟩, by dsimp only; omega⟩
    show _ = (l.take (i + 1).toNat).foldl f t0
    rw [gl_snoc i0 hz, List.foldl_append, i2]; rfl
  · have e : i = l.length := by omega
    subst e
    rw [List.take_of_length_le (by omega)] at i2
    refine (hE t i2).mono ?_
    rintro y ⟨r, rfl, hr⟩
    exact hr
theorem gl_chk {α R : Type} {Q : R → Prop} (l : List α) (P : α → Prop) (B : Int → Option (Int ⊕ R))
    (hB : ∀ (i : Int) z, 0 ≤ i → i < l.length → l[i.toNat]? = some z → (∀ y ∈ l.take i.toNat, P y) → Ok (B i) (fun y => y = .inl (i + 1) ∧ P z ∨ ∃ r, y = .inr r ∧ Q r))
    (hE : (∀ y ∈ l, P y) → Ok (B (l.length : Int)) (Up Q)) : Ok (iter B 0) Q := by
  refine ok_iter (I := fun i => 0 ≤ i ∧ i ≤ l.length ∧ ∀ y ∈ l.take i.toNat, P y) (μ := fun i => (l.length - i).toNat) ?_ ⟨by omega, by omega, by simp⟩
  rintro i ⟨i0, i1, i2⟩
  by_cases hi : i < l.length
  · obtain ⟨z, hz⟩ := gl_at i0 hi
    refine (hB i z i0 hi hz i2).mono ?_
    rintro y (⟨rfl, hp⟩ | ⟨r, rfl, hr⟩)
    · refine ⟨⟨by omega, by omega, fun y hy => ?_⟩, by omega⟩
      rw [gl_snoc i0 hz] at hy
      rcases List.mem_append.1 hy with q | q
      · exact i2 y q
      · rw [List.mem_singleton.1 q]; exact hp
    · exact hr
  · have e : i = l.length := by omega
    subst e
    rw [List.take_of_length_le (by omega)] at i2
    refine (hE i2).mono ?_
    rintro y ⟨r, rfl, hr⟩
    exact hr
end Go.S
end

section
namespace Go.S
open Go
theorem knownL16 : Sh.rectolaw16_known = some true := by decide +kernel
def oneT (r : List FilesFile) (p : List UInt8) : TmergeOne := ⟨(getF r p).1.path, (getF r p).1.mode, (getF r p).1.data, (getF r p).2⟩
theorem of16 {r : List FilesFile} (h : R r) (hb : r.length ≤ 1000000) (p : List UInt8) : Sh.tmerge_of r p = some (oneT r p) := by
  unfold Sh.tmerge_of
  rw [get14 h (by omega), Option.bind_some]; rfl
theorem oneT_some {r : List FilesFile} {p : List UInt8} {f : FilesFile} (h : gt r p = some f) : oneT r p = ⟨f.path, f.mode, f.data, true⟩ := by
  unfold oneT; rw [getF_some h]
theorem oneT_none {r : List FilesFile} {p : List UInt8} (h : gt r p = none) : oneT r p = ⟨[], 0, [], false⟩ := by
  unfold oneT; rw [getF_none h]
structure Bd (l : List FilesFile) : Prop where
  r : R l
  n : l.length ≤ 1000000
  p : ∀ f ∈ l, f.path.length ≤ 1000000
def noCl (l : List FilesFile) : Prop := l.Pairwise fun a b => clashS a.path b.path = false
theorem fltT (l : List FilesFile) (f : FilesFile) (hb : l.length ≤ 1000000000) (hl : ∀ z ∈ l, z.path.length ≤ 1000000000) (hf : f.path.length ≤ 1000000000) : Ok (Sh.slices_ContainsFunc_files_Row_files_File_v2 l f) (fun b => b = l.any fun y => clashS y.path f.path) := by
  unfold Sh.slices_ContainsFunc_files_Row_files_File_v2 Sh.slices_IndexFunc_files_Row_files_File_v2
  rw [ok_bd]
  refine (ixloop (fun y => clashS y.path f.path) l hb (fun y => Sh.tmerge_fault_1 y f) (fun y hy => ?_) _ fun i => rfl).mono fun r hr => ?_
  · unfold Sh.tmerge_fault_1
    rw [clash_ok (hl y hy) hf]; rfl
  · rw [ok_some, fst_any hr]
theorem fault16 (l : List FilesFile) (hl : ∀ z ∈ l, z.path.length ≤ 1000000) : Ok (Sh.tmerge_fault l) fun e => e.isNil = true ↔ l.length ≤ 64 ∧ noCl l := by
  unfold Sh.tmerge_fault
  rw [ok_if]
  refine ⟨fun h => ok_some.2 ⟨fun q => (by cases q), fun q => absurd q.1 (by omega)⟩, fun h64 => ?_⟩
  refine ok_iter (I := fun i => 0 ≤ i ∧ i ≤ l.length ∧ noCl (l.take i.toNat)) (μ := fun i => (l.length - i).toNat) ?_ ⟨by omega, by omega, by simp [noCl]⟩
  rintro i ⟨i0, i1, hg⟩
  by_cases hi : i < l.length
  · obtain ⟨z, hz⟩ := gl_at i0 hi
    have hzm := List.mem_of_getElem? hz
    rw [if_pos hi, gl_atv i0 hz, Option.bind_some]
    refine ok_gd.2 ⟨⟨i0, by omega⟩, ok_lt.2 (ok_bd.2 ((fltT (l.take i.toNat) z (by rw [List.length_take]; omega) (fun y hy => by have := hl y (List.mem_of_mem_take hy); omega) (by have := hl z hzm; omega)).mono fun v hv => ?_))⟩
    subst hv
    cases ha : (l.take i.toNat).any fun y => clashS y.path z.path with
    | true =>
      rw [if_pos (by rfl)]
      refine ok_up.2 (ok_some.2 ⟨fun q => (by cases q), fun q => ?_⟩)
      obtain ⟨y, hy, hc⟩ := List.any_eq_true.1 ha
      obtain ⟨j, hj⟩ := List.getElem?_of_mem hy
      rw [List.getElem?_take] at hj
      split at hj
      · next hlt =>
        have h1 := (List.getElem?_eq_some_iff.1 hj)
        have h2 := (List.getElem?_eq_some_iff.1 hz)
        have := List.pairwise_iff_getElem.1 q.2 j i.toNat h1.1 h2.1 hlt
        rw [h1.2, h2.2, hc] at this
        cases this
      · cases hj
    | false =>
      rw [if_neg (by simp)]
      refine ok_gd.2 ⟨⟨by omega, by omega⟩, ok_go.2 ⟨⟨by omega, by omega, ?_⟩, by omega⟩⟩
      unfold noCl
      rw [gl_snoc i0 hz]
      refine List.pairwise_append.2 ⟨hg, List.pairwise_singleton _ _, fun y hy w hw => ?_⟩
      rw [List.mem_singleton.1 hw]
      have := List.any_eq_false.1 ha y hy
      simpa using this
  · rw [if_neg hi]
    rw [List.take_of_length_le (by omega)] at hg
    exact ok_up.2 (ok_some.2 ⟨fun _ => ⟨by omega, hg⟩, fun _ => rfl⟩)
theorem GoodF.bd {x : List FilesFile} (h : x.length ≤ 64 ∧ GoodF x) : Bd x := ⟨h.2.r, by omega, fun f hf => by have := checkP_len (h.2.v f hf).1; omega⟩
end Go.S
end

section
namespace Go.P
def tv (a b : Str) (c : Chunk) : Str := if c.clash then clashv c a b else join c.out
def tvs (a b : Str) (l : List Chunk) : Str := (l.map (tv a b)).flatten
def nclash (l : List Chunk) : Int := (l.filter (·.clash)).length
theorem tvs_take {a b : Str} {l : List Chunk} {k : Int} {c : Chunk} (h0 : 0 ≤ k) (h : l[k.toNat]? = some c) : tvs a b (l.take (k + 1).toNat) = tvs a b (l.take k.toNat) ++ tv a b c := by
  rw [show (k + 1).toNat = k.toNat + 1 by omega, List.take_add_one, h]
  simp [tvs]
theorem nclash_take {l : List Chunk} {k : Int} {c : Chunk} (h0 : 0 ≤ k) (h : l[k.toNat]? = some c) : nclash (l.take (k + 1).toNat) = nclash (l.take k.toNat) + if c.clash then 1 else 0 := by
  rw [show (k + 1).toNat = k.toNat + 1 by omega, List.take_add_one, h]
  cases hc : c.clash <;> simp [nclash, hc]
theorem tvs_take_le (a b : Str) (l : List Chunk) (k : Nat) : (tvs a b (l.take k)).length ≤ (tvs a b l).length := by
  conv => rhs; rw [← List.take_append_drop k l]
  simp only [tvs, List.map_append, List.flatten_append, List.length_append]
  omega
theorem nclash_le (l : List Chunk) : 0 ≤ nclash l ∧ nclash l ≤ l.length := by
  have := List.length_filter_le (·.clash) l
  unfold nclash
  omega
end Go.P
end

section
namespace Go.P
theorem pls_line : ∀ (a b : List Str) (j : Int) (n : Nat) (u : Int), (pls (edits a b) j)[n]? = some u → u = -1 ∨ (j ≤ u ∧ ∃ l, a[n]? = some l ∧ b[(u - j).toNat]? = some l)
  | [], b, j, n, u, h => by
    have := pls_length (edits [] b) j
    rw [(c_edits [] b).1] at this
    have h2 := (List.getElem?_eq_some_iff.1 h).1
    simp at this
    rw [this] at h2; simp at h2
  | x :: a, [], j, n, u, h => by
    rw [edits_nil] at h
    simp only [pls] at h
    rw [if_neg (by decide), if_pos trivial] at h
    cases n with
    | zero => simp at h; exact .inl h.symm
    | succ n =>
      simp only [List.getElem?_cons_succ] at h
      rcases pls_line a [] j n u h with q | ⟨_, l, _, q⟩
      · exact .inl q
      · simp at q
  | x :: a, y :: b, j, n, u, h => by
    rw [edits_cons] at h
    split at h
    · rename_i hxy
      simp only [pls] at h
      rw [if_neg (by decide), if_neg (by decide)] at h
      cases n with
      | zero => simp at h; subst h; exact .inr ⟨Int.le_refl _, x, rfl, by simp [hxy]⟩
      | succ n =>
        simp only [List.getElem?_cons_succ] at h
        rcases pls_line a b (j + 1) n u h with q | ⟨q, l, q1, q2⟩
        · exact .inl q
        · refine .inr ⟨by omega, l, by simpa using q1, ?_⟩
          rw [show (u - j).toNat = (u - (j + 1)).toNat + 1 by omega]
          simpa using q2
    · split at h
      · simp only [pls] at h
        rw [if_neg (by decide), if_pos trivial] at h
        cases n with
        | zero => simp at h; exact .inl h.symm
        | succ n =>
          simp only [List.getElem?_cons_succ] at h
          rcases pls_line a (y :: b) j n u h with q | ⟨q, l, q1, q2⟩
          · exact .inl q
          · exact .inr ⟨q, l, by simpa using q1, q2⟩
      · simp only [pls] at h
        rw [if_pos trivial] at h
        rcases pls_line (x :: a) b (j + 1) n u h with q | ⟨q, l, q1, q2⟩
        · exact .inl q
        · refine .inr ⟨by omega, l, q1, ?_⟩
          rw [show (u - j).toNat = (u - (j + 1)).toNat + 1 by omega]
          simpa using q2
theorem places_line {a b : List Str} {n : Nat} {u : Int} {l : Str} (h : (places a b)[n]? = some u) (h0 : 0 ≤ u) (hl : a[n]? = some l) : b[u.toNat]? = some l := by
  rw [places_pls] at h
  rcases pls_line a b 0 n u h with q | ⟨_, l', q1, q2⟩
  · omega
  · rw [hl] at q1; cases q1
    simpa using q2
theorem chunks_ind (b o t : List Str) (hb : b.length ≤ 256) (ho : o.length ≤ 256) (ht : t.length ≤ 256) (I : Wk → Prop) (h0 : I ⟨0, 0, 0, [], false⟩)
    (step : ∀ (s : Wk) (n u v : Int) (line : Str), I s → 0 ≤ s.i → s.i ≤ n → n < b.length → 0 ≤ s.j → s.j ≤ u → u < o.length → 0 ≤ s.k → s.k ≤ v → v < t.length → (places b o)[n.toNat]? = some u → (places b t)[n.toNat]? = some v →
      b[n.toNat]? = some line → o[u.toNat]? = some line → t[v.toNat]? = some line → I (keepW (put b o t s n u v) line)) :
    ∃ s : Wk, I s ∧ 0 ≤ s.i ∧ s.i ≤ b.length ∧ 0 ≤ s.j ∧ s.j ≤ o.length ∧ 0 ≤ s.k ∧ s.k ≤ t.length ∧ (s.out.length : Int) ≤ 2 * b.length ∧ chunks b o t = (put b o t s b.length o.length t.length).out := by
  have key : ∀ n : Nat, n ≤ b.length → CInv b o t n (wrun b o t (places b o) (places b t) n) ∧ I (wrun b o t (places b o) (places b t) n) := by
    intro n
    induction n with
    | zero => exact fun _ => ⟨cinv_start b o t, h0⟩
    | succ n ih =>
      intro hn
      obtain ⟨hc, hI⟩ := ih (by omega)
      obtain ⟨u, hu⟩ : ∃ u, (places b o)[n]? = some u := ⟨_, List.getElem?_eq_getElem (by rw [places_len]; omega)⟩
      obtain ⟨v, hv⟩ : ∃ v, (places b t)[n]? = some v := ⟨_, List.getElem?_eq_getElem (by rw [places_len]; omega)⟩
      obtain ⟨l, hl⟩ : ∃ l, b[n]? = some l := ⟨_, List.getElem?_eq_getElem (by omega)⟩
      by_cases hk : 0 ≤ u ∧ 0 ≤ v
      · have e : wrun b o t (places b o) (places b t) (n + 1) = keepW (put b o t (wrun b o t (places b o) (places b t) n) n u v) l := by
          simp only [wrun, wstep, hu, hv, hl]; rw [if_pos hk]
        rw [e]
        refine ⟨cinv_keep hc hb ho ht (by simpa using hu) (by simpa using hv) (by simpa using hl) hk.1 hk.2, ?_⟩
        exact step _ n u v l hI hc.i0 hc.i1 (by omega) hc.j0 (hc.ju n u (by omega) hu hk.1) (places_range b o u (List.mem_of_getElem? hu) hk.1) hc.k0 (hc.kv n v (by omega) hv hk.2) (places_range b t v (List.mem_of_getElem? hv) hk.2)
          (by simpa using hu) (by simpa using hv) (by simpa using hl) (places_line hu hk.1 hl) (places_line hv hk.2 hl)
      · have e : wrun b o t (places b o) (places b t) (n + 1) = wrun b o t (places b o) (places b t) n := by
          simp only [wrun, wstep, hu, hv, hl]; rw [if_neg hk]
        rw [e]
        exact ⟨cinv_pass hc (by simpa using hu) (by simpa using hv) (by omega) hk, hI⟩
  obtain ⟨hc, hI⟩ := key b.length (Nat.le_refl _)
  exact ⟨_, hI, hc.i0, hc.i1, hc.j0, hc.j1, hc.k0, hc.k1, hc.len, rfl⟩
def Kept (x : Chunk) : Prop := x.ours = x.base ∧ x.theirs = x.base ∧ x.out = x.base ∧ x.clash = false
def Good (x : Chunk) : Prop := Kept x ∨ x = gapv x.base x.ours x.theirs
theorem gapv_parts (b o t : List Str) : (gapv b o t).base = b ∧ (gapv b o t).ours = o ∧ (gapv b o t).theirs = t := by
  unfold gapv; (repeat' split) <;> exact ⟨rfl, rfl, rfl⟩
theorem gapv_good (b o t : List Str) : Good (gapv b o t) := .inr (by obtain ⟨h1, h2, h3⟩ := gapv_parts b o t; rw [h1, h2, h3])
theorem take_sl {l : List Str} {a c : Int} (h0 : 0 ≤ a) (h : a ≤ c) : l.take a.toNat ++ sl l a c = l.take c.toNat := by
  unfold sl
  rw [show c.toNat = a.toNat + (c.toNat - a.toNat) by omega, List.take_add, show a.toNat + (c.toNat - a.toNat) - a.toNat = c.toNat - a.toNat by omega]
structure WInv (b o t : List Str) (s : Wk) : Prop where
  base : s.out.flatMap (·.base) = b.take s.i.toNat
  ours : s.out.flatMap (·.ours) = o.take s.j.toNat
  theirs : s.out.flatMap (·.theirs) = t.take s.k.toNat
  good : ∀ c ∈ s.out, Good c
  op : s.op = true → ∃ fr x, s.out = fr ++ [x] ∧ Kept x
theorem WInv.put {b o t : List Str} {s : Wk} (h : WInv b o t s) {i j k : Int} (i0 : 0 ≤ s.i) (i1 : s.i ≤ i) (j0 : 0 ≤ s.j) (j1 : s.j ≤ j) (k0 : 0 ≤ s.k) (k1 : s.k ≤ k) : WInv b o t (put b o t s i j k) := by
  obtain ⟨h1, h2, h3, h4, h5⟩ := h
  obtain ⟨g1, g2, g3⟩ := gapv_parts (sl b s.i i) (sl o s.j j) (sl t s.k k)
  unfold P.put
  split
  · refine ⟨?_, ?_, ?_, fun c hc => ?_, fun q => by cases q⟩
    · simp only [List.flatMap_append, h1, List.flatMap_cons, List.flatMap_nil, List.append_nil, g1, take_sl i0 i1]
    · simp only [List.flatMap_append, h2, List.flatMap_cons, List.flatMap_nil, List.append_nil, g2, take_sl j0 j1]
    · simp only [List.flatMap_append, h3, List.flatMap_cons, List.flatMap_nil, List.append_nil, g3, take_sl k0 k1]
    · rcases List.mem_append.1 hc with q | q
      · exact h4 c q
      · cases List.mem_singleton.1 q; exact gapv_good _ _ _
  · have e1 : i = s.i := by omega
    have e2 : j = s.j := by omega
    have e3 : k = s.k := by omega
    subst e1; subst e2; subst e3
    exact ⟨h1, h2, h3, h4, h5⟩
theorem addL_kept {x : Chunk} {l : Str} (h : Kept x) : Kept (addL x l) := by
  obtain ⟨h1, h2, h3, h4⟩ := h
  simp [Kept, addL, h1, h2, h3, h4]
theorem keep_flat {s : Wk} {line : Str} (f : Chunk → List Str) (hf : ∀ x l, f (addL x l) = f x ++ [l]) (hn : f nilC = []) (hop : s.op = true → ∃ fr x, s.out = fr ++ [x] ∧ Kept x) : (keepW s line).out.flatMap f = s.out.flatMap f ++ [line] := by
  unfold keepW
  cases h : s.op with
  | true =>
    obtain ⟨fr, x, hx, _⟩ := hop h
    simp [hx, hf]
  | false => simp [hf, hn]
theorem take_snoc {l : List Str} {n : Int} {z : Str} (h0 : 0 ≤ n) (h : l[n.toNat]? = some z) : l.take n.toNat ++ [z] = l.take (n + 1).toNat := by
  rw [show (n + 1).toNat = n.toNat + 1 by omega, List.take_add_one, h]; rfl
theorem WInv.keep {b o t : List Str} {s : Wk} {line : Str} (h : WInv b o t s) (i0 : 0 ≤ s.i) (j0 : 0 ≤ s.j) (k0 : 0 ≤ s.k) (h1 : b[s.i.toNat]? = some line) (h2 : o[s.j.toNat]? = some line) (h3 : t[s.k.toNat]? = some line) : WInv b o t (keepW s line) := by
  refine ⟨?_, ?_, ?_, fun c hc => ?_, fun _ => ?_⟩
  · rw [keep_flat _ (fun _ _ => rfl) rfl h.op, h.base]; exact take_snoc i0 h1
  · rw [keep_flat _ (fun _ _ => rfl) rfl h.op, h.ours]; exact take_snoc j0 h2
  · rw [keep_flat _ (fun _ _ => rfl) rfl h.op, h.theirs]; exact take_snoc k0 h3
  · unfold keepW at hc
    cases ho : s.op with
    | true =>
      obtain ⟨fr, x, hx, hk⟩ := h.op ho
      simp only [ho, hx, if_true, List.dropLast_concat, List.mem_append, List.mem_singleton] at hc
      rcases hc with q | rfl
      · exact h.good c (by rw [hx]; simp [q])
      · refine .inl (addL_kept ?_)
        simpa using hk
    | false =>
      simp only [ho, List.mem_append, List.mem_singleton] at hc
      rcases hc with q | rfl
      · exact h.good c q
      · exact .inl (addL_kept ⟨rfl, rfl, rfl, rfl⟩)
  · unfold keepW
    cases ho : s.op with
    | true =>
      obtain ⟨fr, x, hx, hk⟩ := h.op ho
      exact ⟨fr, addL x line, by simp [hx], addL_kept hk⟩
    | false => exact ⟨s.out, addL nilC line, by simp, addL_kept ⟨rfl, rfl, rfl, rfl⟩⟩
theorem put_at (b o t : List Str) (s : Wk) (i j k : Int) : (put b o t s i j k).i = i ∧ (put b o t s i j k).j = j ∧ (put b o t s i j k).k = k := by
  unfold put; split <;> exact ⟨rfl, rfl, rfl⟩
theorem put_len (b o t : List Str) (s : Wk) (i j k : Int) : (put b o t s i j k).out.length ≤ s.out.length + 1 := by
  unfold put; split <;> simp
theorem chunks_parts (b o t : List Str) (hb : b.length ≤ 256) (ho : o.length ≤ 256) (ht : t.length ≤ 256) :
    (chunks b o t).flatMap (·.base) = b ∧ (chunks b o t).flatMap (·.ours) = o ∧ (chunks b o t).flatMap (·.theirs) = t ∧ (∀ c ∈ chunks b o t, Good c) ∧ (chunks b o t).length ≤ 2 * b.length + 1 := by
  obtain ⟨s, h, i0, i1, j0, j1, k0, k1, hl, e⟩ := chunks_ind b o t hb ho ht (WInv b o t) ⟨rfl, rfl, rfl, (fun _ h => by cases h), (fun h => by cases h)⟩ (fun s n u v line hI i0 i1 i2 j0 j1 j2 k0 k1 k2 _ _ l1 l2 l3 => by
    obtain ⟨e1, e2, e3⟩ := put_at b o t s n u v
    exact (hI.put i0 i1 j0 j1 k0 k1).keep (by omega) (by omega) (by omega) (by rw [e1]; exact l1) (by rw [e2]; exact l2) (by rw [e3]; exact l3))
  have hp := h.put i0 i1 j0 j1 k0 k1
  obtain ⟨e1, e2, e3⟩ := put_at b o t s b.length o.length t.length
  have := put_len b o t s b.length o.length t.length
  rw [e]
  refine ⟨?_, ?_, ?_, hp.good, by omega⟩
  · rw [hp.base, e1]; simp
  · rw [hp.ours, e2]; simp
  · rw [hp.theirs, e3]; simp
end Go.P
end

section
namespace Go.P
theorem join_append (a b : List Str) : join (a ++ b) = join a ++ join b := by simp [join_flat]
theorem flatMap_mem_le (f : Chunk → List Str) {cs : List Chunk} {c : Chunk} (h : c ∈ cs) : (f c).length ≤ (cs.flatMap f).length ∧ (join (f c)).length ≤ (join (cs.flatMap f)).length := by
  induction cs with
  | nil => cases h
  | cons d cs ih =>
    rw [List.flatMap_cons, join_append]
    simp only [List.length_append]
    rcases List.mem_cons.1 h with rfl | h
    · omega
    · have := ih h; omega
theorem tvs_len (x y : Str) (M : Nat) : ∀ cs : List Chunk, (∀ c ∈ cs, (tv x y c).length ≤ M) → (tvs x y cs).length ≤ cs.length * M
  | [], _ => by simp [tvs]
  | c :: cs, h => by
    have h1 := h c (by simp)
    have h2 := tvs_len x y M cs fun d hd => h d (by simp [hd])
    have e : tvs x y (c :: cs) = tv x y c ++ tvs x y cs := by simp [tvs]
    rw [e, List.length_append, List.length_cons, Nat.add_mul]
    omega
theorem closed_le (l : List Str) : (closed l).length ≤ (join l).length + 1 := by
  unfold closed; split
  · omega
  · simp
theorem good_out {c : Chunk} (h : Good c) : c.out = c.base ∨ c.out = c.ours ∨ c.out = c.theirs ∨ c.out = [] := by
  rcases h with h | h
  · exact .inl h.2.2.1
  · obtain ⟨g1, g2, g3⟩ := gapv_parts c.base c.ours c.theirs
    rw [h]; unfold gapv
    (repeat' split) <;> simp
theorem chunks_small {b o t : List Str} {L : Nat} (hb : b.length ≤ 256) (ho : o.length ≤ 256) (ht : t.length ≤ 256) (kb : (join b).length ≤ L) (ko : (join o).length ≤ L) (kt : (join t).length ≤ L) :
    ∀ c ∈ chunks b o t, c.ours.length ≤ 256 ∧ (join c.ours).length ≤ L ∧ c.theirs.length ≤ 256 ∧ (join c.theirs).length ≤ L ∧ c.out.length ≤ 256 ∧ (join c.out).length ≤ L := fun c hc => by
  obtain ⟨h1, h2, h3, h4, _⟩ := chunks_parts b o t hb ho ht
  have a1 := flatMap_mem_le (·.base) hc
  have a2 := flatMap_mem_le (·.ours) hc
  have a3 := flatMap_mem_le (·.theirs) hc
  rw [h1] at a1; rw [h2] at a2; rw [h3] at a3
  refine ⟨by omega, by omega, by omega, by omega, ?_, ?_⟩ <;> rcases good_out (h4 c hc) with e | e | e | e <;> rw [e] <;> first | omega | simp [join]
theorem tvs_small {b o t : List Str} {x y : Str} {L : Nat} (hb : b.length ≤ 256) (ho : o.length ≤ 256) (ht : t.length ≤ 256) (kb : (join b).length ≤ L) (ko : (join o).length ≤ L) (kt : (join t).length ≤ L) (hx : x.length ≤ L) (hy : y.length ≤ L) :
    (tvs x y (chunks b o t)).length ≤ 513 * (4 * L + 100) := by
  have hl := (chunks_parts b o t hb ho ht).2.2.2.2
  refine Nat.le_trans (tvs_len x y (4 * L + 100) _ fun c hc => ?_) (Nat.mul_le_mul_right _ (by omega))
  obtain ⟨s1, s2, s3, s4, s5, s6⟩ := chunks_small hb ho ht kb ko kt c hc
  have c1 := closed_le c.ours
  have c2 := closed_le c.theirs
  unfold tv
  split
  · simp only [clashv, List.length_append, List.length_cons, List.length_nil]; omega
  · omega
end Go.P
end

section
namespace Go.S.LP
open Go Go.P
theorem clip_ok (l : List Str) : Sh.slices_Clip_string_string l = some l := by
  unfold Sh.slices_Clip_string_string
  simp [gd, lt]
theorem split_ok (s0 : Str) (h : s0.length ≤ 1048576) : Sh.lines_Split s0 = some (P.spl s0) := by
  apply Ok.eq
  unfold Sh.lines_Split
  refine ok_iter (I := fun x => x.2 ++ P.spl x.1 = P.spl s0 ∧ x.2.length + x.1.length ≤ s0.length) (μ := fun x => x.1.length) ?_ ⟨rfl, by simp⟩
  rintro ⟨s, o⟩ ⟨ho, hl⟩
  simp only [ok_if, ok_up, ok_bd, ok_gd, ok_lt, ok_go, ok_jn, ok_some, clip_ok, sindex_ok] at *
  refine ⟨fun hs => by subst hs; simpa [P.spl] using ho, fun hs => ?_⟩
  obtain ⟨f1, f2⟩ := idx_facts s
  have f3 : 0 < s.length := List.length_pos_iff.2 hs
  have key : ∀ i : Int, (i = Lib.indexByte s 10 ∧ ¬ Lib.indexByte s 10 < 0 ∨ i = s.length - 1 ∧ Lib.indexByte s 10 < 0) → I64 (i + 1) ∧ ((0 : Int) ≤ i + 1 ∧ i + 1 ≤ s.length) ∧ (o.length + [s.take (i + 1).toNat].length ≤ 4294967296) ∧
      ((o ++ [s.take (i + 1).toNat]) ++ P.spl (s.drop (i + 1).toNat) = P.spl s0 ∧ (o ++ [s.take (i + 1).toNat]).length + (s.drop (i + 1).toNat).length ≤ s0.length) ∧ (s.drop (i + 1).toNat).length < s.length := fun i hi => by
    refine ⟨⟨by omega, by omega⟩, ⟨by omega, by omega⟩, by simp; omega, ⟨split_step hs hi ho rfl rfl, by simp; omega⟩, by simp; omega⟩
  refine ⟨fun h1 => ⟨⟨by omega, by omega⟩, ?_⟩, fun h1 => ?_⟩
  · obtain ⟨k1, k2, k3, k4, k5⟩ := key _ (.inr ⟨rfl, h1⟩)
    exact ⟨k1, k2, k3, k1, k2, k4, k5⟩
  · obtain ⟨k1, k2, k3, k4, k5⟩ := key _ (.inl ⟨rfl, h1⟩)
    exact ⟨k1, k2, k3, k1, k2, k4, k5⟩
theorem joinS_nil (l : List Str) : joinS l [] = join l := by
  unfold joinS
  rw [join_flat]
  cases l with
  | nil => rfl
  | cons x r => rw [Lib.join_cons]; simp [Lib.joinTail]
theorem ljoin_ok (l : List Str) (h1 : l.length ≤ 1048576) (h2 : (join l).length ≤ 1048576) : Sh.lines_Join l = some (join l) := by
  unfold Sh.lines_Join
  rw [joinS_nil]
  unfold gd lt
  rw [if_pos ⟨by omega, by omega⟩]
theorem whole_ok (s : Str) (h : s.length ≤ 1048576) : Sh.lines_Whole s = some (decide (s = []) || [10].isSuffixOf s) := by
  unfold Sh.lines_Whole Sh.strings_HasSuffix Sh.internal_stringslite_HasSuffix
  by_cases hs : s = []
  · simp [hs]
  · have : 0 < s.length := List.length_pos_iff.2 hs
    have e := suffix_yes (s := s) (t := [10]) (by simp; omega)
    simp only [hs, if_false, gd, lt]
    rw [if_pos (by simp; omega), if_pos ⟨by simp; omega, by simp; omega⟩, if_pos (by constructor <;> simp <;> omega)]
    simp [← e]
theorem closed_ok (l : List Str) (h1 : l.length ≤ 1048576) (h2 : (join l).length ≤ 1048575) : Sh.merge_closed l = some (closed l) := by
  unfold Sh.merge_closed
  rw [ljoin_ok l h1 (by omega)]
  simp only [Option.bind_some, whole_ok _ (show (join l).length ≤ 1048576 by omega), gd, lt]
  by_cases h : join l = [] ∨ [10].isSuffixOf (join l) = true
  · have : (decide (join l = []) || [10].isSuffixOf (join l)) = true := by simpa using h
    rw [this]
    unfold closed
    rw [if_pos h]
    simp
  · have : (decide (join l = []) || [10].isSuffixOf (join l)) = false := by
      rw [Bool.eq_false_iff]; simpa using h
    rw [this, if_pos (by rfl), if_pos (by simp; omega)]
    simp only [closed, if_neg h]
theorem closed_len (l : List Str) : (closed l).length ≤ (join l).length + 1 := by
  unfold closed
  split
  · omega
  · simp
theorem clash_ok (c : Chunk) (a b : Str) (h1 : c.ours.length ≤ 1048576) (h2 : (join c.ours).length ≤ 1048575) (h3 : c.theirs.length ≤ 1048576) (h4 : (join c.theirs).length ≤ 1048575) (ha : a.length ≤ 1048576) (hb : b.length ≤ 1048576) :
    Sh.merge_clash c a b = some (clashv c a b) := by
  have c1 := closed_len c.ours
  have c2 := closed_len c.theirs
  unfold Sh.merge_clash
  simp only [gd, lt, closed_ok _ h1 h2, closed_ok _ h3 h4, Option.bind_some]
  rw [if_pos (by simp; omega), if_pos (by simp; omega), if_pos (by simp; omega), if_pos (by simp; omega), if_pos (by simp; omega), if_pos (by simp; omega), if_pos (by simp; omega), if_pos (by simp; omega)]
  simp [clashv]
theorem text_ok (b o t x y : Str) (hb : b.length ≤ 1048576) (ho : o.length ≤ 1048576) (ht : t.length ≤ 1048576) (h1 : (P.spl b).length ≤ 256) (h2 : (P.spl o).length ≤ 256) (h3 : (P.spl t).length ≤ 256) (hx : x.length ≤ 1048576) (hy : y.length ≤ 1048576)
    (hT : (tvs x y (chunks (P.spl b) (P.spl o) (P.spl t))).length ≤ 4294967296) (hN : (chunks (P.spl b) (P.spl o) (P.spl t)).length ≤ 1048576) (hS : ∀ c ∈ chunks (P.spl b) (P.spl o) (P.spl t), c.ours.length ≤ 1048576 ∧ (join c.ours).length ≤ 1048575 ∧ c.theirs.length ≤ 1048576 ∧ (join c.theirs).length ≤ 1048575 ∧ c.out.length ≤ 1048576 ∧ (join c.out).length ≤ 1048576) :
    Sh.merge_Text b o t x y = some (tvs x y (chunks (P.spl b) (P.spl o) (P.spl t)), nclash (chunks (P.spl b) (P.spl o) (P.spl t)), Err.nil) := by
  apply Ok.eq
  unfold Sh.merge_Text
  have hc : Sh.merge_Chunks (P.spl b) (P.spl o) (P.spl t) = some (chunks (P.spl b) (P.spl o) (P.spl t), Err.nil) := if_pos ⟨h1, h2, h3⟩
  rw [split_ok b hb, split_ok o ho, split_ok t ht]
  simp only [Option.bind_some, hc]
  clear hc
  rw [if_pos (by rfl)]
  generalize chunks (P.spl b) (P.spl o) (P.spl t) = cs at *
  refine ok_iter (I := fun s => 0 ≤ s.2.1 ∧ s.2.1 ≤ cs.length ∧ s.2.2 = tvs x y (cs.take s.2.1.toNat) ∧ s.1 = nclash (cs.take s.2.1.toNat)) (μ := fun s => (cs.length - s.2.1).toNat) ?_ ⟨by simp, by simp, rfl, rfl⟩
  rintro ⟨n, k, acc⟩ ⟨k0, k1, hacc, hn⟩
  dsimp only at k0 k1 hacc hn
  have hnl := nclash_le (cs.take k.toNat)
  have hlt := List.length_take_le k.toNat cs
  simp only [ok_if, ok_up, ok_bd, ok_gd, ok_lt, ok_go, ok_jn, ok_some, ok_at]
  refine ⟨fun hk => ⟨k0, cs[k.toNat]'(by omega), List.getElem?_eq_getElem (by omega), ?_⟩, fun hk => ?_⟩
  · have hz : cs[k.toNat]? = some (cs[k.toNat]'(by omega)) := List.getElem?_eq_getElem (by omega)
    generalize cs[k.toNat]'(by omega) = c at hz ⊢
    obtain ⟨s1, s2, s3, s4, s5, s6⟩ := hS c (List.mem_of_getElem? hz)
    have ht := tvs_take (a := x) (b := y) k0 hz
    have hnc := nclash_take k0 hz
    have hle := tvs_take_le x y cs (k + 1).toNat
    rw [clash_ok c x y s1 s2 s3 s4 hx hy, ljoin_ok c.out s5 (by omega)]
    simp only [ok_some, I64]
    refine ⟨fun hc => ?_, fun hc => ?_⟩
    · have e : tv x y c = clashv c x y := if_pos hc
      rw [e, ← hacc] at ht
      rw [ht, List.length_append] at hle
      rw [hc, if_pos rfl, ← hn] at hnc
      refine ⟨⟨by omega, by omega⟩, by omega, ⟨by omega, by omega⟩, ⟨by omega, by omega, ht.symm, hnc.symm⟩, by omega⟩
    · have hcf : c.clash = false := by simpa using hc
      have e : tv x y c = join c.out := by unfold tv; rw [hcf]; rfl
      rw [e, ← hacc] at ht
      rw [ht, List.length_append] at hle
      rw [hcf] at hnc
      refine ⟨by omega, ⟨by omega, by omega⟩, ⟨by omega, by omega, ht.symm, by rw [hnc, ← hn]; simp⟩, by omega⟩
  · rw [List.take_of_length_le (by omega)] at hacc hn
    rw [hacc, hn]
theorem spl_len : ∀ s : Str, (P.spl s).length ≤ s.length
  | [] => Nat.le_refl _
  | c :: r => by
    have ih := spl_len r
    simp only [P.spl, List.length_cons]
    split
    · simp; omega
    · cases h : P.spl r with
      | nil => simp
      | cons l t => rw [h] at ih; simp at ih ⊢; omega
theorem text_small (b o t x y : Str) (hb : b.length ≤ 10000) (ho : o.length ≤ 10000) (ht : t.length ≤ 10000) (h1 : (P.spl b).length ≤ 256) (h2 : (P.spl o).length ≤ 256) (h3 : (P.spl t).length ≤ 256) (hx : x.length ≤ 10000) (hy : y.length ≤ 10000) :
    Sh.merge_Text b o t x y = some (tvs x y (chunks (P.spl b) (P.spl o) (P.spl t)), nclash (chunks (P.spl b) (P.spl o) (P.spl t)), Err.nil) := by
  have kb : (join (P.spl b)).length ≤ 10000 := by rw [join_spl]; exact hb
  have ko : (join (P.spl o)).length ≤ 10000 := by rw [join_spl]; exact ho
  have kt : (join (P.spl t)).length ≤ 10000 := by rw [join_spl]; exact ht
  have hl := (chunks_parts _ _ _ h1 h2 h3).2.2.2.2
  have hT := tvs_small h1 h2 h3 kb ko kt hx hy
  refine text_ok b o t x y (by omega) (by omega) (by omega) h1 h2 h3 (by omega) (by omega) (by omega) (by omega) fun c hc => ?_
  obtain ⟨s1, s2, s3, s4, s5, s6⟩ := chunks_small h1 h2 h3 kb ko kt c hc
  omega
end Go.S.LP
end

section
namespace Go.S
open Go
theorem madeR (a b : List (List UInt8)) (h : ¬ (a.length ≤ 256 ∧ b.length ≤ 256)) : ∃ e, e.isNil = false ∧ Sh.diff_made a b = some (.inl ((), e)) := by
  unfold Sh.diff_made
  by_cases h1 : 256 < (a.length : Int)
  · rw [if_pos h1]; exact ⟨_, rfl, rfl⟩
  · rw [if_neg h1, if_pos (by omega)]; exact ⟨_, rfl, rfl⟩
theorem matchR (a b : List (List UInt8)) (h : ¬ (a.length ≤ 256 ∧ b.length ≤ 256)) : ∃ e, e.isNil = false ∧ Sh.diff_Matches a b = some ([], e) := by
  obtain ⟨e, he, hm⟩ := madeR a b h
  refine ⟨e, he, ?_⟩
  unfold Sh.diff_Matches Sh.diff_Lines
  rw [hm, Option.bind_some]
  dsimp only
  rw [if_neg (by simp [he]), Option.bind_some]
  dsimp only
  rw [if_neg (by simp [he])]
theorem placesR (a b : List (List UInt8)) (h : ¬ (a.length ≤ 256 ∧ b.length ≤ 256)) : ∃ e, e.isNil = false ∧ Sh.merge_places a b = some ([], e) := by
  obtain ⟨e, he, hm⟩ := matchR a b h
  refine ⟨e, he, ?_⟩
  unfold Sh.merge_places
  rw [if_neg h]
  unfold Sh.merge_places0
  rw [hm, Option.bind_some]
  dsimp only
  rw [if_neg (by simp [he])]
theorem chunksR (b o t : List (List UInt8)) (h : ¬ (b.length ≤ 256 ∧ o.length ≤ 256 ∧ t.length ≤ 256)) : ∃ e, e.isNil = false ∧ Sh.merge_Chunks b o t = some ([], e) := by
  unfold Sh.merge_Chunks
  rw [if_neg h]
  unfold Sh.merge_Chunks0
  by_cases h1 : b.length ≤ 256 ∧ o.length ≤ 256
  · have h2 : ¬ (b.length ≤ 256 ∧ t.length ≤ 256) := fun k => h ⟨h1.1, h1.2, k.2⟩
    obtain ⟨e, he, hm⟩ := placesR b t h2
    refine ⟨e, he, ?_⟩
    have hp : Sh.merge_places b o = some (P.places b o, Err.nil) := by
      unfold Sh.merge_places
      rw [if_pos h1]
    rw [hp, Option.bind_some]
    dsimp only
    rw [if_pos (by rfl), hm, Option.bind_some]
    dsimp only
    rw [if_neg (by simp [he])]
  · obtain ⟨e, he, hm⟩ := placesR b o h1
    refine ⟨e, he, ?_⟩
    rw [hm, Option.bind_some]
    dsimp only
    rw [if_neg (by simp [he])]
theorem textT (b o t x y : List UInt8) (hb : b.length ≤ 10000) (ho : o.length ≤ 10000) (ht : t.length ≤ 10000) (hx : x.length ≤ 10000) (hy : y.length ≤ 10000) : Ok (Sh.merge_Text b o t x y) fun _ => True := by
  by_cases h : (P.spl b).length ≤ 256 ∧ (P.spl o).length ≤ 256 ∧ (P.spl t).length ≤ 256
  · exact ⟨_, LP.text_small b o t x y hb ho ht h.1 h.2.1 h.2.2 hx hy, trivial⟩
  · obtain ⟨e, he, hm⟩ := chunksR _ _ _ h
    unfold Sh.merge_Text
    rw [LP.split_ok b (by omega), Option.bind_some, LP.split_ok o (by omega), Option.bind_some, LP.split_ok t (by omega), Option.bind_some, hm, Option.bind_some]
    dsimp only
    rw [if_neg (by simp [he])]
    exact ok_some.2 trivial
theorem oneT_path {r : List FilesFile} (h : Bd r) (p : List UInt8) : (oneT r p).file_path.length ≤ 1000000 := by
  cases hg : gt r p with
  | none => rw [oneT_none hg]; simp
  | some f => rw [oneT_some hg]; exact h.p f (List.mem_of_find?_eq_some hg)
theorem oneT_data {r : List FilesFile} (h : GoodF r) (p : List UInt8) : (oneT r p).file_data.length ≤ 10000 := by
  cases hg : gt r p with
  | none => rw [oneT_none hg]; simp
  | some f =>
    rw [oneT_some hg]
    have := (h.v f (List.mem_of_find?_eq_some hg)).2.2
    show f.data.length ≤ _
    omega
theorem modeT (x y z : TmergeOne) : Ok (Sh.tmerge_mode x y z) fun _ => True := by
  unfold Sh.tmerge_mode
  refine ok_jnP (fun _ => True) (fun v _ => ?_) fun K hK => ?_
  · rw [ok_if]; exact ⟨fun _ => ok_some.2 trivial, fun _ => ok_some.2 trivial⟩
  · rw [ok_if]; exact ⟨fun _ => hK _ trivial, fun _ => hK _ trivial⟩
theorem bothT (x y z : TmergeOne) (a b : List UInt8) (hx : x.file_data.length ≤ 10000) (hy : y.file_data.length ≤ 10000) (hz : z.file_data.length ≤ 10000) (ha : a.length ≤ 10000) (hb : b.length ≤ 10000) : Ok (Sh.tmerge_both x y z a b) fun r => r.1.path = y.file_path := by
  unfold Sh.tmerge_both
  refine ok_bd.2 ((modeT x y z).mono fun m _ => ?_)
  refine ok_jnP (fun _ => True) (fun v _ => ?_) fun K hK => ?_
  · rw [ok_if]
    refine ⟨fun _ => ok_some.2 rfl, fun _ => ?_⟩
    refine ok_jnP (fun _ => True) (fun v _ => ?_) fun K hK => ?_
    · rw [ok_if]
      refine ⟨fun _ => ok_some.2 rfl, fun _ => ok_bd.2 ((textT _ _ _ a b hx hy hz ha hb).mono fun r _ => ?_)⟩
      refine ok_jnP (fun _ => True) (fun v _ => ?_) fun K hK => ?_
      · rw [ok_if]; exact ⟨fun _ => ok_some.2 rfl, fun _ => ok_some.2 rfl⟩
      · rw [ok_if]; exact ⟨fun _ => hK _ trivial, fun _ => hK _ trivial⟩
    · rw [ok_if]; exact ⟨fun _ => hK _ trivial, fun _ => hK _ trivial⟩
  · simp only [ok_if]
    exact ⟨fun _ => hK _ trivial, fun _ => ⟨fun _ => hK _ trivial, fun _ => hK _ trivial⟩⟩
theorem oneS {b o t : List FilesFile} (hb : b.length ≤ 64 ∧ GoodF b) (ho : o.length ≤ 64 ∧ GoodF o) (ht : t.length ≤ 64 ∧ GoodF t) (p x y : List UInt8) (hx : x.length ≤ 10000) (hy : y.length ≤ 10000) : Ok (Sh.tmerge_One p b o t x y) fun r => r.1.path.length ≤ 1000000 := by
  have bb := GoodF.bd hb
  have bo := GoodF.bd ho
  have bt := GoodF.bd ht
  have p2 := oneT_path bo p
  have p3 := oneT_path bt p
  unfold Sh.tmerge_One
  rw [of16 bb.r bb.n, Option.bind_some, of16 bo.r bo.n, Option.bind_some, of16 bt.r bt.n, Option.bind_some]
  refine ok_jnP (fun _ => True) (fun v _ => ?_) fun K hK => ?_
  · rw [ok_if]
    refine ⟨fun _ => ok_some.2 p2, fun _ => ?_⟩
    rw [ok_if]
    refine ⟨fun _ => ok_some.2 p3, fun _ => ?_⟩
    refine ok_jnP (fun _ => True) (fun v _ => ?_) fun K hK => ?_
    · rw [ok_if]
      refine ⟨fun _ => ok_bd.2 ((bothT _ _ _ x y (oneT_data hb.2 p) (oneT_data ho.2 p) (oneT_data ht.2 p) hx hy).mono fun r hr => ok_some.2 ?_), fun _ => ?_⟩
      · show r.1.path.length ≤ _
        rw [hr]; exact p2
      · rw [ok_if]; exact ⟨fun _ => ok_some.2 p2, fun _ => ok_some.2 p3⟩
    · rw [ok_if]; exact ⟨fun _ => hK _ trivial, fun _ => hK _ trivial⟩
  · rw [ok_if]; exact ⟨fun _ => hK _ trivial, fun _ => hK _ trivial⟩
def entS (r : List FilesFile) (s : Int) (p : List UInt8) : List IndexEntry := match gt r p with
  | some f => [⟨p, s, f.mode, f.data, 0, 0⟩]
  | none => []
def stg (b o t : List FilesFile) (p : List UInt8) : List IndexEntry := entS b 1 p ++ entS o 2 p ++ entS t 3 p
theorem entS_len (r : List FilesFile) (s : Int) (p : List UInt8) : (entS r s p).length ≤ 1 := by
  unfold entS
  split <;> simp
theorem stages16 {b o t : List FilesFile} (hb : Bd b) (ho : Bd o) (ht : Bd t) (p : List UInt8) : Sh.tmerge_stages p [b, o, t] = some (stg b o t p) := by
  apply Ok.eq
  unfold Sh.tmerge_stages
  have e : stg b o t p = ([(b, (1 : Int)), (o, 2), (t, 3)] : List (List FilesFile × Int)).foldl (fun a z => a ++ entS z.1 z.2 p) [] := by simp [stg]
  rw [e]
  refine gl_fold [(b, (1 : Int)), (o, 2), (t, 3)] (fun a z => a ++ entS z.1 z.2 p) [] _ ?_ ?_
  · intro i z i0 hi hz s hs
    have hl : s.length ≤ 3 := by
      have h1 := entS_len b 1 p
      have h2 := entS_len o 2 p
      have h3 : i.toNat = 0 ∨ i.toNat = 1 ∨ i.toNat = 2 := by simp at hi; omega
      rcases h3 with k | k | k <;> rw [k] at hs <;> simp at hs <;> rw [hs] <;> simp <;> omega
    have hB : Bd z.1 ∧ [b, o, t][i.toNat]? = some z.1 ∧ z.2 = i + 1 := by
      have h3 : i = 0 ∨ i = 1 ∨ i = 2 := by simp at hi; omega
      rcases h3 with k | k | k <;> subst k <;> simp at hz <;> subst hz
      · exact ⟨hb, rfl, rfl⟩
      · exact ⟨ho, rfl, rfl⟩
      · exact ⟨ht, rfl, rfl⟩
    obtain ⟨hBz, hz1, hz2⟩ := hB
    simp only [List.length_cons, List.length_nil] at hi
    dsimp only
    rw [if_pos (by simp; omega), gl_atv i0 hz1, Option.bind_some, get14 hBz.r (by have := hBz.n; omega), Option.bind_some]
    unfold entS
    cases hg : gt z.1 p with
    | none =>
      rw [getF_none hg, if_neg (by simp)]
      exact nx_gd ⟨by omega, by omega⟩ (by simp)
    | some f =>
      rw [getF_some hg, if_pos rfl]
      simp only [ok_lt, ok_gd]
      exact ⟨⟨by omega, by omega⟩, by simp only [List.length_cons, List.length_nil]; omega, ⟨by omega, by omega⟩, nx_go (by rw [hz2])⟩
  · intro s hs
    dsimp only
    rw [if_neg (by simp)]
    exact up_up (ok_some.2 hs)
theorem mergeS {b o t : List FilesFile} (hb : b.length ≤ 80 ∧ ∀ f ∈ b, f.path.length ≤ 100) (ho : o.length ≤ 80 ∧ ∀ f ∈ o, f.path.length ≤ 100) (ht : t.length ≤ 80 ∧ ∀ f ∈ t, f.path.length ≤ 100) (x y : List UInt8) (hx : x.length ≤ 10000) (hy : y.length ≤ 10000) :
    Ok (Sh.tmerge_Merge b o t x y) fun r => (r.2.isNil = false ∧ r.1.entries = [] ∧ r.1.conflicts = []) ∨ (r.2.isNil = true ∧ Bd b ∧ Bd o ∧ Bd t ∧ r.1.conflicts.length ≤ 8000000 ∧ r.1.entries = r.1.conflicts.flatMap (stg b o t)) := by
  unfold Sh.tmerge_Merge
  rw [ok_lt]
  refine gl_chk [b, o, t] (fun z => z.length ≤ 64 ∧ GoodF z) _ ?_ ?_
  · intro i z i0 hi hz _
    have hzm := List.mem_of_getElem? hz
    have hg : z.length ≤ 80 ∧ ∀ f ∈ z, f.path.length ≤ 100 := by
      simp only [List.mem_cons, List.not_mem_nil, or_false] at hzm
      rcases hzm with rfl | rfl | rfl
      · exact hb
      · exact ho
      · exact ht
    rw [if_pos hi, gl_atv i0 hz, Option.bind_some]
    simp only [List.length_cons, List.length_nil] at hi
    refine ok_bd.2 ((check14 (x := z) (by omega) fun w hw => by have := hg.2 w hw; omega).mono fun e he => ?_)
    rw [ok_if]
    refine ⟨fun q => ok_gd.2 ⟨⟨by omega, by omega⟩, ⟨_, rfl, .inl ⟨rfl, he.1 q⟩⟩⟩, fun q => ?_⟩
    exact ok_up.2 (ok_some.2 (.inr ⟨_, rfl, .inl ⟨by simpa using q, rfl, rfl⟩⟩))
  · intro hall
    have hB := hall b (by simp)
    have hO := hall o (by simp)
    have hT := hall t (by simp)
    have bb := GoodF.bd hB
    have bo := GoodF.bd hO
    have bt := GoodF.bd hT
    rw [if_neg (by omega)]
    refine up_up (ok_lt.2 (ok_bd.2 ((paths14 [b, o, t] (by simp) (fun l hl => ?_)).mono ?_)))
    · simp only [List.mem_cons, List.not_mem_nil, or_false] at hl
      rcases hl with rfl | rfl | rfl
      · exact ⟨bb.n, bb.p⟩
      · exact ⟨bo.n, bo.p⟩
      · exact ⟨bt.n, bt.p⟩
    rintro ps ⟨hps, hpl⟩
    refine ok_iter (I := fun s => 0 ≤ s.1 ∧ s.1 ≤ ps.length ∧ (s.2.1.length : Int) ≤ s.1 ∧ (∀ f ∈ s.2.1, f.path.length ≤ 1000000) ∧ (s.2.2.2.length : Int) ≤ s.1 ∧ s.2.2.1 = s.2.2.2.flatMap (stg b o t) ∧ (s.2.2.1.length : Int) ≤ s.1 * 3) (μ := fun s => (ps.length - s.1).toNat) ?_ ⟨by dsimp only; omega, by dsimp only; omega, by simp, by simp, by simp, by simp, by simp⟩
    rintro ⟨i, c0, c1, c2⟩ ⟨i0, i1, h0, hp0, h2, he, h1⟩
    dsimp only at i0 i1 h0 hp0 h2 he h1 ⊢
    by_cases hi : i < ps.length
    · obtain ⟨z, hz⟩ := gl_at i0 hi
      rw [if_pos hi, gl_atv i0 hz, Option.bind_some]
      refine ok_bd.2 ((oneS hB hO hT z x y hx hy).mono fun r hr => ?_)
      refine ok_jnP (fun c => (c.length : Int) ≤ i + 1 ∧ ∀ f ∈ c, f.path.length ≤ 1000000) ?_ ?_
      · rintro c ⟨hc1, hc2⟩
        have hsl : (stg b o t z).length ≤ 3 := by
          have k1 := entS_len b 1 z
          have k2 := entS_len o 2 z
          have k3 := entS_len t 3 z
          unfold stg
          simp only [List.length_append]; omega
        rw [ok_if]
        refine ⟨fun _ => ?_, fun _ => ok_gd.2 ⟨⟨by omega, by omega⟩, ok_go.2 ⟨⟨by dsimp only; omega, by dsimp only; omega, by dsimp only; omega, hc2, by dsimp only; omega, he, by dsimp only; omega⟩, by dsimp only; omega⟩⟩⟩
        simp only [ok_lt, ok_gd]
        refine ⟨by simp only [List.length_cons, List.length_nil]; omega, ?_⟩
        rw [stages16 bb bo bt, Option.bind_some, ok_gd]
        refine ⟨by omega, ?_⟩
        rw [ok_lt, ok_gd]
        refine ⟨⟨by omega, by omega⟩, ok_go.2 ⟨⟨by dsimp only; omega, by dsimp only; omega, by dsimp only; omega, hc2, by simp only [List.length_append, List.length_cons, List.length_nil]; omega, ?_, by simp only [List.length_append]; omega⟩, by dsimp only; omega⟩⟩
        show c1 ++ stg b o t z = (c2 ++ [z]).flatMap (stg b o t)
        rw [he]; simp
      · intro K hK
        rw [ok_if]
        refine ⟨fun _ => ?_, fun _ => hK _ ⟨by omega, hp0⟩⟩
        simp only [ok_lt, ok_gd]
        refine ⟨by simp only [List.length_cons, List.length_nil]; omega, hK _ ⟨by simp only [List.length_append, List.length_cons, List.length_nil]; omega, fun f hf => ?_⟩⟩
        rcases List.mem_append.1 hf with q | q
        · exact hp0 f q
        · rw [List.mem_singleton.1 q]; exact hr
    · rw [if_neg hi]
      refine ok_up.2 (ok_bd.2 ((fault16 c0 hp0).mono fun e _ => ?_))
      rw [ok_if]
      have clipI : Sh.slices_Clip_index_Entry_index_Entry c1 = some c1 := by
        unfold Sh.slices_Clip_index_Entry_index_Entry
        simp [lt, gd]
      refine ⟨fun q => ?_, fun q => ok_some.2 (.inl ⟨by simpa using q, rfl, rfl⟩)⟩
      rw [clip14, Option.bind_some, clipI, Option.bind_some, clipS14, Option.bind_some, ok_some]
      exact .inr ⟨rfl, bb, bo, bt, by dsimp only; omega, he⟩
end Go.S
end

section
namespace Go.S
open Go
theorem few16 (l : List FilesFile) : Ok (Sh.rectolaw14_Few l) fun b => b = true → l.length ≤ 80 ∧ (∀ f ∈ l, f.path.length ≤ 100) ∧ ∀ f ∈ l, f.data.length ≤ 5000 := by
  unfold Sh.rectolaw14_Few
  rw [ok_if]
  refine ⟨fun _ => ok_some.2 fun h => (by cases h), fun hl => ?_⟩
  refine gl_chk l (fun f => f.path.length ≤ 100 ∧ f.data.length ≤ 5000) _ ?_ ?_
  · intro i z i0 hi hz _
    rw [if_pos hi]
    refine ok_jnP (fun b => b = false → z.path.length ≤ 100 ∧ z.data.length ≤ 5000) ?_ ?_
    · intro b hb
      rw [ok_if]
      refine ⟨fun _ => ok_up.2 (ok_some.2 (.inr ⟨_, rfl, fun h => (by cases h)⟩)), fun h => ok_gd.2 ⟨⟨by omega, by omega⟩, ⟨_, rfl, .inl ⟨rfl, hb (by simpa using h)⟩⟩⟩⟩
    · intro K hK
      rw [gl_atv i0 hz, Option.bind_some, ok_if]
      refine ⟨fun _ => hK _ fun h => (by cases h), fun h => ?_⟩
      rw [Option.bind_some]
      exact hK _ fun q => ⟨by omega, by have := of_decide_eq_false q; omega⟩
  · intro h
    rw [if_neg (by omega)]
    exact up_up (ok_some.2 fun _ => ⟨by omega, fun f hf => (h f hf).1, fun f hf => (h f hf).2⟩)
theorem short16 {l : List FilesFile} (hd : ∀ f ∈ l, f.data.length ≤ 5000) : Ok (Sh.rectolaw16_short l) fun _ => True := by
  unfold Sh.rectolaw16_short
  rw [ok_if]
  refine ⟨fun _ => ?_, fun hl => ?_⟩
  · rw [ok_if]; exact ⟨fun _ => ok_some.2 trivial, fun _ => ok_some.2 trivial⟩
  · refine ok_iter (I := fun t => 0 ≤ t.2 ∧ t.2 ≤ l.length ∧ 0 ≤ t.1 ∧ t.1 ≤ t.2 * 5000) (μ := fun t => (l.length - t.2).toNat) ?_ ⟨by dsimp only; omega, by dsimp only; omega, by dsimp only; omega, by dsimp only; omega⟩
    rintro ⟨n, i⟩ ⟨i0, i1, n0, n1⟩
    dsimp only at i0 i1 n0 n1 ⊢
    by_cases hi : i < l.length
    · obtain ⟨z, hz⟩ := gl_at i0 hi
      have hzd := hd z (List.mem_of_getElem? hz)
      rw [if_pos hi, gl_atv i0 hz, Option.bind_some]
      refine ok_gd.2 ⟨⟨by omega, by omega⟩, ?_⟩
      refine ok_jnP (fun _ => True) (fun b _ => ?_) fun K hK => ?_
      · rw [ok_if]
        exact ⟨fun _ => ok_up.2 (ok_some.2 trivial), fun _ => ok_gd.2 ⟨⟨by omega, by omega⟩, ok_go.2 ⟨⟨by dsimp only; omega, by dsimp only; omega, by dsimp only; omega, by dsimp only; omega⟩, by dsimp only; omega⟩⟩⟩
      · rw [Option.bind_some, ok_if]
        refine ⟨fun _ => ?_, fun _ => hK _ trivial⟩
        rw [Option.bind_some]
        exact hK _ trivial
    · rw [if_neg hi]
      refine ok_up.2 ?_
      rw [ok_if]
      exact ⟨fun _ => ok_some.2 trivial, fun _ => ok_some.2 trivial⟩
def pre (b o t : List FilesFile) (s : Int) (p : List UInt8) : List IndexEntry := if s ≤ 1 then [] else if s = 2 then entS b 1 p else if s = 3 then entS b 1 p ++ entS o 2 p else stg b o t p
theorem pre_len (b o t : List FilesFile) (s : Int) (p : List UInt8) : (pre b o t s p).length ≤ 3 := by
  have k1 := entS_len b 1 p
  have k2 := entS_len o 2 p
  have k3 := entS_len t 3 p
  unfold pre stg
  split
  · simp
  · split
    · omega
    · split <;> simp only [List.length_append] <;> omega
theorem pre_next {b o t : List FilesFile} {s : Int} (p : List UInt8) {r : List FilesFile} (h1 : 1 ≤ s) (h3 : s ≤ 3) (hr : [b, o, t][(s - 1).toNat]? = some r) : pre b o t (s + 1) p = pre b o t s p ++ entS r s p := by
  have h : s = 1 ∨ s = 2 ∨ s = 3 := by omega
  rcases h with rfl | rfl | rfl <;> simp at hr <;> subst hr <;> simp [pre, stg]
theorem pre_stg {b o t : List FilesFile} {s : Int} (p : List UInt8) (h1 : 1 ≤ s) (h3 : s ≤ 4) : ∃ q, stg b o t p = pre b o t s p ++ q := by
  have h : s = 1 ∨ s = 2 ∨ s = 3 ∨ s = 4 := by omega
  rcases h with rfl | rfl | rfl | rfl
  · exact ⟨stg b o t p, by simp [pre]⟩
  · exact ⟨entS o 2 p ++ entS t 3 p, by simp [pre, stg]⟩
  · exact ⟨entS t 3 p, by simp [pre, stg]⟩
  · exact ⟨[], by simp [pre]⟩
theorem flat_at {b o t : List FilesFile} {cs : List (List UInt8)} {i s : Int} {p : List UInt8} (i0 : 0 ≤ i) (hp : cs[i.toNat]? = some p) (h1 : 1 ≤ s) (h3 : s ≤ 3) {r : List FilesFile} (hr : [b, o, t][(s - 1).toNat]? = some r) {e : IndexEntry} (he : entS r s p = [e]) :
    (cs.flatMap (stg b o t))[((cs.take i.toNat).flatMap (stg b o t)).length + (pre b o t s p).length]? = some e := by
  have hsp : cs = cs.take i.toNat ++ p :: cs.drop (i.toNat + 1) := by
    have hlt := (List.getElem?_eq_some_iff.1 hp).1
    have hg := (List.getElem?_eq_some_iff.1 hp).2
    rw [← hg, ← List.drop_eq_getElem_cons hlt, List.take_append_drop]
  obtain ⟨q, hq⟩ := pre_stg (b := b) (o := o) (t := t) (s := s + 1) p (by omega) (by omega)
  rw [pre_next p h1 h3 hr, he] at hq
  have e1 : cs.flatMap (stg b o t) = ((cs.take i.toNat).flatMap (stg b o t) ++ pre b o t s p) ++ e :: (q ++ (cs.drop (i.toNat + 1)).flatMap (stg b o t)) := by
    conv => lhs; rw [hsp]
    rw [List.flatMap_append, List.flatMap_cons, hq]
    simp
  rw [e1, List.getElem?_append_right (by rw [List.length_append]; omega), List.length_append]
  simp
theorem treesStages_ok (b o t : List FilesFile) : Sh.rectolaw16_TreesStages b o t = some true := by
  apply Ok.eq
  unfold Sh.rectolaw16_TreesStages
  rw [knownL16, Option.bind_some, if_neg (by simp)]
  refine ok_jnP (fun v => v = false → (b.length ≤ 80 ∧ ∀ f ∈ b, f.path.length ≤ 100) ∧ (o.length ≤ 80 ∧ ∀ f ∈ o, f.path.length ≤ 100) ∧ t.length ≤ 80 ∧ ∀ f ∈ t, f.path.length ≤ 100) ?_ ?_
  · intro v hv
    cases v with
    | true => rw [if_pos rfl, ok_some]
    | false =>
      obtain ⟨hB, hO, hT⟩ := hv rfl
      rw [if_neg (by simp)]
      refine ok_bd.2 ((mergeS hB hO hT [120] [121] (by simp) (by simp)).mono ?_)
      rintro r (⟨q, h1, h2⟩ | ⟨q, bb, bo, bt, hcl, he⟩)
      · rw [if_neg (by simp [q]), h1, h2]
        rw [if_pos (by rfl)]
        exact ok_some.2 rfl
      · rw [if_pos q, ok_lt]
        generalize r.1.conflicts = cs at hcl he ⊢
        rw [he]
        have hfl : ∀ l : List (List UInt8), (l.flatMap (stg b o t)).length ≤ l.length * 3 := fun l => by
          induction l with
          | nil => simp
          | cons a r ih =>
            have := pre_len b o t 4 a
            rw [show pre b o t 4 a = stg b o t a by simp [pre]] at this
            rw [List.flatMap_cons, List.length_append, List.length_cons]; omega
        have hfc := hfl cs
        refine ok_iter (I := fun x => 0 ≤ x.2 ∧ x.2 ≤ cs.length ∧ x.1 = ((cs.take x.2.toNat).flatMap (stg b o t)).length) (μ := fun x => (cs.length - x.2).toNat) ?_ ⟨by dsimp only; omega, by dsimp only; omega, by simp⟩
        rintro ⟨n, i⟩ ⟨i0, i1, hn⟩
        dsimp only at i0 i1 hn ⊢
        have hft := hfl (cs.take i.toNat)
        have htl : (cs.take i.toNat).length ≤ cs.length := by rw [List.length_take]; omega
        by_cases hi : i < cs.length
        · obtain ⟨p, hp⟩ := gl_at i0 hi
          rw [if_pos hi]
          refine ok_iter (I := fun x => 1 ≤ x.2 ∧ x.2 ≤ 4 ∧ x.1 = ((cs.take i.toNat).flatMap (stg b o t)).length + (pre b o t x.2 p).length) (μ := fun x => (4 - x.2).toNat) ?_ ⟨by dsimp only; omega, by dsimp only; omega, by simp [pre, hn]⟩
          rintro ⟨m, s⟩ ⟨s0, s1, hm⟩
          dsimp only at s0 s1 hm ⊢
          have hpl := pre_len b o t s p
          by_cases hs : s ≤ 3
          · rw [if_pos hs]
            obtain ⟨z, hz⟩ := gl_at (l := [b, o, t]) (i := s - 1) (by omega) (by simp; omega)
            have bz : Bd z := by
              have := List.mem_of_getElem? hz
              simp only [List.mem_cons, List.not_mem_nil, or_false] at this
              rcases this with rfl | rfl | rfl <;> assumption
            have hnx := pre_next p s0 hs hz
            refine ok_jnP (fun k => k = (((cs.take i.toNat).flatMap (stg b o t)).length + (pre b o t (s + 1) p).length : Nat)) ?_ ?_
            · rintro k rfl
              exact ok_gd.2 ⟨⟨by omega, by omega⟩, ok_go.2 ⟨⟨by dsimp only; omega, by dsimp only; omega, by simp⟩, by dsimp only; omega⟩⟩
            · intro K hK
              refine ok_gd.2 ⟨⟨by omega, by omega⟩, ?_⟩
              rw [gl_atv (by omega) hz, Option.bind_some, gl_atv i0 hp, Option.bind_some, get14 bz.r (by have := bz.n; omega), Option.bind_some]
              cases hg : gt z p with
              | none =>
                rw [getF_none hg, if_pos (by rfl)]
                have : entS z s p = [] := by unfold entS; rw [hg]
                rw [this, List.append_nil] at hnx
                exact hK _ (by rw [hnx, hm]; simp)
              | some f =>
                have hen : entS z s p = [⟨p, s, f.mode, f.data, 0, 0⟩] := by unfold entS; rw [hg]
                have hat := flat_at (b := b) (o := o) (t := t) i0 hp s0 hs hz hen
                have hlt := (List.getElem?_eq_some_iff.1 hat).1
                rw [getF_some hg, if_neg (by simp), if_neg (by omega)]
                rw [gl_atv (l := cs.flatMap (stg b o t)) (i := m) (by omega) (z := ⟨p, s, f.mode, f.data, 0, 0⟩) (by rw [← hat]; congr 1; omega), Option.bind_some]
                refine ok_jnP (fun v => v = false) ?_ ?_
                · rintro v rfl
                  rw [if_neg (by simp)]
                  refine ok_gd.2 ⟨⟨by omega, by omega⟩, hK _ ?_⟩
                  rw [hnx, hen, hm]; simp; omega
                · intro K2 hK2
                  have hfp : f.path = p := gt_path hg
                  rw [if_pos hfp.symm, if_pos rfl, if_pos rfl]
                  exact hK2 _ (by simp)
          · have es : s = 4 := by omega
            subst es
            rw [if_neg hs]
            refine ok_up.2 (ok_gd.2 ⟨⟨by omega, by omega⟩, ok_go.2 ⟨⟨by dsimp only; omega, by dsimp only; omega, ?_⟩, by dsimp only; omega⟩⟩)
            show m = _
            rw [gl_snoc i0 hp, List.flatMap_append, List.length_append, hm]
            simp [pre]
        · rw [if_neg hi]
          rw [List.take_of_length_le (by omega)] at hn
          exact ok_up.2 (ok_some.2 (by rw [hn]; simp))
  · intro K hK
    refine ok_bd.2 ((few16 b).mono fun b1 h1 => ?_)
    rw [ok_if]
    refine ⟨fun _ => hK _ (by simp), fun q1 => ok_bd.2 ((few16 o).mono fun b2 h2 => ?_)⟩
    rw [ok_if]
    refine ⟨fun _ => hK _ (by simp), fun q2 => ok_bd.2 ((few16 t).mono fun b3 h3 => ?_)⟩
    rw [ok_if]
    refine ⟨fun _ => hK _ (by simp), fun q3 => ?_⟩
    obtain ⟨a1, a2, a3⟩ := h1 (by simpa using q1)
    obtain ⟨c1, c2, c3⟩ := h2 (by simpa using q2)
    obtain ⟨d1, d2, d3⟩ := h3 (by simpa using q3)
    refine ok_bd.2 ((short16 a3).mono fun v1 _ => ?_)
    rw [ok_if]
    refine ⟨fun _ => hK _ (by simp), fun _ => ok_bd.2 ((short16 c3).mono fun v2 _ => ?_)⟩
    rw [ok_if]
    refine ⟨fun _ => hK _ (by simp), fun _ => ok_bd.2 ((short16 d3).mono fun v3 _ => ?_)⟩
    exact hK _ fun _ => ⟨⟨a1, a2⟩, ⟨c1, c2⟩, d1, d2⟩
end Go.S
end
