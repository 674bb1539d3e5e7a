/- Part of the proofs of: The laws on plans hold for every input: what is laid into a folder keeps what was changed, a clean folder takes any tree, and by force the index is the tree. -/
import Derived.Test.YtpmhinamcndmeaaGreatDoorPE
set_option linter.unusedVariables false
set_option linter.unusedSimpArgs false
set_option linter.unusedSectionVars false
section
namespace Go.S
open Go
theorem fixE1 (l : List IndexEntry) (e : IndexEntry) (hb : l.length ≤ 1000000000) (hl : ∀ z ∈ l, z.path.length ≤ 1000000000) (he : e.path.length ≤ 1000000000) : Ok (Sh.slices_ContainsFunc_index_Entry_index_Entry_v3 l e) (fun b => b = l.any fun y => clashS y.path e.path) := by
  unfold Sh.slices_ContainsFunc_index_Entry_index_Entry_v3 Sh.slices_IndexFunc_index_Entry_index_Entry_v5
  rw [ok_bd]
  refine (ixloop (fun y => clashS y.path e.path) l hb (fun y => Sh.index_wrong_2 y e) (fun y hy => ?_) _ fun i => rfl).mono fun r hr => ?_
  · unfold Sh.index_wrong_2
    rw [clash_ok (hl y hy) he]; rfl
  · rw [ok_some, fst_any hr]
theorem fixE2 (l : List IndexEntry) (e : IndexEntry) (hb : l.length ≤ 1000000000) : Ok (Sh.slices_ContainsFunc_index_Entry_index_Entry_v2 l e) (fun b => b = l.any fun y => decide (y.path = e.path ∧ (y.stage = 0 ∨ e.stage = 0))) := by
  unfold Sh.slices_ContainsFunc_index_Entry_index_Entry_v2 Sh.slices_IndexFunc_index_Entry_index_Entry_v4
  rw [ok_bd]
  refine (ixloop (fun y => decide (y.path = e.path ∧ (y.stage = 0 ∨ e.stage = 0))) l hb (fun y => Sh.index_wrong_1 y e) (fun y hy => wrong1_ok y e) _ fun i => rfl).mono fun r hr => ?_
  rw [ok_some, fst_any hr]
theorem wrongC15 {x : List IndexEntry} (hb : x.length ≤ 1000000) (hl : ∀ z ∈ x, z.path.length ≤ 1000000000) {i : Int} (i0 : 0 ≤ i) (hi : i < x.length) {z : IndexEntry} (hz : x[i.toNat]? = some z) :
    Ok (Sh.index_wrong x i) fun e => e = 0 → vE z ∧ (∀ y, 0 < i → x[(i - 1).toNat]? = some y → lt2 y z) ∧ ∀ y ∈ x.take i.toNat, ¬ (y.path = z.path ∧ (y.stage = 0 ∨ z.stage = 0)) ∧ clashS y.path z.path = false := by
  unfold Sh.index_wrong
  have hzm := List.mem_of_getElem? hz
  rw [ok_bd, ok_at]
  refine ⟨i0, z, hz, ?_⟩
  rw [pcheck_ok, Option.bind_some]
  by_cases hc : checkP z.path = 0
  · rw [if_pos hc]
    refine ok_jnP (fun b => b = false → 0 ≤ z.stage ∧ z.stage ≤ 3 ∧ (z.mode = 1 ∨ z.mode = 2) ∧ 0 ≤ z.time ∧ 0 ≤ z.size) ?_ ?_
    · intro b hbm
      simp only [ok_if, ok_some]
      refine ⟨fun _ q => absurd q (by omega), fun h => ⟨fun _ q => absurd q (by omega), fun hd => ?_⟩⟩
      obtain ⟨m1, m2, m3, m4, m5⟩ := hbm (by simpa using h)
      refine ok_jnP (fun b => b = false → (∀ y, 0 < i → x[(i - 1).toNat]? = some y → lt2 y z) ∧ ∀ y ∈ x.take i.toNat, ¬ (y.path = z.path ∧ (y.stage = 0 ∨ z.stage = 0))) ?_ ?_
      · intro b hb2
        simp only [ok_if, ok_some, ok_gd, ok_lt]
        refine ⟨fun _ q => absurd q (by omega), fun h => ⟨⟨i0, by omega⟩, ok_bd.2 ((fixE1 (x.take i.toNat) z (by rw [List.length_take]; omega) (fun y hy => hl y (List.mem_of_mem_take hy)) (hl z hzm)).mono fun c hcc => ?_)⟩⟩
        obtain ⟨r1, r2⟩ := hb2 (by simpa using h)
        simp only [ok_if, ok_some]
        refine ⟨fun _ q => absurd q (by omega), fun h2 _ => ⟨⟨hc, m1, m2, m3, by omega, m4, m5⟩, r1, fun y hy => ⟨r2 y hy, ?_⟩⟩⟩
        cases hq : clashS y.path z.path with
        | false => rfl
        | true => exact absurd (hcc.trans (List.any_eq_true.2 ⟨y, hy, hq⟩)) h2
      · intro K hK
        refine ok_jnP (fun b => b = false → ∀ y, 0 < i → x[(i - 1).toNat]? = some y → lt2 y z) ?_ ?_
        · intro b hb3
          simp only [ok_if, ok_gd, ok_lt]
          refine ⟨fun h => hK _ fun q => (by rw [h] at q; cases q), fun h => ⟨⟨i0, by omega⟩, ok_bd.2 ((fixE2 (x.take i.toNat) z (by rw [List.length_take]; omega)).mono fun c hcc => hK _ fun hf => ⟨hb3 (by simpa using h), fun y hy q => ?_⟩)⟩⟩
          rw [hcc] at hf
          have := List.any_eq_false.1 hf y hy
          exact this (decide_eq_true q)
        · intro K2 hK2
          simp only [ok_if, ok_gd]
          refine ⟨fun h => ⟨⟨by omega, by omega⟩, ?_⟩, fun h => hK2 _ fun _ y q => absurd q h⟩
          obtain ⟨y, hy⟩ := at_get (l := x) (i := i - 1) (by omega) (by omega)
          rw [ok_bd, ok_at]
          refine ⟨by omega, y, hy, ?_⟩
          obtain ⟨n, hn, hn2⟩ := cmp15 y z
          rw [hn, Option.bind_some]
          refine hK2 _ fun q y' _ hy' => ?_
          rw [hy] at hy'; cases hy'
          exact hn2.1 (by have := of_decide_eq_false q; omega)
    · intro K hK
      have no : Ok (K true) _ := hK true fun q => (by cases q)
      have yes : 0 ≤ z.stage → z.stage ≤ 3 → (z.mode = 1 ∨ z.mode = 2) → 0 ≤ z.time → Ok (K (decide (z.size < 0))) _ := fun a b c d => hK _ fun q => ⟨a, b, c, d, by have := of_decide_eq_false q; omega⟩
      simp only [ok_if]
      exact ⟨fun _ => no, fun h1 => ⟨fun _ => no, fun h2 => ⟨fun hm => ⟨fun _ => no, fun h3 => yes (by omega) (by omega) (.inl hm) (by omega)⟩, fun _ => ⟨fun hm => ⟨fun _ => no, fun h3 => yes (by omega) (by omega) (.inr hm) (by omega)⟩, fun _ => no⟩⟩⟩⟩
  · rw [if_neg hc, ok_some]
    exact fun h => absurd h hc
theorem goodI_snoc {x : List IndexEntry} {i : Int} (i0 : 0 ≤ i) {z : IndexEntry} (hz : x[i.toNat]? = some z) (hg : GoodI (x.take i.toNat)) (hv : vE z) (hr : ∀ y, 0 < i → x[(i - 1).toNat]? = some y → lt2 y z) (hc : ∀ y ∈ x.take i.toNat, ¬ (y.path = z.path ∧ (y.stage = 0 ∨ z.stage = 0)) ∧ clashS y.path z.path = false) : GoodI (x.take (i + 1).toNat) := by
  rw [take_snoc i0 hz]
  have hlt : ∀ a ∈ x.take i.toNat, lt2 a z := fun a ha => by
    have hpos : 0 < i := by
      rcases Int.lt_or_le 0 i with q | q
      · exact q
      · rw [show i.toNat = 0 by omega] at ha; simp at ha
    have hil := get_lt hz
    obtain ⟨y, hy⟩ := at_get (l := x) (i := i - 1) (by omega) (by omega)
    have hyz := hr y hpos hy
    have he : x.take i.toNat = x.take (i - 1).toNat ++ [y] := by
      have := take_snoc (l := x) (i := i - 1) (by omega) hy
      rwa [show i - 1 + 1 = i by omega] at this
    rw [he] at ha
    rcases List.mem_append.1 ha with q | q
    · have hR := hg.pw
      rw [he] at hR
      have := (List.pairwise_append.1 hR).2.2 a q y (List.mem_singleton_self _)
      exact lt2_trans this.1 hyz
    · rw [List.mem_singleton.1 q]; exact hyz
  refine ⟨fun f hf => ?_, List.pairwise_append.2 ⟨hg.pw, List.pairwise_singleton _ _, fun a ha b hb => ?_⟩⟩
  · rcases List.mem_append.1 hf with q | q
    · exact hg.v f q
    · rw [List.mem_singleton.1 q]; exact hv
  · rw [List.mem_singleton.1 hb]; exact ⟨hlt a ha, hc a ha⟩
theorem checkC15 {x : List IndexEntry} (hb : x.length ≤ 1000000) (hl : ∀ z ∈ x, z.path.length ≤ 1000000000) : Ok (Sh.index_Check x) fun e => e.isNil = true → x.length ≤ 256 ∧ GoodI x := by
  unfold Sh.index_Check
  simp only [ok_if, ok_some]
  refine ⟨fun h q => (by cases q), fun h64 => ?_⟩
  refine ok_iter (I := fun i => 0 ≤ i ∧ i ≤ x.length ∧ GoodI (x.take i.toNat)) (μ := fun i => (x.length - i).toNat) ?_ ⟨by omega, by omega, ⟨fun f h => (by simp at h), by simp⟩⟩
  rintro i ⟨i0, i1, hg⟩
  simp only [ok_if, ok_up, ok_some]
  refine ⟨fun hi => ?_, fun hi => ?_⟩
  · obtain ⟨z, hz⟩ := at_get (l := x) i0 hi
    refine ok_bd.2 ((wrongC15 hb hl i0 hi hz).mono fun e he => ?_)
    simp only [ok_if, ok_gd, ok_go, ok_up, ok_some]
    refine ⟨fun h => ⟨⟨by omega, by omega⟩, ⟨by omega, by omega, ?_⟩, by omega⟩, fun h q => (by cases q)⟩
    obtain ⟨a, b, c⟩ := he h
    exact goodI_snoc i0 hz hg a b c
  · rw [List.take_of_length_le (by omega)] at hg
    exact fun _ => ⟨by omega, hg⟩
theorem all15 {x : List IndexEntry} (h : x.length ≤ 1000000) : Sh.rectolaw15_All x (x.map toE) = some true := by
  unfold Sh.rectolaw15_All
  rw [of15 h, Option.bind_some, if_pos rfl]
  rw [eqloop (fun z w : Rectoref14Entry => z.path = w.path ∧ z.stage = w.stage ∧ z.mode = w.mode ∧ z.data = w.data ∧ z.time = w.time ∧ z.size = w.size) (fun z w => by cases z; cases w; simp) (x.map toE) (x.map toE) rfl (by rw [List.length_map]; omega) _ fun i => rfl]
  simp
end Go.S
end

section
namespace Go.S
theorem gl_at {α : Type} {l : List α} {i : Int} (h0 : 0 ≤ i) (h : i < l.length) : ∃ z, l[i.toNat]? = some z := ⟨_, List.getElem?_eq_getElem (by omega)⟩
theorem gl_snoc {α : Type} {l : List α} {i : Int} {z : α} (h0 : 0 ≤ i) (h : l[i.toNat]? = some z) : l.take (i + 1).toNat = l.take i.toNat ++ [z] := by
  rw [show (i + 1).toNat = i.toNat + 1 by omega, List.take_add_one, h]; rfl
theorem gl_atv {α : Type} {l : List α} {i : Int} {z : α} (h0 : 0 ≤ i) (h : l[i.toNat]? = some z) : at_ l i = some z := by
  unfold at_; rw [if_pos h0, h]
theorem gl_map {α β : Type} (f : α → β) {l : List α} {i : Nat} {z : α} (h : l[i]? = some z) : (l.map f)[i]? = some (f z) := by rw [List.getElem?_map, h]; rfl
def Nx {T R : Type} (t : T) (y : T ⊕ R) : Prop := y = .inl t
def Up {T R : Type} (Q : R → Prop) (y : T ⊕ R) : Prop := ∃ r, y = .inr r ∧ Q r
theorem nx_go {T R : Type} {t t' : T} (h : t' = t) : Ok (go t' : Option (T ⊕ R)) (Nx t) := ⟨_, rfl, by rw [h]; rfl⟩
theorem nx_gd {T R : Type} {c : Prop} [Decidable c] {t t' : T} (hc : c) (h : t' = t) : Ok (gd c (go t' : Option (T ⊕ R))) (Nx t) := ok_gd.2 ⟨hc, nx_go h⟩
theorem up_up {T R : Type} {o : Option R} {Q : R → Prop} (h : Ok o Q) : Ok (up o : Option (T ⊕ R)) (Up Q) := ok_up.2 (h.mono fun r hr => ⟨r, rfl, hr⟩)
theorem gl_fold {α τ R : Type} {Q : R → Prop} (l : List α) (f : τ → α → τ) (t0 : τ) (B : τ × Int → Option ((τ × Int) ⊕ R))
    (hB : ∀ (i : Int) z, 0 ≤ i → i < l.length → l[i.toNat]? = some z → ∀ s, s = (l.take i.toNat).foldl f t0 → Ok (B (s, i)) (Nx (f s z, i + 1)))
    (hE : ∀ s, s = l.foldl f t0 → Ok (B (s, (l.length : Int))) (Up Q)) : Ok (iter B (t0, 0)) Q := by
  refine ok_iter (I := fun t => 0 ≤ t.2 ∧ t.2 ≤ l.length ∧ t.1 = (l.take t.2.toNat).foldl f t0) (μ := fun t => (l.length - t.2).toNat) ?_ ⟨by dsimp only; omega, by dsimp only; omega, by simp⟩
  rintro ⟨t, i⟩ ⟨i0, i1, i2⟩
  dsimp only at i0 i1 i2 ⊢
  by_cases hi : i < l.length
  · obtain ⟨z, hz⟩ := gl_at i0 hi
    refine (hB i z i0 hi hz t i2).mono ?_
    rintro y hy
    cases hy
    refine ⟨⟨by dsimp only; omega, by dsimp only; omega, ?_⟩, by dsimp only; omega⟩
    show _ = (l.take (i + 1).toNat).foldl f t0
    rw [gl_snoc i0 hz, List.foldl_append, i2]; rfl
  · have e : i = l.length := by omega
    subst e
    rw [List.take_of_length_le (by omega)] at i2
    refine (hE t i2).mono ?_
    rintro y ⟨r, rfl, hr⟩
    exact hr
theorem gl_fold2 {α σ τ R : Type} {Q : R → Prop} (l : List α) (f : σ → α → σ) (g : τ → α → τ) (s0 : σ) (t0 : τ) (B : σ × τ × Int → Option ((σ × τ × Int) ⊕ R))
    (hB : ∀ (i : Int) z, 0 ≤ i → i < l.length → l[i.toNat]? = some z → ∀ s t, s = (l.take i.toNat).foldl f s0 → t = (l.take i.toNat).foldl g t0 → Ok (B (s, t, i)) (Nx (f s z, g t z, i + 1)))
    (hE : ∀ s t, s = l.foldl f s0 → t = l.foldl g t0 → Ok (B (s, t, (l.length : Int))) (Up Q)) : Ok (iter B (s0, t0, 0)) Q := by
  refine ok_iter (I := fun t => 0 ≤ t.2.2 ∧ t.2.2 ≤ l.length ∧ t.1 = (l.take t.2.2.toNat).foldl f s0 ∧ t.2.1 = (l.take t.2.2.toNat).foldl g t0) (μ := fun t => (l.length - t.2.2).toNat) ?_ ⟨by dsimp only; omega, by dsimp only; omega, by simp, by simp⟩
  rintro ⟨s, t, i⟩ ⟨i0, i1, i2, i3⟩
  dsimp only at i0 i1 i2 i3 ⊢
  by_cases hi : i < l.length
  · obtain ⟨z, hz⟩ := gl_at i0 hi
    refine (hB i z i0 hi hz s t i2 i3).mono ?_
    rintro y hy
    cases hy
    refine ⟨⟨by dsimp only; omega, by dsimp only; omega, ?_, ?_⟩, by dsimp only; omega⟩
    · show _ = (l.take (i + 1).toNat).foldl f s0
      rw [gl_snoc i0 hz, List.foldl_append, i2]; rfl
    · show _ = (l.take (i + 1).toNat).foldl g t0
      rw [gl_snoc i0 hz, List.foldl_append, i3]; rfl
  · have e : i = l.length := by omega
    subst e
    rw [List.take_of_length_le (by omega)] at i2 i3
    refine (hE s t i2 i3).mono ?_
    rintro y ⟨r, rfl, hr⟩
    exact hr
theorem gl_flat {α β : Type} (g : α → List β) : ∀ (l : List α) (a : List β), l.foldl (fun a z => a ++ g z) a = a ++ l.flatMap g
  | [], a => by simp
  | z :: r, a => by rw [List.foldl_cons, gl_flat g r, List.flatMap_cons, List.append_assoc]
theorem gl_fm {α β : Type} (p : α → Bool) (g : α → β) : ∀ l : List α, l.flatMap (fun z => if p z = true then [g z] else []) = (l.filter p).map g
  | [] => rfl
  | z :: r => by
    rw [List.flatMap_cons, gl_fm p g r, List.filter_cons]
    split <;> simp
theorem gl_app {α β R : Type} {Q : R → Prop} (l : List α) (p : α → Bool) (g : α → β) (a : List β) (B : List β × Int → Option ((List β × Int) ⊕ R))
    (hB : ∀ (i : Int) z, 0 ≤ i → i < l.length → l[i.toNat]? = some z → ∀ s, s.length ≤ a.length + i.toNat → Ok (B (s, i)) (Nx ((if p z = true then s ++ [g z] else s), i + 1)))
    (hE : ∀ s, s = a ++ (l.filter p).map g → Ok (B (s, (l.length : Int))) (Up Q)) : Ok (iter B (a, 0)) Q := by
  have hf : ∀ m : List α, m.foldl (fun a z => a ++ (if p z = true then [g z] else [])) a = a ++ (m.filter p).map g := fun m => by
    rw [gl_flat (fun z => if p z = true then [g z] else []), gl_fm]
  refine gl_fold l (fun s z => s ++ (if p z = true then [g z] else [])) a B (fun i z i0 hi hz s hs => ?_) (fun s hs => hE s (by rw [hs, hf]))
  have hl : s.length ≤ a.length + i.toNat := by
    rw [hs, hf, List.length_append, List.length_map]
    have := List.length_filter_le p (l.take i.toNat)
    rw [List.length_take] at this
    omega
  have := hB i z i0 hi hz s hl
  split at this
  · next q => simpa [q] using this
  · next q => simpa [q] using this
theorem gl_chk {α R : Type} {Q : R → Prop} (l : List α) (P : α → Prop) (B : Int → Option (Int ⊕ R))
    (hB : ∀ (i : Int) z, 0 ≤ i → i < l.length → l[i.toNat]? = some z → (∀ y ∈ l.take i.toNat, P y) → Ok (B i) (fun y => y = .inl (i + 1) ∧ P z ∨ ∃ r, y = .inr r ∧ Q r))
    (hE : (∀ y ∈ l, P y) → Ok (B (l.length : Int)) (Up Q)) : Ok (iter B 0) Q := by
  refine ok_iter (I := fun i => 0 ≤ i ∧ i ≤ l.length ∧ ∀ y ∈ l.take i.toNat, P y) (μ := fun i => (l.length - i).toNat) ?_ ⟨by omega, by omega, by simp⟩
  rintro i ⟨i0, i1, i2⟩
  by_cases hi : i < l.length
  · obtain ⟨z, hz⟩ := gl_at i0 hi
    refine (hB i z i0 hi hz i2).mono ?_
    rintro y (⟨rfl, hp⟩ | ⟨r, rfl, hr⟩)
    · refine ⟨⟨by omega, by omega, fun y hy => ?_⟩, by omega⟩
      rw [gl_snoc i0 hz] at hy
      rcases List.mem_append.1 hy with q | q
      · exact i2 y q
      · rw [List.mem_singleton.1 q]; exact hp
    · exact hr
  · have e : i = l.length := by omega
    subst e
    rw [List.take_of_length_le (by omega)] at i2
    refine (hE i2).mono ?_
    rintro y ⟨r, rfl, hr⟩
    exact hr
end Go.S
end

section
namespace Go.S
open Go
def oneP (r : List FilesFile) (p : List UInt8) : PlanOne := ⟨(getF r p).1.path, (getF r p).1.mode, (getF r p).1.data, (getF r p).2⟩
theorem of20 {r : List FilesFile} (h : R r) (hb : r.length ≤ 1000000) (p : List UInt8) : Sh.plan_of r p = some (oneP r p) := by
  unfold Sh.plan_of
  rw [get14 h (by omega), Option.bind_some]; rfl
theorem one_some {r : List FilesFile} {p : List UInt8} {f : FilesFile} (h : gt r p = some f) : oneP r p = ⟨f.path, f.mode, f.data, true⟩ := by
  unfold oneP; rw [getF_some h]
theorem one_none {r : List FilesFile} {p : List UInt8} (h : gt r p = none) : oneP r p = ⟨[], 0, [], false⟩ := by
  unfold oneP; rw [getF_none h]
theorem one_eq {a b : List FilesFile} {p : List UInt8} : ((oneP a p).file_path = (oneP b p).file_path ∧ (oneP a p).file_mode = (oneP b p).file_mode ∧ (oneP a p).file_data = (oneP b p).file_data ∧ (oneP a p).is = (oneP b p).is) ↔ gt a p = gt b p := by
  cases ha : gt a p with
  | none =>
    cases hb : gt b p with
    | none => rw [one_none ha, one_none hb]; simp
    | some g => rw [one_none ha, one_some hb]; simp
  | some f =>
    cases hb : gt b p with
    | none => rw [one_some ha, one_none hb]; simp
    | some g => rw [one_some ha, one_some hb]; cases f; cases g; simp
theorem paths_keys {ls : List (List FilesFile)} {r : List (List UInt8)} (h : PathsOf ls r) : r = keysS (ls.flatMap fun l => l.map (·.path)) := strict_ext h.1 (keysS_lt _) fun x => by
  rw [h.2, keysS_mem]
  simp only [List.mem_flatMap, List.mem_map]
structure Bd (l : List FilesFile) : Prop where
  r : R l
  n : l.length ≤ 1000000
  p : ∀ f ∈ l, f.path.length ≤ 1000000
def touchedP (h : List FilesFile) (r : TmergeResultP) : List (List UInt8) := keysS ((keysS (h.map (·.path) ++ r.files.map (·.path))).filter (fun p => !decide (gt h p = gt r.files p)) ++ r.conflicts)
theorem touched20 {h : List FilesFile} {r : TmergeResultP} (hh : Bd h) (hf : Bd r.files) (hc : r.conflicts.length ≤ 1000000) : Sh.plan_touched h r = some (touchedP h r) := by
  apply Ok.eq
  unfold Sh.plan_touched
  rw [ok_lt, ok_bd]
  refine (paths14 [h, r.files] (by simp) (fun l hl => ?_)).mono ?_
  · simp only [List.mem_cons, List.not_mem_nil, or_false] at hl
    rcases hl with rfl | rfl
    · exact ⟨hh.n, hh.p⟩
    · exact ⟨hf.n, hf.p⟩
  rintro ps ⟨hps, hl⟩
  have e := paths_keys hps
  simp only [List.flatMap_cons, List.flatMap_nil, List.append_nil] at e
  refine gl_app ps (fun p => !decide (gt h p = gt r.files p)) (fun p => p) [] _ ?_ ?_
  · intro i z i0 hi hz s hs
    simp only [List.length_nil] at hs
    dsimp only
    rw [if_pos hi, gl_atv i0 hz, Option.bind_some, of20 hh.r hh.n, Option.bind_some, of20 hf.r hf.n, Option.bind_some]
    by_cases q : gt h z = gt r.files z
    · rw [if_pos (one_eq.2 q)]
      exact nx_gd ⟨by omega, by omega⟩ (by simp [q])
    · rw [if_neg fun k => q (one_eq.1 k)]
      simp only [ok_lt, ok_gd]
      exact ⟨by simp only [List.length_cons, List.length_nil]; omega, ⟨by omega, by omega⟩, nx_go (by simp [q])⟩
  · intro s hs
    dsimp only
    rw [if_neg (by omega)]
    refine up_up ?_
    have hsl : s.length ≤ 8000000 := by
      rw [hs, List.nil_append, List.length_map]
      exact Nat.le_trans (List.length_filter_le _ _) hl
    have h2 := (sortS_perm (s ++ r.conflicts)).length_eq
    simp only [List.length_append] at h2
    simp only [ok_gd, ok_lt, ok_some, List.length_append]
    refine ⟨by omega, by omega, by omega, ?_⟩
    rw [hs, List.nil_append, List.map_id', e]; rfl
theorem touched_mem {h : List FilesFile} {r : TmergeResultP} {p : List UInt8} : p ∈ touchedP h r ↔ gt h p ≠ gt r.files p ∨ p ∈ r.conflicts := by
  unfold touchedP
  rw [keysS_mem, List.mem_append, List.mem_filter, keysS_mem, List.mem_append, List.mem_map, List.mem_map]
  simp only [Bool.not_eq_true', decide_eq_false_iff_not]
  constructor
  · rintro (⟨_, q⟩ | q)
    · exact .inl q
    · exact .inr q
  · rintro (q | q)
    · refine .inl ⟨?_, q⟩
      cases ha : gt h p with
      | some f => exact .inl ⟨f, List.mem_of_find?_eq_some ha, gt_path ha⟩
      | none =>
        cases hb : gt r.files p with
        | some f => exact .inr ⟨f, List.mem_of_find?_eq_some hb, gt_path hb⟩
        | none => rw [ha, hb] at q; exact absurd rfl q
    · exact .inr q
theorem touched_len (h : List FilesFile) (r : TmergeResultP) : (touchedP h r).length ≤ h.length + r.files.length + r.conflicts.length := by
  unfold touchedP
  refine Nat.le_trans (keysS_len _) ?_
  rw [List.length_append]
  have h1 := List.length_filter_le (fun p => !decide (gt h p = gt r.files p)) (keysS (h.map (·.path) ++ r.files.map (·.path)))
  have h2 := keysS_len (h.map (·.path) ++ r.files.map (·.path))
  simp only [List.length_append, List.length_map] at h2
  omega
def stF (n : Int) (l : List IndexEntry) : List FilesFile := (l.filter fun z => decide (z.stage = n)).map fun z => ⟨z.path, z.mode, z.data⟩
def confS (l : List IndexEntry) : List (List UInt8) := keysS ((l.filter fun z => !decide (z.stage = 0)).map (·.path))
theorem stage20 (l : List IndexEntry) (n : Int) (hb : l.length ≤ 1000000) : Sh.index_Stage l n = some (stF n l) := by
  apply Ok.eq
  unfold Sh.index_Stage
  refine gl_app l (fun z => decide (z.stage = n)) (fun z => (⟨z.path, z.mode, z.data⟩ : FilesFile)) [] _ ?_ ?_
  · intro i z i0 hi hz s hs
    simp only [List.length_nil] at hs
    dsimp only
    rw [if_pos hi, gl_atv i0 hz, Option.bind_some]
    by_cases q : z.stage = n
    · rw [if_pos q]
      simp only [ok_lt, ok_gd]
      exact ⟨by simp only [List.length_cons, List.length_nil]; omega, ⟨by omega, by omega⟩, nx_go (by simp [q])⟩
    · rw [if_neg q]
      exact nx_gd ⟨by omega, by omega⟩ (by simp [q])
  · intro s hs
    dsimp only
    rw [if_neg (by omega)]
    refine up_up ?_
    rw [clip14, Option.bind_some, ok_some, hs]; rfl
theorem conf20 (l : List IndexEntry) (hb : l.length ≤ 1000000) : Sh.index_Conflicts l = some (confS l) := by
  apply Ok.eq
  unfold Sh.index_Conflicts
  refine gl_app l (fun z => !decide (z.stage = 0)) (·.path) [] _ ?_ ?_
  · intro i z i0 hi hz s hs
    simp only [List.length_nil] at hs
    dsimp only
    rw [if_pos hi, gl_atv i0 hz, Option.bind_some]
    by_cases q : z.stage = 0
    · rw [if_pos q]
      exact nx_gd ⟨by omega, by omega⟩ (by simp [q])
    · rw [if_neg q]
      simp only [ok_lt, ok_gd]
      exact ⟨by simp only [List.length_cons, List.length_nil]; omega, ⟨by omega, by omega⟩, nx_go (by simp [q])⟩
  · intro s hs
    dsimp only
    rw [if_neg (by omega)]
    refine up_up ?_
    have hsl : s.length ≤ 1000000 := by
      rw [hs, List.nil_append, List.length_map]
      exact Nat.le_trans (List.length_filter_le _ _) hb
    have h2 := (sortS_perm s).length_eq
    simp only [ok_gd, ok_lt]
    refine ⟨by omega, by omega, ?_⟩
    rw [clipS14, Option.bind_some, ok_some, hs]; rfl
theorem stF_R {l : List IndexEntry} (h : GoodI l) (n : Int) : R (stF n l) := by
  unfold R stF
  rw [List.pairwise_map]
  refine List.Pairwise.imp_of_mem ?_ (List.Pairwise.sublist List.filter_sublist h.pw)
  intro a b ha hb hab
  have h1 := of_decide_eq_true (List.mem_filter.1 ha).2
  have h2 := of_decide_eq_true (List.mem_filter.1 hb).2
  rcases hab.1 with q | ⟨_, q⟩
  · exact q
  · omega
theorem stF_len (n : Int) (l : List IndexEntry) : (stF n l).length ≤ l.length := by
  unfold stF
  rw [List.length_map]
  exact List.length_filter_le _ _
theorem stF_mem {n : Int} {l : List IndexEntry} {f : FilesFile} (h : f ∈ stF n l) : ∃ e ∈ l, e.stage = n ∧ e.path = f.path ∧ e.mode = f.mode ∧ e.data = f.data := by
  unfold stF at h
  obtain ⟨e, he, rfl⟩ := List.mem_map.1 h
  exact ⟨e, (List.mem_filter.1 he).1, of_decide_eq_true (List.mem_filter.1 he).2, rfl, rfl, rfl⟩
theorem cont20 (l : List (List UInt8)) (p : List UInt8) (hb : l.length ≤ 1000000000) : Sh.slices_Contains_string_string l p = some (decide (p ∈ l)) := by
  apply Ok.eq
  unfold Sh.slices_Contains_string_string
  rw [ok_bd]
  refine (ixloop (fun z => decide (p = z)) l hb (fun z => some (decide (p = z))) (fun _ _ => rfl) _ fun i => ?_).mono ?_
  · simp only [Option.bind_some, decide_eq_true_eq]
  · intro r hr
    rw [ok_some, fst_any hr]
    rw [Bool.eq_iff_iff, List.any_eq_true, decide_eq_true_eq]
    constructor
    · rintro ⟨x, hx, q⟩
      rw [of_decide_eq_true q]; exact hx
    · intro q
      exact ⟨p, q, decide_eq_true rfl⟩
def safeP (h : List FilesFile) (ix : List IndexEntry) (w : List FilesFile) (p : List UInt8) : Bool := decide (gt w p = gt (stF 0 ix) p) && decide (gt (stF 0 ix) p = gt h p) && !decide (p ∈ confS ix)
theorem confS_len (l : List IndexEntry) : (confS l).length ≤ l.length := by
  unfold confS
  refine Nat.le_trans (keysS_len _) ?_
  rw [List.length_map]
  exact List.length_filter_le _ _
theorem safe20 {h w : List FilesFile} {ix : List IndexEntry} (hh : Bd h) (hw : Bd w) (hi : GoodI ix) (hb : ix.length ≤ 1000000) (p : List UInt8) : Sh.plan_safe h ix w p = some (safeP h ix w p) := by
  unfold Sh.plan_safe
  have hl := stF_len 0 ix
  have hc := confS_len ix
  rw [stage20 ix 0 hb, Option.bind_some, of20 (stF_R hi 0) (by omega), Option.bind_some, of20 hw.r hw.n, Option.bind_some]
  by_cases q : gt w p = gt (stF 0 ix) p
  · rw [if_pos (one_eq.2 q), of20 hh.r hh.n, Option.bind_some]
    by_cases q2 : gt (stF 0 ix) p = gt h p
    · rw [if_pos (one_eq.2 q2), conf20 ix hb, Option.bind_some, cont20 _ _ (by omega), Option.bind_some]
      unfold safeP
      rw [decide_eq_true q, decide_eq_true q2]; rfl
    · rw [if_neg fun k => q2 (one_eq.1 k)]
      unfold safeP
      rw [decide_eq_false q2, Bool.and_false]; rfl
  · rw [if_neg fun k => q (one_eq.1 k)]
    unfold safeP
    rw [decide_eq_false q]; rfl
def hitP (r : TmergeResultP) (f : FilesFile) (p : List UInt8) : Bool := (gt r.files p).isSome && clashS p f.path
theorem lost1 {r : TmergeResultP} (hf : Bd r.files) {f : FilesFile} (hl : f.path.length ≤ 1000000) {p : List UInt8} (hp : p.length ≤ 1000000) : Sh.plan_Lost_1 p r f = some (hitP r f p) := by
  unfold Sh.plan_Lost_1 hitP
  rw [of20 hf.r hf.n, Option.bind_some]
  cases hg : gt r.files p with
  | none => rw [one_none hg]; rfl
  | some g =>
    rw [one_some hg, if_pos (by rfl), clash_ok (by omega) (by omega), Option.bind_some]; rfl
theorem any20 {r : TmergeResultP} (hf : Bd r.files) {f : FilesFile} (hl : f.path.length ≤ 1000000) {all : List (List UInt8)} (hb : all.length ≤ 1000000000) (hp : ∀ p ∈ all, p.length ≤ 1000000) : Sh.slices_ContainsFunc_string_string all r f = some (all.any (hitP r f)) := by
  apply Ok.eq
  unfold Sh.slices_ContainsFunc_string_string
  rw [ok_bd]
  refine (ixloop (hitP r f) all hb (fun z => Sh.plan_Lost_1 z r f) (fun z hz => lost1 hf hl (hp z hz)) _ fun i => rfl).mono ?_
  intro x hx
  rw [ok_some, fst_any hx]
def lostW (r : TmergeResultP) (all : List (List UInt8)) (w : FilesFile) : Bool := if w.path ∈ all ∧ gt r.files w.path = none then false else all.any (hitP r w)
def lostP (all : List (List UInt8)) (h : List FilesFile) (r : TmergeResultP) (ix : List IndexEntry) (w : List FilesFile) : List (List UInt8) := keysS (all.filter (fun p => !safeP h ix w p) ++ (w.filter (lostW r all)).map (·.path))
theorem touched_path {h : List FilesFile} {r : TmergeResultP} (hh : Bd h) (hf : Bd r.files) (hc : ∀ p ∈ r.conflicts, p.length ≤ 1000000) : ∀ p ∈ touchedP h r, p.length ≤ 1000000 := fun p hp => by
  rcases touched_mem.1 hp with q | q
  · cases ha : gt h p with
    | some f => rw [← gt_path ha]; exact hh.p f (List.mem_of_find?_eq_some ha)
    | none =>
      cases hb : gt r.files p with
      | some f => rw [← gt_path hb]; exact hf.p f (List.mem_of_find?_eq_some hb)
      | none => rw [ha, hb] at q; exact absurd rfl q
  · exact hc p q
theorem lost20 {h w : List FilesFile} {r : TmergeResultP} {ix : List IndexEntry} (hh : Bd h) (hf : Bd r.files) (hw : Bd w) (hi : GoodI ix) (hb : ix.length ≤ 1000000) (hc : r.conflicts.length ≤ 1000000) (hcp : ∀ p ∈ r.conflicts, p.length ≤ 1000000) : Sh.plan_Lost h r ix w = some (lostP (touchedP h r) h r ix w) := by
  apply Ok.eq
  unfold Sh.plan_Lost
  rw [touched20 hh hf hc, Option.bind_some]
  have hal : (touchedP h r).length ≤ 3000000 := by
    have := touched_len h r
    have h1 := hh.n
    have h2 := hf.n
    omega
  have hap := touched_path hh hf hcp
  unfold lostP
  generalize touchedP h r = all at hal hap ⊢
  refine gl_app all (fun p => !safeP h ix w p) (fun p => p) [] _ ?_ ?_
  · intro i z i0 hi' hz s hs
    simp only [List.length_nil] at hs
    dsimp only
    rw [if_pos hi', gl_atv i0 hz, Option.bind_some, safe20 hh hw hi hb, Option.bind_some]
    cases q : safeP h ix w z with
    | false =>
      rw [if_pos (by rfl)]
      simp only [ok_lt, ok_gd]
      exact ⟨by simp only [List.length_cons, List.length_nil]; omega, ⟨by omega, by omega⟩, nx_go (by simp)⟩
    | true =>
      rw [if_neg (by simp)]
      exact nx_gd ⟨by omega, by omega⟩ (by simp)
  · intro s hs
    dsimp only
    rw [if_neg (by omega)]
    refine up_up ?_
    have hsl : s.length ≤ 3000000 := by
      rw [hs, List.nil_append, List.length_map]
      exact Nat.le_trans (List.length_filter_le _ _) hal
    rw [List.nil_append, List.map_id'] at hs
    have hwn := hw.n
    refine gl_app w (lostW r all) (·.path) s _ ?_ ?_
    · intro i z i0 hi' hz t ht
      have hzm := List.mem_of_getElem? hz
      dsimp only
      rw [if_pos hi', gl_atv i0 hz, Option.bind_some]
      refine ok_jnP (fun _ => ¬ (z.path ∈ all ∧ gt r.files z.path = none)) ?_ ?_
      · intro _ hn
        rw [any20 hf (hw.p z hzm) (by omega) hap, Option.bind_some]
        have hlw : lostW r all z = all.any (hitP r z) := by unfold lostW; rw [if_neg hn]
        rw [hlw]
        cases all.any (hitP r z) with
        | true =>
          rw [if_pos (by rfl)]
          simp only [ok_lt, ok_gd]
          exact ⟨by simp only [List.length_cons, List.length_nil]; omega, ⟨by omega, by omega⟩, nx_go (by simp)⟩
        | false =>
          rw [if_neg (by simp)]
          exact nx_gd ⟨by omega, by omega⟩ (by simp)
      · intro K hK
        rw [cont20 _ _ (by omega), Option.bind_some]
        by_cases m : z.path ∈ all
        · rw [if_pos (decide_eq_true m), of20 hf.r hf.n, Option.bind_some]
          cases hg : gt r.files z.path with
          | none =>
            rw [one_none hg, if_pos (by rfl)]
            have hlw : lostW r all z = false := by unfold lostW; rw [if_pos ⟨m, hg⟩]
            exact nx_gd ⟨by omega, by omega⟩ (by rw [hlw]; simp)
          | some g =>
            rw [one_some hg, if_neg (by simp)]
            exact hK () fun k => by rw [hg] at k; cases k.2
        · rw [if_neg (by simp [m])]
          exact hK () fun k => m k.1
    · intro t ht
      dsimp only
      rw [if_neg (by omega)]
      refine up_up ?_
      have htl : t.length ≤ 4000000 := by
        rw [ht, List.length_append, List.length_map]
        have := List.length_filter_le (lostW r all) w
        omega
      have h2 := (sortS_perm t).length_eq
      simp only [ok_gd, ok_lt]
      refine ⟨by omega, by omega, ?_⟩
      rw [clipS14, Option.bind_some, ok_some, ht, hs]; rfl
end Go.S
end

section
namespace Go.S
open Go
structure BdE (n : Nat) (l : List IndexEntry) : Prop where
  n : l.length ≤ n
  p : ∀ z ∈ l, z.path.length ≤ 1000000
theorem putP_len (l : List IndexEntry) (e : IndexEntry) : (putP l e).length ≤ l.length + 1 := by
  unfold putP
  have h1 := List.length_filter_le (fun z => !givesS e z) l
  generalize l.filter (fun z => !givesS e z) = y at h1 ⊢
  have h2 := congrArg List.length (List.takeWhile_append_dropWhile (p := fun z => bf z e) (l := y))
  simp only [List.length_append, List.length_cons, List.length_nil] at h2 ⊢
  omega
theorem putP_mem {l : List IndexEntry} {e z : IndexEntry} (h : z ∈ putP l e) : z = e ∨ z ∈ l := by
  unfold putP at h
  rw [List.mem_append, List.mem_append, List.mem_singleton] at h
  rcases h with (q | q) | q
  · exact .inr (List.mem_filter.1 ((List.takeWhile_sublist _).subset q)).1
  · exact .inl q
  · exact .inr (List.mem_filter.1 ((List.dropWhile_sublist _).subset q)).1
theorem BdE.put {n : Nat} {l : List IndexEntry} (h : BdE n l) {e : IndexEntry} (he : e.path.length ≤ 1000000) : BdE (n + 1) (putP l e) := ⟨by
  have := putP_len l e
  have := h.n
  omega, fun z hz => by
  rcases putP_mem hz with q | q
  · rw [q]; exact he
  · exact h.p z q⟩
def layE (p : List UInt8) (ix : List IndexEntry) (e : IndexEntry) : List IndexEntry := if e.path = p then putP ix e else ix
def layP (r : TmergeResultP) (ix : List IndexEntry) (p : List UInt8) : List IndexEntry :=
  if p ∈ r.conflicts then r.entries.foldl (layE p) ix else match gt r.files p with
  | none => ix
  | some f => putP ix ⟨p, 0, f.mode, f.data, 0, 0⟩
theorem BdE.mono {n m : Nat} {l : List IndexEntry} (h : BdE n l) (hm : n ≤ m) : BdE m l := ⟨Nat.le_trans h.n hm, h.p⟩
theorem BdE.layE {n : Nat} {l : List IndexEntry} (h : BdE n l) {p : List UInt8} {e : IndexEntry} (he : e.path.length ≤ 1000000) : BdE (n + 1) (layE p l e) := by
  unfold Go.S.layE
  split
  · exact h.put he
  · exact h.mono (by omega)
theorem BdE.lays (p : List UInt8) : ∀ (es : List IndexEntry) (n : Nat) (l : List IndexEntry), BdE n l → (∀ e ∈ es, e.path.length ≤ 1000000) → BdE (n + es.length) (es.foldl (Go.S.layE p) l)
  | [], _, _, h, _ => h
  | e :: r, n, l, h, he => by
    have := BdE.lays p r (n + 1) _ (h.layE (p := p) (he e (List.mem_cons_self ..))) fun z hz => he z (List.mem_cons_of_mem _ hz)
    rw [List.foldl_cons, List.length_cons]
    exact this.mono (by omega)
theorem BdE.layP {n : Nat} {l : List IndexEntry} {r : TmergeResultP} (h : BdE n l) (he : ∀ e ∈ r.entries, e.path.length ≤ 1000000) {p : List UInt8} (hp : p.length ≤ 1000000) : BdE (n + (r.entries.length + 1)) (layP r l p) := by
  unfold Go.S.layP
  split
  · exact (BdE.lays p r.entries n l h he).mono (by omega)
  · split
    · exact h.mono (by omega)
    · exact (h.put (e := ⟨p, 0, _, _, 0, 0⟩) hp).mono (by omega)
theorem BdE.layPs {r : TmergeResultP} (he : ∀ e ∈ r.entries, e.path.length ≤ 1000000) : ∀ (ps : List (List UInt8)) (n : Nat) (l : List IndexEntry), BdE n l → (∀ p ∈ ps, p.length ≤ 1000000) → BdE (n + ps.length * (r.entries.length + 1)) (ps.foldl (Go.S.layP r) l)
  | [], n, _, h, _ => by simpa using h
  | p :: t, n, l, h, hp => by
    have := BdE.layPs he t _ _ (h.layP he (hp p (List.mem_cons_self ..))) fun z hz => hp z (List.mem_cons_of_mem _ hz)
    rw [List.foldl_cons, List.length_cons]
    refine this.mono ?_
    rw [Nat.add_mul, Nat.one_mul]
    omega
theorem lay20 {r : TmergeResultP} (hf : Bd r.files) (hc : r.conflicts.length ≤ 1000000) (hel : r.entries.length ≤ 90000) (he : ∀ e ∈ r.entries, e.path.length ≤ 1000000) {ix : List IndexEntry} (hi : BdE 900000 ix) {p : List UInt8} (hp : p.length ≤ 1000000) : Sh.plan_lay r ix p = some (layP r ix p) := by
  apply Ok.eq
  unfold Sh.plan_lay layP
  rw [cont20 _ _ (by omega), Option.bind_some]
  by_cases m : p ∈ r.conflicts
  · rw [if_pos (decide_eq_true m), if_pos m]
    refine gl_fold r.entries (layE p) ix _ ?_ ?_
    · intro i z i0 hi' hz s hs
      have hb : BdE 990000 s := by
        rw [hs]
        refine (BdE.lays p (r.entries.take i.toNat) _ _ hi fun e q => he e (List.mem_of_mem_take q)).mono ?_
        rw [List.length_take]; omega
      have hbn := hb.n
      dsimp only
      rw [if_pos hi', gl_atv i0 hz, Option.bind_some]
      unfold layE
      by_cases q : z.path = p
      · rw [if_pos q, if_pos q, put15 s z (by omega) (fun y hy => by have := hb.p y hy; omega) (by have := he z (List.mem_of_getElem? hz); omega), Option.bind_some]
        exact nx_gd ⟨by omega, by omega⟩ rfl
      · rw [if_neg q, if_neg q]
        exact nx_gd ⟨by omega, by omega⟩ rfl
    · intro s hs
      dsimp only
      rw [if_neg (by omega)]
      exact up_up (ok_some.2 hs)
  · rw [if_neg (by simp [m]), if_neg m, of20 hf.r hf.n, Option.bind_some]
    have hin := hi.n
    cases hg : gt r.files p with
    | none => rw [one_none hg, if_pos (by rfl), ok_some]
    | some f =>
      rw [one_some hg, if_neg (by simp), put15 ix ⟨p, 0, f.mode, f.data, 0, 0⟩ (by omega) (fun y hy => by have := hi.p y hy; omega) (by show p.length ≤ _; omega), Option.bind_some, ok_some]
def applyP (all : List (List UInt8)) (h : List FilesFile) (r : TmergeResultP) (ix : List IndexEntry) (w : List FilesFile) : List IndexEntry × List FilesFile × Err :=
  if 0 < (lostP all h r ix w).length then (ix, w, Err.fault [112, 97, 116, 104] (lostP all h r ix w).length (Err.no 8))
  else (all.foldl (layP r) (dropsE all ix), putsF r.files all (cutsF all w), Err.nil)
theorem drops_eq : ∀ (ps : List (List UInt8)) (x : List IndexEntry), dropsE ps x = x.filter fun z => !decide (z.path ∈ ps)
  | [], x => by simp [dropsE, List.filter_eq_self.2]
  | p :: r, x => by
    show dropsE r _ = _
    rw [drops_eq r, List.filter_filter]
    congr 1
    funext z
    by_cases a : z.path = p <;> by_cases b : z.path ∈ r <;> simp [a, b]
theorem drops_len (ps : List (List UInt8)) (x : List IndexEntry) : (dropsE ps x).length ≤ x.length := by
  rw [drops_eq]; exact List.length_filter_le _ _
theorem drops_mem {ps : List (List UInt8)} {x : List IndexEntry} {z : IndexEntry} (h : z ∈ dropsE ps x) : z ∈ x := by
  rw [drops_eq] at h; exact (List.mem_filter.1 h).1
theorem apply20 {h w : List FilesFile} {r : TmergeResultP} {ix : List IndexEntry} (hh : Bd h) (hf : Bd r.files) (hw : Bd w) (hi : GoodI ix) (hib : BdE 100000 ix) (hc : r.conflicts.length ≤ 1000000) (hcp : ∀ p ∈ r.conflicts, p.length ≤ 1000000) (hel : r.entries.length ≤ 90000) (he : ∀ e ∈ r.entries, e.path.length ≤ 1000000)
    (hn : (touchedP h r).length * (r.entries.length + 1) ≤ 800000) : Sh.plan_Apply h r ix w = some (applyP (touchedP h r) h r ix w) := by
  apply Ok.eq
  have hin := hib.n
  have hwn := hw.n
  unfold Sh.plan_Apply applyP
  rw [lost20 hh hf hw hi (by omega) hc hcp, Option.bind_some]
  generalize lostP (touchedP h r) h r ix w = l
  by_cases q : 0 < l.length
  · rw [if_pos (by omega), if_pos q, clone15 (by omega), Option.bind_some, clip15, Option.bind_some, clone14 (by omega), Option.bind_some, clip14, Option.bind_some, ok_some]
  · rw [if_neg (by omega), if_neg q, touched20 hh hf hc, Option.bind_some, clone15 (by omega), Option.bind_some, clone14 (by omega), Option.bind_some]
    have hap := touched_path hh hf hcp
    have hal : (touchedP h r).length ≤ 3000000 := by
      have := touched_len h r
      have h1 := hh.n
      have h2 := hf.n
      omega
    generalize touchedP h r = all at hap hal hn ⊢
    refine gl_fold2 all (fun l p => l.filter fun z => !decide (z.path = p)) (fun x p => x.filter fun z => !decide (z.path = p)) ix w _ ?_ ?_
    · intro i z i0 hi' hz s t hs ht
      have hsl : s.length ≤ 100000 := by
        rw [hs]; exact Nat.le_trans (drops_len _ ix) hin
      have htl : t.length ≤ 1000000 := by
        rw [ht]; exact Nat.le_trans (cuts_len _ w) hwn
      dsimp only
      rw [if_pos hi', gl_atv i0 hz, Option.bind_some, drop15 s z (by omega), Option.bind_some, cut14 z (by omega), Option.bind_some]
      exact nx_gd ⟨by omega, by omega⟩ rfl
    · intro s t hs ht
      have hs : s = dropsE all ix := hs
      have ht : t = cutsF all w := ht
      dsimp only
      rw [if_neg (by omega)]
      refine up_up ?_
      have hsb : BdE 100000 s := ⟨by rw [hs]; exact Nat.le_trans (drops_len _ ix) hin, fun z hz => hib.p z (by rw [hs] at hz; exact drops_mem hz)⟩
      have htR : R t := by rw [ht]; exact cuts_R hw.r all
      have htl : t.length ≤ 1000000 := by rw [ht]; exact Nat.le_trans (cuts_len _ w) hwn
      refine gl_fold2 all (layP r) (fun x p => putO x (gt r.files p)) s t _ ?_ ?_
      · intro i z i0 hi' hz u v hu hv
        have hzp := hap z (List.mem_of_getElem? hz)
        have hub : BdE 900000 u := by
          rw [hu]
          refine (BdE.layPs he (all.take i.toNat) _ _ hsb fun p hp => hap p (List.mem_of_mem_take hp)).mono ?_
          have h1 : (all.take i.toNat).length ≤ all.length := by rw [List.length_take]; omega
          have h2 := Nat.mul_le_mul_right (r.entries.length + 1) h1
          omega
        have hvR : R v := by rw [hv]; exact puts_R _ _ htR
        have hvl : v.length ≤ 5000000 := by
          have := puts_len (rf := r.files) (all.take i.toNat) t
          have h1 : (all.take i.toNat).length ≤ all.length := by rw [List.length_take]; omega
          rw [hv]
          refine Nat.le_trans this ?_
          omega
        dsimp only
        rw [if_pos hi', gl_atv i0 hz, Option.bind_some, lay20 hf hc hel he hub hzp, Option.bind_some, of20 hf.r hf.n, Option.bind_some]
        cases hg : gt r.files z with
        | none =>
          rw [one_none hg, if_neg (by simp)]
          exact nx_gd ⟨by omega, by omega⟩ rfl
        | some f =>
          rw [one_some hg, if_pos (by rfl), put14 hvR (by omega), Option.bind_some]
          exact nx_gd ⟨by omega, by omega⟩ rfl
      · intro u v hu hv
        dsimp only
        rw [if_neg (by omega)]
        refine up_up ?_
        rw [clip15, Option.bind_some, clip14, Option.bind_some, ok_some, hu, hv, hs, ht]; rfl
theorem iof20 (l : List FilesFile) (hb : l.length ≤ 1000000) : Sh.index_Of l = some (l.map entE) := by
  apply Ok.eq
  unfold Sh.index_Of
  refine gl_app l (fun _ => true) entE [] _ ?_ ?_
  · intro i z i0 hi hz s hs
    simp only [List.length_nil] at hs
    dsimp only
    rw [if_pos hi, gl_atv i0 hz, Option.bind_some]
    simp only [ok_lt, ok_gd]
    exact ⟨by simp only [List.length_cons, List.length_nil]; omega, ⟨by omega, by omega⟩, nx_go rfl⟩
  · intro s hs
    dsimp only
    rw [if_neg (by omega)]
    refine up_up ?_
    rw [clip15, Option.bind_some, ok_some, hs, List.filter_eq_self.2 (fun _ _ => rfl)]; rfl
theorem known20 (ix : List IndexEntry) (p : List UInt8) (hb : ix.length ≤ 1000000) : Sh.plan_known ix p = some (ix.any fun e => decide (e.path = p)) := by
  apply Ok.eq
  unfold Sh.plan_known Sh.slices_ContainsFunc_index_Entry_index_Entry
  rw [ok_bd, ok_bd]
  refine (ixloop (fun e => decide (e.path = p)) ix (by omega) (fun z => Sh.plan_known_1 z p) (fun z hz => rfl) _ fun i => rfl).mono ?_
  intro x hx
  rw [ok_some, ok_some, fst_any hx]
def outF (h : List FilesFile) (ix : List IndexEntry) (z : FilesFile) : Bool := decide (gt h z.path = none) && !ix.any fun e => decide (e.path = z.path)
theorem force20 {h to w : List FilesFile} {ix : List IndexEntry} (hh : Bd h) (ht : Bd to) (hw : Bd w) (hib : ix.length ≤ 1000000) : Sh.plan_Force h to ix w = some (to.map entE, forceF to (w.filter (outF h ix))) := by
  apply Ok.eq
  unfold Sh.plan_Force
  have hwn := hw.n
  have htn := ht.n
  refine gl_app w (outF h ix) (fun z => z) [] _ ?_ ?_
  · intro i z i0 hi hz s hs
    simp only [List.length_nil] at hs
    dsimp only
    rw [if_pos hi, gl_atv i0 hz, Option.bind_some]
    refine ok_jnP (fun b => b = outF h ix z) ?_ ?_
    · rintro b rfl
      cases outF h ix z with
      | true =>
        rw [if_pos (by rfl)]
        simp only [ok_lt, ok_gd]
        exact ⟨by simp only [List.length_cons, List.length_nil]; omega, ⟨by omega, by omega⟩, nx_go rfl⟩
      | false =>
        rw [if_neg (by simp)]
        exact nx_gd ⟨by omega, by omega⟩ rfl
    · intro K hK
      rw [of20 hh.r hh.n, Option.bind_some]
      unfold outF at hK
      cases hg : gt h z.path with
      | none =>
        rw [one_none hg, if_pos (by rfl), known20 _ _ hib, Option.bind_some]
        exact hK _ (by rw [hg]; rfl)
      | some f =>
        rw [one_some hg, if_neg (by simp)]
        exact hK _ (by rw [hg]; rfl)
  · intro s hs
    rw [List.nil_append, List.map_id'] at hs
    dsimp only
    rw [if_neg (by omega)]
    refine up_up ?_
    have hsR : R s := by rw [hs]; exact hw.r.sub List.filter_sublist
    have hsl : s.length ≤ 1000000 := by rw [hs]; exact Nat.le_trans (List.length_filter_le _ _) hwn
    have hsp : ∀ z ∈ s, z.path.length ≤ 1000000 := fun z hz => hw.p z (by rw [hs] at hz; exact (List.mem_filter.1 hz).1)
    refine gl_fold to stepF s _ ?_ ?_
    · intro i z i0 hi hz u hu
      have hu : u = forceF (to.take i.toNat) s := hu
      have huR : R u := by rw [hu]; exact force_R _ _ hsR
      have hul : u.length ≤ 3000000 := by
        rw [hu]
        refine Nat.le_trans (force_len _ _) ?_
        rw [List.length_take]; omega
      have hzp := ht.p z (List.mem_of_getElem? hz)
      have hup : ∀ y ∈ u, y.path.length ≤ 1000000 := fun y hy => by
        rw [hu] at hy
        rcases force_mem _ _ _ hy with q | q
        · exact ht.p y (List.mem_of_mem_take q)
        · exact hsp y q
      dsimp only
      rw [if_pos hi, gl_atv i0 hz, Option.bind_some, clear14 z.path (by omega) (fun y hy => by have := hup y hy; omega) (by omega), Option.bind_some, put14 (huR.sub List.filter_sublist) (by have := List.length_filter_le (fun y : FilesFile => !clashS y.path z.path) u; omega), Option.bind_some]
      exact nx_gd ⟨by omega, by omega⟩ rfl
    · intro u hu
      dsimp only
      rw [if_neg (by omega)]
      refine up_up ?_
      rw [iof20 to htn, Option.bind_some, clip14, Option.bind_some, ok_some, hu, hs]; rfl
end Go.S
end

section
namespace Go.S
open Go
theorem knownL20 : Sh.rectolaw20_known = some true := by decide +kernel
theorem few15p (l : List IndexEntry) : Ok (Sh.rectolaw15_Few l) fun b => b = true → l.length ≤ 80 ∧ ∀ f ∈ l, f.path.length ≤ 100 := by
  unfold Sh.rectolaw15_Few
  simp only [ok_if, ok_some]
  refine ⟨fun _ h => (by cases h), fun hl => ?_⟩
  refine ok_iter (I := fun i => 0 ≤ i ∧ i ≤ l.length ∧ ∀ f ∈ l.take i.toNat, f.path.length ≤ 100) (μ := fun i => (l.length - i).toNat) ?_ ⟨by omega, by omega, by simp⟩
  rintro i ⟨i0, i1, i2⟩
  simp only [ok_if, ok_up, ok_some]
  refine ⟨fun hi => ?_, fun hi _ => ⟨by omega, by rw [List.take_of_length_le (by omega)] at i2; exact i2⟩⟩
  obtain ⟨z, hz⟩ := at_get (l := l) i0 hi
  refine ok_jnP (fun b => b = false → z.path.length ≤ 100) ?_ ?_
  · intro b hb
    simp only [ok_if, ok_up, ok_gd, ok_go, ok_some]
    refine ⟨fun _ h => (by cases h), fun h => ⟨⟨by omega, by omega⟩, ⟨by omega, by omega, fun f hf => ?_⟩, by omega⟩⟩
    rw [take_snoc i0 hz] at hf
    rcases List.mem_append.1 hf with q | q
    · exact i2 f q
    · rw [List.mem_singleton.1 q]; exact hb (by simpa using h)
  · intro K hK
    simp only [ok_bd, ok_at, ok_if]
    exact ⟨i0, z, hz, fun _ => hK _ fun h => (by cases h), fun h => ⟨i0, z, hz, hK _ fun _ => by omega⟩⟩
structure FewP (h : List FilesFile) (r : TmergeResultP) (ix : List IndexEntry) (w : List FilesFile) : Prop where
  h : h.length ≤ 64 ∧ GoodF h
  f : r.files.length ≤ 64 ∧ GoodF r.files
  w : w.length ≤ 64 ∧ GoodF w
  i : ix.length ≤ 80 ∧ GoodI ix
  e : r.entries.length ≤ 80 ∧ GoodI r.entries
  c : r.conflicts.length ≤ 40 ∧ confS r.entries = r.conflicts
theorem fw {c P : Prop} [Decidable c] {o : Option Bool} (h : c → Ok o fun b => b = true → P) : Ok (if c then o else some false) (fun b => b = true → P) := by
  split
  · exact h ‹_›
  · exact ok_some.2 fun q => by cases q
theorem few20 (h : List FilesFile) (r : TmergeResultP) (ix : List IndexEntry) (w : List FilesFile) : Ok (Sh.rectolaw20_Few h r ix w) fun b => b = true → FewP h r ix w := by
  unfold Sh.rectolaw20_Few
  refine ok_bd.2 ((few14 h).mono fun b1 h1 => fw fun q1 => ?_)
  refine ok_bd.2 ((few14 r.files).mono fun b2 h2 => fw fun q2 => ?_)
  refine ok_bd.2 ((few15p r.entries).mono fun b3 h3 => fw fun q3 => ?_)
  refine fw fun q4 => ?_
  refine ok_bd.2 ((few15p ix).mono fun b5 h5 => fw fun q5 => ?_)
  refine ok_bd.2 ((few14 w).mono fun b6 h6 => fw fun q6 => ?_)
  obtain ⟨a1, a2⟩ := h1 q1
  obtain ⟨b1, b2⟩ := h2 q2
  obtain ⟨c1, c2⟩ := h3 q3
  obtain ⟨d1, d2⟩ := h5 q5
  obtain ⟨e1, e2⟩ := h6 q6
  refine ok_bd.2 ((check14 (x := h) (by omega) fun z hz => by have := a2 z hz; omega).mono fun b7 h7 => fw fun q7 => ?_)
  refine ok_bd.2 ((check14 (x := r.files) (by omega) fun z hz => by have := b2 z hz; omega).mono fun b8 h8 => fw fun q8 => ?_)
  refine ok_bd.2 ((checkC15 (x := ix) (by omega) fun z hz => by have := d2 z hz; omega).mono fun b9 h9 => fw fun q9 => ?_)
  refine ok_bd.2 ((check14 (x := w) (by omega) fun z hz => by have := e2 z hz; omega).mono fun b10 h10 => fw fun q10 => ?_)
  refine ok_bd.2 ((checkC15 (x := r.entries) (by omega) fun z hz => by have := c2 z hz; omega).mono fun b11 h11 => fw fun q11 => ?_)
  have hcl := confS_len r.entries
  rw [conf20 _ (by omega), Option.bind_some, texts14 _ _ (by omega), Option.bind_some, ok_some]
  exact fun q => ⟨h7.1 q7, h8.1 q8, h10.1 q10, ⟨d1, (h9 q9).2⟩, ⟨c1, (h11 q11).2⟩, ⟨by omega, of_decide_eq_true q⟩⟩
theorem GoodF.bd {x : List FilesFile} (h : x.length ≤ 64 ∧ GoodF x) : Bd x := ⟨h.2.r, by omega, fun f hf => by have := checkP_len (h.2.v f hf).1; omega⟩
theorem GoodI.bd {x : List IndexEntry} (h : x.length ≤ 80 ∧ GoodI x) : BdE 100000 x := ⟨by omega, fun f hf => by have := checkP_len (h.2.v f hf).1; omega⟩
theorem conf_mem {l : List IndexEntry} {p : List UInt8} : p ∈ confS l ↔ ∃ e ∈ l, e.stage ≠ 0 ∧ e.path = p := by
  unfold confS
  rw [keysS_mem, List.mem_map]
  constructor
  · rintro ⟨e, he, q⟩
    exact ⟨e, (List.mem_filter.1 he).1, by simpa using (List.mem_filter.1 he).2, q⟩
  · rintro ⟨e, he, h0, q⟩
    exact ⟨e, List.mem_filter.2 ⟨he, by simpa using h0⟩, q⟩
theorem FewP.cp {h : List FilesFile} {r : TmergeResultP} {ix : List IndexEntry} {w : List FilesFile} (F : FewP h r ix w) : ∀ p ∈ r.conflicts, p.length ≤ 1000000 := fun p hp => by
  rw [← F.c.2] at hp
  obtain ⟨e, he, _, q⟩ := conf_mem.1 hp
  rw [← q]
  exact (GoodI.bd F.e).p e he
theorem FewP.apply {h : List FilesFile} {r : TmergeResultP} {ix : List IndexEntry} {w : List FilesFile} (F : FewP h r ix w) : Sh.plan_Apply h r ix w = some (applyP (touchedP h r) h r ix w) := by
  have hc := F.c.1
  have he := F.e.1
  refine apply20 (GoodF.bd F.h) (GoodF.bd F.f) (GoodF.bd F.w) F.i.2 (GoodI.bd F.i) (by omega) F.cp (by omega) (GoodI.bd F.e).p ?_
  have h1 := touched_len h r
  have h2 := F.h.1
  have h3 := F.f.1
  have h4 := Nat.mul_le_mul (show (touchedP h r).length ≤ 200 by omega) (show r.entries.length + 1 ≤ 100 by omega)
  omega
theorem keys_nil {l : List (List UInt8)} (h : ¬ 0 < (keysS l).length) : ∀ y, y ∉ l := fun y hy => by
  have := (keysS_mem l y).2 hy
  have := List.length_pos_of_mem this
  omega
theorem lost_nil {all : List (List UInt8)} {h : List FilesFile} {r : TmergeResultP} {ix : List IndexEntry} {w : List FilesFile} (hl : ¬ 0 < (lostP all h r ix w).length) : (∀ p ∈ all, safeP h ix w p = true) ∧ ∀ z ∈ w, lostW r all z = false := by
  have hn := keys_nil hl
  refine ⟨fun p hp => ?_, fun z hz => ?_⟩
  · cases q : safeP h ix w p with
    | true => rfl
    | false => exact absurd (List.mem_append.2 (.inl (List.mem_filter.2 ⟨hp, by simp [q]⟩))) (hn p)
  · cases q : lostW r all z with
    | false => rfl
    | true => exact absurd (List.mem_append.2 (.inr (List.mem_map.2 ⟨z, List.mem_filter.2 ⟨hz, q⟩, rfl⟩))) (hn z.path)
theorem nil_lost {all : List (List UInt8)} {h : List FilesFile} {r : TmergeResultP} {ix : List IndexEntry} {w : List FilesFile} (h1 : ∀ p ∈ all, safeP h ix w p = true) (h2 : ∀ z ∈ w, lostW r all z = false) : lostP all h r ix w = [] := by
  unfold lostP
  rw [List.filter_eq_nil_iff.2 fun p hp => by simp [h1 p hp], List.filter_eq_nil_iff.2 fun p hp => by simp [h2 p hp]]
  rfl
theorem rstage20 (l : List IndexEntry) (n : Int) (hb : l.length ≤ 1000000) : Sh.rectoref14_Stage (l.map toE) n = some ((stF n l).map toF) := by
  apply Ok.eq
  unfold Sh.rectoref14_Stage
  have e : (stF n l).map toF = (l.filter fun z => decide (z.stage = n)).map fun z => toF ⟨z.path, z.mode, z.data⟩ := by
    unfold stF; rw [List.map_map]; rfl
  rw [e]
  have hlen : (l.map toE).length = l.length := List.length_map ..
  simp only [hlen]
  refine gl_app l (fun z => decide (z.stage = n)) (fun z => toF ⟨z.path, z.mode, z.data⟩) [] _ ?_ ?_
  · intro i z i0 hi hz s hs
    simp only [List.length_nil] at hs
    dsimp only
    rw [if_pos hi]
    refine ok_jnP (fun o => o = if decide (z.stage = n) = true then s ++ [toF ⟨z.path, z.mode, z.data⟩] else s) ?_ ?_
    · rintro o rfl
      exact nx_gd ⟨by omega, by omega⟩ rfl
    · intro K hK
      rw [gl_atv i0 (gl_map toE hz), Option.bind_some]
      by_cases q : z.stage = n
      · rw [if_pos (show (toE z).stage = n from q), Option.bind_some, Option.bind_some, Option.bind_some]
        simp only [ok_lt, ok_gd]
        exact ⟨by simp only [List.length_cons, List.length_nil]; omega, hK _ (by rw [if_pos (decide_eq_true q)]; rfl)⟩
      · rw [if_neg (show ¬ (toE z).stage = n from q)]
        exact hK _ (by rw [if_neg (by simp [q])])
  · intro s hs
    dsimp only
    rw [if_neg (by omega)]
    exact up_up (ok_some.2 hs)
theorem like20 (a b : List FilesFile) (la : a.length ≤ 1000000000) (lb : b.length ≤ 1000000000) (p : List UInt8) : Sh.rectoref14_Like (a.map toF) (b.map toF) p = some (decide (gt a p = gt b p)) := by
  unfold Sh.rectoref14_Like
  rw [getr14 a la, getr14 b lb, Option.bind_some, Option.bind_some]
  cases ha : gt a p with
  | none =>
    rw [getF_none ha]
    cases hb : gt b p with
    | none => rw [getF_none hb]; simp
    | some g => rw [getF_some hb]; simp
  | some f =>
    rw [getF_some ha]
    cases hb : gt b p with
    | none => rw [getF_none hb]; simp
    | some g =>
      rw [getF_some hb]
      by_cases h : f = g
      · subst h; simp
      · have : ¬ (f.path = g.path ∧ f.mode = g.mode ∧ f.data = g.data) := fun q => h (by cases f; cases g; simpa using q)
        simp [toF, this, h]
theorem planKeeps_ok (h : List FilesFile) (r : TmergeResultP) (ix : List IndexEntry) (w : List FilesFile) : Sh.rectolaw20_PlanKeeps h r ix w = some true := by
  apply Ok.eq
  unfold Sh.rectolaw20_PlanKeeps
  rw [knownL20, Option.bind_some, if_neg (by simp)]
  refine ok_bd.2 ((few20 h r ix w).mono fun b hb => ?_)
  cases b with
  | false => rw [if_pos (by rfl), ok_some]
  | true =>
    have F := hb rfl
    rw [if_neg (by simp), F.apply, Option.bind_some]
    have hW := GoodF.bd F.w
    have hwl := F.w.1
    have hil := F.i.1
    unfold applyP
    by_cases hl : 0 < (lostP (touchedP h r) h r ix w).length
    · rw [if_pos hl]
      dsimp only
      rw [if_neg (by simp [Err.isNil]), same14 _ _ (by omega), Option.bind_some, ok_some]
      exact decide_eq_true rfl
    · rw [if_neg hl]
      dsimp only
      rw [if_pos (by rfl), of15 (by omega), Option.bind_some, rstage20 _ _ (by omega), Option.bind_some]
      obtain ⟨hsafe, _⟩ := lost_nil hl
      have huR : R (putsF r.files (touchedP h r) (cutsF (touchedP h r) w)) := puts_R _ _ (cuts_R hW.r _)
      have hul : (putsF r.files (touchedP h r) (cutsF (touchedP h r) w)).length ≤ 100000 := by
        have h1 := puts_len (rf := r.files) (touchedP h r) (cutsF (touchedP h r) w)
        have h2 := cuts_len (touchedP h r) w
        have h3 := touched_len h r
        have h4 := F.h.1
        have h5 := F.f.1
        have h6 := F.c.1
        omega
      have hsl := stF_len 0 ix
      refine gl_chk w (fun _ => True) _ ?_ ?_
      · intro i z i0 hi hz _
        have hzm := List.mem_of_getElem? hz
        try dsimp only
        rw [if_pos hi]
        refine ok_jnP (fun _ => True) ?_ ?_
        · intro _ _
          exact ok_gd.2 ⟨⟨by omega, by omega⟩, ⟨_, rfl, .inl ⟨rfl, trivial⟩⟩⟩
        · intro K hK
          rw [gl_atv i0 hz, Option.bind_some, of14 w (by omega), Option.bind_some, like20 _ _ (by omega) (by omega), Option.bind_some]
          by_cases q : gt (stF 0 ix) z.path = gt w z.path
          · rw [if_pos (decide_eq_true q)]; exact hK () trivial
          · have hg : gt w z.path = some z := (gt_some hW.r).2 ⟨hzm, rfl⟩
            have hn : z.path ∉ touchedP h r := fun m => by
              have := hsafe _ m
              unfold safeP at this
              simp only [Bool.and_eq_true, decide_eq_true_eq] at this
              exact q this.1.1.symm
            have hu : getF (putsF r.files (touchedP h r) (cutsF (touchedP h r) w)) z.path = (z, true) := getF_some (by rw [gt_laid hW.r, if_neg hn, hg])
            rw [if_neg (by simp [q]), Option.bind_some, get14 huR (by omega), Option.bind_some, hu]
            refine ok_jnP (fun b => b = false) ?_ ?_
            · rintro b rfl
              rw [if_neg (by simp)]; exact hK () trivial
            · intro K2 hK2
              rw [if_neg (by simp)]
              exact hK2 _ (by simp)
      · intro _
        try dsimp only
        rw [if_neg (by omega)]
        exact up_up (ok_some.2 rfl)
end Go.S
end

section
namespace Go.S
open Go
theorem good_clash {x : List FilesFile} (h : GoodF x) {a b : FilesFile} (ha : a ∈ x) (hb : b ∈ x) : clashS a.path b.path = false := by
  obtain ⟨i, hi⟩ := List.getElem?_of_mem ha
  obtain ⟨j, hj⟩ := List.getElem?_of_mem hb
  obtain ⟨hi1, hi2⟩ := List.getElem?_eq_some_iff.1 hi
  obtain ⟨hj1, hj2⟩ := List.getElem?_eq_some_iff.1 hj
  rcases Nat.lt_trichotomy i j with q | q | q
  · have := List.pairwise_iff_getElem.1 h.c i j hi1 hj1 q
    rwa [hi2, hj2] at this
  · subst q
    rw [← hi2, ← hj2]; exact clash_self _
  · have := List.pairwise_iff_getElem.1 h.c j i hj1 hi1 q
    rw [hi2, hj2] at this
    rw [clash_comm]; exact this
theorem ent_good {a : List FilesFile} (h : GoodF a) : GoodI (a.map entE) := by
  refine ⟨fun e he => ?_, ?_⟩
  · obtain ⟨f, hf, rfl⟩ := List.mem_map.1 he
    obtain ⟨h1, h2, h3⟩ := h.v f hf
    exact ⟨h1, by show (0 : Int) ≤ 0; omega, by show (0 : Int) ≤ 3; omega, h2, h3, by show (0 : Int) ≤ 0; omega, by show (0 : Int) ≤ 0; omega⟩
  · rw [List.pairwise_map]
    refine List.Pairwise.imp_of_mem ?_ h.r
    intro x y hx hy hxy
    exact ⟨.inl hxy, fun q => List.lt_irrefl _ (show y.path < y.path from (show x.path = y.path from q.1) ▸ hxy), good_clash h hx hy⟩
theorem stF_ent (a : List FilesFile) : stF 0 (a.map entE) = a := by
  unfold stF
  rw [List.filter_eq_self.2 (fun e he => by obtain ⟨f, _, rfl⟩ := List.mem_map.1 he; rfl), List.map_map]
  exact List.map_id' _
theorem conf_ent (a : List FilesFile) (p : List UInt8) : p ∉ confS (a.map entE) := fun h => by
  obtain ⟨e, he, h0, _⟩ := conf_mem.1 h
  obtain ⟨f, _, rfl⟩ := List.mem_map.1 he
  exact h0 rfl
theorem safe_ent (a : List FilesFile) (p : List UInt8) : safeP a (a.map entE) a p = true := by
  unfold safeP
  rw [stF_ent, decide_eq_true rfl, decide_eq_false (conf_ent a p)]; rfl
theorem lostW_ent {a b : List FilesFile} (ha : GoodF a) (hb : GoodF b) {z : FilesFile} (hz : z ∈ a) : lostW ⟨b, [], []⟩ (touchedP a ⟨b, [], []⟩) z = false := by
  unfold lostW
  split
  · rfl
  · next hn =>
    have hzb : ∃ y ∈ b, y.path = z.path := by
      by_cases m : z.path ∈ touchedP a ⟨b, [], []⟩
      · cases hg : gt b z.path with
        | none => exact absurd ⟨m, hg⟩ hn
        | some y => exact ⟨y, (gt_some hb.r).1 hg⟩
      · have hq : gt a z.path = gt b z.path := by
          by_cases q : gt a z.path = gt b z.path
          · exact q
          · exact absurd (touched_mem.2 (.inl q)) m
        have hg : gt a z.path = some z := (gt_some ha.r).2 ⟨hz, rfl⟩
        rw [hg] at hq
        exact ⟨z, ((gt_some hb.r).1 hq.symm).1, rfl⟩
    obtain ⟨y, hy, e⟩ := hzb
    refine List.any_eq_false.2 fun p hp => ?_
    unfold hitP
    show ¬ ((gt b p).isSome && clashS p z.path) = true
    cases hg : gt b p with
    | none => simp
    | some g =>
      obtain ⟨hgm, rfl⟩ := (gt_some hb.r).1 hg
      rw [← e, good_clash hb hgm hy]; simp
theorem lays_ent {b : List FilesFile} (hb : GoodF b) : ∀ (ps : List (List UInt8)) (x : List FilesFile), R x → (∀ z ∈ x, z ∈ b) → ps.foldl (layP ⟨b, [], []⟩) (x.map entE) = (putsF b ps x).map entE
  | [], _, _, _ => rfl
  | p :: r, x, hx, hm => by
    have e : layP ⟨b, [], []⟩ (x.map entE) p = (putO x (gt b p)).map entE := by
      unfold layP
      rw [if_neg (by simp)]
      show (match gt b p with | none => x.map entE | some f => putP (x.map entE) ⟨p, 0, f.mode, f.data, 0, 0⟩) = _
      cases hg : gt b p with
      | none => rfl
      | some f =>
        obtain ⟨hfm, rfl⟩ := (gt_some hb.r).1 hg
        exact put_ent hx fun z hz => good_clash hb (hm z hz) hfm
    show r.foldl _ (layP ⟨b, [], []⟩ (x.map entE) p) = (putsF b r (putO x (gt b p))).map entE
    rw [e]
    refine lays_ent hb r _ (putO_R hx _) fun z hz => ?_
    cases hg : gt b p with
    | none => rw [hg] at hz; exact hm z hz
    | some f =>
      rw [hg] at hz
      rcases (putF_mem x f z).1 hz with q | ⟨q, _⟩
      · rw [q]; exact ((gt_some hb.r).1 hg).1
      · exact hm z q
theorem laid_all {a b : List FilesFile} (ha : GoodF a) (hb : GoodF b) : putsF b (touchedP a ⟨b, [], []⟩) (cutsF (touchedP a ⟨b, [], []⟩) a) = b := by
  refine R.extg (puts_R _ _ (cuts_R ha.r _)) hb.r fun q => ?_
  rw [gt_laid ha.r]
  split
  · rfl
  · next m =>
    by_cases k : gt a q = gt b q
    · exact k
    · exact absurd (touched_mem.2 (.inl k)) m
theorem apply_ent {a b : List FilesFile} (ha : GoodF a) (hb : GoodF b) : applyP (touchedP a ⟨b, [], []⟩) a ⟨b, [], []⟩ (a.map entE) a = (b.map entE, b, Err.nil) := by
  unfold applyP
  rw [nil_lost (fun p _ => safe_ent a p) (fun z hz => lostW_ent ha hb hz), if_neg (by simp)]
  show (List.foldl (layP ⟨b, [], []⟩) _ _, putsF b _ _, Err.nil) = _
  rw [drops_ent, lays_ent hb _ _ (cuts_R ha.r _) ?_, laid_all ha hb]
  intro z hz
  rw [cuts_eq] at hz
  obtain ⟨h1, h2⟩ := List.mem_filter.1 hz
  have m : z.path ∉ touchedP a ⟨b, [], []⟩ := by simpa using h2
  have hq : gt a z.path = gt b z.path := by
    by_cases q : gt a z.path = gt b z.path
    · exact q
    · exact absurd (touched_mem.2 (.inl q)) m
  rw [(gt_some ha.r).2 ⟨h1, rfl⟩] at hq
  exact ((gt_some hb.r).1 hq.symm).1
theorem force_ent {a b : List FilesFile} (ha : GoodF a) (hb : GoodF b) : forceF b (a.filter (outF a (a.map entE))) = b := by
  have e : a.filter (outF a (a.map entE)) = [] := List.filter_eq_nil_iff.2 fun z hz => by
    unfold outF
    rw [(gt_some ha.r).2 ⟨hz, rfl⟩]; simp
  rw [e]
  refine R.ext (force_R b [] (by simp [R])) hb.r fun z => ⟨fun h => ?_, fun h => ?_⟩
  · rcases force_mem b [] z h with q | q
    · exact q
    · cases q
  · exact ((gt_some (force_R b [] (by simp [R]))).1 (force_get b [] (by simp [R]) hb z h)).1
theorem same15 {x : List IndexEntry} (h : x.length ≤ 1000000) : Sh.index_Same x x = some true := by
  unfold Sh.index_Same Sh.slices_EqualFunc_index_Entry_index_Entry_index_Entry_index_Entry
  rw [if_pos (by rfl)]
  have : ∀ z : IndexEntry, Sh.index_Same_1 z z = some true := fun z => by unfold Sh.index_Same_1; simp
  apply Ok.eq
  refine ok_bd.2 (Ok.mono (Q := fun b => b = true) ?_ fun b hb => ok_some.2 hb)
  refine gl_chk x (fun _ => True) _ ?_ ?_
  · intro i z i0 hi hz _
    rw [if_pos hi, gl_atv i0 hz, Option.bind_some, Option.bind_some]
    show Ok ((Sh.index_Same_1 z z).bind _) _
    rw [this, Option.bind_some, if_neg (by simp)]
    exact ok_gd.2 ⟨⟨by omega, by omega⟩, ⟨_, rfl, .inl ⟨rfl, trivial⟩⟩⟩
  · intro _
    rw [if_neg (by omega)]
    exact up_up (ok_some.2 rfl)
theorem planClean_ok (a b : List FilesFile) : Sh.rectolaw20_PlanClean a b = some true := by
  apply Ok.eq
  unfold Sh.rectolaw20_PlanClean
  rw [knownL20, Option.bind_some, if_neg (by simp)]
  refine ok_jnP (fun x => x = false → (a.length ≤ 64 ∧ GoodF a) ∧ b.length ≤ 64 ∧ GoodF b) ?_ ?_
  · intro x hx
    cases x with
    | true => rw [if_pos (by rfl), ok_some]
    | false =>
      obtain ⟨hA, hB⟩ := hx rfl
      have ba := GoodF.bd hA
      have bb := GoodF.bd hB
      have hal := hA.1
      have hbl := hB.1
      have hm : (a.map entE).length = a.length := List.length_map ..
      have hm2 : (b.map entE).length = b.length := List.length_map ..
      have hI := ent_good hA.2
      have hap : Sh.plan_Apply a ⟨b, [], []⟩ (a.map entE) a = some (b.map entE, b, Err.nil) := by
        rw [apply20 ba bb ba hI ⟨by omega, fun e he => by obtain ⟨f, hf, rfl⟩ := List.mem_map.1 he; exact ba.p f hf⟩ (by simp) (by simp) (by simp) (by simp) ?_, apply_ent hA.2 hB.2]
        have h1 := touched_len a ⟨b, [], []⟩
        simp only [List.length_nil] at h1 ⊢
        omega
      rw [if_neg (by simp), iof20 a (by omega), Option.bind_some, hap, Option.bind_some, Option.bind_some, force20 ba bb ba (by omega), Option.bind_some, force_ent hA.2 hB.2]
      dsimp only
      rw [if_pos (by rfl), same14 b b (by omega), Option.bind_some, if_pos (by simp), Option.bind_some, if_pos (by simp), iof20 b (by omega), Option.bind_some, same15 (by omega), Option.bind_some, if_pos (by rfl), Option.bind_some, of15 (by omega), Option.bind_some, all15 (by omega), Option.bind_some, if_pos (by rfl), Option.bind_some]
      rw [lost20 ba bb ba hI (by omega) (by simp) (by simp), Option.bind_some, nil_lost (fun p _ => safe_ent a p) (fun z hz => lostW_ent hA.2 hB.2 hz), ok_some]
      rfl
  · intro K hK
    refine ok_bd.2 ((few14 a).mono fun b1 h1 => ?_)
    rw [ok_if]
    refine ⟨fun _ => hK _ (by simp), fun q1 => ok_bd.2 ((few14 b).mono fun b2 h2 => ?_)⟩
    rw [ok_if]
    refine ⟨fun _ => hK _ (by simp), fun q2 => ?_⟩
    obtain ⟨a1, a2⟩ := h1 (by simpa using q1)
    obtain ⟨c1, c2⟩ := h2 (by simpa using q2)
    refine ok_bd.2 ((check14 (x := a) (by omega) fun z hz => by have := a2 z hz; omega).mono fun b3 h3 => ?_)
    rw [ok_if]
    refine ⟨fun q3 => ok_bd.2 ((check14 (x := b) (by omega) fun z hz => by have := c2 z hz; omega).mono fun b4 h4 => ?_), fun _ => hK _ (by simp)⟩
    exact hK _ fun q => ⟨h3.1 q3, h4.1 (by simpa using q)⟩
theorem rcut20 (l : List FilesFile) (p : List UInt8) (hb : l.length ≤ 100000000) : Sh.rectoref14_Cut (l.map toF) p = some ((l.filter fun z => !decide (z.path = p)).map toF) := by
  apply Ok.eq
  unfold Sh.rectoref14_Cut
  have hlen : (l.map toF).length = l.length := List.length_map ..
  simp only [hlen]
  refine gl_app l (fun z => !decide (z.path = p)) toF [] _ ?_ ?_
  · intro i z i0 hi hz s hs
    simp only [List.length_nil] at hs
    dsimp only
    rw [if_pos hi]
    refine ok_jnP (fun o => o = if (!decide (z.path = p)) = true then s ++ [toF z] else s) ?_ ?_
    · rintro o rfl
      exact nx_gd ⟨by omega, by omega⟩ rfl
    · intro K hK
      rw [gl_atv i0 (gl_map toF hz), Option.bind_some]
      by_cases q : z.path = p
      · rw [if_pos (show (toF z).path = p from q)]
        exact hK _ (by rw [if_neg (by simp [q])])
      · rw [if_neg (show ¬ (toF z).path = p from q), Option.bind_some]
        simp only [ok_lt, ok_gd]
        exact ⟨by simp only [List.length_cons, List.length_nil]; omega, hK _ (by rw [if_pos (by simp [q])])⟩
  · intro s hs
    dsimp only
    rw [if_neg (by omega)]
    exact up_up (ok_some.2 hs)
theorem rclear20 (l : List FilesFile) (p : List UInt8) (hb : l.length ≤ 100000000) (hl : ∀ z ∈ l, z.path.length ≤ 1000000) (hp : p.length ≤ 1000000) : Sh.rectoref14_Clear (l.map toF) p = some ((l.filter fun z => !clashS z.path p).map toF) := by
  apply Ok.eq
  unfold Sh.rectoref14_Clear
  have hlen : (l.map toF).length = l.length := List.length_map ..
  simp only [hlen]
  refine gl_app l (fun z => !clashS z.path p) toF [] _ ?_ ?_
  · intro i z i0 hi hz s hs
    simp only [List.length_nil] at hs
    dsimp only
    rw [if_pos hi]
    refine ok_jnP (fun o => o = if (!clashS z.path p) = true then s ++ [toF z] else s) ?_ ?_
    · rintro o rfl
      exact nx_gd ⟨by omega, by omega⟩ rfl
    · intro K hK
      have hzp := hl z (List.mem_of_getElem? hz)
      have hc : Sh.rectoref1_Clash (toF z).path p = some (clashS z.path p) := rclash_ok (a := z.path) (by omega) (by omega)
      rw [gl_atv i0 (gl_map toF hz), Option.bind_some, hc, Option.bind_some]
      generalize clashS z.path p = c at hK ⊢
      cases c with
      | true =>
        rw [if_neg (by simp)]
        exact hK _ (by rw [if_neg (by simp)])
      | false =>
        rw [if_pos (by rfl), Option.bind_some]
        simp only [ok_lt, ok_gd]
        exact ⟨by simp only [List.length_cons, List.length_nil]; omega, hK _ (by rw [if_pos (by rfl)])⟩
  · intro s hs
    dsimp only
    rw [if_neg (by omega)]
    exact up_up (ok_some.2 hs)
theorem riof20 (l : List FilesFile) (hb : l.length ≤ 1000000) : Sh.rectoref14_Of (l.map toF) = some ((l.map entE).map toE) := by
  apply Ok.eq
  unfold Sh.rectoref14_Of
  have hlen : (l.map toF).length = l.length := List.length_map ..
  simp only [hlen]
  refine gl_app l (fun _ => true) (fun z => toE (entE z)) [] _ ?_ ?_
  · intro i z i0 hi hz s hs
    simp only [List.length_nil] at hs
    dsimp only
    rw [if_pos hi, gl_atv i0 (gl_map toF hz), Option.bind_some, Option.bind_some, Option.bind_some]
    simp only [ok_lt, ok_gd]
    exact ⟨by simp only [List.length_cons, List.length_nil]; omega, ⟨by omega, by omega⟩, nx_go rfl⟩
  · intro s hs
    dsimp only
    rw [if_neg (by omega)]
    refine up_up (ok_some.2 ?_)
    rw [hs, List.filter_eq_self.2 (fun _ _ => rfl), List.map_map]; rfl
def cutR (x : List Rectoref14File) (p : List UInt8) : List Rectoref14File := x.filter fun z => !decide (z.path = p)
def stepR (x : List Rectoref14File) (f : FilesFile) : List Rectoref14File := (stepF (x.map ofF) f).map toF
theorem ofto (x : List FilesFile) : (x.map toF).map ofF = x := by rw [List.map_map]; exact List.map_id' _
theorem cuts_map : ∀ (qs : List (List UInt8)) (x : List FilesFile), qs.foldl cutR (x.map toF) = (cutsF qs x).map toF
  | [], _ => rfl
  | p :: r, x => by
    rw [List.foldl_cons]
    unfold cutR
    rw [List.filter_map]
    exact cuts_map r _
theorem force_map : ∀ (qs : List FilesFile) (x : List FilesFile), qs.foldl stepR (x.map toF) = (forceF qs x).map toF
  | [], _ => rfl
  | p :: r, x => by
    rw [List.foldl_cons]
    unfold stepR
    rw [ofto]
    exact force_map r _
theorem rforce20 {h to w : List FilesFile} {ix : List IndexEntry} (hh : Bd h) (ht : Bd to) (hw : Bd w) (hib : ix.length ≤ 1000000) : Ok (Sh.rectoref14_Force (h.map toF) (to.map toF) (ix.map toE) (w.map toF)) fun r => ∃ ps, PathsOf [h, stF 0 ix, stF 1 ix, stF 2 ix, stF 3 ix] ps ∧ r = ((to.map entE).map toE, (forceF to (cutsF ps w)).map toF) := by
  unfold Sh.rectoref14_Force Sh.rectoref14_Tracked
  rw [rstage20 ix 0 hib, Option.bind_some, rstage20 ix 1 hib, Option.bind_some, rstage20 ix 2 hib, Option.bind_some, rstage20 ix 3 hib, Option.bind_some]
  have hwn := hw.n
  have htn := ht.n
  refine ok_bd.2 (ok_lt.2 (ok_bd.2 ((pathsr14 [h, stF 0 ix, stF 1 ix, stF 2 ix, stF 3 ix] (by simp) ?_).mono ?_)))
  · intro l hl
    simp only [List.mem_cons, List.not_mem_nil, or_false] at hl
    rcases hl with rfl | rfl | rfl | rfl | rfl
    · exact hh.n
    all_goals exact Nat.le_trans (stF_len _ _) hib
  rintro ps ⟨hps, hpl⟩
  rw [ok_some]
  refine gl_fold ps cutR (w.map toF) _ ?_ ?_
  · intro i z i0 hi hz s hs
    rw [cuts_map] at hs
    dsimp only
    have hl : (cutsF (ps.take i.toNat) w).length ≤ 1000000 := Nat.le_trans (cuts_len _ w) hwn
    rw [if_pos hi, gl_atv i0 hz, Option.bind_some, hs, rcut20 _ z (by omega), Option.bind_some]
    exact nx_gd ⟨by omega, by omega⟩ (by unfold cutR; rw [List.filter_map]; rfl)
  · intro s hs
    rw [cuts_map] at hs
    dsimp only
    rw [if_neg (by omega)]
    refine up_up ?_
    have hsR : R (cutsF ps w) := cuts_R hw.r ps
    have hsl : (cutsF ps w).length ≤ 1000000 := Nat.le_trans (cuts_len _ w) hwn
    have hsp : ∀ z ∈ cutsF ps w, z.path.length ≤ 1000000 := fun z hz => hw.p z (by rw [cuts_eq] at hz; exact (List.mem_filter.1 hz).1)
    rw [hs]
    have hlen : (to.map toF).length = to.length := List.length_map ..
    simp only [hlen]
    refine gl_fold to stepR ((cutsF ps w).map toF) _ ?_ ?_
    · intro i z i0 hi hz u hu
      rw [force_map] at hu
      have huR : R (forceF (to.take i.toNat) (cutsF ps w)) := force_R _ _ hsR
      have hul : (forceF (to.take i.toNat) (cutsF ps w)).length ≤ 3000000 := by
        refine Nat.le_trans (force_len _ _) ?_
        rw [List.length_take]; omega
      have hzp := ht.p z (List.mem_of_getElem? hz)
      have hup : ∀ y ∈ forceF (to.take i.toNat) (cutsF ps w), y.path.length ≤ 1000000 := fun y hy => by
        rcases force_mem _ _ _ hy with q | q
        · exact ht.p y (List.mem_of_mem_take q)
        · exact hsp y q
      dsimp only
      rw [if_pos hi, gl_atv i0 (gl_map toF hz), Option.bind_some, Option.bind_some, hu]
      show Ok ((Sh.rectoref14_Clear _ z.path).bind _) _
      rw [rclear20 _ z.path (by omega) hup hzp, Option.bind_some]
      show Ok ((Sh.rectoref14_Put _ (toF z)).bind _) _
      rw [putr14 (huR.sub List.filter_sublist) (by have := List.length_filter_le (fun y : FilesFile => !clashS y.path z.path) (forceF (to.take i.toNat) (cutsF ps w)); omega), Option.bind_some]
      refine nx_gd ⟨by omega, by omega⟩ ?_
      unfold stepR
      rw [ofto]; rfl
    · intro u hu
      rw [force_map] at hu
      dsimp only
      rw [if_neg (by omega)]
      refine up_up ?_
      rw [riof20 to htn, Option.bind_some, ok_some]
      exact ⟨ps, hps, by rw [hu]⟩
theorem out_cuts {h w : List FilesFile} {ix : List IndexEntry} (hR : R h) (hi : GoodI ix) {ps : List (List UInt8)} (hp : PathsOf [h, stF 0 ix, stF 1 ix, stF 2 ix, stF 3 ix] ps) : w.filter (outF h ix) = cutsF ps w := by
  rw [cuts_eq]
  refine List.filter_congr fun z hz => ?_
  have e : z.path ∈ ps ↔ outF h ix z = false := by
    rw [hp.2]
    unfold outF
    constructor
    · rintro ⟨l, hl, f, hf, q⟩
      simp only [List.mem_cons, List.not_mem_nil, or_false] at hl
      have st : ∀ n, f ∈ stF n ix → (decide (gt h z.path = none) && !ix.any fun e => decide (e.path = z.path)) = false := fun n hn => by
        obtain ⟨e, he, _, hep, _⟩ := stF_mem hn
        have : ix.any (fun e => decide (e.path = z.path)) = true := List.any_eq_true.2 ⟨e, he, decide_eq_true (hep.trans q)⟩
        rw [this]; simp
      rcases hl with rfl | rfl | rfl | rfl | rfl
      · have : gt l z.path ≠ none := fun k => gt_none.1 k f hf q
        rw [decide_eq_false this]; rfl
      all_goals exact st _ hf
    · intro q
      rw [Bool.and_eq_false_iff] at q
      rcases q with q | q
      · have q := of_decide_eq_false q
        cases hg : gt h z.path with
        | none => exact absurd hg q
        | some f => exact ⟨h, by simp, f, (gt_some hR).1 hg⟩
      · have q : ix.any (fun e => decide (e.path = z.path)) = true := by simpa using q
        obtain ⟨e, he, hep⟩ := List.any_eq_true.1 q
        have hv := hi.v e he
        have hst : e.stage = 0 ∨ e.stage = 1 ∨ e.stage = 2 ∨ e.stage = 3 := by
          have h1 := hv.2.1
          have h2 := hv.2.2.1
          omega
        have hm : ∀ n, e.stage = n → (⟨e.path, e.mode, e.data⟩ : FilesFile) ∈ stF n ix := fun n hn => by
          unfold stF
          exact List.mem_map.2 ⟨e, List.mem_filter.2 ⟨he, decide_eq_true hn⟩, rfl⟩
        rcases hst with k | k | k | k
        · exact ⟨_, by simp, _, hm 0 k, of_decide_eq_true hep⟩
        · exact ⟨stF 1 ix, by simp, _, hm 1 k, of_decide_eq_true hep⟩
        · exact ⟨stF 2 ix, by simp, _, hm 2 k, of_decide_eq_true hep⟩
        · exact ⟨stF 3 ix, by simp, _, hm 3 k, of_decide_eq_true hep⟩
  by_cases m : z.path ∈ ps
  · rw [e.1 m, decide_eq_true m]; rfl
  · rw [decide_eq_false m]
    cases q : outF h ix z with
    | true => rfl
    | false => exact absurd (e.2 q) m
theorem planForces_ok (h to : List FilesFile) (ix : List IndexEntry) (w : List FilesFile) : Sh.rectolaw20_PlanForces h to ix w = some true := by
  apply Ok.eq
  unfold Sh.rectolaw20_PlanForces
  rw [knownL20, Option.bind_some, if_neg (by simp)]
  refine ok_bd.2 ((few20 h ⟨to, [], []⟩ ix w).mono fun b hb => ?_)
  cases b with
  | false => rw [if_pos (by rfl), ok_some]
  | true =>
    have F := hb rfl
    have bh := GoodF.bd F.h
    have bt : Bd to := GoodF.bd F.f
    have hT : GoodF to := F.f.2
    have bw := GoodF.bd F.w
    have hhl := F.h.1
    have htl : to.length ≤ 64 := F.f.1
    have hwl := F.w.1
    have hil := F.i.1
    have hm2 : (to.map entE).length = to.length := List.length_map ..
    rw [if_neg (by simp), force20 bh bt bw (by omega), Option.bind_some, of14 h (by omega), Option.bind_some, of14 to (by omega), Option.bind_some, of15 (by omega), Option.bind_some, of14 w (by omega), Option.bind_some]
    refine ok_bd.2 ((rforce20 bh bt bw (by omega)).mono ?_)
    rintro r ⟨ps, hps, rfl⟩
    rw [out_cuts F.h.2.r F.i.2 hps]
    dsimp only
    have huR : R (forceF to (cutsF ps w)) := force_R _ _ (cuts_R bw.r ps)
    have hul : (forceF to (cutsF ps w)).length ≤ 1000 := by
      have h1 := force_len to (cutsF ps w)
      have h2 := cuts_len ps w
      omega
    refine ok_jnP (fun b => b = false) ?_ ?_
    · rintro b rfl
      rw [if_neg (by simp)]
      refine gl_chk to (fun _ => True) _ ?_ ?_
      · intro i z i0 hi hz _
        have hg : getF (forceF to (cutsF ps w)) z.path = (z, true) := getF_some (force_get to _ (cuts_R bw.r ps) hT z (List.mem_of_getElem? hz))
        rw [if_pos hi, gl_atv i0 hz, Option.bind_some, get14 huR (by omega), Option.bind_some, hg]
        refine ok_jnP (fun b => b = false) ?_ ?_
        · rintro b rfl
          rw [if_neg (by simp)]
          exact ok_gd.2 ⟨⟨by omega, by omega⟩, ⟨_, rfl, .inl ⟨rfl, trivial⟩⟩⟩
        · intro K hK
          rw [if_neg (by simp)]
          exact hK _ (by simp)
      · intro _
        rw [if_neg (by omega)]
        refine up_up ?_
        rw [iof20 to (by omega), Option.bind_some, same15 (by omega), Option.bind_some, ok_some]
    · intro K hK
      rw [all15 (by omega), Option.bind_some, if_neg (by simp), of14 _ (by omega), Option.bind_some, samer14 _ _ (by omega), Option.bind_some]
      exact hK _ (by simp)
end Go.S
end
