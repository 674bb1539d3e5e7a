/- Part of the proofs of: the laws MarkTexts and StateBytes: any text as a Now that has that very text, or an error; any bytes as a state, or an error (any text, any bytes) -/
import Derived.Test.YthbccdlpalenlaaGreatDoorME
set_option linter.unusedVariables false
set_option linter.unusedSimpArgs false
set_option linter.unusedSectionVars false
section
namespace Go.S
theorem gl_at {α : Type} {l : List α} {i : Int} (h0 : 0 ≤ i) (h : i < l.length) : ∃ z, l[i.toNat]? = some z := ⟨_, List.getElem?_eq_getElem (by omega)⟩
theorem gl_snoc {α : Type} {l : List α} {i : Int} {z : α} (h0 : 0 ≤ i) (h : l[i.toNat]? = some z) : l.take (i + 1).toNat = l.take i.toNat ++ [z] := by
 rw [show (i + 1).toNat = i.toNat + 1 by omega, List.take_add_one, h]; rfl
theorem gl_atv {α : Type} {l : List α} {i : Int} {z : α} (h0 : 0 ≤ i) (h : l[i.toNat]? = some z) : at_ l i = some z := by
 unfold at_; rw [if_pos h0, h]
def Nx {T R : Type} (t : T) (y : T ⊕ R) : Prop := y = .inl t
def Up {T R : Type} (Q : R → Prop) (y : T ⊕ R) : Prop := ∃ r, y = .inr r ∧ Q r
theorem nx_go {T R : Type} {t t' : T} (h : t' = t) : Ok (go t' : Option (T ⊕ R)) (Nx t) := ⟨_, rfl, by rw [h]; rfl⟩
theorem nx_gd {T R : Type} {c : Prop} [Decidable c] {t t' : T} (hc : c) (h : t' = t) : Ok (gd c (go t' : Option (T ⊕ R))) (Nx t) := ok_gd.2 ⟨hc, nx_go h⟩
theorem up_up {T R : Type} {o : Option R} {Q : R → Prop} (h : Ok o Q) : Ok (up o : Option (T ⊕ R)) (Up Q) := ok_up.2 (h.mono fun r hr => ⟨r, rfl, hr⟩)
theorem gl_foldL {α τ R : Type} {Q : R → Prop} (l : List α) (f : τ → α → τ) (t0 : τ) (B : Int × τ → Option ((Int × τ) ⊕ R))
 (hB : ∀ (i : Int) z, 0 ≤ i → i < l.length → l[i.toNat]? = some z → ∀ s, s = (l.take i.toNat).foldl f t0 → Ok (B (i, s)) (Nx (i + 1, f s z)))
 (hE : ∀ s, s = l.foldl f t0 → Ok (B ((l.length : Int), s)) (Up Q)) : Ok (iter B (0, t0)) Q := by
 refine ok_iter (I := fun t => 0 ≤ t.1 ∧ t.1 ≤ l.length ∧ t.2 = (l.take t.1.toNat).foldl f t0) (μ := fun t => (l.length - t.1).toNat) ?_ ⟨by dsimp only; omega, by dsimp only; omega, by simp⟩
 rintro ⟨i, t⟩ ⟨i0, i1, i2⟩
 dsimp only at i0 i1 i2 ⊢
 by_cases hi : i < l.length
 ·
  obtain ⟨z, hz⟩ := gl_at i0 hi
  refine (hB i z i0 hi hz t i2).mono ?_
  rintro y hy
  cases hy
  refine ⟨⟨by dsimp only; omega, by dsimp only; omega, ?_⟩, by dsimp only; omega⟩
  show _ = (l.take (i + 1).toNat).foldl f t0
  rw [gl_snoc i0 hz, List.foldl_append, i2]; rfl
 have e : i = l.length := by omega
 subst e
 rw [List.take_of_length_le (by omega)] at i2
 refine (hE t i2).mono ?_
 rintro y ⟨r, rfl, hr⟩
 exact hr
theorem gl_flat {α β : Type} (g : α → List β) : ∀ (l : List α) (a : List β), l.foldl (fun a z => a ++ g z) a = a ++ l.flatMap g
  | [], a => by simp
  | z :: r, a => by rw [List.foldl_cons, gl_flat g r, List.flatMap_cons, List.append_assoc]
theorem gl_chk {α R : Type} {Q : R → Prop} (l : List α) (P : α → Prop) (B : Int → Option (Int ⊕ R))
 (hB : ∀ (i : Int) z, 0 ≤ i → i < l.length → l[i.toNat]? = some z → (∀ y ∈ l.take i.toNat, P y) → Ok (B i) (fun y => y = .inl (i + 1) ∧ P z ∨ ∃ r, y = .inr r ∧ Q r))
 (hE : (∀ y ∈ l, P y) → Ok (B (l.length : Int)) (Up Q)) : Ok (iter B 0) Q := by
 refine ok_iter (I := fun i => 0 ≤ i ∧ i ≤ l.length ∧ ∀ y ∈ l.take i.toNat, P y) (μ := fun i => (l.length - i).toNat) ?_ ⟨by omega, by omega, by simp⟩
 rintro i ⟨i0, i1, i2⟩
 by_cases hi : i < l.length
 ·
  obtain ⟨z, hz⟩ := gl_at i0 hi
  refine (hB i z i0 hi hz i2).mono ?_
  rintro y (⟨rfl, hp⟩ | ⟨r, rfl, hr⟩)
  ·
   refine ⟨⟨by omega, by omega, fun y hy => ?_⟩, by omega⟩
   rw [gl_snoc i0 hz] at hy
   rcases List.mem_append.1 hy with q | q
   ·
    exact i2 y q
   rw [List.mem_singleton.1 q]; exact hp
  exact hr
 have e : i = l.length := by omega
 subst e
 rw [List.take_of_length_le (by omega)] at i2
 refine (hE i2).mono ?_
 rintro y ⟨r, rfl, hr⟩
 exact hr
end Go.S
end

section
namespace Go.S
open Go
def encL {α : Type} (enc : α → List UInt8) (l : List α) : List UInt8 := encI l.length ++ l.flatMap enc
def vL {α : Type} (v : α → Prop) (l : List α) : Prop := l.length ≤ 200000000 ∧ ∀ x ∈ l, v x
def encFi (x : FilesFile) : List UInt8 := encT x.path ++ (encI x.mode ++ encT x.data)
def vFi (x : FilesFile) : Prop := I64 x.mode ∧ x.path.length ≤ 200000000 ∧ x.data.length ≤ 200000000
def encEn (x : IndexEntry) : List UInt8 := encT x.path ++ (encI x.stage ++ (encI x.mode ++ (encT x.data ++ (encI x.time ++ encI x.size))))
def vEn (x : IndexEntry) : Prop := I64 x.stage ∧ I64 x.mode ∧ I64 x.time ∧ I64 x.size ∧ x.path.length ≤ 200000000 ∧ x.data.length ≤ 200000000
def encRe (x : NamesRef) : List UInt8 := encT x.name ++ encI x.commit
def vRe (x : NamesRef) : Prop := I64 x.commit ∧ x.name.length ≤ 200000000
def encSt (x : TodoStep) : List UInt8 := encT x.verb ++ (encI x.commit ++ encT x.text)
def vSt (x : TodoStep) : Prop := I64 x.commit ∧ x.verb.length ≤ 200000000 ∧ x.text.length ≤ 200000000
def encHe (x : NamesHead) : List UInt8 := encT x.branch ++ encI x.commit
def vHe (x : NamesHead) : Prop := I64 x.commit ∧ x.branch.length ≤ 200000000
def encSh (x : ShelfShelfP) : List UInt8 := encI x.base ++ (encL encFi x.index ++ (encL encFi x.work ++ encT x.text))
def vSh (x : ShelfShelfP) : Prop := I64 x.base ∧ vL vFi x.index ∧ vL vFi x.work ∧ x.text.length ≤ 200000000
def encSq (x : StateSeqP) : List UInt8 := encT x.kind ++ (encI x.other ++ (encT x.text ++ (encL encSt x.doing ++ (encL encSt x.todo ++ (encI x.made ++ (encT x.branch ++ (encHe ⟨x.head_branch, x.head_commit⟩ ++ (encL encEn x.index ++ encL encFi x.work))))))))
def vSq (x : StateSeqP) : Prop := x.kind.length ≤ 200000000 ∧ I64 x.other ∧ x.text.length ≤ 200000000 ∧ vL vSt x.doing ∧ vL vSt x.todo ∧ I64 x.made ∧ x.branch.length ≤ 200000000 ∧ vHe ⟨x.head_branch, x.head_commit⟩ ∧ vL vEn x.index ∧ vL vFi x.work
def seqOf (n : StateNowP) : StateSeqP := ⟨n.seq_kind, n.seq_other, n.seq_text, n.seq_doing, n.seq_todo, n.seq_made, n.seq_branch, n.seq_head_branch, n.seq_head_commit, n.seq_index, n.seq_work⟩
def encNo (n : StateNowP) : List UInt8 := encL encFi n.work ++ (encL encEn n.index ++ (encL encRe n.refs ++ (encHe ⟨n.head_branch, n.head_commit⟩ ++ (encSq (seqOf n) ++ encL encSh n.stash))))
def vNo (n : StateNowP) : Prop := vL vFi n.work ∧ vL vEn n.index ∧ vL vRe n.refs ∧ vHe ⟨n.head_branch, n.head_commit⟩ ∧ vSq (seqOf n) ∧ vL vSh n.stash
def encCo (c : StateCommitP) : List UInt8 := encL encFi c.tree ++ (encL encI c.parents ++ (encI c.time ++ encT c.text))
def vTx (s : List UInt8) : Prop := s.length ≤ 200000000
def vCo (c : StateCommitP) : Prop := vL vFi c.tree ∧ vL I64 c.parents ∧ I64 c.time ∧ c.text.length ≤ 200000000
def nowOf (s : StateStateP) : StateNowP := ⟨s.now_work, s.now_index, s.now_refs, s.now_head_branch, s.now_head_commit, s.now_seq_kind, s.now_seq_other, s.now_seq_text, s.now_seq_doing, s.now_seq_todo, s.now_seq_made, s.now_seq_branch, s.now_seq_head_branch, s.now_seq_head_commit, s.now_seq_index, s.now_seq_work, s.now_stash⟩
def encSS (s : StateStateP) : List UInt8 := encNo (nowOf s) ++ (encL encCo s.commits ++ (encL encT s.log_back ++ (encL encT s.log_forth ++ encI s.time)))
def vSS (s : StateStateP) : Prop := vNo (nowOf s) ∧ vL vCo s.commits ∧ vL vTx s.log_back ∧ vL vTx s.log_forth ∧ I64 s.time
def On (b : List UInt8) (s s' : DS) : Prop := Dok b s' ∧ s.at_ ≤ s'.at_ ∧ (s'.bad = none → s.bad = none)
theorem On.trans {b : List UInt8} {s s1 s2 : DS} (h : On b s s1) (g : On b s1 s2) : On b s s2 := ⟨g.1, Nat.le_trans h.2.1 g.2.1, fun e => h.2.2 (g.2.2 e)⟩
theorem On.refl {b : List UInt8} {s : DS} (h : Dok b s) : On b s s := ⟨h, Nat.le_refl _, id⟩
theorem sInt_on {b : List UInt8} {s : DS} (h : Dok b s) : On b s (sInt b s).2 := by
  refine ⟨(sInt_ok h).1, ?_, fun e => (sInt_eat e).1⟩
  unfold sInt
  cases hs : s.bad with
  | some q => exact Nat.le_refl _
  | none =>
    dsimp only
    split
    · next h0 => exact Nat.le_of_lt (dU_bound b s.at_ 10 0 0 rfl (by decide) h0).2.1
    · exact Nat.le_refl _
theorem sText_on {b : List UInt8} {s : DS} (h : Dok b s) : On b s (sText b s).2 := by
  refine ⟨(sText_ok h).1, ?_, fun e => (sText_eat h e).1⟩
  have h1 := (sInt_on h).2.1
  unfold sText
  cases hs : (sInt b s).2.bad with
  | some q => exact h1
  | none =>
    dsimp only
    split
    · exact h1
    · split
      · exact h1
      · dsimp only; omega
theorem decErr_ok {b : List UInt8} {s : DS} : Sh.codec_Dec_Err (cP b s) = some (errD s.bad) := rfl
theorem errD_nil {x : Option (Nat × Int)} : (errD x).isNil = true ↔ x = none := by
  cases x with
  | none => exact ⟨fun _ => rfl, fun _ => rfl⟩
  | some q => exact ⟨fun h => (by cases h), fun h => (by cases h)⟩
theorem encI_pos (n : Int) : 1 ≤ (encI n).length := by
  unfold encI
  by_cases h : zigN n < 128
  · rw [vu_lo h]; exact Nat.le_refl _
  · rw [vu_hi h]; simp
theorem many_gen {α T R : Type} {b : List UInt8} (hb : b.length ≤ 100000000) {n : Int} {enc : α → List UInt8} {v : α → Prop} (pk : Int → DS → Bool → List α → T) (ix : T → Int) (hix : ∀ i s e l, ix (pk i s e l) = i)
    (B : T → Option (T ⊕ R)) {Q : R → Prop} {s1 : DS} {bad1 : Bool} (h1 : Dok b s1)
    (hB : ∀ (s : DS) (e : Bool) (l : List α), Dok b s → s.bad = none → l.length ≤ b.length → (l.length : Int) < n → Ok (B (pk l.length s e l)) (fun y => ∃ x s2 e2, y = .inl (pk ((l.length : Int) + 1) s2 e2 (l ++ [x])) ∧ On b s s2 ∧ (s2.bad = none → s.at_ < s2.at_) ∧ (s2.bad = none → e2 = false → e = false ∧ Eat b s s2 (enc x) ∧ v x)))
    (hE : ∀ (s : DS) (e : Bool) (l : List α), (¬ (l.length : Int) < n ∨ s.bad ≠ none) → On b s1 s → l.length ≤ b.length + 1 → (s.bad = none → e = false → bad1 = false ∧ Eat b s1 s (l.flatMap enc) ∧ (∀ x ∈ l, v x) ∧ (l.length : Int) = max n 0) → Ok (B (pk l.length s e l)) (Up Q)) :
    Ok (iter B (pk 0 s1 bad1 [])) Q := by
  refine ok_iter (I := fun t => ∃ s e l, t = pk ((l.length : Nat) : Int) s e l ∧ On b s1 s ∧ l.length ≤ b.length + 1 ∧ (s.bad = none → l.length ≤ s.at_) ∧ (l.length : Int) ≤ max n 0 ∧ (s.bad = none → e = false → bad1 = false ∧ Eat b s1 s (l.flatMap enc) ∧ ∀ x ∈ l, v x)) (μ := fun t => (n - ix t).toNat) ?_ ⟨s1, bad1, [], rfl, On.refl h1, Nat.zero_le _, fun _ => Nat.zero_le _, by simp; omega, fun h e => ⟨e, Eat.refl h, fun x hx => by cases hx⟩⟩
  rintro t ⟨s, e, l, rfl, ho, hl, hat, hmx, hf⟩
  by_cases hc : (l.length : Int) < n ∧ s.bad = none
  · have hd := ho.1.1
    refine (hB s e l ho.1 hc.2 (by have := hat hc.2; omega) hc.1).mono ?_
    rintro y ⟨x, s2, e2, rfl, o2, hp, hq⟩
    have hl2 : (l ++ [x]).length = l.length + 1 := by simp
    refine ⟨⟨s2, e2, l ++ [x], by rw [hl2]; rfl, ho.trans o2, by rw [hl2]; have := hat hc.2; omega, fun h => by rw [hl2]; have := hp h; have := hat hc.2; omega, by rw [hl2]; omega, fun h he => ?_⟩, ?_⟩
    · obtain ⟨q1, q2, q3⟩ := hq h he
      obtain ⟨r1, r2, r3⟩ := hf hc.2 q1
      refine ⟨r1, ?_, fun z hz => ?_⟩
      · rw [List.flatMap_append, List.flatMap_singleton]; exact r2.trans q2
      · rcases List.mem_append.1 hz with m | m
        · exact r3 z m
        · rw [List.mem_singleton.1 m]; exact q3
    · rw [hix, hix]; omega
  · refine (hE s e l (by rcases Classical.em ((l.length : Int) < n) with q | q; exact .inr fun w => hc ⟨q, w⟩; exact .inl q) ho hl (fun h he => ?_)).mono ?_
    · obtain ⟨r1, r2, r3⟩ := hf h he
      refine ⟨r1, r2, r3, ?_⟩
      have : ¬ (l.length : Int) < n := fun q => hc ⟨q, h⟩
      omega
    · rintro y ⟨r, rfl, hr⟩
      exact hr
theorem many_gen0 {α T R : Type} {b : List UInt8} (hb : b.length ≤ 100000000) {n : Int} {enc : α → List UInt8} {v : α → Prop} (pk : Int → DS → List α → T) (ix : T → Int) (hix : ∀ i s l, ix (pk i s l) = i)
    (B : T → Option (T ⊕ R)) {Q : R → Prop} {s1 : DS} (h1 : Dok b s1)
    (hB : ∀ (s : DS) (l : List α), Dok b s → s.bad = none → l.length ≤ b.length → (l.length : Int) < n → Ok (B (pk l.length s l)) (fun y => ∃ x s2, y = .inl (pk ((l.length : Int) + 1) s2 (l ++ [x])) ∧ On b s s2 ∧ (s2.bad = none → s.at_ < s2.at_) ∧ (s2.bad = none → Eat b s s2 (enc x) ∧ v x)))
    (hE : ∀ (s : DS) (l : List α), (¬ (l.length : Int) < n ∨ s.bad ≠ none) → On b s1 s → l.length ≤ b.length + 1 → (s.bad = none → Eat b s1 s (l.flatMap enc) ∧ (∀ x ∈ l, v x) ∧ (l.length : Int) = max n 0) → Ok (B (pk l.length s l)) (Up Q)) :
    Ok (iter B (pk 0 s1 [])) Q := by
  refine ok_iter (I := fun t => ∃ s l, t = pk ((l.length : Nat) : Int) s l ∧ On b s1 s ∧ l.length ≤ b.length + 1 ∧ (s.bad = none → l.length ≤ s.at_) ∧ (l.length : Int) ≤ max n 0 ∧ (s.bad = none → Eat b s1 s (l.flatMap enc) ∧ ∀ x ∈ l, v x)) (μ := fun t => (n - ix t).toNat) ?_ ⟨s1, [], rfl, On.refl h1, Nat.zero_le _, fun _ => Nat.zero_le _, by simp; omega, fun h => ⟨Eat.refl h, fun x hx => by cases hx⟩⟩
  rintro t ⟨s, l, rfl, ho, hl, hat, hmx, hf⟩
  by_cases hc : (l.length : Int) < n ∧ s.bad = none
  · have hd := ho.1.1
    refine (hB s l ho.1 hc.2 (by have := hat hc.2; omega) hc.1).mono ?_
    rintro y ⟨x, s2, rfl, o2, hp, hq⟩
    have hl2 : (l ++ [x]).length = l.length + 1 := by simp
    refine ⟨⟨s2, l ++ [x], by rw [hl2]; rfl, ho.trans o2, by rw [hl2]; have := hat hc.2; omega, fun h => by rw [hl2]; have := hp h; have := hat hc.2; omega, by rw [hl2]; omega, fun h => ?_⟩, ?_⟩
    · obtain ⟨q2, q3⟩ := hq h
      obtain ⟨r2, r3⟩ := hf hc.2
      refine ⟨?_, fun z hz => ?_⟩
      · rw [List.flatMap_append, List.flatMap_singleton]; exact r2.trans q2
      · rcases List.mem_append.1 hz with m | m
        · exact r3 z m
        · rw [List.mem_singleton.1 m]; exact q3
    · rw [hix, hix]; omega
  · refine (hE s l (by rcases Classical.em ((l.length : Int) < n) with q | q; exact .inr fun w => hc ⟨q, w⟩; exact .inl q) ho hl (fun h => ?_)).mono ?_
    · obtain ⟨r2, r3⟩ := hf h
      refine ⟨r2, r3, ?_⟩
      have : ¬ (l.length : Int) < n := fun q => hc ⟨q, h⟩
      omega
    · rintro y ⟨r, rfl, hr⟩
      exact hr
def RdL (b : List UInt8) (s : DS) (bad : Bool) {α : Type} (enc : α → List UInt8) (v : α → Prop) (d : CodecDecP) (r : StateReader) (l : List α) : Prop := ∃ s', d = cP b s' ∧ On b s s' ∧ (s'.bad = none → s.at_ < s'.at_) ∧ (s'.bad = none → r.bad = false → bad = false ∧ Eat b s s' (encL enc l) ∧ vL v l)
theorem rdL_of {b : List UInt8} (hb : b.length ≤ 100000000) {s : DS} (h : Dok b s) {bad : Bool} {α : Type} {enc : α → List UInt8} {v : α → Prop} {s' : DS} {e : Bool} {l : List α} (ho : On b (sInt b s).2 s') (hl : l.length ≤ b.length + 1)
    (hf : s'.bad = none → e = false → (bad || decide ((sInt b s).1 < 0)) = false ∧ Eat b (sInt b s).2 s' (l.flatMap enc) ∧ (∀ x ∈ l, v x) ∧ (l.length : Int) = max (sInt b s).1 0) : RdL b s bad enc v (cP b s') ⟨e⟩ l := by
  refine ⟨s', rfl, (sInt_on h).trans ho, fun h1 => Nat.lt_of_lt_of_le (sInt_pos (ho.2.2 h1)) ho.2.1, fun h1 h2 => ?_⟩
  obtain ⟨q1, q2, q3, q4⟩ := hf h1 h2
  simp only [Bool.or_eq_false_iff, decide_eq_false_iff_not] at q1
  have e1 := sInt_eat (ho.2.2 h1)
  refine ⟨q1.1, ?_, by omega, q3⟩
  unfold encL
  rw [show ((l.length : Nat) : Int) = (sInt b s).1 by omega]
  exact e1.trans q2
theorem wloop {α R : Type} {Q : R → Prop} (l : List α) (enc : α → List UInt8) (c : List UInt8) (B : Int × List UInt8 → Option ((Int × List UInt8) ⊕ R)) (hT : c.length + (l.flatMap enc).length ≤ 100000000)
    (hB : ∀ (i : Int) z s, 0 ≤ i → i < l.length → l[i.toNat]? = some z → z ∈ l → s.length + (enc z).length ≤ 100000000 → Ok (B (i, s)) (Nx (i + 1, s ++ enc z)))
    (hE : Ok (B ((l.length : Int), c ++ l.flatMap enc)) (Up Q)) : Ok (iter B (0, c)) Q := by
  refine gl_foldL l (fun c z => c ++ enc z) c B (fun i z i0 hi hz s hs => ?_) (fun s hs => by rw [gl_flat] at hs; rw [hs]; exact hE)
  refine hB i z s i0 hi hz (List.mem_of_getElem? hz) ?_
  rw [gl_flat] at hs
  have e1 : l = l.take i.toNat ++ (z :: l.drop (i.toNat + 1)) := by
    obtain ⟨h1, h2⟩ := List.getElem?_eq_some_iff.1 hz
    have := List.take_append_drop i.toNat l
    rw [List.drop_eq_getElem_cons h1, h2] at this
    exact this.symm
  rw [e1] at hT
  simp only [List.flatMap_append, List.flatMap_cons, List.length_append] at hT
  rw [hs, List.length_append]; omega
end Go.S
end

section
namespace Go.S
open Go
theorem fi_ok {b : List UInt8} (hb : b.length ≤ 100000000) {s : DS} (h0 : Dok b s) {e : Bool} {l : List FilesFile} (hl : l.length ≤ b.length) : Ok (Sh.state_reader_row_1 l ⟨e⟩ (cP b s)) (fun q => ∃ x s2, q = (l ++ [x], cP b s2) ∧ On b s s2 ∧ (s2.bad = none → s.at_ < s2.at_) ∧ (s2.bad = none → Eat b s s2 (encFi x) ∧ vFi x)) := by
  unfold Sh.state_reader_row_1
  have o1 := sText_on h0
  have k1 := sText_ok h0
  have h1 := o1.1
  rw [decText_ok h0 (by omega), Option.bind_some]
  dsimp only
  have o2 := sInt_on h1
  have k2 := sInt_ok h1
  have h2 := o2.1
  rw [decInt_ok h1 (by omega), Option.bind_some]
  dsimp only
  have o3 := sText_on h2
  have k3 := sText_ok h2
  have h3 := o3.1
  rw [decText_ok h2 (by omega), Option.bind_some]
  dsimp only
  rw [ok_lt, ok_gd]
  refine ⟨by simp; omega, ?_⟩
  rw [ok_lt, ok_some]
  refine ⟨⟨(sText b s).1, (sInt b (sText b s).2).1, (sText b (sInt b (sText b s).2).2).1⟩, _, rfl, ((o1).trans o2).trans o3, fun e => ?_, fun e => ?_⟩
  · have e2 := o3.2.2 e
    have e1 := o2.2.2 e2
    have p := (sText_eat h0 e1).2.2.1
    have := encI_pos (((sText b s).1.length : Nat) : Int)
    rw [encT, List.length_append] at p
    have m2 := o2.2.1
    have m3 := o3.2.1
    omega
  · have e2 := o3.2.2 e
    have e1 := o2.2.2 e2
    exact ⟨((sText_eat h0 e1).trans ((sInt_eat e2).trans (sText_eat h2 e))), ⟨k2.2, by have := k1.2; dsimp only; omega, by have := k3.2; dsimp only; omega⟩⟩
theorem en_ok {b : List UInt8} (hb : b.length ≤ 100000000) {s : DS} (h0 : Dok b s) {e : Bool} {l : List IndexEntry} (hl : l.length ≤ b.length) : Ok (Sh.state_reader_entries_1 l ⟨e⟩ (cP b s)) (fun q => ∃ x s2, q = (l ++ [x], cP b s2) ∧ On b s s2 ∧ (s2.bad = none → s.at_ < s2.at_) ∧ (s2.bad = none → Eat b s s2 (encEn x) ∧ vEn x)) := by
  unfold Sh.state_reader_entries_1
  have o1 := sText_on h0
  have k1 := sText_ok h0
  have h1 := o1.1
  rw [decText_ok h0 (by omega), Option.bind_some]
  dsimp only
  have o2 := sInt_on h1
  have k2 := sInt_ok h1
  have h2 := o2.1
  rw [decInt_ok h1 (by omega), Option.bind_some]
  dsimp only
  have o3 := sInt_on h2
  have k3 := sInt_ok h2
  have h3 := o3.1
  rw [decInt_ok h2 (by omega), Option.bind_some]
  dsimp only
  have o4 := sText_on h3
  have k4 := sText_ok h3
  have h4 := o4.1
  rw [decText_ok h3 (by omega), Option.bind_some]
  dsimp only
  have o5 := sInt_on h4
  have k5 := sInt_ok h4
  have h5 := o5.1
  rw [decInt_ok h4 (by omega), Option.bind_some]
  dsimp only
  have o6 := sInt_on h5
  have k6 := sInt_ok h5
  have h6 := o6.1
  rw [decInt_ok h5 (by omega), Option.bind_some]
  dsimp only
  rw [ok_lt, ok_gd]
  refine ⟨by simp; omega, ?_⟩
  rw [ok_lt, ok_some]
  refine ⟨⟨(sText b s).1, (sInt b (sText b s).2).1, (sInt b (sInt b (sText b s).2).2).1, (sText b (sInt b (sInt b (sText b s).2).2).2).1, (sInt b (sText b (sInt b (sInt b (sText b s).2).2).2).2).1, (sInt b (sInt b (sText b (sInt b (sInt b (sText b s).2).2).2).2).2).1⟩, _, rfl, (((((o1).trans o2).trans o3).trans o4).trans o5).trans o6, fun e => ?_, fun e => ?_⟩
  · have e5 := o6.2.2 e
    have e4 := o5.2.2 e5
    have e3 := o4.2.2 e4
    have e2 := o3.2.2 e3
    have e1 := o2.2.2 e2
    have p := (sText_eat h0 e1).2.2.1
    have := encI_pos (((sText b s).1.length : Nat) : Int)
    rw [encT, List.length_append] at p
    have m2 := o2.2.1
    have m3 := o3.2.1
    have m4 := o4.2.1
    have m5 := o5.2.1
    have m6 := o6.2.1
    omega
  · have e5 := o6.2.2 e
    have e4 := o5.2.2 e5
    have e3 := o4.2.2 e4
    have e2 := o3.2.2 e3
    have e1 := o2.2.2 e2
    exact ⟨((sText_eat h0 e1).trans ((sInt_eat e2).trans ((sInt_eat e3).trans ((sText_eat h3 e4).trans ((sInt_eat e5).trans (sInt_eat e)))))), ⟨k2.2, k3.2, k5.2, k6.2, by have := k1.2; dsimp only; omega, by have := k4.2; dsimp only; omega⟩⟩
theorem st_ok {b : List UInt8} (hb : b.length ≤ 100000000) {s : DS} (h0 : Dok b s) {e : Bool} {l : List TodoStep} (hl : l.length ≤ b.length) : Ok (Sh.state_reader_steps_1 l ⟨e⟩ (cP b s)) (fun q => ∃ x s2, q = (l ++ [x], cP b s2) ∧ On b s s2 ∧ (s2.bad = none → s.at_ < s2.at_) ∧ (s2.bad = none → Eat b s s2 (encSt x) ∧ vSt x)) := by
  unfold Sh.state_reader_steps_1
  have o1 := sText_on h0
  have k1 := sText_ok h0
  have h1 := o1.1
  rw [decText_ok h0 (by omega), Option.bind_some]
  dsimp only
  have o2 := sInt_on h1
  have k2 := sInt_ok h1
  have h2 := o2.1
  rw [decInt_ok h1 (by omega), Option.bind_some]
  dsimp only
  have o3 := sText_on h2
  have k3 := sText_ok h2
  have h3 := o3.1
  rw [decText_ok h2 (by omega), Option.bind_some]
  dsimp only
  rw [ok_lt, ok_gd]
  refine ⟨by simp; omega, ?_⟩
  rw [ok_lt, ok_some]
  refine ⟨⟨(sText b s).1, (sInt b (sText b s).2).1, (sText b (sInt b (sText b s).2).2).1⟩, _, rfl, ((o1).trans o2).trans o3, fun e => ?_, fun e => ?_⟩
  · have e2 := o3.2.2 e
    have e1 := o2.2.2 e2
    have p := (sText_eat h0 e1).2.2.1
    have := encI_pos (((sText b s).1.length : Nat) : Int)
    rw [encT, List.length_append] at p
    have m2 := o2.2.1
    have m3 := o3.2.1
    omega
  · have e2 := o3.2.2 e
    have e1 := o2.2.2 e2
    exact ⟨((sText_eat h0 e1).trans ((sInt_eat e2).trans (sText_eat h2 e))), ⟨k2.2, by have := k1.2; dsimp only; omega, by have := k3.2; dsimp only; omega⟩⟩
theorem tx_ok {b : List UInt8} (hb : b.length ≤ 100000000) {s : DS} (h0 : Dok b s) {e : Bool} {l : List (List UInt8)} (hl : l.length ≤ b.length) : Ok (Sh.state_reader_texts_1 l ⟨e⟩ (cP b s)) (fun q => ∃ x s2, q = (l ++ [x], cP b s2) ∧ On b s s2 ∧ (s2.bad = none → s.at_ < s2.at_) ∧ (s2.bad = none → Eat b s s2 (encT x) ∧ vTx x)) := by
  unfold Sh.state_reader_texts_1
  have o1 := sText_on h0
  have k1 := sText_ok h0
  have h1 := o1.1
  rw [decText_ok h0 (by omega), Option.bind_some]
  dsimp only
  rw [ok_lt, ok_gd]
  refine ⟨by simp; omega, ?_⟩
  rw [ok_lt, ok_some]
  refine ⟨(sText b s).1, _, rfl, o1, fun e => ?_, fun e => ?_⟩
  · have p := (sText_eat h0 e).2.2.1
    have := encI_pos (((sText b s).1.length : Nat) : Int)
    rw [encT, List.length_append] at p
    omega
  · skip
    exact ⟨(sText_eat h0 e), (by have := k1.2; show _ ≤ _; omega)⟩
theorem nu_ok {b : List UInt8} (hb : b.length ≤ 100000000) {s : DS} (h0 : Dok b s) {e : Bool} {l : List Int} (hl : l.length ≤ b.length) : Ok (Sh.state_reader_numbers_1 l ⟨e⟩ (cP b s)) (fun q => ∃ x s2, q = (l ++ [x], cP b s2) ∧ On b s s2 ∧ (s2.bad = none → s.at_ < s2.at_) ∧ (s2.bad = none → Eat b s s2 (encI x) ∧ I64 x)) := by
  unfold Sh.state_reader_numbers_1
  have o1 := sInt_on h0
  have k1 := sInt_ok h0
  have h1 := o1.1
  rw [decInt_ok h0 (by omega), Option.bind_some]
  dsimp only
  rw [ok_lt, ok_gd]
  refine ⟨by simp; omega, ?_⟩
  rw [ok_lt, ok_some]
  refine ⟨(sInt b s).1, _, rfl, o1, fun e => ?_, fun e => ?_⟩
  · have p := (sInt_eat e).2.2.1
    have := encI_pos (sInt b s).1
    omega
  · skip
    exact ⟨(sInt_eat e), k1.2⟩
theorem fis_ok {b : List UInt8} (hb : b.length ≤ 100000000) {s : DS} (h : Dok b s) {bad : Bool} : Ok (Sh.state_reader_many ⟨bad⟩ (cP b s) []) (fun q => RdL b s bad encFi vFi q.1 q.2.1 q.2.2) := by
  unfold Sh.state_reader_many
  rw [decInt_ok h (by omega), Option.bind_some]
  have h1 := (sInt_on h).1
  refine ok_jnP (fun c => c = (bad || decide ((sInt b s).1 < 0))) ?_ ?_
  · rintro c hc
    refine many_gen0 hb (n := (sInt b s).1) (enc := encFi) (v := vFi) (fun (i : Int) (s : DS) (l : List FilesFile) => (i, b, (s.at_ : Int), errD s.bad, l)) (fun t => t.1) (fun _ _ _ => rfl) _ (s1 := (sInt b s).2) h1 ?_ ?_
    · intro s2 l hd hs hl hn
      dsimp only
      rw [if_pos hn]
      show Ok ((Sh.codec_Dec_Err (cP b s2)).bind _) _
      rw [decErr_ok, Option.bind_some, if_pos (errD_nil.2 hs)]
      refine ok_bd.2 ((fi_ok hb hd (e := c) hl).mono ?_)
      rintro q ⟨x, s3, rfl, p1, p2, p3⟩
      exact ok_gd.2 ⟨⟨by omega, by omega⟩, ok_go.2 ⟨x, s3, rfl, p1, p2, p3⟩⟩
    · intro s2 l hx ho hl hf
      have key : RdL b s bad encFi vFi (cP b s2) ⟨c⟩ l := rdL_of hb h ho hl (fun a1 a2 => by
        obtain ⟨r2, r3, r4⟩ := hf a1
        exact ⟨by rw [← hc]; exact a2, r2, r3, r4⟩)
      dsimp only
      by_cases hn : (l.length : Int) < (sInt b s).1
      · rw [if_pos hn]
        show Ok ((Sh.codec_Dec_Err (cP b s2)).bind _) _
        rw [decErr_ok, Option.bind_some, if_neg (fun q => (hx.resolve_left (fun w => w hn)) (errD_nil.1 q))]
        exact up_up (ok_some.2 key)
      · rw [if_neg hn]
        exact up_up (ok_some.2 key)
  · intro K hK
    simp only [ok_if]
    refine ⟨fun q => hK _ ?_, fun q => hK _ ?_⟩
    · rw [q]; rfl
    · rw [Bool.eq_false_iff.2 q]; rfl
theorem clip_files_Row_files_File (l : List FilesFile) : Sh.slices_Clip_files_Row_files_File l = some l := by
  apply Ok.eq
  unfold Sh.slices_Clip_files_Row_files_File
  rw [ok_gd]
  refine ⟨⟨by omega, by omega⟩, ?_⟩
  rw [ok_lt, ok_some, Int.toNat_natCast, List.take_length]
theorem fir_ok {b : List UInt8} (hb : b.length ≤ 100000000) {s : DS} (h : Dok b s) {bad : Bool} : Ok (Sh.state_reader_row ⟨bad⟩ (cP b s)) (fun q => RdL b s bad encFi vFi q.2.1 q.2.2 q.1) := by
  unfold Sh.state_reader_row
  refine ok_bd.2 ((fis_ok hb h).mono ?_)
  rintro ⟨d, r, l⟩ hq
  dsimp only at hq ⊢
  rw [clip_files_Row_files_File, Option.bind_some, ok_some]
  exact hq
theorem ens_ok {b : List UInt8} (hb : b.length ≤ 100000000) {s : DS} (h : Dok b s) {bad : Bool} : Ok (Sh.state_reader_many_v2 ⟨bad⟩ (cP b s) []) (fun q => RdL b s bad encEn vEn q.1 q.2.1 q.2.2) := by
  unfold Sh.state_reader_many_v2
  rw [decInt_ok h (by omega), Option.bind_some]
  have h1 := (sInt_on h).1
  refine ok_jnP (fun c => c = (bad || decide ((sInt b s).1 < 0))) ?_ ?_
  · rintro c hc
    refine many_gen0 hb (n := (sInt b s).1) (enc := encEn) (v := vEn) (fun (i : Int) (s : DS) (l : List IndexEntry) => (i, b, (s.at_ : Int), errD s.bad, l)) (fun t => t.1) (fun _ _ _ => rfl) _ (s1 := (sInt b s).2) h1 ?_ ?_
    · intro s2 l hd hs hl hn
      dsimp only
      rw [if_pos hn]
      show Ok ((Sh.codec_Dec_Err (cP b s2)).bind _) _
      rw [decErr_ok, Option.bind_some, if_pos (errD_nil.2 hs)]
      refine ok_bd.2 ((en_ok hb hd (e := c) hl).mono ?_)
      rintro q ⟨x, s3, rfl, p1, p2, p3⟩
      exact ok_gd.2 ⟨⟨by omega, by omega⟩, ok_go.2 ⟨x, s3, rfl, p1, p2, p3⟩⟩
    · intro s2 l hx ho hl hf
      have key : RdL b s bad encEn vEn (cP b s2) ⟨c⟩ l := rdL_of hb h ho hl (fun a1 a2 => by
        obtain ⟨r2, r3, r4⟩ := hf a1
        exact ⟨by rw [← hc]; exact a2, r2, r3, r4⟩)
      dsimp only
      by_cases hn : (l.length : Int) < (sInt b s).1
      · rw [if_pos hn]
        show Ok ((Sh.codec_Dec_Err (cP b s2)).bind _) _
        rw [decErr_ok, Option.bind_some, if_neg (fun q => (hx.resolve_left (fun w => w hn)) (errD_nil.1 q))]
        exact up_up (ok_some.2 key)
      · rw [if_neg hn]
        exact up_up (ok_some.2 key)
  · intro K hK
    simp only [ok_if]
    refine ⟨fun q => hK _ ?_, fun q => hK _ ?_⟩
    · rw [q]; rfl
    · rw [Bool.eq_false_iff.2 q]; rfl
theorem clip_index_Entry_index_Entry (l : List IndexEntry) : Sh.slices_Clip_index_Entry_index_Entry l = some l := by
  apply Ok.eq
  unfold Sh.slices_Clip_index_Entry_index_Entry
  rw [ok_gd]
  refine ⟨⟨by omega, by omega⟩, ?_⟩
  rw [ok_lt, ok_some, Int.toNat_natCast, List.take_length]
theorem enr_ok {b : List UInt8} (hb : b.length ≤ 100000000) {s : DS} (h : Dok b s) {bad : Bool} : Ok (Sh.state_reader_entries ⟨bad⟩ (cP b s)) (fun q => RdL b s bad encEn vEn q.2.1 q.2.2 q.1) := by
  unfold Sh.state_reader_entries
  refine ok_bd.2 ((ens_ok hb h).mono ?_)
  rintro ⟨d, r, l⟩ hq
  dsimp only at hq ⊢
  rw [clip_index_Entry_index_Entry, Option.bind_some, ok_some]
  exact hq
theorem sts_ok {b : List UInt8} (hb : b.length ≤ 100000000) {s : DS} (h : Dok b s) {bad : Bool} : Ok (Sh.state_reader_many_v4 ⟨bad⟩ (cP b s) []) (fun q => RdL b s bad encSt vSt q.1 q.2.1 q.2.2) := by
  unfold Sh.state_reader_many_v4
  rw [decInt_ok h (by omega), Option.bind_some]
  have h1 := (sInt_on h).1
  refine ok_jnP (fun c => c = (bad || decide ((sInt b s).1 < 0))) ?_ ?_
  · rintro c hc
    refine many_gen0 hb (n := (sInt b s).1) (enc := encSt) (v := vSt) (fun (i : Int) (s : DS) (l : List TodoStep) => (i, b, (s.at_ : Int), errD s.bad, l)) (fun t => t.1) (fun _ _ _ => rfl) _ (s1 := (sInt b s).2) h1 ?_ ?_
    · intro s2 l hd hs hl hn
      dsimp only
      rw [if_pos hn]
      show Ok ((Sh.codec_Dec_Err (cP b s2)).bind _) _
      rw [decErr_ok, Option.bind_some, if_pos (errD_nil.2 hs)]
      refine ok_bd.2 ((st_ok hb hd (e := c) hl).mono ?_)
      rintro q ⟨x, s3, rfl, p1, p2, p3⟩
      exact ok_gd.2 ⟨⟨by omega, by omega⟩, ok_go.2 ⟨x, s3, rfl, p1, p2, p3⟩⟩
    · intro s2 l hx ho hl hf
      have key : RdL b s bad encSt vSt (cP b s2) ⟨c⟩ l := rdL_of hb h ho hl (fun a1 a2 => by
        obtain ⟨r2, r3, r4⟩ := hf a1
        exact ⟨by rw [← hc]; exact a2, r2, r3, r4⟩)
      dsimp only
      by_cases hn : (l.length : Int) < (sInt b s).1
      · rw [if_pos hn]
        show Ok ((Sh.codec_Dec_Err (cP b s2)).bind _) _
        rw [decErr_ok, Option.bind_some, if_neg (fun q => (hx.resolve_left (fun w => w hn)) (errD_nil.1 q))]
        exact up_up (ok_some.2 key)
      · rw [if_neg hn]
        exact up_up (ok_some.2 key)
  · intro K hK
    simp only [ok_if]
    refine ⟨fun q => hK _ ?_, fun q => hK _ ?_⟩
    · rw [q]; rfl
    · rw [Bool.eq_false_iff.2 q]; rfl
theorem clip_todo_Step_todo_Step (l : List TodoStep) : Sh.slices_Clip_todo_Step_todo_Step l = some l := by
  apply Ok.eq
  unfold Sh.slices_Clip_todo_Step_todo_Step
  rw [ok_gd]
  refine ⟨⟨by omega, by omega⟩, ?_⟩
  rw [ok_lt, ok_some, Int.toNat_natCast, List.take_length]
theorem str_ok {b : List UInt8} (hb : b.length ≤ 100000000) {s : DS} (h : Dok b s) {bad : Bool} : Ok (Sh.state_reader_steps ⟨bad⟩ (cP b s)) (fun q => RdL b s bad encSt vSt q.2.1 q.2.2 q.1) := by
  unfold Sh.state_reader_steps
  refine ok_bd.2 ((sts_ok hb h).mono ?_)
  rintro ⟨d, r, l⟩ hq
  dsimp only at hq ⊢
  rw [clip_todo_Step_todo_Step, Option.bind_some, ok_some]
  exact hq
theorem txs_ok {b : List UInt8} (hb : b.length ≤ 100000000) {s : DS} (h : Dok b s) {bad : Bool} : Ok (Sh.state_reader_many_v8 ⟨bad⟩ (cP b s) []) (fun q => RdL b s bad encT vTx q.1 q.2.1 q.2.2) := by
  unfold Sh.state_reader_many_v8
  rw [decInt_ok h (by omega), Option.bind_some]
  have h1 := (sInt_on h).1
  refine ok_jnP (fun c => c = (bad || decide ((sInt b s).1 < 0))) ?_ ?_
  · rintro c hc
    refine many_gen0 hb (n := (sInt b s).1) (enc := encT) (v := vTx) (fun (i : Int) (s : DS) (l : List (List UInt8)) => (i, b, (s.at_ : Int), errD s.bad, l)) (fun t => t.1) (fun _ _ _ => rfl) _ (s1 := (sInt b s).2) h1 ?_ ?_
    · intro s2 l hd hs hl hn
      dsimp only
      rw [if_pos hn]
      show Ok ((Sh.codec_Dec_Err (cP b s2)).bind _) _
      rw [decErr_ok, Option.bind_some, if_pos (errD_nil.2 hs)]
      refine ok_bd.2 ((tx_ok hb hd (e := c) hl).mono ?_)
      rintro q ⟨x, s3, rfl, p1, p2, p3⟩
      exact ok_gd.2 ⟨⟨by omega, by omega⟩, ok_go.2 ⟨x, s3, rfl, p1, p2, p3⟩⟩
    · intro s2 l hx ho hl hf
      have key : RdL b s bad encT vTx (cP b s2) ⟨c⟩ l := rdL_of hb h ho hl (fun a1 a2 => by
        obtain ⟨r2, r3, r4⟩ := hf a1
        exact ⟨by rw [← hc]; exact a2, r2, r3, r4⟩)
      dsimp only
      by_cases hn : (l.length : Int) < (sInt b s).1
      · rw [if_pos hn]
        show Ok ((Sh.codec_Dec_Err (cP b s2)).bind _) _
        rw [decErr_ok, Option.bind_some, if_neg (fun q => (hx.resolve_left (fun w => w hn)) (errD_nil.1 q))]
        exact up_up (ok_some.2 key)
      · rw [if_neg hn]
        exact up_up (ok_some.2 key)
  · intro K hK
    simp only [ok_if]
    refine ⟨fun q => hK _ ?_, fun q => hK _ ?_⟩
    · rw [q]; rfl
    · rw [Bool.eq_false_iff.2 q]; rfl
theorem clip_string_string (l : List (List UInt8)) : Sh.slices_Clip_string_string l = some l := by
  apply Ok.eq
  unfold Sh.slices_Clip_string_string
  rw [ok_gd]
  refine ⟨⟨by omega, by omega⟩, ?_⟩
  rw [ok_lt, ok_some, Int.toNat_natCast, List.take_length]
theorem txr_ok {b : List UInt8} (hb : b.length ≤ 100000000) {s : DS} (h : Dok b s) {bad : Bool} : Ok (Sh.state_reader_texts ⟨bad⟩ (cP b s)) (fun q => RdL b s bad encT vTx q.2.1 q.2.2 q.1) := by
  unfold Sh.state_reader_texts
  refine ok_bd.2 ((txs_ok hb h).mono ?_)
  rintro ⟨d, r, l⟩ hq
  dsimp only at hq ⊢
  rw [clip_string_string, Option.bind_some, ok_some]
  exact hq
theorem nus_ok {b : List UInt8} (hb : b.length ≤ 100000000) {s : DS} (h : Dok b s) {bad : Bool} : Ok (Sh.state_reader_many_v7 ⟨bad⟩ (cP b s) []) (fun q => RdL b s bad encI I64 q.1 q.2.1 q.2.2) := by
  unfold Sh.state_reader_many_v7
  rw [decInt_ok h (by omega), Option.bind_some]
  have h1 := (sInt_on h).1
  refine ok_jnP (fun c => c = (bad || decide ((sInt b s).1 < 0))) ?_ ?_
  · rintro c hc
    refine many_gen0 hb (n := (sInt b s).1) (enc := encI) (v := I64) (fun (i : Int) (s : DS) (l : List Int) => (i, b, (s.at_ : Int), errD s.bad, l)) (fun t => t.1) (fun _ _ _ => rfl) _ (s1 := (sInt b s).2) h1 ?_ ?_
    · intro s2 l hd hs hl hn
      dsimp only
      rw [if_pos hn]
      show Ok ((Sh.codec_Dec_Err (cP b s2)).bind _) _
      rw [decErr_ok, Option.bind_some, if_pos (errD_nil.2 hs)]
      refine ok_bd.2 ((nu_ok hb hd (e := c) hl).mono ?_)
      rintro q ⟨x, s3, rfl, p1, p2, p3⟩
      exact ok_gd.2 ⟨⟨by omega, by omega⟩, ok_go.2 ⟨x, s3, rfl, p1, p2, p3⟩⟩
    · intro s2 l hx ho hl hf
      have key : RdL b s bad encI I64 (cP b s2) ⟨c⟩ l := rdL_of hb h ho hl (fun a1 a2 => by
        obtain ⟨r2, r3, r4⟩ := hf a1
        exact ⟨by rw [← hc]; exact a2, r2, r3, r4⟩)
      dsimp only
      by_cases hn : (l.length : Int) < (sInt b s).1
      · rw [if_pos hn]
        show Ok ((Sh.codec_Dec_Err (cP b s2)).bind _) _
        rw [decErr_ok, Option.bind_some, if_neg (fun q => (hx.resolve_left (fun w => w hn)) (errD_nil.1 q))]
        exact up_up (ok_some.2 key)
      · rw [if_neg hn]
        exact up_up (ok_some.2 key)
  · intro K hK
    simp only [ok_if]
    refine ⟨fun q => hK _ ?_, fun q => hK _ ?_⟩
    · rw [q]; rfl
    · rw [Bool.eq_false_iff.2 q]; rfl
theorem clip_int_int (l : List Int) : Sh.slices_Clip_int_int l = some l := by
  apply Ok.eq
  unfold Sh.slices_Clip_int_int
  rw [ok_gd]
  refine ⟨⟨by omega, by omega⟩, ?_⟩
  rw [ok_lt, ok_some, Int.toNat_natCast, List.take_length]
theorem nur_ok {b : List UInt8} (hb : b.length ≤ 100000000) {s : DS} (h : Dok b s) {bad : Bool} : Ok (Sh.state_reader_numbers ⟨bad⟩ (cP b s)) (fun q => RdL b s bad encI I64 q.2.1 q.2.2 q.1) := by
  unfold Sh.state_reader_numbers
  refine ok_bd.2 ((nus_ok hb h).mono ?_)
  rintro ⟨d, r, l⟩ hq
  dsimp only at hq ⊢
  rw [clip_int_int, Option.bind_some, ok_some]
  exact hq
end Go.S
end

section
namespace Go.S
open Go
theorem rdT {b : List UInt8} (hb : b.length ≤ 100000000) {s : DS} (h : Dok b s) : ∃ t s', Sh.codec_Dec_Text (cP b s) = some (t, cP b s') ∧ On b s s' ∧ t.length ≤ 200000000 ∧ (s'.bad = none → Eat b s s' (encT t)) := ⟨_, _, decText_ok h (by omega), sText_on h, by have := (sText_ok h).2; omega, fun e => sText_eat h e⟩
theorem rdI {b : List UInt8} (hb : b.length ≤ 100000000) {s : DS} (h : Dok b s) : ∃ n s', Sh.codec_Dec_Int (cP b s) = some (n, cP b s') ∧ On b s s' ∧ I64 n ∧ (s'.bad = none → Eat b s s' (encI n)) := ⟨_, _, decInt_ok h (by omega), sInt_on h, (sInt_ok h).2, fun e => sInt_eat e⟩
theorem Eat.lt {b : List UInt8} {s s' : DS} {xs : List UInt8} (h : Eat b s s' xs) (p : 1 ≤ xs.length) : s.at_ < s'.at_ := by have := h.2.2.1; omega
theorem encT_pos (s : List UInt8) : 1 ≤ (encT s).length := by
  have := encI_pos ((s.length : Nat) : Int)
  rw [encT, List.length_append]; omega
theorem he_ok {b : List UInt8} (hb : b.length ≤ 100000000) {s : DS} (h0 : Dok b s) {e : Bool} : ∃ x s', Sh.state_reader_head ⟨e⟩ (cP b s) = some (x, cP b s') ∧ On b s s' ∧ vHe x ∧ (s'.bad = none → Eat b s s' (encHe x)) := by
  unfold Sh.state_reader_head
  obtain ⟨x1, s1, c1, o1, v1, f1⟩ := rdT hb h0
  have h1 := o1.1
  obtain ⟨x2, s2, c2, o2, v2, f2⟩ := rdI hb h1
  rw [c1, Option.bind_some]
  dsimp only
  rw [c2, Option.bind_some]
  exact ⟨⟨x1, x2⟩, s2, rfl, o1.trans o2, ⟨v2, v1⟩, fun b2 => (f1 (o2.2.2 b2)).trans (f2 b2)⟩
theorem re_ok {b : List UInt8} (hb : b.length ≤ 100000000) {s : DS} (h0 : Dok b s) {e : Bool} {a : StateNowP} {l : List NamesRef} (ha : a.refs = l) (hl : l.length ≤ b.length) : Ok (Sh.state_reader_now_1 a ⟨e⟩ (cP b s)) (fun q => ∃ x s2, q = ({ a with refs := l ++ [x] }, cP b s2) ∧ On b s s2 ∧ (s2.bad = none → s.at_ < s2.at_) ∧ (s2.bad = none → Eat b s s2 (encRe x) ∧ vRe x)) := by
  unfold Sh.state_reader_now_1
  subst ha
  obtain ⟨x1, s1, c1, o1, v1, f1⟩ := rdT hb h0
  have h1 := o1.1
  rw [c1, Option.bind_some]
  dsimp only
  obtain ⟨x2, s2, c2, o2, v2, f2⟩ := rdI hb h1
  have h2 := o2.1
  rw [c2, Option.bind_some]
  dsimp only
  rw [ok_lt, ok_gd]
  refine ⟨by simp; omega, ?_⟩
  rw [ok_lt, ok_some]
  refine ⟨⟨x1, x2⟩, s2, rfl, (o1).trans o2, fun b => ?_, fun b => ?_⟩
  · have b2 := b
    have b1 := o2.2.2 b2
    have := Eat.lt (f1 b1) (encT_pos _)
    have m2 := o2.2.1
    omega
  · have b2 := b
    have b1 := o2.2.2 b2
    have t2 := f2 b2
    have t1 := f1 b1
    exact ⟨(t1.trans t2), ⟨v2, v1⟩⟩
theorem res_ok {b : List UInt8} (hb : b.length ≤ 100000000) {s : DS} (h : Dok b s) {e : Bool} {a : StateNowP} (ha : a.refs = []) : Ok (Sh.state_reader_many_v3 ⟨e⟩ (cP b s) a) (fun q => ∃ l, q.2.2 = { a with refs := l } ∧ RdL b s e encRe vRe q.1 q.2.1 l) := by
  unfold Sh.state_reader_many_v3
  rw [decInt_ok h (by omega), Option.bind_some, ha]
  have h1 := (sInt_on h).1
  refine ok_jnP (fun c => c = (e || decide ((sInt b s).1 < 0))) ?_ ?_
  · rintro c hc
    refine many_gen0 hb (n := (sInt b s).1) (enc := encRe) (v := vRe) (fun (i : Int) (s : DS) (l : List NamesRef) => (i, b, (s.at_ : Int), errD s.bad, a.work, a.index, l, a.head_branch, a.head_commit, a.seq_kind, a.seq_other, a.seq_text, a.seq_doing, a.seq_todo, a.seq_made, a.seq_branch, a.seq_head_branch, a.seq_head_commit, a.seq_index, a.seq_work, a.stash)) (fun t => t.1) (fun _ _ _ => rfl) _ (s1 := (sInt b s).2) h1 ?_ ?_
    · intro s2 l hd hs hl hn
      dsimp only
      rw [if_pos hn]
      show Ok ((Sh.codec_Dec_Err (cP b s2)).bind _) _
      rw [decErr_ok, Option.bind_some, if_pos (errD_nil.2 hs)]
      refine ok_bd.2 ((re_ok hb hd (e := c) (a := { a with refs := l }) rfl hl).mono ?_)
      rintro q ⟨x, s3, rfl, p1, p2, p3⟩
      refine ok_gd.2 ⟨⟨by omega, by omega⟩, ok_go.2 ⟨x, s3, rfl, p1, p2, p3⟩⟩
    · intro s2 l hx ho hl hf
      have key : RdL b s e encRe vRe (cP b s2) ⟨c⟩ l := rdL_of hb h ho hl (fun a1 a2 => by
        obtain ⟨r2, r3, r4⟩ := hf a1
        exact ⟨by rw [← hc]; exact a2, r2, r3, r4⟩)
      dsimp only
      by_cases hn : (l.length : Int) < (sInt b s).1
      · rw [if_pos hn]
        show Ok ((Sh.codec_Dec_Err (cP b s2)).bind _) _
        rw [decErr_ok, Option.bind_some, if_neg (fun q => (hx.resolve_left (fun w => w hn)) (errD_nil.1 q))]
        exact up_up (ok_some.2 ⟨l, rfl, key⟩)
      · rw [if_neg hn]
        exact up_up (ok_some.2 ⟨l, rfl, key⟩)
  · intro K hK
    simp only [ok_if]
    refine ⟨fun q => hK _ ?_, fun q => hK _ ?_⟩
    · rw [q]; rfl
    · rw [Bool.eq_false_iff.2 q]; rfl
theorem sh_ok {b : List UInt8} (hb : b.length ≤ 100000000) {s : DS} (h0 : Dok b s) {e : Bool} {a : StateNowP} {l : List ShelfShelfP} (ha : a.stash = l) (hl : l.length ≤ b.length) : Ok (Sh.state_reader_now_2 a ⟨e⟩ (cP b s)) (fun q => ∃ x s2 e2, q = ({ a with stash := l ++ [x] }, cP b s2, ⟨e2⟩) ∧ On b s s2 ∧ (s2.bad = none → s.at_ < s2.at_) ∧ (s2.bad = none → e2 = false → e = false ∧ Eat b s s2 (encSh x) ∧ vSh x)) := by
  unfold Sh.state_reader_now_2
  subst ha
  obtain ⟨x1, s1, c1, o1, v1, f1⟩ := rdI hb h0
  have h1 := o1.1
  rw [c1, Option.bind_some]
  dsimp only
  obtain ⟨⟨x2, d2, ⟨e2⟩⟩, c2, s2, hd2, o2, p2, f2⟩ := fir_ok hb h1 (bad := e)
  dsimp only at hd2 f2
  subst hd2
  have h2 := o2.1
  rw [c2, Option.bind_some]
  dsimp only
  obtain ⟨⟨x3, d3, ⟨e3⟩⟩, c3, s3, hd3, o3, p3, f3⟩ := fir_ok hb h2 (bad := e2)
  dsimp only at hd3 f3
  subst hd3
  have h3 := o3.1
  rw [c3, Option.bind_some]
  dsimp only
  obtain ⟨x4, s4, c4, o4, v4, f4⟩ := rdT hb h3
  have h4 := o4.1
  rw [c4, Option.bind_some]
  dsimp only
  rw [ok_lt, ok_gd]
  refine ⟨by simp; omega, ?_⟩
  rw [ok_lt, ok_some]
  refine ⟨⟨x1, x2, x3, x4⟩, s4, e3, rfl, (((o1).trans o2).trans o3).trans o4, fun b => ?_, fun b g => ?_⟩
  · have b4 := b
    have b3 := o4.2.2 b4
    have b2 := o3.2.2 b3
    have b1 := o2.2.2 b2
    have := Eat.lt (f1 b1) (encI_pos _)
    have m2 := o2.2.1
    have m3 := o3.2.1
    have m4 := o4.2.1
    omega
  · have b4 := b
    have b3 := o4.2.2 b4
    have b2 := o3.2.2 b3
    have b1 := o2.2.2 b2
    have t4 := f4 b4
    obtain ⟨g3, t3, v3⟩ := f3 b3 g
    obtain ⟨g2, t2, v2⟩ := f2 b2 g3
    have t1 := f1 b1
    exact ⟨g2, (t1.trans (t2.trans (t3.trans t4))), ⟨v1, v2, v3, v4⟩⟩
theorem shs_ok {b : List UInt8} (hb : b.length ≤ 100000000) {s : DS} (h : Dok b s) {e : Bool} {a : StateNowP} (ha : a.stash = []) : Ok (Sh.state_reader_many_v5 ⟨e⟩ (cP b s) a) (fun q => ∃ l, q.2.2 = { a with stash := l } ∧ RdL b s e encSh vSh q.1 q.2.1 l) := by
  unfold Sh.state_reader_many_v5
  rw [decInt_ok h (by omega), Option.bind_some, ha]
  have h1 := (sInt_on h).1
  refine ok_jnP (fun c => c = (e || decide ((sInt b s).1 < 0))) ?_ ?_
  · rintro c hc
    refine many_gen hb (n := (sInt b s).1) (enc := encSh) (v := vSh) (fun (i : Int) (s : DS) (e : Bool) (l : List ShelfShelfP) => (i, b, (s.at_ : Int), errD s.bad, e, a.work, a.index, a.refs, a.head_branch, a.head_commit, a.seq_kind, a.seq_other, a.seq_text, a.seq_doing, a.seq_todo, a.seq_made, a.seq_branch, a.seq_head_branch, a.seq_head_commit, a.seq_index, a.seq_work, l)) (fun t => t.1) (fun _ _ _ _ => rfl) _ (s1 := (sInt b s).2) (bad1 := c) h1 ?_ ?_
    · intro s2 e l hd hs hl hn
      dsimp only
      rw [if_pos hn]
      show Ok ((Sh.codec_Dec_Err (cP b s2)).bind _) _
      rw [decErr_ok, Option.bind_some, if_pos (errD_nil.2 hs)]
      refine ok_bd.2 ((sh_ok hb hd (e := e) (a := { a with stash := l }) rfl hl).mono ?_)
      rintro q ⟨x, s3, e3, rfl, p1, p2, p3⟩
      refine ok_gd.2 ⟨⟨by omega, by omega⟩, ok_go.2 ⟨x, s3, e3, rfl, p1, p2, p3⟩⟩
    · intro s2 e2 l hx ho hl hf
      have key : RdL b s e encSh vSh (cP b s2) ⟨e2⟩ l := rdL_of hb h ho hl (fun a1 a2 => by
        obtain ⟨r1, r2, r3, r4⟩ := hf a1 a2
        exact ⟨by rw [← hc]; exact r1, r2, r3, r4⟩)
      dsimp only
      by_cases hn : (l.length : Int) < (sInt b s).1
      · rw [if_pos hn]
        show Ok ((Sh.codec_Dec_Err (cP b s2)).bind _) _
        rw [decErr_ok, Option.bind_some, if_neg (fun q => (hx.resolve_left (fun w => w hn)) (errD_nil.1 q))]
        exact up_up (ok_some.2 ⟨l, rfl, key⟩)
      · rw [if_neg hn]
        exact up_up (ok_some.2 ⟨l, rfl, key⟩)
  · intro K hK
    simp only [ok_if]
    refine ⟨fun q => hK _ ?_, fun q => hK _ ?_⟩
    · rw [q]; rfl
    · rw [Bool.eq_false_iff.2 q]; rfl
theorem sq_ok {b : List UInt8} (hb : b.length ≤ 100000000) {s : DS} (h0 : Dok b s) {e : Bool} : Ok (Sh.state_reader_seq ⟨e⟩ (cP b s)) (fun q => ∃ s2, q.2.1 = cP b s2 ∧ On b s s2 ∧ (s2.bad = none → q.2.2.bad = false → e = false ∧ Eat b s s2 (encSq q.1) ∧ vSq q.1)) := by
  unfold Sh.state_reader_seq
  obtain ⟨x1, s1, c1, o1, v1, f1⟩ := rdT hb h0
  have h1 := o1.1
  rw [c1, Option.bind_some]
  dsimp only
  obtain ⟨x2, s2, c2, o2, v2, f2⟩ := rdI hb h1
  have h2 := o2.1
  rw [c2, Option.bind_some]
  dsimp only
  obtain ⟨x3, s3, c3, o3, v3, f3⟩ := rdT hb h2
  have h3 := o3.1
  rw [c3, Option.bind_some]
  dsimp only
  obtain ⟨⟨x4, d4, ⟨e4⟩⟩, c4, s4, hd4, o4, p4, f4⟩ := str_ok hb h3 (bad := e)
  dsimp only at hd4 f4
  subst hd4
  have h4 := o4.1
  rw [c4, Option.bind_some]
  dsimp only
  obtain ⟨⟨x5, d5, ⟨e5⟩⟩, c5, s5, hd5, o5, p5, f5⟩ := str_ok hb h4 (bad := e4)
  dsimp only at hd5 f5
  subst hd5
  have h5 := o5.1
  rw [c5, Option.bind_some]
  dsimp only
  obtain ⟨x6, s6, c6, o6, v6, f6⟩ := rdI hb h5
  have h6 := o6.1
  rw [c6, Option.bind_some]
  dsimp only
  obtain ⟨x7, s7, c7, o7, v7, f7⟩ := rdT hb h6
  have h7 := o7.1
  rw [c7, Option.bind_some]
  dsimp only
  obtain ⟨x8, s8, c8, o8, v8, f8⟩ := he_ok hb h7 (e := e5)
  have h8 := o8.1
  rw [c8, Option.bind_some]
  dsimp only
  obtain ⟨⟨x9, d9, ⟨e9⟩⟩, c9, s9, hd9, o9, p9, f9⟩ := enr_ok hb h8 (bad := e5)
  dsimp only at hd9 f9
  subst hd9
  have h9 := o9.1
  rw [c9, Option.bind_some]
  dsimp only
  obtain ⟨⟨x10, d10, ⟨e10⟩⟩, c10, s10, hd10, o10, p10, f10⟩ := fir_ok hb h9 (bad := e9)
  dsimp only at hd10 f10
  subst hd10
  have h10 := o10.1
  rw [c10, Option.bind_some]
  dsimp only
  rw [ok_some]
  refine ⟨s10, rfl, (((((((((o1).trans o2).trans o3).trans o4).trans o5).trans o6).trans o7).trans o8).trans o9).trans o10, fun b g => ?_⟩
  dsimp only at g ⊢
  have b10 := b
  have b9 := o10.2.2 b10
  have b8 := o9.2.2 b9
  have b7 := o8.2.2 b8
  have b6 := o7.2.2 b7
  have b5 := o6.2.2 b6
  have b4 := o5.2.2 b5
  have b3 := o4.2.2 b4
  have b2 := o3.2.2 b3
  have b1 := o2.2.2 b2
  obtain ⟨g10, t10, v10⟩ := f10 b10 g
  obtain ⟨g9, t9, v9⟩ := f9 b9 g10
  have t8 := f8 b8
  have t7 := f7 b7
  have t6 := f6 b6
  obtain ⟨g5, t5, v5⟩ := f5 b5 g9
  obtain ⟨g4, t4, v4⟩ := f4 b4 g5
  have t3 := f3 b3
  have t2 := f2 b2
  have t1 := f1 b1
  exact ⟨g4, (t1.trans (t2.trans (t3.trans (t4.trans (t5.trans (t6.trans (t7.trans (t8.trans (t9.trans t10))))))))), ⟨v1, v2, v3, v4, v5, v6, v7, v8, v9, v10⟩⟩
theorem clip_names (l : List NamesRef) : Sh.slices_Clip_names_Ref_names_Ref l = some l := by
  apply Ok.eq
  unfold Sh.slices_Clip_names_Ref_names_Ref
  rw [ok_gd]
  refine ⟨⟨by omega, by omega⟩, ?_⟩
  rw [ok_lt, ok_some, Int.toNat_natCast, List.take_length]
theorem clip_shelf (l : List ShelfShelfP) : Sh.slices_Clip_shelf_Stack_shelf_Shelf l = some l := by
  apply Ok.eq
  unfold Sh.slices_Clip_shelf_Stack_shelf_Shelf
  rw [ok_gd]
  refine ⟨⟨by omega, by omega⟩, ?_⟩
  rw [ok_lt, ok_some, Int.toNat_natCast, List.take_length]
theorem clip_commit (l : List StateCommitP) : Sh.slices_Clip_state_Commit_state_Commit l = some l := by
  apply Ok.eq
  unfold Sh.slices_Clip_state_Commit_state_Commit
  rw [ok_gd]
  refine ⟨⟨by omega, by omega⟩, ?_⟩
  rw [ok_lt, ok_some, Int.toNat_natCast, List.take_length]
theorem no_ok {b : List UInt8} (hb : b.length ≤ 100000000) {s : DS} (h0 : Dok b s) {e : Bool} : Ok (Sh.state_reader_now ⟨e⟩ (cP b s)) (fun q => ∃ s2, q.2.1 = cP b s2 ∧ On b s s2 ∧ (s2.bad = none → q.2.2.bad = false → e = false ∧ Eat b s s2 (encNo q.1) ∧ vNo q.1)) := by
  unfold Sh.state_reader_now
  obtain ⟨⟨x1, d1, ⟨e1⟩⟩, c1, s1, hd1, o1, p1, f1⟩ := fir_ok hb h0 (bad := e)
  dsimp only at hd1 f1
  subst hd1
  have h1 := o1.1
  rw [c1, Option.bind_some]
  dsimp only
  obtain ⟨⟨x2, d2, ⟨e2⟩⟩, c2, s2, hd2, o2, p2, f2⟩ := enr_ok hb h1 (bad := e1)
  dsimp only at hd2 f2
  subst hd2
  have h2 := o2.1
  rw [c2, Option.bind_some]
  dsimp only
  obtain ⟨⟨d3, ⟨e3⟩, a3⟩, c3, x3, ha3, s3, hd3, o3, p3, f3⟩ := res_ok hb h2 (e := e2) (a := (⟨x1, x2, [], [], 0, [], 0, [], [], [], 0, [], [], 0, [], [], []⟩ : StateNowP)) rfl
  dsimp only at hd3 f3 ha3
  subst hd3 ha3
  have h3 := o3.1
  rw [c3, Option.bind_some]
  dsimp only
  obtain ⟨x4, s4, c4, o4, v4, f4⟩ := he_ok hb h3 (e := e3)
  have h4 := o4.1
  rw [c4, Option.bind_some]
  dsimp only
  obtain ⟨⟨x5, d5, ⟨e5⟩⟩, c5, s5, hd5, o5, f5⟩ := sq_ok hb h4 (e := e3)
  dsimp only at hd5 f5
  subst hd5
  have h5 := o5.1
  rw [c5, Option.bind_some]
  dsimp only
  obtain ⟨⟨d6, ⟨e6⟩, a6⟩, c6, x6, ha6, s6, hd6, o6, p6, f6⟩ := shs_ok hb h5 (e := e5) (a := (⟨x1, x2, x3, x4.branch, x4.commit, x5.kind, x5.other, x5.text, x5.doing, x5.todo, x5.made, x5.branch, x5.head_branch, x5.head_commit, x5.index, x5.work, []⟩ : StateNowP)) rfl
  dsimp only at hd6 f6 ha6
  subst hd6 ha6
  have h6 := o6.1
  rw [c6, Option.bind_some]
  dsimp only
  rw [clip_names, Option.bind_some]
  try dsimp only
  rw [clip_shelf, Option.bind_some]
  try dsimp only
  rw [ok_some]
  refine ⟨s6, rfl, (((((o1).trans o2).trans o3).trans o4).trans o5).trans o6, fun b g => ?_⟩
  dsimp only at g ⊢
  have b6 := b
  have b5 := o6.2.2 b6
  have b4 := o5.2.2 b5
  have b3 := o4.2.2 b4
  have b2 := o3.2.2 b3
  have b1 := o2.2.2 b2
  obtain ⟨g6, t6, v6⟩ := f6 b6 g
  obtain ⟨g5, t5, v5⟩ := f5 b5 g6
  have t4 := f4 b4
  obtain ⟨g3, t3, v3⟩ := f3 b3 g5
  obtain ⟨g2, t2, v2⟩ := f2 b2 g3
  obtain ⟨g1, t1, v1⟩ := f1 b1 g2
  exact ⟨g1, (t1.trans (t2.trans (t3.trans (t4.trans (t5.trans t6))))), ⟨v1, v2, v3, v4, v5, v6⟩⟩
theorem co_ok {b : List UInt8} (hb : b.length ≤ 100000000) {s : DS} (h0 : Dok b s) {e : Bool} {a : StateStateP} {l : List StateCommitP} (ha : a.commits = l) (hl : l.length ≤ b.length) : Ok (Sh.state_reader_state_1 a ⟨e⟩ (cP b s)) (fun q => ∃ x s2 e2, q = ({ a with commits := l ++ [x] }, cP b s2, ⟨e2⟩) ∧ On b s s2 ∧ (s2.bad = none → s.at_ < s2.at_) ∧ (s2.bad = none → e2 = false → e = false ∧ Eat b s s2 (encCo x) ∧ vCo x)) := by
  unfold Sh.state_reader_state_1
  subst ha
  obtain ⟨⟨x1, d1, ⟨e1⟩⟩, c1, s1, hd1, o1, p1, f1⟩ := fir_ok hb h0 (bad := e)
  dsimp only at hd1 f1
  subst hd1
  have h1 := o1.1
  rw [c1, Option.bind_some]
  dsimp only
  obtain ⟨⟨x2, d2, ⟨e2⟩⟩, c2, s2, hd2, o2, p2, f2⟩ := nur_ok hb h1 (bad := e1)
  dsimp only at hd2 f2
  subst hd2
  have h2 := o2.1
  rw [c2, Option.bind_some]
  dsimp only
  obtain ⟨x3, s3, c3, o3, v3, f3⟩ := rdI hb h2
  have h3 := o3.1
  rw [c3, Option.bind_some]
  dsimp only
  obtain ⟨x4, s4, c4, o4, v4, f4⟩ := rdT hb h3
  have h4 := o4.1
  rw [c4, Option.bind_some]
  dsimp only
  rw [ok_lt, ok_gd]
  refine ⟨by simp; omega, ?_⟩
  rw [ok_lt, ok_some]
  refine ⟨⟨x1, x2, x3, x4⟩, s4, e2, rfl, (((o1).trans o2).trans o3).trans o4, fun b => ?_, fun b g => ?_⟩
  · have b4 := b
    have b3 := o4.2.2 b4
    have b2 := o3.2.2 b3
    have b1 := o2.2.2 b2
    have := p1 b1
    have m2 := o2.2.1
    have m3 := o3.2.1
    have m4 := o4.2.1
    omega
  · have b4 := b
    have b3 := o4.2.2 b4
    have b2 := o3.2.2 b3
    have b1 := o2.2.2 b2
    have t4 := f4 b4
    have t3 := f3 b3
    obtain ⟨g2, t2, v2⟩ := f2 b2 g
    obtain ⟨g1, t1, v1⟩ := f1 b1 g2
    exact ⟨g1, (t1.trans (t2.trans (t3.trans t4))), ⟨v1, v2, v3, v4⟩⟩
theorem cos_ok {b : List UInt8} (hb : b.length ≤ 100000000) {s : DS} (h : Dok b s) {e : Bool} {a : StateStateP} (ha : a.commits = []) : Ok (Sh.state_reader_many_v6 ⟨e⟩ (cP b s) a) (fun q => ∃ l, q.2.2 = { a with commits := l } ∧ RdL b s e encCo vCo q.1 q.2.1 l) := by
  unfold Sh.state_reader_many_v6
  rw [decInt_ok h (by omega), Option.bind_some, ha]
  have h1 := (sInt_on h).1
  refine ok_jnP (fun c => c = (e || decide ((sInt b s).1 < 0))) ?_ ?_
  · rintro c hc
    refine many_gen hb (n := (sInt b s).1) (enc := encCo) (v := vCo) (fun (i : Int) (s : DS) (e : Bool) (l : List StateCommitP) => (i, b, (s.at_ : Int), errD s.bad, e, a.now_work, a.now_index, a.now_refs, a.now_head_branch, a.now_head_commit, a.now_seq_kind, a.now_seq_other, a.now_seq_text, a.now_seq_doing, a.now_seq_todo, a.now_seq_made, a.now_seq_branch, a.now_seq_head_branch, a.now_seq_head_commit, a.now_seq_index, a.now_seq_work, a.now_stash, l, a.log_back, a.log_forth, a.time)) (fun t => t.1) (fun _ _ _ _ => rfl) _ (s1 := (sInt b s).2) (bad1 := c) h1 ?_ ?_
    · intro s2 e l hd hs hl hn
      dsimp only
      rw [if_pos hn]
      show Ok ((Sh.codec_Dec_Err (cP b s2)).bind _) _
      rw [decErr_ok, Option.bind_some, if_pos (errD_nil.2 hs)]
      refine ok_bd.2 ((co_ok hb hd (e := e) (a := { a with commits := l }) rfl hl).mono ?_)
      rintro q ⟨x, s3, e3, rfl, p1, p2, p3⟩
      refine ok_gd.2 ⟨⟨by omega, by omega⟩, ok_go.2 ⟨x, s3, e3, rfl, p1, p2, p3⟩⟩
    · intro s2 e2 l hx ho hl hf
      have key : RdL b s e encCo vCo (cP b s2) ⟨e2⟩ l := rdL_of hb h ho hl (fun a1 a2 => by
        obtain ⟨r1, r2, r3, r4⟩ := hf a1 a2
        exact ⟨by rw [← hc]; exact r1, r2, r3, r4⟩)
      dsimp only
      by_cases hn : (l.length : Int) < (sInt b s).1
      · rw [if_pos hn]
        show Ok ((Sh.codec_Dec_Err (cP b s2)).bind _) _
        rw [decErr_ok, Option.bind_some, if_neg (fun q => (hx.resolve_left (fun w => w hn)) (errD_nil.1 q))]
        exact up_up (ok_some.2 ⟨l, rfl, key⟩)
      · rw [if_neg hn]
        exact up_up (ok_some.2 ⟨l, rfl, key⟩)
  · intro K hK
    simp only [ok_if]
    refine ⟨fun q => hK _ ?_, fun q => hK _ ?_⟩
    · rw [q]; rfl
    · rw [Bool.eq_false_iff.2 q]; rfl
theorem ss_ok {b : List UInt8} (hb : b.length ≤ 100000000) {s : DS} (h0 : Dok b s) {e : Bool} : Ok (Sh.state_reader_state ⟨e⟩ (cP b s)) (fun q => ∃ s2, q.2.1 = cP b s2 ∧ On b s s2 ∧ (s2.bad = none → q.2.2.bad = false → e = false ∧ Eat b s s2 (encSS q.1) ∧ vSS q.1)) := by
  unfold Sh.state_reader_state
  obtain ⟨⟨x1, d1, ⟨e1⟩⟩, c1, s1, hd1, o1, f1⟩ := no_ok hb h0 (e := e)
  dsimp only at hd1 f1
  subst hd1
  have h1 := o1.1
  rw [c1, Option.bind_some]
  dsimp only
  obtain ⟨⟨d2, ⟨e2⟩, a2⟩, c2, x2, ha2, s2, hd2, o2, p2, f2⟩ := cos_ok hb h1 (e := e1) (a := (⟨x1.work, x1.index, x1.refs, x1.head_branch, x1.head_commit, x1.seq_kind, x1.seq_other, x1.seq_text, x1.seq_doing, x1.seq_todo, x1.seq_made, x1.seq_branch, x1.seq_head_branch, x1.seq_head_commit, x1.seq_index, x1.seq_work, x1.stash, [], [], [], 0⟩ : StateStateP)) rfl
  dsimp only at hd2 f2 ha2
  subst hd2 ha2
  have h2 := o2.1
  rw [c2, Option.bind_some]
  dsimp only
  rw [clip_commit, Option.bind_some]
  try dsimp only
  obtain ⟨⟨x3, d3, ⟨e3⟩⟩, c3, s3, hd3, o3, p3, f3⟩ := txr_ok hb h2 (bad := e2)
  dsimp only at hd3 f3
  subst hd3
  have h3 := o3.1
  rw [c3, Option.bind_some]
  dsimp only
  obtain ⟨⟨x4, d4, ⟨e4⟩⟩, c4, s4, hd4, o4, p4, f4⟩ := txr_ok hb h3 (bad := e3)
  dsimp only at hd4 f4
  subst hd4
  have h4 := o4.1
  rw [c4, Option.bind_some]
  dsimp only
  obtain ⟨x5, s5, c5, o5, v5, f5⟩ := rdI hb h4
  have h5 := o5.1
  rw [c5, Option.bind_some]
  dsimp only
  rw [ok_some]
  refine ⟨s5, rfl, ((((o1).trans o2).trans o3).trans o4).trans o5, fun b g => ?_⟩
  dsimp only at g ⊢
  have b5 := b
  have b4 := o5.2.2 b5
  have b3 := o4.2.2 b4
  have b2 := o3.2.2 b3
  have b1 := o2.2.2 b2
  have t5 := f5 b5
  obtain ⟨g4, t4, v4⟩ := f4 b4 g
  obtain ⟨g3, t3, v3⟩ := f3 b3 g4
  obtain ⟨g2, t2, v2⟩ := f2 b2 g3
  obtain ⟨g1, t1, v1⟩ := f1 b1 g2
  exact ⟨g1, (t1.trans (t2.trans (t3.trans (t4.trans t5)))), ⟨v1, v2, v3, v4, v5⟩⟩
end Go.S
end

section
namespace Go.S
open Go
theorem encInt_ok {e : StateWriterP} {l : List Int} (h : ∀ n ∈ l, I64 n) (hl : e.enc_b.length + 10 * l.length ≤ 4294967296) (hn : l.length ≤ 100000000) : Sh.codec_Enc_Int e l = some ⟨e.enc_b ++ l.flatMap encI⟩ := by
  apply Ok.eq
  unfold Sh.codec_Enc_Int
  have hb : ∀ k : Nat, k ≤ l.length → ((l.take k).flatMap encI).length ≤ 10 * k := fun k hk => by
    induction k with
    | zero => simp
    | succ k ih =>
      have hx : l[k]? = some l[k] := List.getElem?_eq_getElem (by omega)
      have e : l.take (k + 1) = l.take k ++ [l[k]] := by rw [List.take_add_one, hx]; rfl
      have := ih (by omega)
      have := encI_len (h l[k] (List.getElem_mem _))
      rw [e, List.flatMap_append, List.length_append, List.flatMap_singleton]
      omega
  refine ok_iter (I := fun t => 0 ≤ t.1 ∧ t.1 ≤ l.length ∧ t.2 = e.enc_b ++ (l.take t.1.toNat).flatMap encI) (μ := fun t => (l.length - t.1).toNat) ?_ ⟨by simp, by simp, by simp⟩
  rintro ⟨i, c⟩ ⟨i0, i1, i2⟩
  dsimp only at i0 i1 i2 ⊢
  have hbi := hb i.toNat (by omega)
  simp only [ok_if, ok_up, ok_bd, ok_some, ok_at]
  refine ⟨fun hi => ?_, fun hi => ?_⟩
  · obtain ⟨z, hz⟩ := at_get (l := l) i0 hi
    have hzI := h z (List.mem_of_getElem? hz)
    refine ⟨i0, z, hz, ?_⟩
    rw [zig_prog hzI]
    refine loop_enc (zigN_lt hzI) (by rw [i2, List.length_append]; omega) (K := fun y45_15 => gd (I64 (i + 1)) (go ((i + 1), y45_15))) ?_ _ (fun t => rfl)
    simp only [ok_gd, ok_go]
    refine ⟨⟨by omega, by omega⟩, ⟨by omega, by omega, ?_⟩, by omega⟩
    rw [take_snoc i0 hz, List.flatMap_append, i2]; simp [encI]
  · rw [i2, show i.toNat = l.length by omega, List.take_length]
theorem encText_ok {e : StateWriterP} {s : List UInt8} (hl : e.enc_b.length + s.length + 20 ≤ 4294967296) : Sh.codec_Enc_Text e [s] = some ⟨e.enc_b ++ encT s⟩ := by
  apply Ok.eq
  unfold Sh.codec_Enc_Text
  have hI : I64 (s.length : Int) := ⟨by omega, by omega⟩
  have hle := encI_len hI
  refine ok_iter (I := fun t => (t.1 = 0 ∧ t.2 = e.enc_b) ∨ (t.1 = 1 ∧ t.2 = e.enc_b ++ encT s)) (μ := fun t => (1 - t.1).toNat) ?_ (.inl ⟨rfl, rfl⟩)
  rintro ⟨i, c⟩ h
  dsimp only at h ⊢
  rcases h with ⟨rfl, rfl⟩ | ⟨rfl, rfl⟩
  · rw [if_pos (by simp)]
    simp only [ok_bd, ok_gd, ok_lt, ok_go, ok_at]
    refine ⟨by omega, s, rfl, ?_⟩
    have he := encInt_ok (e := ⟨e.enc_b⟩) (l := [(s.length : Int)]) (fun n hn => by rw [List.mem_singleton.1 hn]; exact hI) (by simp; omega) (by simp)
    rw [List.flatMap_singleton] at he
    refine Ok.of he ⟨by simp; omega, ⟨by decide, by decide⟩, .inr ⟨rfl, ?_⟩, by decide⟩
    simp [encT]
  · rw [if_neg (by simp), ok_up, ok_some]
theorem wI {c : List UInt8} {n : Int} (h : I64 n) (hc : c.length ≤ 300000000) : Sh.codec_Enc_Int ⟨c⟩ [n] = some ⟨c ++ encI n⟩ := by
  have := encInt_ok (e := ⟨c⟩) (l := [n]) (fun m hm => by rw [List.mem_singleton.1 hm]; exact h) (by simp; omega) (by simp)
  rwa [List.flatMap_singleton] at this
theorem wIs {c : List UInt8} {l : List Int} (h : ∀ n ∈ l, I64 n) (hl : l.length ≤ 100000000) (hc : c.length ≤ 300000000) : Sh.codec_Enc_Int ⟨c⟩ l = some ⟨c ++ l.flatMap encI⟩ := encInt_ok (e := ⟨c⟩) h (by dsimp only; omega) hl
theorem wT {c s : List UInt8} (hc : c.length ≤ 300000000) (hs : s.length ≤ 300000000) : Sh.codec_Enc_Text ⟨c⟩ [s] = some ⟨c ++ encT s⟩ := encText_ok (e := ⟨c⟩) (by dsimp only; omega)
theorem flat_pos {α : Type} (enc : α → List UInt8) (hp : ∀ x, 1 ≤ (enc x).length) : ∀ l : List α, l.length ≤ (l.flatMap enc).length
  | [] => Nat.le_refl _
  | x :: r => by
    have := flat_pos enc hp r
    have := hp x
    rw [List.flatMap_cons, List.length_append, List.length_cons]; omega
theorem wTs {c : List UInt8} {l : List (List UInt8)} (hv : vL vTx l) (hT : c.length + (l.flatMap encT).length ≤ 100000000) : Sh.codec_Enc_Text ⟨c⟩ l = some ⟨c ++ l.flatMap encT⟩ := by
  apply Ok.eq
  unfold Sh.codec_Enc_Text
  have hn := hv.1
  refine wloop l encT c _ hT ?_ ?_
  · intro i z s i0 hi hz hm hs
    have v : z.length ≤ 200000000 := hv.2 z hm
    try dsimp only
    rw [if_pos hi, gl_atv i0 hz, Option.bind_some]
    have e1 := wI (c := s) (n := (z.length : Int)) ⟨by omega, by omega⟩ (by omega)
    rw [ok_lt, e1, Option.bind_some]
    try dsimp only
    have := encI_len (n := (z.length : Int)) ⟨by omega, by omega⟩
    rw [ok_gd]
    refine ⟨by rw [List.length_append]; omega, ?_⟩
    rw [ok_lt]
    refine nx_gd ⟨by omega, by omega⟩ ?_
    simp [encT]
  · try dsimp only
    rw [if_neg (by omega)]
    exact up_up (ok_some.2 rfl)
theorem w_fi {c : List UInt8} {l : List FilesFile} (hv : vL vFi l) (hT : c.length + (encL encFi l).length ≤ 100000000) : Sh.state_writer_row ⟨c⟩ l = some ⟨c ++ encL encFi l⟩ := by
  apply Ok.eq
  unfold Sh.state_writer_row
  unfold encL at hT ⊢
  rw [List.length_append] at hT
  have hn := hv.1
  rw [ok_lt, wI ⟨by omega, by omega⟩ (by omega), Option.bind_some]
  try dsimp only
  refine wloop l encFi (c ++ encI l.length) _ (by rw [List.length_append]; omega) ?_ ?_
  · intro i z s i0 hi hz hm hs
    obtain ⟨v1, v2, v3⟩ := hv.2 z hm
    unfold encFi at hs ⊢
    simp only [List.length_append] at hs
    try dsimp only
    rw [if_pos hi, gl_atv i0 hz, Option.bind_some]
    rw [ok_lt, wT (by first | omega | (simp only [List.length_append]; omega)) (by omega), Option.bind_some]
    try dsimp only
    rw [ok_lt, wI v1 (by first | omega | (simp only [List.length_append]; omega)), Option.bind_some]
    try dsimp only
    rw [ok_lt, wT (by first | omega | (simp only [List.length_append]; omega)) (by omega), Option.bind_some]
    try dsimp only
    refine nx_gd ⟨by omega, by omega⟩ ?_
    simp only [List.append_assoc]
  · try dsimp only
    rw [if_neg (by omega)]
    exact up_up (ok_some.2 (by simp only [List.append_assoc]))
theorem wI2 {c : List UInt8} {m n : Int} (h : I64 m) (g : I64 n) (hc : c.length ≤ 300000000) : Sh.codec_Enc_Int ⟨c⟩ [m, n] = some ⟨c ++ (encI m ++ encI n)⟩ := by
  have := encInt_ok (e := ⟨c⟩) (l := [m, n]) (fun k hk => by
    rcases List.mem_cons.1 hk with e | e
    · rw [e]; exact h
    · rw [List.mem_singleton.1 e]; exact g) (by simp; omega) (by simp)
  simpa using this
theorem w_en {c : List UInt8} {l : List IndexEntry} (hv : vL vEn l) (hT : c.length + (encL encEn l).length ≤ 100000000) : Sh.state_writer_entries ⟨c⟩ l = some ⟨c ++ encL encEn l⟩ := by
  apply Ok.eq
  unfold Sh.state_writer_entries
  unfold encL at hT ⊢
  rw [List.length_append] at hT
  have hn := hv.1
  rw [ok_lt, wI ⟨by omega, by omega⟩ (by omega), Option.bind_some]
  try dsimp only
  refine wloop l encEn (c ++ encI l.length) _ (by rw [List.length_append]; omega) ?_ ?_
  · intro i z s i0 hi hz hm hs
    obtain ⟨v1, v2, v3, v4, v5, v6⟩ := hv.2 z hm
    unfold encEn at hs ⊢
    simp only [List.length_append] at hs
    try dsimp only
    rw [if_pos hi, gl_atv i0 hz, Option.bind_some]
    rw [ok_lt, wT (by first | omega | (simp only [List.length_append]; omega)) (by omega), Option.bind_some]
    try dsimp only
    rw [ok_lt, wI2 v1 v2 (by first | omega | (simp only [List.length_append]; omega)), Option.bind_some]
    try dsimp only
    rw [ok_lt, wT (by first | omega | (simp only [List.length_append]; omega)) (by omega), Option.bind_some]
    try dsimp only
    rw [ok_lt, wI2 v3 v4 (by first | omega | (simp only [List.length_append]; omega)), Option.bind_some]
    try dsimp only
    refine nx_gd ⟨by omega, by omega⟩ ?_
    simp only [List.append_assoc]
  · try dsimp only
    rw [if_neg (by omega)]
    exact up_up (ok_some.2 (by simp only [List.append_assoc]))
theorem w_st {c : List UInt8} {l : List TodoStep} (hv : vL vSt l) (hT : c.length + (encL encSt l).length ≤ 100000000) : Sh.state_writer_steps ⟨c⟩ l = some ⟨c ++ encL encSt l⟩ := by
  apply Ok.eq
  unfold Sh.state_writer_steps
  unfold encL at hT ⊢
  rw [List.length_append] at hT
  have hn := hv.1
  rw [ok_lt, wI ⟨by omega, by omega⟩ (by omega), Option.bind_some]
  try dsimp only
  refine wloop l encSt (c ++ encI l.length) _ (by rw [List.length_append]; omega) ?_ ?_
  · intro i z s i0 hi hz hm hs
    obtain ⟨v1, v2, v3⟩ := hv.2 z hm
    unfold encSt at hs ⊢
    simp only [List.length_append] at hs
    try dsimp only
    rw [if_pos hi, gl_atv i0 hz, Option.bind_some]
    rw [ok_lt, wT (by first | omega | (simp only [List.length_append]; omega)) (by omega), Option.bind_some]
    try dsimp only
    rw [ok_lt, wI v1 (by first | omega | (simp only [List.length_append]; omega)), Option.bind_some]
    try dsimp only
    rw [ok_lt, wT (by first | omega | (simp only [List.length_append]; omega)) (by omega), Option.bind_some]
    try dsimp only
    refine nx_gd ⟨by omega, by omega⟩ ?_
    simp only [List.append_assoc]
  · try dsimp only
    rw [if_neg (by omega)]
    exact up_up (ok_some.2 (by simp only [List.append_assoc]))
theorem w_he {c : List UInt8} {x : NamesHead} (hv : vHe x) (hT : c.length + (encHe x).length ≤ 100000000) : Sh.state_writer_head ⟨c⟩ x = some ⟨c ++ encHe x⟩ := by
  apply Ok.eq
  unfold Sh.state_writer_head
  unfold encHe at hT ⊢
  simp only [List.length_append] at hT
  obtain ⟨v1, v2⟩ := hv
  rw [ok_lt, wT (by first | omega | (simp only [List.length_append]; omega)) (by omega), Option.bind_some]
  try dsimp only
  rw [ok_lt, wI v1 (by first | omega | (simp only [List.length_append]; omega)), Option.bind_some]
  try dsimp only
  rw [ok_some]
  simp only [List.append_assoc]
theorem w_sq {c : List UInt8} {x : StateSeqP} (hv : vSq x) (hT : c.length + (encSq x).length ≤ 100000000) : Sh.state_writer_seq ⟨c⟩ x = some ⟨c ++ encSq x⟩ := by
  apply Ok.eq
  unfold Sh.state_writer_seq
  unfold encSq at hT ⊢
  simp only [List.length_append] at hT
  obtain ⟨v1, v2, v3, v4, v5, v6, v7, v8, v9, v10⟩ := hv
  rw [ok_lt, wT (by first | omega | (simp only [List.length_append]; omega)) (by omega), Option.bind_some]
  try dsimp only
  rw [ok_lt, wI v2 (by first | omega | (simp only [List.length_append]; omega)), Option.bind_some]
  try dsimp only
  rw [ok_lt, wT (by first | omega | (simp only [List.length_append]; omega)) (by omega), Option.bind_some]
  try dsimp only
  rw [w_st v4 (by first | omega | (simp only [List.length_append]; omega)), Option.bind_some]
  try dsimp only
  rw [w_st v5 (by first | omega | (simp only [List.length_append]; omega)), Option.bind_some]
  try dsimp only
  rw [ok_lt, wI v6 (by first | omega | (simp only [List.length_append]; omega)), Option.bind_some]
  try dsimp only
  rw [ok_lt, wT (by first | omega | (simp only [List.length_append]; omega)) (by omega), Option.bind_some]
  try dsimp only
  rw [w_he v8 (by first | omega | (simp only [List.length_append]; omega)), Option.bind_some]
  try dsimp only
  rw [w_en v9 (by first | omega | (simp only [List.length_append]; omega)), Option.bind_some]
  try dsimp only
  rw [w_fi v10 (by first | omega | (simp only [List.length_append]; omega)), Option.bind_some]
  try dsimp only
  rw [ok_some]
  simp only [List.append_assoc]
theorem w_tx {c : List UInt8} {l : List (List UInt8)} (hv : vL vTx l) (hT : c.length + (encL encT l).length ≤ 100000000) : Sh.state_writer_texts ⟨c⟩ l = some ⟨c ++ encL encT l⟩ := by
  apply Ok.eq
  unfold Sh.state_writer_texts
  unfold encL at hT ⊢
  rw [List.length_append] at hT
  have hn := hv.1
  rw [ok_lt, wI ⟨by omega, by omega⟩ (by omega), Option.bind_some]
  try dsimp only
  rw [wTs hv (by rw [List.length_append]; omega), Option.bind_some, ok_some]
  simp only [List.append_assoc]
theorem w_no {c : List UInt8} {x : StateNowP} (hv : vNo x) (hT : c.length + (encNo x).length ≤ 100000000) : Sh.state_writer_now ⟨c⟩ x = some ⟨c ++ encNo x⟩ := by
  apply Ok.eq
  unfold Sh.state_writer_now
  unfold encNo at hT ⊢
  simp only [List.length_append] at hT
  obtain ⟨v1, v2, v3, v4, v5, v6⟩ := hv
  have hr := v3.1
  have hs6 := v6.1
  rw [w_fi v1 (by omega), Option.bind_some]
  rw [w_en v2 (by simp only [List.length_append]; omega), Option.bind_some]
  rw [show encL encRe x.refs = encI x.refs.length ++ x.refs.flatMap encRe from rfl, show encL encSh x.stash = encI x.stash.length ++ x.stash.flatMap encSh from rfl] at *
  simp only [List.length_append] at hT
  rw [ok_lt, wI ⟨by omega, by omega⟩ (by simp only [List.length_append]; omega), Option.bind_some]
  try dsimp only
  refine wloop x.refs encRe _ _ (by simp only [List.length_append]; omega) ?_ ?_
  · intro i z s i0 hi hz hm hs
    obtain ⟨z1, z2⟩ := v3.2 z hm
    unfold encRe at hs ⊢
    simp only [List.length_append] at hs
    try dsimp only
    rw [if_pos hi, gl_atv i0 hz, Option.bind_some]
    rw [ok_lt, wT (by omega) (by omega), Option.bind_some]
    try dsimp only
    rw [ok_lt, wI z1 (by simp only [List.length_append]; omega), Option.bind_some]
    try dsimp only
    refine nx_gd ⟨by omega, by omega⟩ ?_
    simp only [List.append_assoc]
  · try dsimp only
    rw [if_neg (by omega)]
    refine up_up ?_
    rw [w_he (x := ⟨x.head_branch, x.head_commit⟩) v4 (by simp only [List.length_append]; omega), Option.bind_some]
    rw [w_sq (x := ⟨x.seq_kind, x.seq_other, x.seq_text, x.seq_doing, x.seq_todo, x.seq_made, x.seq_branch, x.seq_head_branch, x.seq_head_commit, x.seq_index, x.seq_work⟩) v5 (by
      have e : encSq (seqOf x) = encSq ⟨x.seq_kind, x.seq_other, x.seq_text, x.seq_doing, x.seq_todo, x.seq_made, x.seq_branch, x.seq_head_branch, x.seq_head_commit, x.seq_index, x.seq_work⟩ := rfl
      rw [← e]
      simp only [List.length_append]; omega), Option.bind_some]
    rw [ok_lt, wI ⟨by omega, by omega⟩ (by
      have e : encSq (seqOf x) = encSq ⟨x.seq_kind, x.seq_other, x.seq_text, x.seq_doing, x.seq_todo, x.seq_made, x.seq_branch, x.seq_head_branch, x.seq_head_commit, x.seq_index, x.seq_work⟩ := rfl
      rw [← e]
      simp only [List.length_append]; omega), Option.bind_some]
    try dsimp only
    refine wloop x.stash encSh _ _ (by
      have e : encSq (seqOf x) = encSq ⟨x.seq_kind, x.seq_other, x.seq_text, x.seq_doing, x.seq_todo, x.seq_made, x.seq_branch, x.seq_head_branch, x.seq_head_commit, x.seq_index, x.seq_work⟩ := rfl
      rw [← e]
      simp only [List.length_append]; omega) ?_ ?_
    · intro i z s i0 hi hz hm hs
      obtain ⟨z1, z2, z3, z4⟩ := v6.2 z hm
      unfold encSh at hs ⊢
      simp only [List.length_append] at hs
      try dsimp only
      rw [if_pos hi, gl_atv i0 hz, Option.bind_some]
      rw [ok_lt, wI z1 (by omega), Option.bind_some]
      try dsimp only
      rw [w_fi z2 (by simp only [List.length_append]; omega), Option.bind_some]
      rw [w_fi z3 (by simp only [List.length_append]; omega), Option.bind_some]
      rw [ok_lt, wT (by simp only [List.length_append]; omega) (by omega), Option.bind_some]
      try dsimp only
      refine nx_gd ⟨by omega, by omega⟩ ?_
      simp only [List.append_assoc]
    · try dsimp only
      rw [if_neg (by omega)]
      refine up_up (ok_some.2 ?_)
      simp only [List.append_assoc]
      rfl
theorem w_ss {c : List UInt8} {x : StateStateP} (hv : vSS x) (hT : c.length + (encSS x).length ≤ 100000000) : Sh.state_writer_state ⟨c⟩ x = some ⟨c ++ encSS x⟩ := by
  apply Ok.eq
  unfold Sh.state_writer_state
  unfold encSS at hT ⊢
  simp only [List.length_append] at hT
  obtain ⟨v1, v2, v3, v4, v5⟩ := hv
  have hr := v2.1
  have e0 : Sh.state_writer_now ⟨c⟩ (nowOf x) = some ⟨c ++ encNo (nowOf x)⟩ := w_no v1 (by omega)
  unfold nowOf at e0
  rw [e0, Option.bind_some]
  rw [show encL encCo x.commits = encI x.commits.length ++ x.commits.flatMap encCo from rfl] at *
  simp only [List.length_append] at hT
  generalize hN : encNo _ = N at *
  have hN2 : encNo (nowOf x) = N := hN
  rw [hN2] at hT ⊢
  rw [ok_lt, wI ⟨by omega, by omega⟩ (by simp only [List.length_append]; omega), Option.bind_some]
  try dsimp only
  refine wloop x.commits encCo _ _ (by simp only [List.length_append]; omega) ?_ ?_
  · intro i z s i0 hi hz hm hs
    obtain ⟨z1, z2, z3, z4⟩ := v2.2 z hm
    have z5 := z2.1
    unfold encCo at hs ⊢
    rw [show encL encI z.parents = encI z.parents.length ++ z.parents.flatMap encI from rfl] at *
    simp only [List.length_append] at hs
    have hfl := flat_pos encI encI_pos z.parents
    try dsimp only
    rw [if_pos hi, gl_atv i0 hz, Option.bind_some]
    rw [w_fi z1 (by omega), Option.bind_some]
    rw [ok_lt, wI ⟨by omega, by omega⟩ (by simp only [List.length_append]; omega), Option.bind_some]
    rw [wIs z2.2 (by omega) (by simp only [List.length_append]; omega), Option.bind_some]
    rw [ok_lt, wI z3 (by simp only [List.length_append]; omega), Option.bind_some]
    rw [ok_lt, wT (by simp only [List.length_append]; omega) (by omega), Option.bind_some]
    try dsimp only
    refine nx_gd ⟨by omega, by omega⟩ ?_
    simp only [List.append_assoc]
  · try dsimp only
    rw [if_neg (by omega)]
    refine up_up ?_
    rw [w_tx v3 (by simp only [List.length_append]; omega), Option.bind_some]
    rw [w_tx v4 (by simp only [List.length_append]; omega), Option.bind_some]
    rw [ok_lt, wI v5 (by simp only [List.length_append]; omega), Option.bind_some, ok_some]
    simp only [List.append_assoc]
end Go.S
end

section
namespace Go.S
open Go
theorem clone_bytes {b : List UInt8} (h : b.length ≤ 4294967296) : Sh.slices_Clone_byte_byte b = some b := by
  apply Ok.eq
  unfold Sh.slices_Clone_byte_byte
  rw [ok_lt, ok_gd]
  refine ⟨by simpa using h, ?_⟩
  rw [ok_lt, ok_some]; rfl
theorem clip_bytes (b : List UInt8) : Sh.slices_Clip_byte_byte b = some b := by
  apply Ok.eq
  unfold Sh.slices_Clip_byte_byte
  rw [ok_gd]
  refine ⟨⟨by omega, by omega⟩, ?_⟩
  rw [ok_lt, ok_some, Int.toNat_natCast, List.take_length]
theorem of_ok {b : List UInt8} (hb : b.length ≤ 100000000) : Sh.codec_Of b = some (cP b ⟨0, none⟩) := by
  unfold Sh.codec_Of
  rw [clone_bytes (by omega), Option.bind_some]; rfl
theorem dok0 (b : List UInt8) : Dok b ⟨0, none⟩ := ⟨Nat.zero_le _, trivial⟩
theorem end_ok {b : List UInt8} (hb : b.length ≤ 100000000) {s : DS} (h : Dok b s) {e : Bool} : Ok (Sh.state_reader_end ⟨e⟩ (cP b s)) (fun r => r.isNil = true → s.bad = none ∧ e = false ∧ s.at_ = b.length) := by
  unfold Sh.state_reader_end
  rw [decErr_ok, Option.bind_some]
  by_cases hs : s.bad = none
  · rw [if_pos (errD_nil.2 hs)]
    have hle := h.1
    refine ok_jnP (fun x => x = false → e = false ∧ s.at_ = b.length) ?_ ?_
    · intro x hx
      cases x with
      | true => rw [if_pos rfl, ok_some]; intro q; cases q
      | false => rw [if_neg (by simp), ok_some]; intro _; exact ⟨hs, hx rfl⟩
    · intro K hK
      cases e with
      | true => rw [if_pos rfl]; exact hK _ (fun q => by cases q)
      | false =>
        rw [if_neg (by simp), left_ok h (by omega), Option.bind_some]
        refine hK _ (fun q => ⟨rfl, ?_⟩)
        simp only [decide_eq_false_iff_not] at q
        unfold sLeft at q
        rw [hs] at q
        dsimp only at q
        omega
  · rw [if_neg (fun q => hs (errD_nil.1 q)), Option.bind_some, ok_some]
    intro q
    exact absurd (errD_nil.1 q) hs
theorem eat_all {b : List UInt8} {s : DS} {xs : List UInt8} (h : Eat b ⟨0, none⟩ s xs) (e : s.at_ = b.length) : xs = b := by
  have := h.2.2.2
  rw [e, List.drop_length, List.append_nil] at this
  exact this.symm
theorem unmark_ok (b : List UInt8) (hb : b.length ≤ 100000000) : Ok (Sh.state_Unmark b) (fun q => q.2.isNil = true → vNo q.1 ∧ encNo q.1 = b) := by
  unfold Sh.state_Unmark
  rw [ok_gd]
  refine ⟨by omega, ?_⟩
  rw [ok_lt, of_ok hb, Option.bind_some]
  obtain ⟨⟨n, d, ⟨e⟩⟩, c, s, hd, o, f⟩ := no_ok hb (dok0 b) (e := false)
  dsimp only at hd f
  subst hd
  rw [c, Option.bind_some]
  dsimp only
  refine ok_bd.2 ((end_ok hb o.1 (e := e)).mono ?_)
  intro r hr
  rw [ok_if]
  refine ⟨fun q => ok_some.2 fun _ => ?_, fun q => ok_some.2 fun w => absurd w q⟩
  obtain ⟨a1, a2, a3⟩ := hr q
  obtain ⟨_, t, v⟩ := f a1 a2
  exact ⟨v, eat_all t a3⟩
theorem mark_ok {n : StateNowP} (hv : vNo n) (hT : (encNo n).length ≤ 100000000) : Sh.state_Mark n = some (encNo n) := by
  unfold Sh.state_Mark
  rw [w_no (c := []) hv (by simpa using hT), Option.bind_some]
  unfold Sh.codec_Enc_Bytes
  dsimp only
  rw [List.nil_append, clone_bytes (by omega), Option.bind_some, clip_bytes]; rfl
theorem decode_ok (b : List UInt8) (hb : b.length ≤ 100000000) : Ok (Sh.state_Decode b) (fun q => q.2.isNil = true → vSS q.1 ∧ encSS q.1 = b) := by
  unfold Sh.state_Decode
  rw [of_ok hb, Option.bind_some]
  obtain ⟨⟨n, d, ⟨e⟩⟩, c, s, hd, o, f⟩ := ss_ok hb (dok0 b) (e := false)
  dsimp only at hd f
  subst hd
  rw [c, Option.bind_some]
  dsimp only
  refine ok_bd.2 ((end_ok hb o.1 (e := e)).mono ?_)
  intro r hr
  rw [ok_if]
  refine ⟨fun q => ok_some.2 fun _ => ?_, fun q => ok_some.2 fun w => absurd w q⟩
  obtain ⟨a1, a2, a3⟩ := hr q
  obtain ⟨_, t, v⟩ := f a1 a2
  exact ⟨v, eat_all t a3⟩
theorem encode_ok {n : StateStateP} (hv : vSS n) (hT : (encSS n).length ≤ 100000000) : Sh.state_Encode n = some (encSS n) := by
  unfold Sh.state_Encode
  rw [w_ss (c := []) hv (by simpa using hT), Option.bind_some]
  unfold Sh.codec_Enc_Bytes
  dsimp only
  rw [List.nil_append, clone_bytes (by omega), Option.bind_some, clip_bytes]; rfl
theorem eq_fi (l : List FilesFile) (hl : l.length ≤ 300000000) : Sh.slices_Equal_files_Row_files_File l l = some true := by
  apply Ok.eq
  unfold Sh.slices_Equal_files_Row_files_File
  rw [if_pos rfl]
  refine gl_chk l (fun _ => True) _ ?_ ?_
  · intro i z i0 hi hz _
    rw [if_pos hi, gl_atv i0 hz, Option.bind_some, Option.bind_some]
    rw [if_pos (by simp)]
    exact ok_gd.2 ⟨⟨by omega, by omega⟩, ok_go.2 (.inl ⟨rfl, trivial⟩)⟩
  · intro _
    rw [if_neg (by omega)]
    exact up_up (ok_some.2 rfl)
theorem same_fi (l : List FilesFile) (hl : l.length ≤ 300000000) : Sh.files_Row_Same l l = some true := by
  unfold Sh.files_Row_Same
  rw [eq_fi l hl]; rfl
theorem same_en1 (x : IndexEntry) : Sh.index_Same_1 x x = some true := by
  unfold Sh.index_Same_1
  simp
theorem eq_en (l : List IndexEntry) (hl : l.length ≤ 300000000) : Sh.slices_EqualFunc_index_Entry_index_Entry_index_Entry_index_Entry l l = some true := by
  apply Ok.eq
  unfold Sh.slices_EqualFunc_index_Entry_index_Entry_index_Entry_index_Entry
  rw [if_pos rfl]
  refine gl_chk l (fun _ => True) _ ?_ ?_
  · intro i z i0 hi hz _
    rw [if_pos hi, gl_atv i0 hz, Option.bind_some, Option.bind_some, same_en1, Option.bind_some, if_neg (by simp)]
    exact ok_gd.2 ⟨⟨by omega, by omega⟩, ok_go.2 (.inl ⟨rfl, trivial⟩)⟩
  · intro _
    rw [if_neg (by omega)]
    exact up_up (ok_some.2 rfl)
theorem same_en (l : List IndexEntry) (hl : l.length ≤ 300000000) : Sh.index_Same l l = some true := by
  unfold Sh.index_Same
  rw [eq_en l hl]; rfl
theorem eq_re (l : List NamesRef) (hl : l.length ≤ 300000000) : Sh.slices_Equal_names_Ref_names_Ref l l = some true := by
  apply Ok.eq
  unfold Sh.slices_Equal_names_Ref_names_Ref
  rw [if_pos rfl]
  refine gl_chk l (fun _ => True) _ ?_ ?_
  · intro i z i0 hi hz _
    rw [if_pos hi, gl_atv i0 hz, Option.bind_some, Option.bind_some]
    rw [if_pos (by simp)]
    exact ok_gd.2 ⟨⟨by omega, by omega⟩, ok_go.2 (.inl ⟨rfl, trivial⟩)⟩
  · intro _
    rw [if_neg (by omega)]
    exact up_up (ok_some.2 rfl)
theorem eq_st (l : List TodoStep) (hl : l.length ≤ 300000000) : Sh.slices_Equal_todo_Step_todo_Step l l = some true := by
  apply Ok.eq
  unfold Sh.slices_Equal_todo_Step_todo_Step
  rw [if_pos rfl]
  refine gl_chk l (fun _ => True) _ ?_ ?_
  · intro i z i0 hi hz _
    rw [if_pos hi, gl_atv i0 hz, Option.bind_some, Option.bind_some]
    rw [if_pos (by simp)]
    exact ok_gd.2 ⟨⟨by omega, by omega⟩, ok_go.2 (.inl ⟨rfl, trivial⟩)⟩
  · intro _
    rw [if_neg (by omega)]
    exact up_up (ok_some.2 rfl)
theorem eq_in (l : List Int) (hl : l.length ≤ 300000000) : Sh.slices_Equal_int_int l l = some true := by
  apply Ok.eq
  unfold Sh.slices_Equal_int_int
  rw [if_pos rfl]
  refine gl_chk l (fun _ => True) _ ?_ ?_
  · intro i z i0 hi hz _
    rw [if_pos hi, gl_atv i0 hz, Option.bind_some, Option.bind_some]
    rw [if_pos (by simp)]
    exact ok_gd.2 ⟨⟨by omega, by omega⟩, ok_go.2 (.inl ⟨rfl, trivial⟩)⟩
  · intro _
    rw [if_neg (by omega)]
    exact up_up (ok_some.2 rfl)
theorem same_sq {x : StateSeqP} (h : vSq x) : Sh.state_sameSeq x x = some true := by
  obtain ⟨v1, v2, v3, v4, v5, v6, v7, v8, v9, v10⟩ := h
  have h4 := v4.1
  have h5 := v5.1
  have h9 := v9.1
  have h10 := v10.1
  unfold Sh.state_sameSeq
  simp only [if_true, eq_st x.doing (by omega), eq_st x.todo (by omega), same_en x.index (by omega), same_fi x.work (by omega), Option.bind_some, and_self]
theorem same_sh1 {x : ShelfShelfP} (h : vSh x) : Sh.shelf_Stack_Same_1 x x = some true := by
  obtain ⟨v1, v2, v3, v4⟩ := h
  have h2 := v2.1
  have h3 := v3.1
  unfold Sh.shelf_Stack_Same_1
  simp only [if_true, same_fi x.index (by omega), same_fi x.work (by omega), Option.bind_some, decide_true]
theorem eq_sh (l : List ShelfShelfP) (hl : l.length ≤ 300000000) (hp : ∀ x ∈ l, vSh x) : Sh.slices_EqualFunc_shelf_Stack_shelf_Stack_shelf_Shelf_shelf_Shelf l l = some true := by
  apply Ok.eq
  unfold Sh.slices_EqualFunc_shelf_Stack_shelf_Stack_shelf_Shelf_shelf_Shelf
  rw [if_pos rfl]
  refine gl_chk l (fun _ => True) _ ?_ ?_
  · intro i z i0 hi hz _
    rw [if_pos hi, gl_atv i0 hz, Option.bind_some, Option.bind_some, same_sh1 (hp z (List.mem_of_getElem? hz)), Option.bind_some, if_neg (by simp)]
    exact ok_gd.2 ⟨⟨by omega, by omega⟩, ok_go.2 (.inl ⟨rfl, trivial⟩)⟩
  · intro _
    rw [if_neg (by omega)]
    exact up_up (ok_some.2 rfl)
theorem same_no {x : StateNowP} (h : vNo x) : Sh.state_sameNow x x = some true := by
  obtain ⟨v1, v2, v3, v4, v5, v6⟩ := h
  have h1 := v1.1
  have h2 := v2.1
  have h3 := v3.1
  have h6 := v6.1
  have e5 := same_sq v5
  unfold seqOf at e5
  have e6 : Sh.shelf_Stack_Same x.stash x.stash = some true := by
    unfold Sh.shelf_Stack_Same
    rw [eq_sh x.stash (by omega) v6.2]; rfl
  unfold Sh.state_sameNow
  simp only [if_true, same_fi x.work (by omega), same_en x.index (by omega), eq_re x.refs (by omega), e5, e6, Option.bind_some, and_self]
theorem same_mark (a : List UInt8) (h : a.length ≤ 100000000) : Sh.state_sameMark a a = some true := by
  apply Ok.eq
  unfold Sh.state_sameMark
  obtain ⟨⟨n, e⟩, c, f⟩ := unmark_ok a h
  dsimp only at f
  rw [c, Option.bind_some, Option.bind_some]
  dsimp only
  by_cases q : e.isNil = true
  · refine ok_jnP (fun x => x = false) ?_ ?_
    · rintro x rfl
      rw [if_neg (by simp), same_no (f q).1]
      exact ok_some.2 rfl
    · intro K hK
      rw [if_pos q]
      exact hK _ (by simp [q])
  · refine ok_jnP (fun x => x = true) ?_ ?_
    · rintro x rfl
      rw [if_pos rfl]
      exact ok_some.2 (by simp)
    · intro K hK
      rw [if_neg q]
      exact hK _ rfl
theorem same_co {x : StateCommitP} (h : vCo x) : Sh.state_sameCommit x x = some true := by
  obtain ⟨v1, v2, v3, v4⟩ := h
  have h1 := v1.1
  have h2 := v2.1
  unfold Sh.state_sameCommit
  simp only [if_true, same_fi x.tree (by omega), eq_in x.parents (by omega), Option.bind_some, decide_true]
theorem eq_co (l : List StateCommitP) (hl : l.length ≤ 300000000) (hp : ∀ x ∈ l, vCo x) : Sh.slices_EqualFunc_state_Commit_state_Commit_state_Commit_state_Commit l l = some true := by
  apply Ok.eq
  unfold Sh.slices_EqualFunc_state_Commit_state_Commit_state_Commit_state_Commit
  rw [if_pos rfl]
  refine gl_chk l (fun _ => True) _ ?_ ?_
  · intro i z i0 hi hz _
    rw [if_pos hi, gl_atv i0 hz, Option.bind_some, Option.bind_some, same_co (hp z (List.mem_of_getElem? hz)), Option.bind_some, if_neg (by simp)]
    exact ok_gd.2 ⟨⟨by omega, by omega⟩, ok_go.2 (.inl ⟨rfl, trivial⟩)⟩
  · intro _
    rw [if_neg (by omega)]
    exact up_up (ok_some.2 rfl)
theorem eq_mk (l : List (List UInt8)) (hl : l.length ≤ 300000000) (hp : ∀ x ∈ l, x.length ≤ 100000000) : Sh.slices_EqualFunc_string_string_string_string l l = some true := by
  apply Ok.eq
  unfold Sh.slices_EqualFunc_string_string_string_string
  rw [if_pos rfl]
  refine gl_chk l (fun _ => True) _ ?_ ?_
  · intro i z i0 hi hz _
    rw [if_pos hi, gl_atv i0 hz, Option.bind_some, Option.bind_some, same_mark z (hp z (List.mem_of_getElem? hz)), Option.bind_some, if_neg (by simp)]
    exact ok_gd.2 ⟨⟨by omega, by omega⟩, ok_go.2 (.inl ⟨rfl, trivial⟩)⟩
  · intro _
    rw [if_neg (by omega)]
    exact up_up (ok_some.2 rfl)
theorem same_ss {x : StateStateP} (h : vSS x) (hb : ∀ y ∈ x.log_back, y.length ≤ 100000000) (hf : ∀ y ∈ x.log_forth, y.length ≤ 100000000) : Sh.state_Same x x = some true := by
  obtain ⟨v1, v2, v3, v4, v5⟩ := h
  have e1 := same_no v1
  unfold nowOf at e1
  have h2 := v2.1
  have h3 := v3.1
  have h4 := v4.1
  unfold Sh.state_Same
  simp only [if_true, e1, eq_co x.commits (by omega) v2.2, eq_mk x.log_back (by omega) hb, eq_mk x.log_forth (by omega) hf, Option.bind_some]
theorem flat_mem {α : Type} {enc : α → List UInt8} {x : α} : ∀ {l : List α}, x ∈ l → (enc x).length ≤ (l.flatMap enc).length
  | z :: r, h => by
    rw [List.flatMap_cons, List.length_append]
    rcases List.mem_cons.1 h with e | e
    · subst e; omega
    · have := flat_mem (enc := enc) e; omega
theorem state_round (b : List UInt8) (hb : b.length ≤ 100000000) {s : StateStateP} {e : Err} (h : Sh.state_Decode b = some (s, e)) (he : e.isNil = true) : Sh.state_Encode s = some b ∧ Sh.state_Same s s = some true := by
  obtain ⟨q, c, f⟩ := decode_ok b hb
  rw [h] at c
  cases c
  obtain ⟨v, t⟩ := f he
  have hl : (encSS s).length ≤ 100000000 := by rw [t]; exact hb
  refine ⟨by rw [encode_ok v hl, t], same_ss v (fun y hy => ?_) (fun y hy => ?_)⟩
  · have h1 := flat_mem (enc := encT) hy
    have h2 : y.length ≤ (encT y).length := by simp [encT]
    unfold encSS encL at hl
    simp only [List.length_append] at hl
    omega
  · have h1 := flat_mem (enc := encT) hy
    have h2 : y.length ≤ (encT y).length := by simp [encT]
    unfold encSS encL at hl
    simp only [List.length_append] at hl
    omega
theorem mark_round (b : List UInt8) (hb : b.length ≤ 100000000) {n : StateNowP} {e : Err} (h : Sh.state_Unmark b = some (n, e)) (he : e.isNil = true) : Sh.state_Mark n = some b := by
  obtain ⟨q, c, f⟩ := unmark_ok b hb
  rw [h] at c
  cases c
  obtain ⟨v, t⟩ := f he
  rw [mark_ok v (by rw [t]; exact hb), t]
end Go.S
end

section
namespace Go.S
open Go
set_option maxRecDepth 100000 in
theorem known25 : Sh.l25_known = some true := by decide +kernel
theorem markTexts_ok (s : List UInt8) : Sh.l25_MarkTexts s = some true := by
  apply Ok.eq
  unfold Sh.l25_MarkTexts
  rw [known25, Option.bind_some, if_neg (by simp)]
  refine ok_if.2 ⟨fun _ => ok_some.2 rfl, fun hs => ?_⟩
  obtain ⟨⟨n, e⟩, hu, hq⟩ := unmark_ok s (by omega)
  rw [hu, Option.bind_some]
  refine ok_if.2 ⟨fun he => ?_, fun _ => ok_some.2 rfl⟩
  rw [mark_round s (by omega) hu he, Option.bind_some]
  exact ok_some.2 (decide_eq_true rfl)
theorem stateBytes_ok (b : List UInt8) : Sh.l25_StateBytes b = some true := by
  apply Ok.eq
  unfold Sh.l25_StateBytes
  rw [known25, Option.bind_some, if_neg (by simp)]
  refine ok_if.2 ⟨fun _ => ok_some.2 rfl, fun hs => ?_⟩
  obtain ⟨⟨n, e⟩, hu, hq⟩ := decode_ok b (by omega)
  rw [hu, Option.bind_some]
  refine ok_if.2 ⟨fun he => ?_, fun _ => ok_some.2 rfl⟩
  obtain ⟨h1, h2⟩ := state_round b (by omega) hu he
  rw [h1, Option.bind_some, hu, Option.bind_some, if_pos he, h2, Option.bind_some]
  exact ok_some.2 rfl
end Go.S
end
